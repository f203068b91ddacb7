/- the statements of layer 3: there and back. -/
import Derived.Test.YtaakchnddcphkaaL03
import Derived.Test.YtaakchnddcphkaaL03a
import Derived.Test.YtaakchnddcphkaaR03
import Derived.Test.YtaakchnddcphkaaVb
namespace Go.Proofs.Ytaakchnddcphkaa.Sl
open Go.RowKit
set_option linter.unusedVariables false
set_option linter.unusedSimpArgs false
attribute [local go_sem] bsOf_toList bsOf_size
theorem RPut_specI (n : Int) (h0 : 0 ≤ n) (hn : n < 18446744073709551616) :
    Spec0 Try.prog 60 #[.int .u64 n] (fun v N => v = .string (bsOf (vput n.toNat)) ∧ N = []) := by
  have h := RPut_spec n.toNat (by omega)
  rwa [show ((n.toNat : Nat) : Int) = n by omega] at h
set_option maxRecDepth 100000 in
set_option maxHeartbeats 1000000 in
theorem VarintBack_walk (n : Int) (h0 : -9223372036854775808 ≤ n) (h1 : n ≤ 9223372036854775807) (w : World) :
    Calls Try.prog 14 #[.int .i64 n] w fun e w' => e = .returned (.bool true) ∧ Below w.heap.size w w' := by
  have HS := Lib.hid (St.nil_ w)
  have HF := Lib.hid (vfold_lt n h0 h1)
  have LL := Lib.hid (vput_ten _ (vfold_lt n h0 h1))
  have EL := Lib.hid (show oput ([], 0) (vput (vfold n)) = (vput (vfold n), 0) by simp [oput])
  have RL := Lib.hid (show vbackI (vread 64 ⟨vput (vfold n), 0, 0⟩) = (n, ⟨[], (vput (vfold n)).length, 0⟩) by have h := vread_put64 (vfold n) 0 [] HF.out; rw [List.append_nil, Nat.zero_add] at h; rw [h]; simp [vbackI, vback_fold])
  by_cases hn : n < 0
  · by_cases hi : -2147483648 ≤ n
    · have EU := Lib.hid (show vputUint ([], 0) n = ([], 11) by unfold vputUint; rw [if_neg (by omega)]; rfl)
      have TU := Lib.hid (show otext ([], 11) = .tuple #[.string ⟨#[]⟩, .int .i64 11] from rfl)
      have EI := Lib.hid (show vputInt ([], 0) n = (vput (vfold n), 0) by unfold vputInt; rw [if_pos (by omega)]; simp [oput])
      have TI := Lib.hid (show otext (vput (vfold n), 0) = .tuple #[.string (bsOf (vput (vfold n))), .int .i64 0] from rfl)
      have RI := Lib.hid (show vbackI (vread 32 ⟨vput (vfold n), 0, 0⟩) = (n, ⟨[], (vput (vfold n)).length, 0⟩) by have h := vread_put32 (vfold n) 0 [] (vfold_lt32 n (by omega)); rw [List.append_nil, Nat.zero_add] at h; rw [h]; simp [vbackI, vback_fold])
      go_enter Try.func14, Try.ntmps14
      go_wp2_with fail
      refine (St.call0 (HS).out speaks03).mono ?_
      rintro e w1 ⟨v, N, rfl, ⟨rfl, rfl⟩, H1⟩
      try simp only [List.cons_append, List.nil_append, List.set_cons_zero, List.set_cons_succ, bsOf_list] at H1
      have HS1 := Lib.hid H1
      clear H1
      go_wp2_with fail
      have H1 := OutR.new (OutR.new (OutR.new ((HS1).out)))
      try simp only [World.size_alloc] at H1
      have HS2 := Lib.hid H1
      clear H1
      refine (St.call 2 (HS2).out rfl (VPutUint_spec _ ([], 0) n h0 h1 (by simp))).mono ?_
      rintro e w1 ⟨v, A', N, rfl, ⟨rfl, rfl, rfl⟩, H1⟩
      try simp only [List.cons_append, List.nil_append, List.set_cons_zero, List.set_cons_succ, bsOf_list] at H1
      try rw [EU.out] at H1
      try rw [EU.out]
      have HS3 := Lib.hid H1
      clear H1
      go_wp2_with fail
      refine (St.call 1 (HS3).out rfl (VPutInt_spec _ ([], 0) n h0 h1 (by simp))).mono ?_
      rintro e w1 ⟨v, A', N, rfl, ⟨rfl, rfl, rfl⟩, H1⟩
      try simp only [List.cons_append, List.nil_append, List.set_cons_zero, List.set_cons_succ, bsOf_list] at H1
      try rw [EI.out] at H1
      try rw [EI.out]
      have HS4 := Lib.hid H1
      clear H1
      go_wp2_with fail
      refine (St.call 0 (HS4).out rfl (VPutLong_spec _ ([], 0) n h0 h1 (by simp))).mono ?_
      rintro e w1 ⟨v, A', N, rfl, ⟨rfl, rfl, rfl⟩, H1⟩
      try simp only [List.cons_append, List.nil_append, List.set_cons_zero, List.set_cons_succ, bsOf_list] at H1
      try rw [EL.out] at H1
      try rw [EL.out]
      have HS5 := Lib.hid H1
      clear H1
      go_wp2_with fail
      refine (St.call 2 (HS5).out rfl (Text_spec _ _)).mono ?_
      rintro e w1 ⟨v, A', N, rfl, ⟨hv, rfl, rfl⟩, H1⟩
      try simp only [List.cons_append, List.nil_append, List.set_cons_zero, List.set_cons_succ, bsOf_list] at H1
      have hv2 := Eq.trans hv TU.out
      clear hv
      subst hv2
      have HS6 := Lib.hid H1
      clear H1
      go_wp2_with fail
      refine (St.call 1 (HS6).out rfl (Text_spec _ _)).mono ?_
      rintro e w1 ⟨v, A', N, rfl, ⟨hv, rfl, rfl⟩, H1⟩
      try simp only [List.cons_append, List.nil_append, List.set_cons_zero, List.set_cons_succ, bsOf_list] at H1
      have hv2 := Eq.trans hv TI.out
      clear hv
      subst hv2
      have HS7 := Lib.hid H1
      clear H1
      go_wp2_with fail
      refine (St.call 0 (HS7).out rfl (Text_spec _ _)).mono ?_
      rintro e w1 ⟨v, A', N, rfl, ⟨hv, rfl, rfl⟩, H1⟩
      try simp only [List.cons_append, List.nil_append, List.set_cons_zero, List.set_cons_succ, bsOf_list] at H1
      have hv2 := Eq.trans hv (otext_ok _)
      clear hv
      subst hv2
      have HS8 := Lib.hid H1
      clear H1
      go_wp2_with fail
      refine ((RFold_any n h0 h1 _)).mono ?_
      rintro e w1 ⟨rfl, rfl⟩
      go_wp2_with fail
      refine (St.call0 (HS8).out (RPut_spec (vfold n) HF.out)).mono ?_
      rintro e w1 ⟨v, N, rfl, ⟨rfl, rfl⟩, H1⟩
      try simp only [List.cons_append, List.nil_append, List.set_cons_zero, List.set_cons_succ, bsOf_list] at H1
      have HS9 := Lib.hid H1
      clear H1
      go_wp2_with fail
      refine (St.call0 (HS9).out (New_spec (bsOf (vput (vfold n))) (by rw [bsOf_size]; have := LL.out; omega))).mono ?_
      rintro e w1 ⟨v, N, rfl, ⟨gi, rfl, rfl⟩, H1⟩
      try simp only [List.cons_append, List.nil_append, List.set_cons_zero, List.set_cons_succ, bsOf_list] at H1
      have HSd := Lib.hid H1
      clear H1
      go_wp2_with fail
      refine (St.call 0 (HSd).out rfl (VInt_spec gi _)).mono ?_
      rintro e w1 ⟨v, A', N, rfl, ⟨rfl, rfl, rfl⟩, H1⟩
      try simp only [List.cons_append, List.nil_append, List.set_cons_zero, List.set_cons_succ, bsOf_list] at H1
      try rw [RI.out] at H1
      try rw [RI.out]
      have HSe := Lib.hid H1
      clear H1
      go_wp2_with fail
      refine (St.call0 (HSe).out (New_spec (bsOf (vput (vfold n))) (by rw [bsOf_size]; have := LL.out; omega))).mono ?_
      rintro e w1 ⟨v, N, rfl, ⟨gl, rfl, rfl⟩, H1⟩
      try simp only [List.cons_append, List.nil_append, List.set_cons_zero, List.set_cons_succ, bsOf_list] at H1
      have HSf := Lib.hid H1
      clear H1
      go_wp2_with fail
      refine (St.call 0 (HSf).out rfl (VLong_spec gl _)).mono ?_
      rintro e w1 ⟨v, A', N, rfl, ⟨rfl, rfl, rfl⟩, H1⟩
      try simp only [List.cons_append, List.nil_append, List.set_cons_zero, List.set_cons_succ, bsOf_list] at H1
      try rw [RL.out] at H1
      try rw [RL.out]
      have HSg := Lib.hid H1
      clear H1
      go_wp2_with fail
      refine (St.call 0 (HSg).out rfl (Close_spec gl _)).mono ?_
      rintro e w1 ⟨v, A', N, rfl, ⟨rfl, rfl, rfl⟩, H1⟩
      try simp only [List.cons_append, List.nil_append, List.set_cons_zero, List.set_cons_succ, bsOf_list] at H1
      try rw [(iclose_nil _ _)] at H1
      try rw [(iclose_nil _ _)]
      have HSh := Lib.hid H1
      clear H1
      go_wp2_with fail
      refine ((VSize_any n h0 h1 _)).mono ?_
      rintro e w1 ⟨rfl, rfl⟩
      go_wp2_with fail
      go_ret
      exact ⟨rfl, HSh.out.below⟩
    · have hi' : n < -2147483648 := by omega
      have EU := Lib.hid (show vputUint ([], 0) n = ([], 11) by unfold vputUint; rw [if_neg (by omega)]; rfl)
      have TU := Lib.hid (show otext ([], 11) = .tuple #[.string ⟨#[]⟩, .int .i64 11] from rfl)
      have EI := Lib.hid (show vputInt ([], 0) n = ([], 11) by unfold vputInt; rw [if_neg (by omega)]; rfl)
      have TI := Lib.hid (show otext ([], 11) = .tuple #[.string ⟨#[]⟩, .int .i64 11] from rfl)
      go_enter Try.func14, Try.ntmps14
      go_wp2_with fail
      refine (St.call0 (HS).out speaks03).mono ?_
      rintro e w1 ⟨v, N, rfl, ⟨rfl, rfl⟩, H1⟩
      try simp only [List.cons_append, List.nil_append, List.set_cons_zero, List.set_cons_succ, bsOf_list] at H1
      have HS1 := Lib.hid H1
      clear H1
      go_wp2_with fail
      have H1 := OutR.new (OutR.new (OutR.new ((HS1).out)))
      try simp only [World.size_alloc] at H1
      have HS2 := Lib.hid H1
      clear H1
      refine (St.call 2 (HS2).out rfl (VPutUint_spec _ ([], 0) n h0 h1 (by simp))).mono ?_
      rintro e w1 ⟨v, A', N, rfl, ⟨rfl, rfl, rfl⟩, H1⟩
      try simp only [List.cons_append, List.nil_append, List.set_cons_zero, List.set_cons_succ, bsOf_list] at H1
      try rw [EU.out] at H1
      try rw [EU.out]
      have HS3 := Lib.hid H1
      clear H1
      go_wp2_with fail
      refine (St.call 1 (HS3).out rfl (VPutInt_spec _ ([], 0) n h0 h1 (by simp))).mono ?_
      rintro e w1 ⟨v, A', N, rfl, ⟨rfl, rfl, rfl⟩, H1⟩
      try simp only [List.cons_append, List.nil_append, List.set_cons_zero, List.set_cons_succ, bsOf_list] at H1
      try rw [EI.out] at H1
      try rw [EI.out]
      have HS4 := Lib.hid H1
      clear H1
      go_wp2_with fail
      refine (St.call 0 (HS4).out rfl (VPutLong_spec _ ([], 0) n h0 h1 (by simp))).mono ?_
      rintro e w1 ⟨v, A', N, rfl, ⟨rfl, rfl, rfl⟩, H1⟩
      try simp only [List.cons_append, List.nil_append, List.set_cons_zero, List.set_cons_succ, bsOf_list] at H1
      try rw [EL.out] at H1
      try rw [EL.out]
      have HS5 := Lib.hid H1
      clear H1
      go_wp2_with fail
      refine (St.call 2 (HS5).out rfl (Text_spec _ _)).mono ?_
      rintro e w1 ⟨v, A', N, rfl, ⟨hv, rfl, rfl⟩, H1⟩
      try simp only [List.cons_append, List.nil_append, List.set_cons_zero, List.set_cons_succ, bsOf_list] at H1
      have hv2 := Eq.trans hv TU.out
      clear hv
      subst hv2
      have HS6 := Lib.hid H1
      clear H1
      go_wp2_with fail
      refine (St.call 1 (HS6).out rfl (Text_spec _ _)).mono ?_
      rintro e w1 ⟨v, A', N, rfl, ⟨hv, rfl, rfl⟩, H1⟩
      try simp only [List.cons_append, List.nil_append, List.set_cons_zero, List.set_cons_succ, bsOf_list] at H1
      have hv2 := Eq.trans hv TI.out
      clear hv
      subst hv2
      have HS7 := Lib.hid H1
      clear H1
      go_wp2_with fail
      refine (St.call 0 (HS7).out rfl (Text_spec _ _)).mono ?_
      rintro e w1 ⟨v, A', N, rfl, ⟨hv, rfl, rfl⟩, H1⟩
      try simp only [List.cons_append, List.nil_append, List.set_cons_zero, List.set_cons_succ, bsOf_list] at H1
      have hv2 := Eq.trans hv (otext_ok _)
      clear hv
      subst hv2
      have HS8 := Lib.hid H1
      clear H1
      go_wp2_with fail
      refine ((RFold_any n h0 h1 _)).mono ?_
      rintro e w1 ⟨rfl, rfl⟩
      go_wp2_with fail
      refine (St.call0 (HS8).out (RPut_spec (vfold n) HF.out)).mono ?_
      rintro e w1 ⟨v, N, rfl, ⟨rfl, rfl⟩, H1⟩
      try simp only [List.cons_append, List.nil_append, List.set_cons_zero, List.set_cons_succ, bsOf_list] at H1
      have HS9 := Lib.hid H1
      clear H1
      go_wp2_with fail
      refine (St.call0 (HS9).out (New_spec (bsOf (vput (vfold n))) (by rw [bsOf_size]; have := LL.out; omega))).mono ?_
      rintro e w1 ⟨v, N, rfl, ⟨gl, rfl, rfl⟩, H1⟩
      try simp only [List.cons_append, List.nil_append, List.set_cons_zero, List.set_cons_succ, bsOf_list] at H1
      have HSf := Lib.hid H1
      clear H1
      go_wp2_with fail
      refine (St.call 0 (HSf).out rfl (VLong_spec gl _)).mono ?_
      rintro e w1 ⟨v, A', N, rfl, ⟨rfl, rfl, rfl⟩, H1⟩
      try simp only [List.cons_append, List.nil_append, List.set_cons_zero, List.set_cons_succ, bsOf_list] at H1
      try rw [RL.out] at H1
      try rw [RL.out]
      have HSg := Lib.hid H1
      clear H1
      go_wp2_with fail
      refine (St.call 0 (HSg).out rfl (Close_spec gl _)).mono ?_
      rintro e w1 ⟨v, A', N, rfl, ⟨rfl, rfl, rfl⟩, H1⟩
      try simp only [List.cons_append, List.nil_append, List.set_cons_zero, List.set_cons_succ, bsOf_list] at H1
      try rw [(iclose_nil _ _)] at H1
      try rw [(iclose_nil _ _)]
      have HSh := Lib.hid H1
      clear H1
      go_wp2_with fail
      refine ((VSize_any n h0 h1 _)).mono ?_
      rintro e w1 ⟨rfl, rfl⟩
      go_wp2_with fail
      go_ret
      exact ⟨rfl, HSh.out.below⟩
  · by_cases hi : n ≤ 2147483647
    · have hn' : 0 ≤ n := by omega
      have EU := Lib.hid (show vputUint ([], 0) n = (vput n.toNat, 0) by unfold vputUint; rw [if_pos (by omega)]; simp [oput])
      have TU := Lib.hid (show otext (vput n.toNat, 0) = .tuple #[.string (bsOf (vput n.toNat)), .int .i64 0] from rfl)
      have LU := Lib.hid (vput_ten n.toNat (by omega))
      have RU := Lib.hid (show vread 32 ⟨vput n.toNat, 0, 0⟩ = (n.toNat, ⟨[], (vput n.toNat).length, 0⟩) by have h := vread_put32 n.toNat 0 [] (by omega); rw [List.append_nil, Nat.zero_add] at h; exact h)
      have hun : ((n.toNat : Nat) : Int) = n := by omega
      have EI := Lib.hid (show vputInt ([], 0) n = (vput (vfold n), 0) by unfold vputInt; rw [if_pos (by omega)]; simp [oput])
      have TI := Lib.hid (show otext (vput (vfold n), 0) = .tuple #[.string (bsOf (vput (vfold n))), .int .i64 0] from rfl)
      have RI := Lib.hid (show vbackI (vread 32 ⟨vput (vfold n), 0, 0⟩) = (n, ⟨[], (vput (vfold n)).length, 0⟩) by have h := vread_put32 (vfold n) 0 [] (vfold_lt32 n (by omega)); rw [List.append_nil, Nat.zero_add] at h; rw [h]; simp [vbackI, vback_fold])
      go_enter Try.func14, Try.ntmps14
      go_wp2_with fail
      refine (St.call0 (HS).out speaks03).mono ?_
      rintro e w1 ⟨v, N, rfl, ⟨rfl, rfl⟩, H1⟩
      try simp only [List.cons_append, List.nil_append, List.set_cons_zero, List.set_cons_succ, bsOf_list] at H1
      have HS1 := Lib.hid H1
      clear H1
      go_wp2_with fail
      have H1 := OutR.new (OutR.new (OutR.new ((HS1).out)))
      try simp only [World.size_alloc] at H1
      have HS2 := Lib.hid H1
      clear H1
      refine (St.call 2 (HS2).out rfl (VPutUint_spec _ ([], 0) n h0 h1 (by simp))).mono ?_
      rintro e w1 ⟨v, A', N, rfl, ⟨rfl, rfl, rfl⟩, H1⟩
      try simp only [List.cons_append, List.nil_append, List.set_cons_zero, List.set_cons_succ, bsOf_list] at H1
      try rw [EU.out] at H1
      try rw [EU.out]
      have HS3 := Lib.hid H1
      clear H1
      go_wp2_with fail
      refine (St.call 1 (HS3).out rfl (VPutInt_spec _ ([], 0) n h0 h1 (by simp))).mono ?_
      rintro e w1 ⟨v, A', N, rfl, ⟨rfl, rfl, rfl⟩, H1⟩
      try simp only [List.cons_append, List.nil_append, List.set_cons_zero, List.set_cons_succ, bsOf_list] at H1
      try rw [EI.out] at H1
      try rw [EI.out]
      have HS4 := Lib.hid H1
      clear H1
      go_wp2_with fail
      refine (St.call 0 (HS4).out rfl (VPutLong_spec _ ([], 0) n h0 h1 (by simp))).mono ?_
      rintro e w1 ⟨v, A', N, rfl, ⟨rfl, rfl, rfl⟩, H1⟩
      try simp only [List.cons_append, List.nil_append, List.set_cons_zero, List.set_cons_succ, bsOf_list] at H1
      try rw [EL.out] at H1
      try rw [EL.out]
      have HS5 := Lib.hid H1
      clear H1
      go_wp2_with fail
      refine (St.call 2 (HS5).out rfl (Text_spec _ _)).mono ?_
      rintro e w1 ⟨v, A', N, rfl, ⟨hv, rfl, rfl⟩, H1⟩
      try simp only [List.cons_append, List.nil_append, List.set_cons_zero, List.set_cons_succ, bsOf_list] at H1
      have hv2 := Eq.trans hv TU.out
      clear hv
      subst hv2
      have HS6 := Lib.hid H1
      clear H1
      go_wp2_with fail
      refine (St.call 1 (HS6).out rfl (Text_spec _ _)).mono ?_
      rintro e w1 ⟨v, A', N, rfl, ⟨hv, rfl, rfl⟩, H1⟩
      try simp only [List.cons_append, List.nil_append, List.set_cons_zero, List.set_cons_succ, bsOf_list] at H1
      have hv2 := Eq.trans hv TI.out
      clear hv
      subst hv2
      have HS7 := Lib.hid H1
      clear H1
      go_wp2_with fail
      refine (St.call 0 (HS7).out rfl (Text_spec _ _)).mono ?_
      rintro e w1 ⟨v, A', N, rfl, ⟨hv, rfl, rfl⟩, H1⟩
      try simp only [List.cons_append, List.nil_append, List.set_cons_zero, List.set_cons_succ, bsOf_list] at H1
      have hv2 := Eq.trans hv (otext_ok _)
      clear hv
      subst hv2
      have HS8 := Lib.hid H1
      clear H1
      go_wp2_with fail
      refine ((RFold_any n h0 h1 _)).mono ?_
      rintro e w1 ⟨rfl, rfl⟩
      go_wp2_with fail
      refine (St.call0 (HS8).out (RPut_spec (vfold n) HF.out)).mono ?_
      rintro e w1 ⟨v, N, rfl, ⟨rfl, rfl⟩, H1⟩
      try simp only [List.cons_append, List.nil_append, List.set_cons_zero, List.set_cons_succ, bsOf_list] at H1
      have HS9 := Lib.hid H1
      clear H1
      go_wp2_with fail
      refine (St.call0 (HS9).out (RPut_specI n (by omega) (by omega))).mono ?_
      rintro e w1 ⟨v, N, rfl, ⟨rfl, rfl⟩, H1⟩
      try simp only [List.cons_append, List.nil_append, List.set_cons_zero, List.set_cons_succ, bsOf_list] at H1
      have HSa := Lib.hid H1
      clear H1
      go_wp2_with fail
      refine (St.call0 (HSa).out (New_spec (bsOf (vput n.toNat)) (by rw [bsOf_size]; have := LU.out; omega))).mono ?_
      rintro e w1 ⟨v, N, rfl, ⟨gu, rfl, rfl⟩, H1⟩
      try simp only [List.cons_append, List.nil_append, List.set_cons_zero, List.set_cons_succ, bsOf_list] at H1
      have HSb := Lib.hid H1
      clear H1
      go_wp2_with fail
      refine (St.call 0 (HSb).out rfl (VUint_spec gu _)).mono ?_
      rintro e w1 ⟨v, A', N, rfl, ⟨rfl, rfl, rfl⟩, H1⟩
      try simp only [List.cons_append, List.nil_append, List.set_cons_zero, List.set_cons_succ, bsOf_list] at H1
      try rw [RU.out] at H1
      try rw [RU.out]
      have HSc := Lib.hid H1
      clear H1
      go_wp2_with fail
      refine (St.call0 (HSc).out (New_spec (bsOf (vput (vfold n))) (by rw [bsOf_size]; have := LL.out; omega))).mono ?_
      rintro e w1 ⟨v, N, rfl, ⟨gi, rfl, rfl⟩, H1⟩
      try simp only [List.cons_append, List.nil_append, List.set_cons_zero, List.set_cons_succ, bsOf_list] at H1
      have HSd := Lib.hid H1
      clear H1
      go_wp2_with fail
      refine (St.call 0 (HSd).out rfl (VInt_spec gi _)).mono ?_
      rintro e w1 ⟨v, A', N, rfl, ⟨rfl, rfl, rfl⟩, H1⟩
      try simp only [List.cons_append, List.nil_append, List.set_cons_zero, List.set_cons_succ, bsOf_list] at H1
      try rw [RI.out] at H1
      try rw [RI.out]
      have HSe := Lib.hid H1
      clear H1
      go_wp2_with fail
      refine (St.call0 (HSe).out (New_spec (bsOf (vput (vfold n))) (by rw [bsOf_size]; have := LL.out; omega))).mono ?_
      rintro e w1 ⟨v, N, rfl, ⟨gl, rfl, rfl⟩, H1⟩
      try simp only [List.cons_append, List.nil_append, List.set_cons_zero, List.set_cons_succ, bsOf_list] at H1
      have HSf := Lib.hid H1
      clear H1
      go_wp2_with fail
      refine (St.call 0 (HSf).out rfl (VLong_spec gl _)).mono ?_
      rintro e w1 ⟨v, A', N, rfl, ⟨rfl, rfl, rfl⟩, H1⟩
      try simp only [List.cons_append, List.nil_append, List.set_cons_zero, List.set_cons_succ, bsOf_list] at H1
      try rw [RL.out] at H1
      try rw [RL.out]
      have HSg := Lib.hid H1
      clear H1
      go_wp2_with fail
      refine (St.call 0 (HSg).out rfl (Close_spec gl _)).mono ?_
      rintro e w1 ⟨v, A', N, rfl, ⟨rfl, rfl, rfl⟩, H1⟩
      try simp only [List.cons_append, List.nil_append, List.set_cons_zero, List.set_cons_succ, bsOf_list] at H1
      try rw [(iclose_nil _ _)] at H1
      try rw [(iclose_nil _ _)]
      have HSh := Lib.hid H1
      clear H1
      go_wp2_with fail
      refine ((VSize_any n h0 h1 _)).mono ?_
      rintro e w1 ⟨rfl, rfl⟩
      go_wp2_with fail
      go_ret
      exact ⟨rfl, HSh.out.below⟩
    · by_cases hu : n ≤ 4294967295
      · have hi' : 2147483647 < n := by omega
        have hn' : 0 ≤ n := by omega
        have EU := Lib.hid (show vputUint ([], 0) n = (vput n.toNat, 0) by unfold vputUint; rw [if_pos (by omega)]; simp [oput])
        have TU := Lib.hid (show otext (vput n.toNat, 0) = .tuple #[.string (bsOf (vput n.toNat)), .int .i64 0] from rfl)
        have LU := Lib.hid (vput_ten n.toNat (by omega))
        have RU := Lib.hid (show vread 32 ⟨vput n.toNat, 0, 0⟩ = (n.toNat, ⟨[], (vput n.toNat).length, 0⟩) by have h := vread_put32 n.toNat 0 [] (by omega); rw [List.append_nil, Nat.zero_add] at h; exact h)
        have hun : ((n.toNat : Nat) : Int) = n := by omega
        have EI := Lib.hid (show vputInt ([], 0) n = ([], 11) by unfold vputInt; rw [if_neg (by omega)]; rfl)
        have TI := Lib.hid (show otext ([], 11) = .tuple #[.string ⟨#[]⟩, .int .i64 11] from rfl)
        go_enter Try.func14, Try.ntmps14
        go_wp2_with fail
        refine (St.call0 (HS).out speaks03).mono ?_
        rintro e w1 ⟨v, N, rfl, ⟨rfl, rfl⟩, H1⟩
        try simp only [List.cons_append, List.nil_append, List.set_cons_zero, List.set_cons_succ, bsOf_list] at H1
        have HS1 := Lib.hid H1
        clear H1
        go_wp2_with fail
        have H1 := OutR.new (OutR.new (OutR.new ((HS1).out)))
        try simp only [World.size_alloc] at H1
        have HS2 := Lib.hid H1
        clear H1
        refine (St.call 2 (HS2).out rfl (VPutUint_spec _ ([], 0) n h0 h1 (by simp))).mono ?_
        rintro e w1 ⟨v, A', N, rfl, ⟨rfl, rfl, rfl⟩, H1⟩
        try simp only [List.cons_append, List.nil_append, List.set_cons_zero, List.set_cons_succ, bsOf_list] at H1
        try rw [EU.out] at H1
        try rw [EU.out]
        have HS3 := Lib.hid H1
        clear H1
        go_wp2_with fail
        refine (St.call 1 (HS3).out rfl (VPutInt_spec _ ([], 0) n h0 h1 (by simp))).mono ?_
        rintro e w1 ⟨v, A', N, rfl, ⟨rfl, rfl, rfl⟩, H1⟩
        try simp only [List.cons_append, List.nil_append, List.set_cons_zero, List.set_cons_succ, bsOf_list] at H1
        try rw [EI.out] at H1
        try rw [EI.out]
        have HS4 := Lib.hid H1
        clear H1
        go_wp2_with fail
        refine (St.call 0 (HS4).out rfl (VPutLong_spec _ ([], 0) n h0 h1 (by simp))).mono ?_
        rintro e w1 ⟨v, A', N, rfl, ⟨rfl, rfl, rfl⟩, H1⟩
        try simp only [List.cons_append, List.nil_append, List.set_cons_zero, List.set_cons_succ, bsOf_list] at H1
        try rw [EL.out] at H1
        try rw [EL.out]
        have HS5 := Lib.hid H1
        clear H1
        go_wp2_with fail
        refine (St.call 2 (HS5).out rfl (Text_spec _ _)).mono ?_
        rintro e w1 ⟨v, A', N, rfl, ⟨hv, rfl, rfl⟩, H1⟩
        try simp only [List.cons_append, List.nil_append, List.set_cons_zero, List.set_cons_succ, bsOf_list] at H1
        have hv2 := Eq.trans hv TU.out
        clear hv
        subst hv2
        have HS6 := Lib.hid H1
        clear H1
        go_wp2_with fail
        refine (St.call 1 (HS6).out rfl (Text_spec _ _)).mono ?_
        rintro e w1 ⟨v, A', N, rfl, ⟨hv, rfl, rfl⟩, H1⟩
        try simp only [List.cons_append, List.nil_append, List.set_cons_zero, List.set_cons_succ, bsOf_list] at H1
        have hv2 := Eq.trans hv TI.out
        clear hv
        subst hv2
        have HS7 := Lib.hid H1
        clear H1
        go_wp2_with fail
        refine (St.call 0 (HS7).out rfl (Text_spec _ _)).mono ?_
        rintro e w1 ⟨v, A', N, rfl, ⟨hv, rfl, rfl⟩, H1⟩
        try simp only [List.cons_append, List.nil_append, List.set_cons_zero, List.set_cons_succ, bsOf_list] at H1
        have hv2 := Eq.trans hv (otext_ok _)
        clear hv
        subst hv2
        have HS8 := Lib.hid H1
        clear H1
        go_wp2_with fail
        refine ((RFold_any n h0 h1 _)).mono ?_
        rintro e w1 ⟨rfl, rfl⟩
        go_wp2_with fail
        refine (St.call0 (HS8).out (RPut_spec (vfold n) HF.out)).mono ?_
        rintro e w1 ⟨v, N, rfl, ⟨rfl, rfl⟩, H1⟩
        try simp only [List.cons_append, List.nil_append, List.set_cons_zero, List.set_cons_succ, bsOf_list] at H1
        have HS9 := Lib.hid H1
        clear H1
        go_wp2_with fail
        refine (St.call0 (HS9).out (RPut_specI n (by omega) (by omega))).mono ?_
        rintro e w1 ⟨v, N, rfl, ⟨rfl, rfl⟩, H1⟩
        try simp only [List.cons_append, List.nil_append, List.set_cons_zero, List.set_cons_succ, bsOf_list] at H1
        have HSa := Lib.hid H1
        clear H1
        go_wp2_with fail
        refine (St.call0 (HSa).out (New_spec (bsOf (vput n.toNat)) (by rw [bsOf_size]; have := LU.out; omega))).mono ?_
        rintro e w1 ⟨v, N, rfl, ⟨gu, rfl, rfl⟩, H1⟩
        try simp only [List.cons_append, List.nil_append, List.set_cons_zero, List.set_cons_succ, bsOf_list] at H1
        have HSb := Lib.hid H1
        clear H1
        go_wp2_with fail
        refine (St.call 0 (HSb).out rfl (VUint_spec gu _)).mono ?_
        rintro e w1 ⟨v, A', N, rfl, ⟨rfl, rfl, rfl⟩, H1⟩
        try simp only [List.cons_append, List.nil_append, List.set_cons_zero, List.set_cons_succ, bsOf_list] at H1
        try rw [RU.out] at H1
        try rw [RU.out]
        have HSc := Lib.hid H1
        clear H1
        go_wp2_with fail
        refine (St.call0 (HSc).out (New_spec (bsOf (vput (vfold n))) (by rw [bsOf_size]; have := LL.out; omega))).mono ?_
        rintro e w1 ⟨v, N, rfl, ⟨gl, rfl, rfl⟩, H1⟩
        try simp only [List.cons_append, List.nil_append, List.set_cons_zero, List.set_cons_succ, bsOf_list] at H1
        have HSf := Lib.hid H1
        clear H1
        go_wp2_with fail
        refine (St.call 0 (HSf).out rfl (VLong_spec gl _)).mono ?_
        rintro e w1 ⟨v, A', N, rfl, ⟨rfl, rfl, rfl⟩, H1⟩
        try simp only [List.cons_append, List.nil_append, List.set_cons_zero, List.set_cons_succ, bsOf_list] at H1
        try rw [RL.out] at H1
        try rw [RL.out]
        have HSg := Lib.hid H1
        clear H1
        go_wp2_with fail
        refine (St.call 0 (HSg).out rfl (Close_spec gl _)).mono ?_
        rintro e w1 ⟨v, A', N, rfl, ⟨rfl, rfl, rfl⟩, H1⟩
        try simp only [List.cons_append, List.nil_append, List.set_cons_zero, List.set_cons_succ, bsOf_list] at H1
        try rw [(iclose_nil _ _)] at H1
        try rw [(iclose_nil _ _)]
        have HSh := Lib.hid H1
        clear H1
        go_wp2_with fail
        refine ((VSize_any n h0 h1 _)).mono ?_
        rintro e w1 ⟨rfl, rfl⟩
        go_wp2_with fail
        go_ret
        exact ⟨rfl, HSh.out.below⟩
      · have hu' : 4294967295 < n := by omega
        have hn' : 0 ≤ n := by omega
        have EU := Lib.hid (show vputUint ([], 0) n = ([], 11) by unfold vputUint; rw [if_neg (by omega)]; rfl)
        have TU := Lib.hid (show otext ([], 11) = .tuple #[.string ⟨#[]⟩, .int .i64 11] from rfl)
        have EI := Lib.hid (show vputInt ([], 0) n = ([], 11) by unfold vputInt; rw [if_neg (by omega)]; rfl)
        have TI := Lib.hid (show otext ([], 11) = .tuple #[.string ⟨#[]⟩, .int .i64 11] from rfl)
        go_enter Try.func14, Try.ntmps14
        go_wp2_with fail
        refine (St.call0 (HS).out speaks03).mono ?_
        rintro e w1 ⟨v, N, rfl, ⟨rfl, rfl⟩, H1⟩
        try simp only [List.cons_append, List.nil_append, List.set_cons_zero, List.set_cons_succ, bsOf_list] at H1
        have HS1 := Lib.hid H1
        clear H1
        go_wp2_with fail
        have H1 := OutR.new (OutR.new (OutR.new ((HS1).out)))
        try simp only [World.size_alloc] at H1
        have HS2 := Lib.hid H1
        clear H1
        refine (St.call 2 (HS2).out rfl (VPutUint_spec _ ([], 0) n h0 h1 (by simp))).mono ?_
        rintro e w1 ⟨v, A', N, rfl, ⟨rfl, rfl, rfl⟩, H1⟩
        try simp only [List.cons_append, List.nil_append, List.set_cons_zero, List.set_cons_succ, bsOf_list] at H1
        try rw [EU.out] at H1
        try rw [EU.out]
        have HS3 := Lib.hid H1
        clear H1
        go_wp2_with fail
        refine (St.call 1 (HS3).out rfl (VPutInt_spec _ ([], 0) n h0 h1 (by simp))).mono ?_
        rintro e w1 ⟨v, A', N, rfl, ⟨rfl, rfl, rfl⟩, H1⟩
        try simp only [List.cons_append, List.nil_append, List.set_cons_zero, List.set_cons_succ, bsOf_list] at H1
        try rw [EI.out] at H1
        try rw [EI.out]
        have HS4 := Lib.hid H1
        clear H1
        go_wp2_with fail
        refine (St.call 0 (HS4).out rfl (VPutLong_spec _ ([], 0) n h0 h1 (by simp))).mono ?_
        rintro e w1 ⟨v, A', N, rfl, ⟨rfl, rfl, rfl⟩, H1⟩
        try simp only [List.cons_append, List.nil_append, List.set_cons_zero, List.set_cons_succ, bsOf_list] at H1
        try rw [EL.out] at H1
        try rw [EL.out]
        have HS5 := Lib.hid H1
        clear H1
        go_wp2_with fail
        refine (St.call 2 (HS5).out rfl (Text_spec _ _)).mono ?_
        rintro e w1 ⟨v, A', N, rfl, ⟨hv, rfl, rfl⟩, H1⟩
        try simp only [List.cons_append, List.nil_append, List.set_cons_zero, List.set_cons_succ, bsOf_list] at H1
        have hv2 := Eq.trans hv TU.out
        clear hv
        subst hv2
        have HS6 := Lib.hid H1
        clear H1
        go_wp2_with fail
        refine (St.call 1 (HS6).out rfl (Text_spec _ _)).mono ?_
        rintro e w1 ⟨v, A', N, rfl, ⟨hv, rfl, rfl⟩, H1⟩
        try simp only [List.cons_append, List.nil_append, List.set_cons_zero, List.set_cons_succ, bsOf_list] at H1
        have hv2 := Eq.trans hv TI.out
        clear hv
        subst hv2
        have HS7 := Lib.hid H1
        clear H1
        go_wp2_with fail
        refine (St.call 0 (HS7).out rfl (Text_spec _ _)).mono ?_
        rintro e w1 ⟨v, A', N, rfl, ⟨hv, rfl, rfl⟩, H1⟩
        try simp only [List.cons_append, List.nil_append, List.set_cons_zero, List.set_cons_succ, bsOf_list] at H1
        have hv2 := Eq.trans hv (otext_ok _)
        clear hv
        subst hv2
        have HS8 := Lib.hid H1
        clear H1
        go_wp2_with fail
        refine ((RFold_any n h0 h1 _)).mono ?_
        rintro e w1 ⟨rfl, rfl⟩
        go_wp2_with fail
        refine (St.call0 (HS8).out (RPut_spec (vfold n) HF.out)).mono ?_
        rintro e w1 ⟨v, N, rfl, ⟨rfl, rfl⟩, H1⟩
        try simp only [List.cons_append, List.nil_append, List.set_cons_zero, List.set_cons_succ, bsOf_list] at H1
        have HS9 := Lib.hid H1
        clear H1
        go_wp2_with fail
        refine (St.call0 (HS9).out (New_spec (bsOf (vput (vfold n))) (by rw [bsOf_size]; have := LL.out; omega))).mono ?_
        rintro e w1 ⟨v, N, rfl, ⟨gl, rfl, rfl⟩, H1⟩
        try simp only [List.cons_append, List.nil_append, List.set_cons_zero, List.set_cons_succ, bsOf_list] at H1
        have HSf := Lib.hid H1
        clear H1
        go_wp2_with fail
        refine (St.call 0 (HSf).out rfl (VLong_spec gl _)).mono ?_
        rintro e w1 ⟨v, A', N, rfl, ⟨rfl, rfl, rfl⟩, H1⟩
        try simp only [List.cons_append, List.nil_append, List.set_cons_zero, List.set_cons_succ, bsOf_list] at H1
        try rw [RL.out] at H1
        try rw [RL.out]
        have HSg := Lib.hid H1
        clear H1
        go_wp2_with fail
        refine (St.call 0 (HSg).out rfl (Close_spec gl _)).mono ?_
        rintro e w1 ⟨v, A', N, rfl, ⟨rfl, rfl, rfl⟩, H1⟩
        try simp only [List.cons_append, List.nil_append, List.set_cons_zero, List.set_cons_succ, bsOf_list] at H1
        try rw [(iclose_nil _ _)] at H1
        try rw [(iclose_nil _ _)]
        have HSh := Lib.hid H1
        clear H1
        go_wp2_with fail
        refine ((VSize_any n h0 h1 _)).mono ?_
        rintro e w1 ⟨rfl, rfl⟩
        go_wp2_with fail
        go_ret
        exact ⟨rfl, HSh.out.below⟩
end Go.Proofs.Ytaakchnddcphkaa.Sl
