/- the statements of layer 2: what their functions answer. -/
import Derived.Test.YtaakchnddcphkaaR01
namespace Go.Proofs.Ytaakchnddcphkaa.Sl
open Go.RowKit
set_option linter.unusedVariables false
set_option linter.unusedSimpArgs false

attribute [local go_sem] bsOf_toList bsOf_size

set_option maxRecDepth 100000 in
theorem speaks02 : Spec0 Try.prog 31 #[] (fun v N => v = .bool true ∧ N = []) := by
  intro w
  have HS := Lib.hid (St.nil_ w)
  have E1 := Lib.hid (show otext (oint ([], 0) (-2) 2) = .tuple #[.string (bsOf [255, 254]), .int .i64 0] by kernel_rfl)
  have E2 : fits 127 1 = true := by decide
  have E3 : fits 128 1 = false := by decide
  go_enter Try.func31, Try.ntmps31
  go_wp2_with fail
  refine ((OutR.new HS.out).call 0 rfl (OutInt_spec _ _ (-2) 2 (by omega) (by omega) (by simp))).mono ?_
  rintro e w1 ⟨v, A', N, rfl, ⟨rfl, rfl, rfl⟩, H1⟩
  have HS1 := Lib.hid H1
  clear H1
  go_wp2_with fail
  refine (HS1.out.call 0 rfl (Text_spec _ _)).mono ?_
  rintro e w2 ⟨v, A', N, rfl, ⟨hv, rfl, rfl⟩, H2⟩
  have hv2 := hv.trans E1.out
  clear hv
  subst hv2
  have HS2 := Lib.hid H2
  clear H2
  go_wp2_with fail
  refine (Fits_any 127 1 w2 (by omega) (by omega)).mono ?_
  rintro e w' ⟨rfl, rfl⟩
  rw [E2]
  go_wp2_with fail
  refine (Fits_any 128 1 w2 (by omega) (by omega)).mono ?_
  rintro e w' ⟨rfl, rfl⟩
  rw [E3]
  go_wp2_with fail
  go_ret
  exact ⟨_, _, rfl, ⟨rfl, rfl⟩, HS2.out.drop_⟩

set_option maxRecDepth 100000 in
theorem OutputFits_walk (n size : Int) (h0 : -9223372036854775808 ≤ n) (h1 : n ≤ 9223372036854775807) (_ : -9223372036854775808 ≤ size) (_ : size ≤ 9223372036854775807) (w : World) :
    Calls Try.prog 12 #[.int .i64 n, .int .i64 size] w fun e w' => e = .returned (.bool true) ∧ Below w.heap.size w w' := by
  have HS := Lib.hid (St.nil_ w)
  by_cases hf : fits n size = true
  · have hs : 1 ≤ size ∧ size ≤ 8 := by simp [fits] at hf; omega
    obtain ⟨k, rfl⟩ : ∃ k : Nat, size = k := ⟨size.toNat, by omega⟩
    have E1 := Lib.hid (show otext (oint ([], 0) n k) = .tuple #[.string (bsOf (be n k)), .int .i64 0] by simp [oint, hf, oput, otext]; rfl)
    have hlen := be_length n k
    have E2 := Lib.hid (show iint ⟨be n k, 0, 0⟩ k = (n, ⟨[], k, 0⟩) by
      have h := iint_all (be n k) 0 (by omega) (by omega) []
      rw [List.append_nil, hlen, beInt_be n k (by omega) (by omega) hf] at h
      simpa using h)
    have HF := Lib.hid hf
    clear hf
    go_enter Try.func12, Try.ntmps12
    go_wp2_with fail
    refine (HS.out.call0 speaks02).mono ?_
    rintro e w1 ⟨v, N, rfl, ⟨rfl, rfl⟩, H1⟩
    have HS1 := Lib.hid H1
    clear H1
    go_wp2_with fail
    refine (HS1.out.call0 (RFits_any n k h0 h1)).mono ?_
    rintro e w2 ⟨v, N, rfl, ⟨rfl, rfl⟩, H2⟩
    have HS2 := Lib.hid H2
    clear H2
    rw [HF.out]
    go_wp2_with fail
    refine (Fits_any n k w2 h0 h1).mono ?_
    rintro e w' ⟨rfl, rfl⟩
    rw [HF.out]
    go_wp2_with fail
    refine ((OutR.new HS2.out).call 0 rfl (OutInt_spec _ _ n k h0 h1 (by simp))).mono ?_
    rintro e w3 ⟨v, A', N, rfl, ⟨rfl, rfl, rfl⟩, H3⟩
    have HS3 := Lib.hid H3
    clear H3
    go_wp2_with fail
    refine (HS3.out.call 0 rfl (Text_spec _ _)).mono ?_
    rintro e w4 ⟨v, A', N, rfl, ⟨hv, rfl, rfl⟩, H4⟩
    have hv2 := hv.trans E1.out
    clear hv
    subst hv2
    have HS4 := Lib.hid H4
    clear H4
    go_wp2_with fail
    refine (HS4.out.call0 (New_spec (bsOf (be n k)) (by rw [bsOf_size]; omega))).mono ?_
    rintro e w5 ⟨v, N, rfl, ⟨g, rfl, rfl⟩, H5⟩
    rw [bsOf_list] at H5
    have HS5 := Lib.hid H5
    clear H5
    go_wp2_with fail
    refine (HS5.out.call 0 rfl (IInt_spec g _ k)).mono ?_
    rintro e w6 ⟨v, A', N, rfl, ⟨rfl, rfl, rfl⟩, H6⟩
    rw [E2.out] at H6 ⊢
    have HS6 := Lib.hid H6
    clear H6
    go_wp2_with fail
    refine (HS6.out.call 0 rfl (Close_spec g _)).mono ?_
    rintro e w7 ⟨v, A', N, rfl, ⟨rfl, rfl, rfl⟩, H7⟩
    rw [iclose_nil] at H7 ⊢
    have HS7 := Lib.hid H7
    clear H7
    go_wp2_with fail
    go_ret
    exact ⟨rfl, HS7.out.below⟩
  · have HF := Lib.hid (show fits n size = false by simpa using hf)
    clear hf
    go_enter Try.func12, Try.ntmps12
    go_wp2_with fail
    refine (HS.out.call0 speaks02).mono ?_
    rintro e w1 ⟨v, N, rfl, ⟨rfl, rfl⟩, H1⟩
    have HS1 := Lib.hid H1
    clear H1
    go_wp2_with fail
    refine (HS1.out.call0 (RFits_any n size h0 h1)).mono ?_
    rintro e w2 ⟨v, N, rfl, ⟨rfl, rfl⟩, H2⟩
    have HS2 := Lib.hid H2
    clear H2
    rw [HF.out]
    go_wp2_with fail
    refine (Fits_any n size w2 h0 h1).mono ?_
    rintro e w' ⟨rfl, rfl⟩
    rw [HF.out]
    go_wp2_with fail
    go_ret
    exact ⟨rfl, HS2.out.below⟩
end Go.Proofs.Ytaakchnddcphkaa.Sl
