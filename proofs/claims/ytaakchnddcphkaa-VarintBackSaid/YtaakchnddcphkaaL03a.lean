/- the statements of layer 3: one spelling. -/
import Derived.Test.YtaakchnddcphkaaL03
namespace Go.Proofs.Ytaakchnddcphkaa.Sl
open Go.RowKit
set_option linter.unusedVariables false
set_option linter.unusedSimpArgs false

/-- What is read as a number is what is written for it. -/
theorem vgo_ok (bs : Int) : ∀ (l : List UInt8) (pos acc i u : Nat) (s : I), vgo bs l pos acc i = (u, s) → s.err = 0 →
    ∃ k v, s = ⟨l.drop k, pos + k, 0⟩ ∧ k ≤ l.length ∧ u = acc + v * 2 ^ (7 * i) ∧ vput v = l.take k ∧ (0 < i → 0 < v) := by
  intro l
  induction l with
  | nil => intro pos acc i u s h h0; simp only [vgo, Prod.mk.injEq] at h; rw [← h.2] at h0; simp at h0
  | cons c l ih =>
    intro pos acc i u s h h0
    unfold vgo at h
    split at h
    · simp only [Prod.mk.injEq] at h; rw [← h.2] at h0; simp at h0
    · split at h
      · rename_i h128
        obtain ⟨k, v, h1, h2, h3, h4, h5⟩ := ih _ _ _ _ _ h h0
        have hv := h5 (by omega)
        have hc := c.toNat_lt
        refine ⟨k + 1, c.toNat % 128 + 128 * v, ?_, by simpa using h2, ?_, ?_, by omega⟩
        · rw [h1]; simp; omega
        · have e : 2 ^ (7 * (i + 1)) = 128 * 2 ^ (7 * i) := by rw [show 7 * (i + 1) = 7 + 7 * i by omega, Nat.pow_add]
          rw [h3, e, Nat.add_mul]
          generalize 2 ^ (7 * i) = z
          have : v * (128 * z) = 128 * v * z := by rw [Nat.mul_comm 128 v, Nat.mul_assoc]
          omega
        · rw [vput, if_neg (by omega), show (c.toNat % 128 + 128 * v) / 128 = v by omega, h4, List.take_succ_cons]
          congr 1
          rw [show (c.toNat % 128 + 128 * v) % 128 + 128 = c.toNat by omega]
          exact UInt8.ofNat_toNat
      · rename_i h128
        split at h
        · simp only [Prod.mk.injEq] at h; rw [← h.2] at h0; simp at h0
        · rename_i hz
          have hc := c.toNat_lt
          simp only [Prod.mk.injEq] at h
          refine ⟨1, c.toNat, by rw [← h.2]; simp, by simp, by rw [← h.1, Nat.mod_eq_of_lt (by omega)], ?_, ?_⟩
          · rw [vput, if_pos (by omega)]; simp
          · intro hi
            rcases Nat.eq_zero_or_pos c.toNat with h6 | h6
            · exact absurd ⟨h6, hi⟩ hz
            · exact h6
theorem vread_ok (bs : Int) (st : I) (h : (vread bs st).2.err = 0) : ∃ k, k ≤ st.rest.length ∧ (vread bs st).2 = ⟨st.rest.drop k, st.pos + k, 0⟩ ∧ vput (vread bs st).1 = st.rest.take k := by
  unfold vread at h ⊢
  split at h
  · rename_i hn; exact absurd h hn
  · rename_i hn
    rw [if_neg hn]
    obtain ⟨k, v, h1, h2, h3, h4, h5⟩ := vgo_ok bs _ _ _ _ _ _ (rfl : _ = ((vgo bs st.rest st.pos 0 0).1, (vgo bs st.rest st.pos 0 0).2)) h
    refine ⟨k, h2, h1, ?_⟩
    rw [h3, ← h4]
    simp
theorem vgo_wide : ∀ (l : List UInt8) (pos acc i : Nat), (vgo 32 l pos acc i).2.err = 0 → vgo 64 l pos acc i = vgo 32 l pos acc i := by
  intro l
  induction l with
  | nil => intro pos acc i h; rfl
  | cons c l ih =>
    intro pos acc i h
    unfold vgo at h ⊢
    split at h
    · simp at h
    · rename_i hn
      have h1 : ¬ ((64 : Int) - 7 * i ≤ 0 ∨ ((64 : Int) - 7 * i < 7 ∧ c.toNat % 128 / 2 ^ ((64 : Int) - 7 * i).toNat ≠ 0)) := by
        intro h2
        apply hn
        rcases h2 with h2 | h2
        · left; omega
        · left; omega
      rw [if_neg h1, if_neg hn]
      split
      · rename_i h128
        rw [if_pos h128] at h
        exact ih _ _ _ h
      · rfl
theorem vread_wide (st : I) (h : (vread 32 st).2.err = 0) : vread 64 st = vread 32 st := by
  unfold vread at h ⊢
  split
  · rfl
  · rename_i hn
    rw [if_neg hn] at h
    exact vgo_wide _ _ _ _ h
theorem vfold_small (n : Nat) (h : n < 4294967296) : -2147483648 ≤ vback n ∧ vback n ≤ 2147483647 := by unfold vback; split <;> omega
theorem vback_range (n : Nat) (h : n < 18446744073709551616) : -9223372036854775808 ≤ vback n ∧ vback n ≤ 9223372036854775807 := by unfold vback; split <;> omega
theorem vputInt_back (n : Nat) (h : n < 4294967296) : vputInt ([], 0) (vback n) = (vput n, 0) := by
  unfold vputInt
  rw [if_pos (vfold_small n h), vfold_back]
  simp [oput]
theorem otext_ok (l : List UInt8) : otext (l, 0) = .tuple #[.string (bsOf l), .int .i64 0] := rfl
theorem bsOf_take (l : List UInt8) (k : Nat) : (bsOf l).extract 0 k = bsOf (l.take k) := by rw [str_extract, bsOf_list]; simp

attribute [local go_sem] bsOf_toList bsOf_size bsOf_take
set_option maxRecDepth 100000 in
set_option maxHeartbeats 1000000 in
theorem VarintOne_walk (s : ByteArray) (hs : s.size ≤ 140737488351232) (w : World) :
    Calls Try.prog 13 #[.string s] w fun e w' => e = .returned (.bool true) ∧ Below w.heap.size w w' := by
  obtain ⟨l, rfl⟩ := bsOf_of s
  have HS := Lib.hid (St.nil_ w)
  rw [bsOf_size] at hs
  have hsz := bsOf_size l
  by_cases h100 : 100 < (l.length : Int)
  · go_enter Try.func13, Try.ntmps13
    go_wp2_with fail
    refine (St.call0 (HS).out speaks03).mono ?_
    rintro e w1 ⟨v, N, rfl, ⟨rfl, rfl⟩, H1⟩
    try simp only [List.cons_append, List.nil_append, List.set_cons_zero, List.set_cons_succ, bsOf_list] at H1
    have HS1 := Lib.hid H1
    clear H1
    go_wp2_with fail
    go_ret
    exact ⟨rfl, HS1.out.below⟩
  · have hA := vread_ok 64 ⟨l, 0, 0⟩
    have hB := vread_ok 32 ⟨l, 0, 0⟩
    have hW := vread_wide ⟨l, 0, 0⟩
    have hlt := vread_lt64 64 (.inr rfl) ⟨l, 0, 0⟩
    have hlt2 := vread_lt 32 (.inl rfl) ⟨l, 0, 0⟩
    rw [show 2 ^ (32 : Int).toNat = 4294967296 by decide] at hlt2
    have hva := VLong_spec
    generalize hu : vread 64 ⟨l, 0, 0⟩ = ra at *
    generalize ht : vread 32 ⟨l, 0, 0⟩ = rb at *
    obtain ⟨u, sa⟩ := ra
    obtain ⟨t, sb⟩ := rb
    simp only at hA hB hW hlt hlt2
    have HU := Lib.hid (show vbackI (vread 64 ⟨l, 0, 0⟩) = (vback u, sa) by rw [hu]; rfl)
    have HT := Lib.hid (show vbackI (vread 32 ⟨l, 0, 0⟩) = (vback t, sb) by rw [ht]; rfl)
    have HP := Lib.hid (show oput ([], 0) (vput (vfold (vback u))) = (vput u, 0) by rw [vfold_back]; simp [oput])
    have HQ := Lib.hid (vputInt_back t hlt2)
    have HR := Lib.hid (vback_range u hlt)
    have HR2 := Lib.hid (vfold_small t hlt2)
    clear hu ht hlt hlt2 hva
    by_cases ha : sa.err = 0
    · obtain ⟨k, hk1, rfl, hk3⟩ := hA ha
      have hneq : (vput u == l.take k) = true := by rw [hk3]; simp
      by_cases hb : sb.err = 0
      · have hh := hW hb
        injection hh with h1 h2
        subst h1 h2
        have hbt : (vback u == vback u) = true := by simp
        clear hW hb hk3 ha hA hB
        go_enter Try.func13, Try.ntmps13
        go_wp2_with fail
        refine (St.call0 (HS).out speaks03).mono ?_
        rintro e w1 ⟨v, N, rfl, ⟨rfl, rfl⟩, H1⟩
        try simp only [List.cons_append, List.nil_append, List.set_cons_zero, List.set_cons_succ, bsOf_list] at H1
        have HS1 := Lib.hid H1
        clear H1
        go_wp2_with fail
        refine (St.call0 (HS1).out (New_spec (bsOf l) (by rw [bsOf_size]; omega))).mono ?_
        rintro e w1 ⟨v, N, rfl, ⟨g, rfl, rfl⟩, H1⟩
        try simp only [List.cons_append, List.nil_append, List.set_cons_zero, List.set_cons_succ, bsOf_list] at H1
        have HS2 := Lib.hid H1
        clear H1
        go_wp2_with fail
        refine (St.call0 (HS2).out (New_spec (bsOf l) (by rw [bsOf_size]; omega))).mono ?_
        rintro e w1 ⟨v, N, rfl, ⟨g2, rfl, rfl⟩, H1⟩
        try simp only [List.cons_append, List.nil_append, List.set_cons_zero, List.set_cons_succ, bsOf_list] at H1
        have HS3 := Lib.hid H1
        clear H1
        go_wp2_with fail
        refine (St.call 1 (HS3).out rfl (VLong_spec g _)).mono ?_
        rintro e w1 ⟨v, A', N, rfl, ⟨rfl, rfl, rfl⟩, H1⟩
        try simp only [List.cons_append, List.nil_append, List.set_cons_zero, List.set_cons_succ, bsOf_list] at H1
        try rw [HU.out] at H1
        try rw [HU.out]
        have HS4 := Lib.hid H1
        clear H1
        go_wp2_with fail
        refine (St.call 0 (HS4).out rfl (VInt_spec g2 _)).mono ?_
        rintro e w1 ⟨v, A', N, rfl, ⟨rfl, rfl, rfl⟩, H1⟩
        try simp only [List.cons_append, List.nil_append, List.set_cons_zero, List.set_cons_succ, bsOf_list] at H1
        try rw [HT.out] at H1
        try rw [HT.out]
        have HS5 := Lib.hid H1
        clear H1
        go_wp2_with fail
        have H1 := OutR.new (OutR.new ((HS5).out))
        try simp only [World.size_alloc] at H1
        have HS6 := Lib.hid H1
        clear H1
        refine (St.call 1 (HS6).out rfl (VPutLong_spec _ ([], 0) (vback u) HR.out.1 HR.out.2 (by simp))).mono ?_
        rintro e w1 ⟨v, A', N, rfl, ⟨rfl, rfl, rfl⟩, H1⟩
        try simp only [List.cons_append, List.nil_append, List.set_cons_zero, List.set_cons_succ, bsOf_list] at H1
        try rw [HP.out] at H1
        try rw [HP.out]
        have HS7 := Lib.hid H1
        clear H1
        go_wp2_with fail
        refine (St.call 0 (HS7).out rfl (VPutInt_spec _ ([], 0) (vback u) (by have := HR2.out; omega) (by have := HR2.out; omega) (by simp))).mono ?_
        rintro e w1 ⟨v, A', N, rfl, ⟨rfl, rfl, rfl⟩, H1⟩
        try simp only [List.cons_append, List.nil_append, List.set_cons_zero, List.set_cons_succ, bsOf_list] at H1
        try rw [HQ.out] at H1
        try rw [HQ.out]
        have HS8 := Lib.hid H1
        clear H1
        go_wp2_with fail
        refine (St.call 1 (HS8).out rfl (Text_spec _ _)).mono ?_
        rintro e w1 ⟨v, A', N, rfl, ⟨hv, rfl, rfl⟩, H1⟩
        try simp only [List.cons_append, List.nil_append, List.set_cons_zero, List.set_cons_succ, bsOf_list] at H1
        have hv2 := Eq.trans hv (otext_ok (vput u))
        clear hv
        subst hv2
        have HS9 := Lib.hid H1
        clear H1
        go_wp2_with fail
        refine (St.call 0 (HS9).out rfl (Text_spec _ _)).mono ?_
        rintro e w1 ⟨v, A', N, rfl, ⟨hv, rfl, rfl⟩, H1⟩
        try simp only [List.cons_append, List.nil_append, List.set_cons_zero, List.set_cons_succ, bsOf_list] at H1
        have hv2 := Eq.trans hv (otext_ok (vput u))
        clear hv
        subst hv2
        have HSa := Lib.hid H1
        clear H1
        go_wp2_with fail
        refine (St.call 3 (HSa).out rfl (IErr_spec g _)).mono ?_
        rintro e w1 ⟨v, A', N, rfl, ⟨rfl, rfl, rfl⟩, H1⟩
        try simp only [List.cons_append, List.nil_append, List.set_cons_zero, List.set_cons_succ, bsOf_list] at H1
        have HSb := Lib.hid H1
        clear H1
        go_wp2_with fail
        refine (St.call 3 (HSb).out rfl (At_spec g _)).mono ?_
        rintro e w1 ⟨v, A', N, rfl, ⟨rfl, rfl, rfl⟩, H1⟩
        try simp only [List.cons_append, List.nil_append, List.set_cons_zero, List.set_cons_succ, bsOf_list] at H1
        have HSc := Lib.hid H1
        clear H1
        go_wp2_with fail
        refine (St.call 2 (HSc).out rfl (IErr_spec g2 _)).mono ?_
        rintro e w1 ⟨v, A', N, rfl, ⟨rfl, rfl, rfl⟩, H1⟩
        try simp only [List.cons_append, List.nil_append, List.set_cons_zero, List.set_cons_succ, bsOf_list] at H1
        have HSd := Lib.hid H1
        clear H1
        go_wp2_with fail
        refine (St.call 2 (HSd).out rfl (At_spec g2 _)).mono ?_
        rintro e w1 ⟨v, A', N, rfl, ⟨rfl, rfl, rfl⟩, H1⟩
        try simp only [List.cons_append, List.nil_append, List.set_cons_zero, List.set_cons_succ, bsOf_list] at H1
        have HSe := Lib.hid H1
        clear H1
        go_wp2_with fail
        refine (St.call 2 (HSe).out rfl (IErr_spec g2 _)).mono ?_
        rintro e w1 ⟨v, A', N, rfl, ⟨rfl, rfl, rfl⟩, H1⟩
        try simp only [List.cons_append, List.nil_append, List.set_cons_zero, List.set_cons_succ, bsOf_list] at H1
        have HSf := Lib.hid H1
        clear H1
        go_wp2_with fail
        refine (St.call 3 (HSf).out rfl (IErr_spec g _)).mono ?_
        rintro e w1 ⟨v, A', N, rfl, ⟨rfl, rfl, rfl⟩, H1⟩
        try simp only [List.cons_append, List.nil_append, List.set_cons_zero, List.set_cons_succ, bsOf_list] at H1
        have HSg := Lib.hid H1
        clear H1
        go_wp2_with fail
        go_ret
        exact ⟨rfl, HSg.out.below⟩
      · have hb1 : (sb.err == 0) = false := beq_eq_false_iff_ne.2 hb
        have hb2 : (sb.err != 0) = true := bne_iff_ne.2 hb
        clear hW hb hk3 ha hA hB
        go_enter Try.func13, Try.ntmps13
        go_wp2_with fail
        refine (St.call0 (HS).out speaks03).mono ?_
        rintro e w1 ⟨v, N, rfl, ⟨rfl, rfl⟩, H1⟩
        try simp only [List.cons_append, List.nil_append, List.set_cons_zero, List.set_cons_succ, bsOf_list] at H1
        have HS1 := Lib.hid H1
        clear H1
        go_wp2_with fail
        refine (St.call0 (HS1).out (New_spec (bsOf l) (by rw [bsOf_size]; omega))).mono ?_
        rintro e w1 ⟨v, N, rfl, ⟨g, rfl, rfl⟩, H1⟩
        try simp only [List.cons_append, List.nil_append, List.set_cons_zero, List.set_cons_succ, bsOf_list] at H1
        have HS2 := Lib.hid H1
        clear H1
        go_wp2_with fail
        refine (St.call0 (HS2).out (New_spec (bsOf l) (by rw [bsOf_size]; omega))).mono ?_
        rintro e w1 ⟨v, N, rfl, ⟨g2, rfl, rfl⟩, H1⟩
        try simp only [List.cons_append, List.nil_append, List.set_cons_zero, List.set_cons_succ, bsOf_list] at H1
        have HS3 := Lib.hid H1
        clear H1
        go_wp2_with fail
        refine (St.call 1 (HS3).out rfl (VLong_spec g _)).mono ?_
        rintro e w1 ⟨v, A', N, rfl, ⟨rfl, rfl, rfl⟩, H1⟩
        try simp only [List.cons_append, List.nil_append, List.set_cons_zero, List.set_cons_succ, bsOf_list] at H1
        try rw [HU.out] at H1
        try rw [HU.out]
        have HS4 := Lib.hid H1
        clear H1
        go_wp2_with fail
        refine (St.call 0 (HS4).out rfl (VInt_spec g2 _)).mono ?_
        rintro e w1 ⟨v, A', N, rfl, ⟨rfl, rfl, rfl⟩, H1⟩
        try simp only [List.cons_append, List.nil_append, List.set_cons_zero, List.set_cons_succ, bsOf_list] at H1
        try rw [HT.out] at H1
        try rw [HT.out]
        have HS5 := Lib.hid H1
        clear H1
        go_wp2_with fail
        have H1 := OutR.new (OutR.new ((HS5).out))
        try simp only [World.size_alloc] at H1
        have HS6 := Lib.hid H1
        clear H1
        refine (St.call 1 (HS6).out rfl (VPutLong_spec _ ([], 0) (vback u) HR.out.1 HR.out.2 (by simp))).mono ?_
        rintro e w1 ⟨v, A', N, rfl, ⟨rfl, rfl, rfl⟩, H1⟩
        try simp only [List.cons_append, List.nil_append, List.set_cons_zero, List.set_cons_succ, bsOf_list] at H1
        try rw [HP.out] at H1
        try rw [HP.out]
        have HS7 := Lib.hid H1
        clear H1
        go_wp2_with fail
        refine (St.call 0 (HS7).out rfl (VPutInt_spec _ ([], 0) (vback t) (by have := HR2.out; omega) (by have := HR2.out; omega) (by simp))).mono ?_
        rintro e w1 ⟨v, A', N, rfl, ⟨rfl, rfl, rfl⟩, H1⟩
        try simp only [List.cons_append, List.nil_append, List.set_cons_zero, List.set_cons_succ, bsOf_list] at H1
        try rw [HQ.out] at H1
        try rw [HQ.out]
        have HS8 := Lib.hid H1
        clear H1
        go_wp2_with fail
        refine (St.call 1 (HS8).out rfl (Text_spec _ _)).mono ?_
        rintro e w1 ⟨v, A', N, rfl, ⟨hv, rfl, rfl⟩, H1⟩
        try simp only [List.cons_append, List.nil_append, List.set_cons_zero, List.set_cons_succ, bsOf_list] at H1
        have hv2 := Eq.trans hv (otext_ok (vput u))
        clear hv
        subst hv2
        have HS9 := Lib.hid H1
        clear H1
        go_wp2_with fail
        refine (St.call 0 (HS9).out rfl (Text_spec _ _)).mono ?_
        rintro e w1 ⟨v, A', N, rfl, ⟨hv, rfl, rfl⟩, H1⟩
        try simp only [List.cons_append, List.nil_append, List.set_cons_zero, List.set_cons_succ, bsOf_list] at H1
        have hv2 := Eq.trans hv (otext_ok (vput t))
        clear hv
        subst hv2
        have HSa := Lib.hid H1
        clear H1
        go_wp2_with fail
        refine (St.call 3 (HSa).out rfl (IErr_spec g _)).mono ?_
        rintro e w1 ⟨v, A', N, rfl, ⟨rfl, rfl, rfl⟩, H1⟩
        try simp only [List.cons_append, List.nil_append, List.set_cons_zero, List.set_cons_succ, bsOf_list] at H1
        have HSb := Lib.hid H1
        clear H1
        go_wp2_with fail
        refine (St.call 3 (HSb).out rfl (At_spec g _)).mono ?_
        rintro e w1 ⟨v, A', N, rfl, ⟨rfl, rfl, rfl⟩, H1⟩
        try simp only [List.cons_append, List.nil_append, List.set_cons_zero, List.set_cons_succ, bsOf_list] at H1
        have HSc := Lib.hid H1
        clear H1
        go_wp2_with fail
        refine (St.call 2 (HSc).out rfl (IErr_spec g2 _)).mono ?_
        rintro e w1 ⟨v, A', N, rfl, ⟨rfl, rfl, rfl⟩, H1⟩
        try simp only [List.cons_append, List.nil_append, List.set_cons_zero, List.set_cons_succ, bsOf_list] at H1
        have HSd := Lib.hid H1
        clear H1
        go_wp2_with fail
        refine (St.call 2 (HSd).out rfl (IErr_spec g2 _)).mono ?_
        rintro e w1 ⟨v, A', N, rfl, ⟨rfl, rfl, rfl⟩, H1⟩
        try simp only [List.cons_append, List.nil_append, List.set_cons_zero, List.set_cons_succ, bsOf_list] at H1
        have HSe := Lib.hid H1
        clear H1
        go_wp2_with fail
        go_ret
        exact ⟨rfl, HSe.out.below⟩
    · by_cases hb : sb.err = 0
      · exact absurd (by have := hW hb; injection this with _ h2; rw [h2]; exact hb) ha
      · have hb1 : (sb.err == 0) = false := beq_eq_false_iff_ne.2 hb
        have hb2 : (sb.err != 0) = true := bne_iff_ne.2 hb
        have ha1 : (sa.err == 0) = false := beq_eq_false_iff_ne.2 ha
        clear hW hb ha hA hB
        go_enter Try.func13, Try.ntmps13
        go_wp2_with fail
        refine (St.call0 (HS).out speaks03).mono ?_
        rintro e w1 ⟨v, N, rfl, ⟨rfl, rfl⟩, H1⟩
        try simp only [List.cons_append, List.nil_append, List.set_cons_zero, List.set_cons_succ, bsOf_list] at H1
        have HS1 := Lib.hid H1
        clear H1
        go_wp2_with fail
        refine (St.call0 (HS1).out (New_spec (bsOf l) (by rw [bsOf_size]; omega))).mono ?_
        rintro e w1 ⟨v, N, rfl, ⟨g, rfl, rfl⟩, H1⟩
        try simp only [List.cons_append, List.nil_append, List.set_cons_zero, List.set_cons_succ, bsOf_list] at H1
        have HS2 := Lib.hid H1
        clear H1
        go_wp2_with fail
        refine (St.call0 (HS2).out (New_spec (bsOf l) (by rw [bsOf_size]; omega))).mono ?_
        rintro e w1 ⟨v, N, rfl, ⟨g2, rfl, rfl⟩, H1⟩
        try simp only [List.cons_append, List.nil_append, List.set_cons_zero, List.set_cons_succ, bsOf_list] at H1
        have HS3 := Lib.hid H1
        clear H1
        go_wp2_with fail
        refine (St.call 1 (HS3).out rfl (VLong_spec g _)).mono ?_
        rintro e w1 ⟨v, A', N, rfl, ⟨rfl, rfl, rfl⟩, H1⟩
        try simp only [List.cons_append, List.nil_append, List.set_cons_zero, List.set_cons_succ, bsOf_list] at H1
        try rw [HU.out] at H1
        try rw [HU.out]
        have HS4 := Lib.hid H1
        clear H1
        go_wp2_with fail
        refine (St.call 0 (HS4).out rfl (VInt_spec g2 _)).mono ?_
        rintro e w1 ⟨v, A', N, rfl, ⟨rfl, rfl, rfl⟩, H1⟩
        try simp only [List.cons_append, List.nil_append, List.set_cons_zero, List.set_cons_succ, bsOf_list] at H1
        try rw [HT.out] at H1
        try rw [HT.out]
        have HS5 := Lib.hid H1
        clear H1
        go_wp2_with fail
        have H1 := OutR.new (OutR.new ((HS5).out))
        try simp only [World.size_alloc] at H1
        have HS6 := Lib.hid H1
        clear H1
        refine (St.call 1 (HS6).out rfl (VPutLong_spec _ ([], 0) (vback u) HR.out.1 HR.out.2 (by simp))).mono ?_
        rintro e w1 ⟨v, A', N, rfl, ⟨rfl, rfl, rfl⟩, H1⟩
        try simp only [List.cons_append, List.nil_append, List.set_cons_zero, List.set_cons_succ, bsOf_list] at H1
        try rw [HP.out] at H1
        try rw [HP.out]
        have HS7 := Lib.hid H1
        clear H1
        go_wp2_with fail
        refine (St.call 0 (HS7).out rfl (VPutInt_spec _ ([], 0) (vback t) (by have := HR2.out; omega) (by have := HR2.out; omega) (by simp))).mono ?_
        rintro e w1 ⟨v, A', N, rfl, ⟨rfl, rfl, rfl⟩, H1⟩
        try simp only [List.cons_append, List.nil_append, List.set_cons_zero, List.set_cons_succ, bsOf_list] at H1
        try rw [HQ.out] at H1
        try rw [HQ.out]
        have HS8 := Lib.hid H1
        clear H1
        go_wp2_with fail
        refine (St.call 1 (HS8).out rfl (Text_spec _ _)).mono ?_
        rintro e w1 ⟨v, A', N, rfl, ⟨hv, rfl, rfl⟩, H1⟩
        try simp only [List.cons_append, List.nil_append, List.set_cons_zero, List.set_cons_succ, bsOf_list] at H1
        have hv2 := Eq.trans hv (otext_ok (vput u))
        clear hv
        subst hv2
        have HS9 := Lib.hid H1
        clear H1
        go_wp2_with fail
        refine (St.call 0 (HS9).out rfl (Text_spec _ _)).mono ?_
        rintro e w1 ⟨v, A', N, rfl, ⟨hv, rfl, rfl⟩, H1⟩
        try simp only [List.cons_append, List.nil_append, List.set_cons_zero, List.set_cons_succ, bsOf_list] at H1
        have hv2 := Eq.trans hv (otext_ok (vput t))
        clear hv
        subst hv2
        have HSa := Lib.hid H1
        clear H1
        go_wp2_with fail
        refine (St.call 3 (HSa).out rfl (IErr_spec g _)).mono ?_
        rintro e w1 ⟨v, A', N, rfl, ⟨rfl, rfl, rfl⟩, H1⟩
        try simp only [List.cons_append, List.nil_append, List.set_cons_zero, List.set_cons_succ, bsOf_list] at H1
        have HSb := Lib.hid H1
        clear H1
        go_wp2_with fail
        refine (St.call 2 (HSb).out rfl (IErr_spec g2 _)).mono ?_
        rintro e w1 ⟨v, A', N, rfl, ⟨rfl, rfl, rfl⟩, H1⟩
        try simp only [List.cons_append, List.nil_append, List.set_cons_zero, List.set_cons_succ, bsOf_list] at H1
        have HSd := Lib.hid H1
        clear H1
        go_wp2_with fail
        refine (St.call 2 (HSd).out rfl (IErr_spec g2 _)).mono ?_
        rintro e w1 ⟨v, A', N, rfl, ⟨rfl, rfl, rfl⟩, H1⟩
        try simp only [List.cons_append, List.nil_append, List.set_cons_zero, List.set_cons_succ, bsOf_list] at H1
        have HSe := Lib.hid H1
        clear H1
        go_wp2_with fail
        go_ret
        exact ⟨rfl, HSe.out.below⟩
end Go.Proofs.Ytaakchnddcphkaa.Sl
