/- package varint: the reader (a goto). -/
import Derived.Test.YtdlpmcbglmgpiaaV
namespace Go.Proofs.Ytdlpmcbglmgpiaa.Sl
open Go.RowKit
set_option linter.unusedVariables false
set_option linter.unusedSimpArgs false
/-- The reader, at the i-th byte. -/
def vgo (bits : Int) : List UInt8 → Nat → Nat → Nat → Nat × I
  | [], pos, acc, i => (0, ⟨[], pos, 1⟩)
  | c :: l, pos, acc, i =>
    if bits - 7 * i ≤ 0 ∨ (bits - 7 * i < 7 ∧ c.toNat % 128 / 2 ^ (bits - 7 * i).toNat ≠ 0) then (0, ⟨l, pos + 1, 3⟩)
    else if 128 ≤ c.toNat then vgo bits l (pos + 1) (acc + c.toNat % 128 * 2 ^ (7 * i)) (i + 1)
    else if c.toNat = 0 ∧ 0 < i then (0, ⟨l, pos + 1, 3⟩)
    else (acc + c.toNat % 128 * 2 ^ (7 * i), ⟨l, pos + 1, 0⟩)
def vread (bits : Int) (st : I) : Nat × I := if st.err ≠ 0 then (0, st) else vgo bits st.rest st.pos 0 0

theorem itake_one (c : UInt8) (l : List UInt8) (pos : Nat) : itake ⟨c :: l, pos, 0⟩ 1 = ([c], ⟨l, pos + 1, 0⟩) := by
  unfold itake
  rw [if_neg (by simp), if_neg (by omega), if_neg (by simp only [List.length_cons]; omega)]
  simp
theorem itake_none (pos : Nat) : itake ⟨[], pos, 0⟩ 1 = ([], ⟨[], pos, 1⟩) := by
  unfold itake
  rw [if_neg (by simp), if_neg (by omega), if_pos (by simp)]
  done
theorem and_u64_127 (d : Nat) (hd : d < 256) : bits .and .u64 d 127 = ((d % 128 : Nat) : Int) := by
  have h := and_u64 d 127 (by omega) (by decide)
  rw [Nat.and_two_pow_sub_one_eq_mod d 7] at h
  exact h
theorem vdiv_test (k : Nat) {d : Nat} (hd : d < 256) : (bits .and .u64 d 127 / 2 ^ k != 0) = decide (d % 128 / 2 ^ k ≠ 0) := by
  rw [and_u64_127 d hd, show ((d % 128 : Nat) : Int) / 2 ^ k = ((d % 128 / 2 ^ k : Nat) : Int) by rw [Int.natCast_ediv, Int.natCast_pow]; rfl]
  generalize d % 128 / 2 ^ k = z
  rw [Bool.eq_iff_iff]
  simp
set_option maxRecDepth 100000 in
theorem and_u64_128_ : ∀ d : Fin 256, (bits .and .u64 ((d.val : Nat) : Int) 128 != 0) = decide (128 ≤ d.val) := by decide
theorem and_u64_128 (d : Nat) (hd : d < 256) : (bits .and .u64 d 128 != 0) = decide (128 ≤ d) := and_u64_128_ ⟨d, hd⟩
theorem vacc_lt (bs : Int) (hb : bs = 32 ∨ bs = 64) (acc x i : Nat) (hacc : acc < 2 ^ (7 * i)) (hl : 0 < bs - 7 * i) (hx : x < 128) (hd : ¬ (bs - 7 * i < 7 ∧ x / 2 ^ (bs - 7 * i).toNat ≠ 0)) :
    acc + x * 2 ^ (7 * i) < 2 ^ (7 * (i + 1)) ∧ acc + x * 2 ^ (7 * i) < 2 ^ bs.toNat := by
  have e1 : 2 ^ (7 * (i + 1)) = 128 * 2 ^ (7 * i) := by rw [show 7 * (i + 1) = 7 + 7 * i by omega, Nat.pow_add]
  have e2 : 2 ^ bs.toNat = 2 ^ (bs - 7 * i).toNat * 2 ^ (7 * i) := by rw [← Nat.pow_add]; congr 1; omega
  have h1 : x < 2 ^ (bs - 7 * i).toNat := by
    by_cases h7 : bs - 7 * i < 7
    · have h2 : x / 2 ^ (bs - 7 * i).toNat = 0 := by
        rcases Nat.eq_zero_or_pos (x / 2 ^ (bs - 7 * i).toNat) with h | h
        · exact h
        · exact absurd ⟨h7, by omega⟩ hd
      exact (Nat.div_eq_zero_iff.1 h2).resolve_left (by have := Nat.two_pow_pos (bs - 7 * i).toNat; omega)
    · have : 2 ^ 7 ≤ 2 ^ (bs - 7 * i).toNat := Nat.pow_le_pow_right (by decide) (by omega)
      omega
  have h3 : (x + 1) * 2 ^ (7 * i) ≤ 2 ^ (bs - 7 * i).toNat * 2 ^ (7 * i) := Nat.mul_le_mul_right _ h1
  have h4 : (x + 1) * 2 ^ (7 * i) ≤ 128 * 2 ^ (7 * i) := Nat.mul_le_mul_right _ hx
  rw [Nat.add_mul] at h3 h4
  rw [e1, e2]
  omega
theorem vacc_or (bs : Int) (hb : bs = 32 ∨ bs = 64) (acc d i : Nat) (hacc : acc < 2 ^ (7 * i)) (hdd : d < 256) (hl : 0 < bs - 7 * i) (hd : ¬ (bs - 7 * i < 7 ∧ d % 128 / 2 ^ (bs - 7 * i).toNat ≠ 0)) :
    bits .or .u64 acc (IntKind.u64.wrap (bits .and .u64 d 127 * 2 ^ (7 * i))) = ((acc + d % 128 * 2 ^ (7 * i) : Nat) : Int) := by
  obtain ⟨_, h2⟩ := vacc_lt bs hb acc (d % 128) i hacc hl (by omega) hd
  have h3 : 2 ^ bs.toNat ≤ 18446744073709551616 := by rcases hb with rfl | rfl <;> decide
  have hlt : acc + d % 128 * 2 ^ (7 * i) < 18446744073709551616 := by omega
  rw [and_u64_127 d hdd]
  have e1 : ((d % 128 : Nat) : Int) * 2 ^ (7 * i) = ((d % 128 * 2 ^ (7 * i) : Nat) : Int) := by rw [Int.natCast_mul, Int.natCast_pow]; rfl
  have e0 := Nat.two_pow_add_eq_or_of_lt hacc (d % 128)
  rw [Nat.mul_comm] at e0
  rw [e1]
  generalize d % 128 * 2 ^ (7 * i) = y at *
  have e2 : IntKind.u64.wrap (y : Int) = y := by rw [IntKind.wrap_u64]; omega
  rw [e2]
  show IntKind.u64.wrap ((BitVec.ofInt 64 _ ||| BitVec.ofInt 64 _).toNat : Int) = _
  rw [BitVec.toNat_or, BitVec.toNat_ofInt, BitVec.toNat_ofInt]
  have e3 : ((acc : Int) % (2 ^ 64 : Nat)).toNat = acc := by omega
  have e4 : ((y : Int) % (2 ^ 64 : Nat)).toNat = y := by omega
  rw [e3, e4, Nat.or_comm, ← e0, IntKind.wrap_u64]
  omega
attribute [local go_sem] bsOf_toList bsOf_size
set_option maxRecDepth 100000 in
theorem Uns_fail (b : Nat) (st : I) (bs : Int) (h0 : st.err ≠ 0) :
    Spec Try.prog 134 #[.pointer (some ⟨b, 0, none⟩), .int .i64 bs] (InR b st) (fun v A' N => v = .int .u64 0 ∧ A' = InR b st ∧ N = []) := by
  intro F w hA
  have HA := Lib.hid (St.start F w (Sep.one hA))
  clear hA
  have HT := Lib.hid (show itake st 1 = ([], st) by simp [itake, h0])
  go_enter Try.func134, Try.ntmps134
  go_wp2_with fail
  go_step3
  go_wp2_with fail
  go_step3
  go_wp2_with fail
  refine (HA.out.call 0 rfl (Take_spec b st 1 (by omega) (by omega))).mono ?_
  rintro e w1 ⟨v, A', N, rfl, ⟨rfl, rfl, rfl⟩, H1⟩
  rw [HT.out] at H1 ⊢
  have HS1 := Lib.hid H1
  clear H1
  go_wp2_with fail
  go_ret
  exact ⟨_, _, _, rfl, ⟨rfl, rfl, rfl⟩, HS1.out⟩
def VJ (F : Nat → Prop) (w : World) (b : Nat) (bs : Int) (res : Nat × I) (lab : Nat) (a' : Act) (w' : World) : Prop :=
  (lab = 0 ∧ ∃ (l1 : List UInt8) (pos1 acc i : Nat), St F w [InR b ⟨l1, pos1, 0⟩] w' ∧ acc < 2 ^ (7 * i) ∧ 7 * i < bs + 7 ∧ vgo bs l1 pos1 acc i = res ∧
    ∃ u7 u8 u9 u10 u11 u12 u13 u14 u15 u16 u17 u18 u19 u20 u21 u22 u23 u24 u25 u26 u27 u28 u29 u30 u31 u32 u33 u34 u35 u36 u37 u38 u39 u40 u41 u42 u43 u44 u45 u46 u47 u48 u49 u50 u51 u52 u53 u54 u55, a' = { tmps := #[.pointer (some ⟨b, 0, none⟩), .int .i64 bs, undef, undef, .int .u64 0, .int .u64 acc, .int .i64 (7 * i), u7, u8, u9, u10, u11, u12, u13, u14, u15, u16, u17, u18, u19, u20, u21, u22, u23, u24, u25, u26, u27, u28, u29, u30, u31, u32, u33, u34, u35, u36, u37, u38, u39, u40, u41, u42, u43, u44, u45, u46, u47, u48, u49, u50, u51, u52, u53, u54, u55], defers := [] }) ∨
  (lab = 1 ∧ ∃ (l1 : List UInt8) (pos1 : Nat), St F w [InR b ⟨l1, pos1, 0⟩] w' ∧ (0, ⟨l1, pos1, 3⟩) = res ∧
    ∃ u5 u6 u7 u8 u9 u10 u11 u12 u13 u14 u15 u16 u17 u18 u19 u20 u21 u22 u23 u24 u25 u26 u27 u28 u29 u30 u31 u32 u33 u34 u35 u36 u37 u38 u39 u40 u41 u42 u43 u44 u45 u46 u47 u48 u49 u50 u51 u52 u53 u54 u55, a' = { tmps := #[.pointer (some ⟨b, 0, none⟩), .int .i64 bs, undef, undef, .int .u64 0, u5, u6, u7, u8, u9, u10, u11, u12, u13, u14, u15, u16, u17, u18, u19, u20, u21, u22, u23, u24, u25, u26, u27, u28, u29, u30, u31, u32, u33, u34, u35, u36, u37, u38, u39, u40, u41, u42, u43, u44, u45, u46, u47, u48, u49, u50, u51, u52, u53, u54, u55], defers := [] })
def VM (lab : Nat) (a' : Act) (_ : World) : Nat := if lab = 1 then 0 else 100 - (intOf (a'.tmps.getD 6 undef)).toNat
set_option maxRecDepth 100000 in
set_option maxHeartbeats 4000000 in
theorem Uns_go (b : Nat) (l : List UInt8) (pos : Nat) (bs : Int) (hb : bs = 32 ∨ bs = 64) :
    Spec Try.prog 134 #[.pointer (some ⟨b, 0, none⟩), .int .i64 bs] (InR b ⟨l, pos, 0⟩) (fun v A' N => v = .int .u64 (vgo bs l pos 0 0).1 ∧ A' = InR b (vgo bs l pos 0 0).2 ∧ N = []) := by
  intro F w hA
  have HA := Lib.hid (St.start F w (Sep.one hA))
  clear hA
  generalize hres : vgo bs l pos 0 0 = res
  go_enter Try.func134, Try.ntmps134
  go_wp2_with fail
  refine wp_scope_labels (VJ F w b bs res) VM ?_ ?_
  · rintro lab a' w1 (⟨rfl, l1, pos1, acc, i, hst, hacc, hi, hg, u7, u8, u9, u10, u11, u12, u13, u14, u15, u16, u17, u18, u19, u20, u21, u22, u23, u24, u25, u26, u27, u28, u29, u30, u31, u32, u33, u34, u35, u36, u37, u38, u39, u40, u41, u42, u43, u44, u45, u46, u47, u48, u49, u50, u51, u52, u53, u54, u55, rfl⟩ | ⟨rfl, l1, pos1, hst, hg, u5, u6, u7, u8, u9, u10, u11, u12, u13, u14, u15, u16, u17, u18, u19, u20, u21, u22, u23, u24, u25, u26, u27, u28, u29, u30, u31, u32, u33, u34, u35, u36, u37, u38, u39, u40, u41, u42, u43, u44, u45, u46, u47, u48, u49, u50, u51, u52, u53, u54, u55, rfl⟩)
    · refine ⟨_, rfl, ?_⟩
      have HS := Lib.hid hst
      have HG := Lib.hid hg
      have HACC := Lib.hid hacc
      have hb1 : bs ≤ 64 := by omega
      clear hst hg hacc
      cases l1 with
      | nil =>
        have HT := Lib.hid (itake_none pos1)
        go_wp2_with fail
        refine (HS.out.call 0 rfl (Take_spec b _ 1 (by omega) (by omega))).mono ?_
        rintro e w2 ⟨v, A', N, rfl, ⟨rfl, rfl, rfl⟩, H1⟩
        rw [HT.out] at H1 ⊢
        have HS1 := Lib.hid H1
        clear H1
        go_wp2_with fail
        go_ret
        exact ⟨_, _, _, rfl, ⟨by rw [← HG.out]; rfl, by rw [← HG.out]; rfl, rfl⟩, HS1.out⟩
      | cons c l2 =>
        have HT := Lib.hid (itake_one c l2 pos1)
        have hsz := bsOf_size [c]
        have h0 := bsOf_get [c] 0 (by simp [bsOf_size])
        simp only [List.getElem_cons_zero] at h0
        have hc : c.toNat < 256 := c.toNat_lt
        by_cases hl : bs - 7 * i ≤ 0
        · have HV := Lib.hid (show (0, ⟨l2, pos1 + 1, 3⟩) = res by rw [← HG.out, vgo, if_pos (by first | exact .inl hl | exact .inr ⟨by omega, hq⟩)])
          by_cases hz : (bits .and .u64 c.toNat 127 != 0) = true
          · go_wp2_with fail
            refine (HS.out.call 0 rfl (Take_spec b _ 1 (by omega) (by omega))).mono ?_
            rintro e w2 ⟨v, A', N, rfl, ⟨rfl, rfl, rfl⟩, H1⟩
            rw [HT.out] at H1 ⊢
            have HS1 := Lib.hid H1
            clear H1
            go_wp2_with fail
            go_step3
            exact ⟨.inr ⟨rfl, l2, pos1 + 1, HS1.out, HV.out, _, _, _, _, _, _, _, _, _, _, _, _, _, _, _, _, _, _, _, _, _, _, _, _, _, _, _, _, _, _, _, _, _, _, _, _, _, _, _, _, _, _, _, _, _, _, _, _, _, _, _, rfl⟩, by simp [VM, intOf]; omega⟩
          · have hz' : (bits .and .u64 c.toNat 127 != 0) = false := by simpa using hz
            go_wp2_with fail
            refine (HS.out.call 0 rfl (Take_spec b _ 1 (by omega) (by omega))).mono ?_
            rintro e w2 ⟨v, A', N, rfl, ⟨rfl, rfl, rfl⟩, H1⟩
            rw [HT.out] at H1 ⊢
            have HS1 := Lib.hid H1
            clear H1
            go_wp2_with fail
            go_step3
            exact ⟨.inr ⟨rfl, l2, pos1 + 1, HS1.out, HV.out, _, _, _, _, _, _, _, _, _, _, _, _, _, _, _, _, _, _, _, _, _, _, _, _, _, _, _, _, _, _, _, _, _, _, _, _, _, _, _, _, _, _, _, _, _, _, _, _, _, _, _, rfl⟩, by simp [VM, intOf]; omega⟩
        · have hl' : 0 < bs - 7 * i := by omega
          by_cases hl7 : 7 ≤ bs - 7 * i
          · have HD := Lib.hid (show ¬ (bs - 7 * i < 7 ∧ c.toNat % 128 / 2 ^ (bs - 7 * i).toNat ≠ 0) by omega)
            have HA2 := Lib.hid (vacc_or bs hb acc c.toNat i HACC.out (by omega) hl' HD.out)
            have HLT := Lib.hid (vacc_lt bs hb acc (c.toNat % 128) i HACC.out hl' (by omega) HD.out)
            have HN := Lib.hid (show ¬ (bs - 7 * i ≤ 0 ∨ (bs - 7 * i < 7 ∧ c.toNat % 128 / 2 ^ (bs - 7 * i).toNat ≠ 0)) from fun h => h.elim (fun h => by omega) HD.out)
            by_cases h128 : 128 ≤ c.toNat
            · have HV := Lib.hid (show vgo bs l2 (pos1 + 1) (acc + c.toNat % 128 * 2 ^ (7 * i)) (i + 1) = res by rw [← HG.out, vgo, if_neg HN.out, if_pos h128])
              have hbt : (bits .and .u64 c.toNat 128 != 0) = true := by rw [and_u64_128 _ hc]; simpa using h128
              go_wp2_with fail
              refine (HS.out.call 0 rfl (Take_spec b _ 1 (by omega) (by omega))).mono ?_
              rintro e w2 ⟨v, A', N, rfl, ⟨rfl, rfl, rfl⟩, H1⟩
              rw [HT.out] at H1 ⊢
              have HS1 := Lib.hid H1
              clear H1
              go_wp2_with fail
              go_step3
              rw [HA2.out, show (7 * (i : Int) + 7) = 7 * ((i + 1 : Nat) : Int) by omega]
              exact ⟨.inl ⟨rfl, l2, pos1 + 1, _, i + 1, HS1.out, HLT.out.1, by omega, HV.out, _, _, _, _, _, _, _, _, _, _, _, _, _, _, _, _, _, _, _, _, _, _, _, _, _, _, _, _, _, _, _, _, _, _, _, _, _, _, _, _, _, _, _, _, _, _, _, _, _, rfl⟩, by simp [VM, intOf]; omega⟩
            · have hbt : (bits .and .u64 c.toNat 128 != 0) = false := by rw [and_u64_128 _ hc]; simpa using h128
              by_cases hz : c.toNat = 0 ∧ 0 < i
              · have HV := Lib.hid (show (0, ⟨l2, pos1 + 1, 3⟩) = res by rw [← HG.out, vgo, if_neg HN.out, if_neg h128, if_pos hz])
                obtain ⟨hz1, hz2⟩ := hz
                have hz0 : ((c.toNat : Int) == 0) = true := by simp [hz1]
                try (have hq0 : (bits .and .u64 0 127 / 2 ^ (bs - 7 * i).toNat != 0) = false := by (rw [← hqb, hz1]; rfl))
                have hi0 : 0 < 7 * (i : Int) := by omega
                go_wp2_with fail
                refine (HS.out.call 0 rfl (Take_spec b _ 1 (by omega) (by omega))).mono ?_
                rintro e w2 ⟨v, A', N, rfl, ⟨rfl, rfl, rfl⟩, H1⟩
                rw [HT.out] at H1 ⊢
                have HS1 := Lib.hid H1
                clear H1
                go_wp2_with fail
                go_step3
                exact ⟨.inr ⟨rfl, l2, pos1 + 1, HS1.out, HV.out, _, _, _, _, _, _, _, _, _, _, _, _, _, _, _, _, _, _, _, _, _, _, _, _, _, _, _, _, _, _, _, _, _, _, _, _, _, _, _, _, _, _, _, _, _, _, _, _, _, _, _, rfl⟩, by simp [VM, intOf]; omega⟩
              · have HV := Lib.hid (show (acc + c.toNat % 128 * 2 ^ (7 * i), ⟨l2, pos1 + 1, 0⟩) = res by rw [← HG.out, vgo, if_neg HN.out, if_neg h128, if_neg hz])
                by_cases hz1 : c.toNat = 0
                · have hz0 : ((c.toNat : Int) == 0) = true := by simp [hz1]
                  try (have hq0 : (bits .and .u64 0 127 / 2 ^ (bs - 7 * i).toNat != 0) = false := by (rw [← hqb, hz1]; rfl))
                  have HA3 := Lib.hid (show bits .or .u64 acc (IntKind.u64.wrap (bits .and .u64 0 127 * 2 ^ (7 * i))) = ((acc + c.toNat % 128 * 2 ^ (7 * i) : Nat) : Int) by rw [← HA2.out, hz1]; rfl)
                  have hi0 : ¬ (0 < 7 * (i : Int)) := by omega
                  go_wp2_with fail
                  refine (HS.out.call 0 rfl (Take_spec b _ 1 (by omega) (by omega))).mono ?_
                  rintro e w2 ⟨v, A', N, rfl, ⟨rfl, rfl, rfl⟩, H1⟩
                  rw [HT.out] at H1 ⊢
                  have HS1 := Lib.hid H1
                  clear H1
                  go_wp2_with fail
                  all_goals
                    go_ret
                    exact ⟨_, _, _, rfl, ⟨by rw [← HV.out]; exact congrArg (Value.int IntKind.u64) HA3.out, by rw [← HV.out], rfl⟩, HS1.out⟩
                · have hz0 : ((c.toNat : Int) == 0) = false := by simp; omega
                  go_wp2_with fail
                  refine (HS.out.call 0 rfl (Take_spec b _ 1 (by omega) (by omega))).mono ?_
                  rintro e w2 ⟨v, A', N, rfl, ⟨rfl, rfl, rfl⟩, H1⟩
                  rw [HT.out] at H1 ⊢
                  have HS1 := Lib.hid H1
                  clear H1
                  go_wp2_with fail
                  go_ret
                  exact ⟨_, _, _, rfl, ⟨by rw [← HV.out]; exact congrArg (Value.int IntKind.u64) HA2.out, by rw [← HV.out], rfl⟩, HS1.out⟩
          · by_cases hq : c.toNat % 128 / 2 ^ (bs - 7 * i).toNat ≠ 0
            · have HV := Lib.hid (show (0, ⟨l2, pos1 + 1, 3⟩) = res by rw [← HG.out, vgo, if_pos (by first | exact .inl hl | exact .inr ⟨by omega, hq⟩)])
              have hqb : (bits .and .u64 c.toNat 127 / 2 ^ (bs - 7 * i).toNat != 0) = true := by rw [vdiv_test _ hc]; simpa using hq
              go_wp2_with fail
              refine (HS.out.call 0 rfl (Take_spec b _ 1 (by omega) (by omega))).mono ?_
              rintro e w2 ⟨v, A', N, rfl, ⟨rfl, rfl, rfl⟩, H1⟩
              rw [HT.out] at H1 ⊢
              have HS1 := Lib.hid H1
              clear H1
              go_wp2_with fail
              go_step3
              exact ⟨.inr ⟨rfl, l2, pos1 + 1, HS1.out, HV.out, _, _, _, _, _, _, _, _, _, _, _, _, _, _, _, _, _, _, _, _, _, _, _, _, _, _, _, _, _, _, _, _, _, _, _, _, _, _, _, _, _, _, _, _, _, _, _, _, _, _, _, rfl⟩, by simp [VM, intOf]; omega⟩
            · have hqb : (bits .and .u64 c.toNat 127 / 2 ^ (bs - 7 * i).toNat != 0) = false := by rw [vdiv_test _ hc]; simpa using hq
              have HD := Lib.hid (show ¬ (bs - 7 * i < 7 ∧ c.toNat % 128 / 2 ^ (bs - 7 * i).toNat ≠ 0) by omega)
              have HA2 := Lib.hid (vacc_or bs hb acc c.toNat i HACC.out (by omega) hl' HD.out)
              have HLT := Lib.hid (vacc_lt bs hb acc (c.toNat % 128) i HACC.out hl' (by omega) HD.out)
              have HN := Lib.hid (show ¬ (bs - 7 * i ≤ 0 ∨ (bs - 7 * i < 7 ∧ c.toNat % 128 / 2 ^ (bs - 7 * i).toNat ≠ 0)) from fun h => h.elim (fun h => by omega) HD.out)
              by_cases h128 : 128 ≤ c.toNat
              · have HV := Lib.hid (show vgo bs l2 (pos1 + 1) (acc + c.toNat % 128 * 2 ^ (7 * i)) (i + 1) = res by rw [← HG.out, vgo, if_neg HN.out, if_pos h128])
                have hbt : (bits .and .u64 c.toNat 128 != 0) = true := by rw [and_u64_128 _ hc]; simpa using h128
                go_wp2_with fail
                refine (HS.out.call 0 rfl (Take_spec b _ 1 (by omega) (by omega))).mono ?_
                rintro e w2 ⟨v, A', N, rfl, ⟨rfl, rfl, rfl⟩, H1⟩
                rw [HT.out] at H1 ⊢
                have HS1 := Lib.hid H1
                clear H1
                go_wp2_with fail
                go_step3
                rw [HA2.out, show (7 * (i : Int) + 7) = 7 * ((i + 1 : Nat) : Int) by omega]
                exact ⟨.inl ⟨rfl, l2, pos1 + 1, _, i + 1, HS1.out, HLT.out.1, by omega, HV.out, _, _, _, _, _, _, _, _, _, _, _, _, _, _, _, _, _, _, _, _, _, _, _, _, _, _, _, _, _, _, _, _, _, _, _, _, _, _, _, _, _, _, _, _, _, _, _, _, _, rfl⟩, by simp [VM, intOf]; omega⟩
              · have hbt : (bits .and .u64 c.toNat 128 != 0) = false := by rw [and_u64_128 _ hc]; simpa using h128
                by_cases hz : c.toNat = 0 ∧ 0 < i
                · have HV := Lib.hid (show (0, ⟨l2, pos1 + 1, 3⟩) = res by rw [← HG.out, vgo, if_neg HN.out, if_neg h128, if_pos hz])
                  obtain ⟨hz1, hz2⟩ := hz
                  have hz0 : ((c.toNat : Int) == 0) = true := by simp [hz1]
                  try (have hq0 : (bits .and .u64 0 127 / 2 ^ (bs - 7 * i).toNat != 0) = false := by (rw [← hqb, hz1]; rfl))
                  have hi0 : 0 < 7 * (i : Int) := by omega
                  go_wp2_with fail
                  refine (HS.out.call 0 rfl (Take_spec b _ 1 (by omega) (by omega))).mono ?_
                  rintro e w2 ⟨v, A', N, rfl, ⟨rfl, rfl, rfl⟩, H1⟩
                  rw [HT.out] at H1 ⊢
                  have HS1 := Lib.hid H1
                  clear H1
                  go_wp2_with fail
                  go_step3
                  exact ⟨.inr ⟨rfl, l2, pos1 + 1, HS1.out, HV.out, _, _, _, _, _, _, _, _, _, _, _, _, _, _, _, _, _, _, _, _, _, _, _, _, _, _, _, _, _, _, _, _, _, _, _, _, _, _, _, _, _, _, _, _, _, _, _, _, _, _, _, rfl⟩, by simp [VM, intOf]; omega⟩
                · have HV := Lib.hid (show (acc + c.toNat % 128 * 2 ^ (7 * i), ⟨l2, pos1 + 1, 0⟩) = res by rw [← HG.out, vgo, if_neg HN.out, if_neg h128, if_neg hz])
                  by_cases hz1 : c.toNat = 0
                  · have hz0 : ((c.toNat : Int) == 0) = true := by simp [hz1]
                    try (have hq0 : (bits .and .u64 0 127 / 2 ^ (bs - 7 * i).toNat != 0) = false := by (rw [← hqb, hz1]; rfl))
                    have HA3 := Lib.hid (show bits .or .u64 acc (IntKind.u64.wrap (bits .and .u64 0 127 * 2 ^ (7 * i))) = ((acc + c.toNat % 128 * 2 ^ (7 * i) : Nat) : Int) by rw [← HA2.out, hz1]; rfl)
                    have hi0 : ¬ (0 < 7 * (i : Int)) := by omega
                    go_wp2_with fail
                    refine (HS.out.call 0 rfl (Take_spec b _ 1 (by omega) (by omega))).mono ?_
                    rintro e w2 ⟨v, A', N, rfl, ⟨rfl, rfl, rfl⟩, H1⟩
                    rw [HT.out] at H1 ⊢
                    have HS1 := Lib.hid H1
                    clear H1
                    go_wp2_with fail
                    all_goals
                      go_ret
                      exact ⟨_, _, _, rfl, ⟨by rw [← HV.out]; exact congrArg (Value.int IntKind.u64) HA3.out, by rw [← HV.out], rfl⟩, HS1.out⟩
                  · have hz0 : ((c.toNat : Int) == 0) = false := by simp; omega
                    go_wp2_with fail
                    refine (HS.out.call 0 rfl (Take_spec b _ 1 (by omega) (by omega))).mono ?_
                    rintro e w2 ⟨v, A', N, rfl, ⟨rfl, rfl, rfl⟩, H1⟩
                    rw [HT.out] at H1 ⊢
                    have HS1 := Lib.hid H1
                    clear H1
                    go_wp2_with fail
                    go_ret
                    exact ⟨_, _, _, rfl, ⟨by rw [← HV.out]; exact congrArg (Value.int IntKind.u64) HA2.out, by rw [← HV.out], rfl⟩, HS1.out⟩
    · refine ⟨_, rfl, ?_⟩
      have HS := Lib.hid hst
      have HG := Lib.hid hg
      clear hst hg
      go_wp2_with fail
      refine (HS.out.call 0 rfl (IFail_spec b _ 3)).mono ?_
      rintro e w2 ⟨v, A', N, rfl, ⟨rfl, rfl, rfl⟩, H1⟩
      have HS1 := Lib.hid H1
      clear H1
      go_wp2_with fail
      go_ret
      exact ⟨_, _, _, rfl, ⟨by rw [← HG.out]; rfl, by rw [← HG.out]; rfl, rfl⟩, HS1.out⟩
  · intro again
    have AG := Lib.hid again
    clear again
    go_wp2_with fail
    go_step3
    rename_i hK
    exact hK _ _ (AG.out 0 _ _ _ rfl (.inl ⟨rfl, l, pos, 0, 0, HA.out, by omega, by omega, hres, _, _, _, _, _, _, _, _, _, _, _, _, _, _, _, _, _, _, _, _, _, _, _, _, _, _, _, _, _, _, _, _, _, _, _, _, _, _, _, _, _, _, _, _, _, _, _, _, _, rfl⟩))
theorem Uns_spec (b : Nat) (st : I) (bs : Int) (hb : bs = 32 ∨ bs = 64) :
    Spec Try.prog 134 #[.pointer (some ⟨b, 0, none⟩), .int .i64 bs] (InR b st) (fun v A' N => v = .int .u64 (vread bs st).1 ∧ A' = InR b (vread bs st).2 ∧ N = []) := by
  obtain ⟨l, pos, er⟩ := st
  by_cases h0 : er = 0
  · subst h0
    exact Uns_go b l pos bs hb
  · have h := Uns_fail b ⟨l, pos, er⟩ bs h0
    have e : vread bs ⟨l, pos, er⟩ = (0, ⟨l, pos, er⟩) := by simp [vread, h0]
    rw [e]
    exact h
/-! what is read -/
theorem vgo_lt (bs : Int) (hb : bs = 32 ∨ bs = 64) : ∀ (l : List UInt8) (pos acc i : Nat), acc < 2 ^ (7 * i) → (vgo bs l pos acc i).1 < 2 ^ bs.toNat := by
  have hp : 0 < 2 ^ bs.toNat := Nat.two_pow_pos _
  intro l
  induction l with
  | nil => intro pos acc i _; exact hp
  | cons c l ih =>
    intro pos acc i hacc
    unfold vgo
    split
    · exact hp
    · rename_i hn
      have h := vacc_lt bs hb acc (c.toNat % 128) i hacc (by omega) (by omega) (fun h => hn (.inr h))
      split
      · exact ih _ _ _ h.1
      · split
        · exact hp
        · exact h.2
theorem vread_lt (bs : Int) (hb : bs = 32 ∨ bs = 64) (st : I) : (vread bs st).1 < 2 ^ bs.toNat := by
  unfold vread
  split
  · exact Nat.two_pow_pos _
  · exact vgo_lt bs hb _ _ _ _ (by simp)
theorem vread_lt64 (bs : Int) (hb : bs = 32 ∨ bs = 64) (st : I) : (vread bs st).1 < 18446744073709551616 := by
  have h := vread_lt bs hb st
  rcases hb with rfl | rfl
  · have e : 2 ^ (32 : Int).toNat = 4294967296 := by decide
    omega
  · have e : 2 ^ (64 : Int).toNat = 18446744073709551616 := by decide
    omega
def vbackI (r : Nat × I) : Int × I := (vback r.1, r.2)
set_option maxRecDepth 100000 in
theorem VInt_spec (b : Nat) (st : I) :
    Spec Try.prog 92 #[.pointer (some ⟨b, 0, none⟩)] (InR b st) (fun v A' N => v = .int .i64 (vbackI (vread 32 st)).1 ∧ A' = InR b (vbackI (vread 32 st)).2 ∧ N = []) := by
  intro F w hA
  have HA := Lib.hid (St.start F w (Sep.one hA))
  clear hA
  have hs := Uns_spec b st 32 (.inl rfl)
  have hlt := vread_lt64 32 (.inl rfl) st
  generalize vread 32 st = r at *
  have HS := Lib.hid hs
  clear hs
  go_enter Try.func92, Try.ntmps92
  go_wp2_with fail
  refine (HA.out.call 0 rfl HS.out).mono ?_
  rintro e w1 ⟨v, A', N, rfl, ⟨rfl, rfl, rfl⟩, H1⟩
  have HS1 := Lib.hid H1
  clear H1
  go_wp2_with fail
  refine (VBack_any r.1 hlt w1).mono ?_
  rintro e w' ⟨rfl, rfl⟩
  go_wp2_with fail
  go_ret
  exact ⟨_, _, _, rfl, ⟨rfl, rfl, rfl⟩, HS1.out⟩
end Go.Proofs.Ytdlpmcbglmgpiaa.Sl
