/- package cursitorref03: reading a number, by definition. -/
import Derived.Test.YtdlpmcbglmgpiaaVr
import Derived.LoopN
namespace Go.Proofs.Ytdlpmcbglmgpiaa.Sl
open Go.RowKit
set_option linter.unusedVariables false
set_option linter.unusedSimpArgs false
attribute [local go_sem] bsOf_toList bsOf_size
set_option maxRecDepth 100000 in
theorem RBack_any (n : Nat) (hn : n < 18446744073709551616) (w : World) :
    Calls Try.prog 96 #[.int .u64 n] w fun e w' => e = .returned (.int .i64 (vback n)) ∧ w = w' := by
  by_cases h : n % 2 = 1
  · have HV := Lib.hid (show vback n = -((n : Int) / 2) - 1 by unfold vback; rw [if_pos h]; omega)
    have hb : ((n : Int) % 2 == 1) = true := by simp; omega
    go_enter Try.func96, Try.ntmps96
    go_wp2_with fail
    go_ret
    exact ⟨ret_int (by rw [HV.out]), rfl⟩
  · have HV := Lib.hid (show vback n = (n : Int) / 2 by unfold vback; rw [if_neg h]; omega)
    have hb : ((n : Int) % 2 == 1) = false := by simp; omega
    go_enter Try.func96, Try.ntmps96
    go_wp2_with fail
    go_ret
    exact ⟨ret_int (by rw [HV.out]), rfl⟩
/-- What is read: the number, how many bytes, the error. -/
def vget (bs : Int) (l : List UInt8) : Nat × Nat × Int := if (vgo bs l 0 0 0).2.err = 0 then ((vgo bs l 0 0 0).1, (vgo bs l 0 0 0).2.pos, 0) else (0, 0, (vgo bs l 0 0 0).2.err)
def vgot (r : Nat × I) : Nat × Nat × Int := if r.2.err = 0 then (r.1, r.2.pos, 0) else (0, 0, r.2.err)
def vgetV (x : Nat × Nat × Int) : Value := .tuple #[.int .u64 x.1, .int .i64 x.2.1, .int .i64 x.2.2]
set_option maxRecDepth 100000 in
set_option maxHeartbeats 1000000 in
theorem RGet_any (l : List UInt8) (bs : Int) (hb : bs = 32 ∨ bs = 64) (hl : l.length ≤ 140737488355328) (w : World) :
    Calls Try.prog 95 #[.string (bsOf l), .int .i64 bs] w fun e w' => e = .returned (vgetV (vgot (vgo bs l 0 0 0))) ∧ w = w' := by
  generalize hr : vgo bs l 0 0 0 = r
  have HR := Lib.hid hr
  have hb1 : 32 ≤ bs := by omega
  have hb2 : bs ≤ 64 := by omega
  have HB := Lib.hid hb
  have HG := Lib.hid (bsOf_get l)
  clear hr hb
  go_enter Try.func95, Try.ntmps95
  go_wp2_with fail
  go_loop [7, 8, 9, 10] (fun nv ov uv iv => ∃ (i acc o : Nat), i ≤ l.length ∧ iv = .int .i64 i ∧ nv = .int .u64 acc ∧ ov = .int .u64 o ∧ uv = .int .i64 (7 * i) ∧ 7 * i < bs + 7 ∧ (7 * i < bs → o = 2 ^ (7 * i)) ∧ acc < 2 ^ (7 * i) ∧ vgo bs (l.drop i) i acc i = r) (fun _ _ _ i => l.length - (intOf i).toNat)
  case atStart => exact ⟨0, 0, 1, by omega, rfl, rfl, rfl, rfl, by omega, by simp, by simp, HR.out⟩
  case round =>
    obtain ⟨i, acc, o, hi, rfl, rfl, rfl, rfl, h7, ho, hacc, hv⟩ := hrel
    by_cases hlt : i < l.length
    · rw [List.drop_eq_getElem_cons hlt] at hv
      have hgi := HG.out i (by rw [bsOf_size]; exact hlt)
      have hs : i < (bsOf l).size := by rw [bsOf_size]; exact hlt
      have hc := l[i].toNat_lt
      generalize l[i] = c at *
      have HV := Lib.hid hv
      have HO := Lib.hid ho
      have HACC := Lib.hid hacc
      clear hv ho hacc
      by_cases hroom : 7 < bs - 7 * i
      · have hnb : ¬ (bs - 7 * (i : Nat) ≤ 0 ∨ (bs - 7 * (i : Nat) < 7 ∧ c.toNat % 128 / 2 ^ (bs - 7 * (i : Nat)).toNat ≠ 0)) := by omega
        have hz := HO.out (by omega)
        obtain ⟨hA1, hA2⟩ := vacc_lt bs HB.out acc (c.toNat % 128) i HACC.out (by omega) (by omega) (fun h => hnb (.inr h))
        have h64 : 2 ^ bs.toNat ≤ 18446744073709551616 := by rcases HB.out with h | h <;> rw [h] <;> decide
        have hp2 : 2 ^ (7 * (i + 1)) = 2 ^ (7 * i) * 128 := by rw [show 7 * (i + 1) = 7 * i + 7 by omega, Nat.pow_add]
        rw [← hz] at hA1 hA2 hp2
        have hA3 : acc + c.toNat % 128 * o < 18446744073709551616 := by omega
        have HA1 := Lib.hid hA1
        have HP2 := Lib.hid hp2
        have hmul : ((c.toNat : Int) % 128 * o) = ((c.toNat % 128 * o : Nat) : Int) := by rw [Int.natCast_mul, Int.natCast_emod]; rfl
        have HMUL := Lib.hid hmul
        have HVV := HV.out
        rw [vgo, if_neg hnb, ← hz] at HVV
        generalize hy : c.toNat % 128 * o = y at *
        have hy0 : (0 : Int) ≤ (c.toNat : Int) % 128 * o := by rw [hmul]; omega
        have hy1 : (c.toNat : Int) % 128 * o ≤ 18446744073709551615 := by rw [hmul]; omega
        have hy2 : (acc : Int) + (c.toNat : Int) % 128 * o ≤ 18446744073709551615 := by rw [hmul]; omega
        have HY := Lib.hid hy
        have HZ := Lib.hid hz
        clear hy hz hA1 hA2 hp2 hmul h64 hnb
        by_cases h128 : 128 ≤ c.toNat
        · have HN := Lib.hid (show vgo bs (l.drop (i + 1)) (i + 1) (acc + y) (i + 1) = r by rw [if_pos h128] at HVV; exact HVV)
          clear HVV
          go_wp2_with fail
          refine wp_loop_rounds 8 ?_
          repeat (rw [rounds_succ]; go_wp2_with fail)
          go_round
          case rel =>
            refine ⟨i + 1, acc + y, (o * 128) % 18446744073709551616, by omega, by go_num, ?_, ?_, by go_num, by omega, ?_, HA1.out, HN.out⟩
            · rw [HMUL.out]; simp
            · first | rfl | simp
            · intro h
              have h1 := HP2.out
              have h2 : 2 ^ (7 * (i + 1)) ≤ 2 ^ 63 := Nat.pow_le_pow_right (by decide) (by omega)
              rw [h1] at h2 ⊢
              have h3 : (2 : Nat) ^ 63 = 9223372036854775808 := by decide
              omega
          case measure => simp [intOf]; omega
        · rw [if_neg h128] at HVV
          by_cases hz0 : c.toNat = 0 ∧ 0 < i
          · have HE := Lib.hid (show vgot r = (0, 0, 3) by rw [if_pos hz0] at HVV; rw [← HVV]; rfl)
            clear HVV
            obtain ⟨hc0, hi0⟩ := hz0
            have hcz : ((c.toNat : Int) == 0) = true := by simp [hc0]
            go_wp2_with fail
            refine wp_loop_rounds 8 ?_
            repeat (rw [rounds_succ]; go_wp2_with fail)
            go_ret3
            exact ⟨congrArg Ending.returned (by rw [HE.out]; rfl), rfl⟩
          · have HE := Lib.hid (show vgot r = (acc + y, i + 1, 0) by rw [if_neg hz0] at HVV; rw [← HVV]; rfl)
            clear HVV
            by_cases hc0 : c.toNat = 0
            · have hi0 : ¬ (0 < (i : Int)) := by omega
              have hcz : ((c.toNat : Int) == 0) = true := by simp [hc0]
              have HE2 := Lib.hid (show vgot r = (acc, i + 1, 0) by rw [HE.out, ← HY.out, hc0]; simp)
              go_wp2_with fail
              refine wp_loop_rounds 8 ?_
              repeat (rw [rounds_succ]; go_wp2_with fail)
              all_goals
                go_ret3
                exact ⟨congrArg Ending.returned (by rw [HE2.out]; rfl), rfl⟩
            · have hcz : ((c.toNat : Int) == 0) = false := by simp; omega
              go_wp2_with fail
              refine wp_loop_rounds 8 ?_
              repeat (rw [rounds_succ]; go_wp2_with fail)
              go_ret3
              exact ⟨congrArg Ending.returned (by rw [HE.out]; simp only [vgetV]; rw [Int.natCast_add, ← HMUL.out]; rfl), rfl⟩
      · have hcase : (bs = 32 ∧ i = 4) ∨ (bs = 32 ∧ i = 5) ∨ (bs = 64 ∧ i = 9) ∨ (bs = 64 ∧ i = 10) := by
          have := HB.out
          omega
        clear hroom
        rcases hcase with ⟨rfl, rfl⟩ | ⟨rfl, rfl⟩ | ⟨rfl, rfl⟩ | ⟨rfl, rfl⟩
        · by_cases hd : c.toNat % 128 < 16
          · have hdd : (c.toNat : Int) % 128 ≤ 15 := by omega
            have hnb : ¬ ((32 : Int) - 7 * (4 : Nat) ≤ 0 ∨ ((32 : Int) - 7 * (4 : Nat) < 7 ∧ c.toNat % 128 / 2 ^ ((32 : Int) - 7 * (4 : Nat)).toNat ≠ 0)) := by
              have e : c.toNat % 128 / 2 ^ ((32 : Int) - 7 * (4 : Nat)).toNat = 0 := Nat.div_eq_of_lt hd
              rw [e]; omega
            have hz := HO.out (by omega)
            obtain ⟨hA1, hA2⟩ := vacc_lt (32 : Int) HB.out acc (c.toNat % 128) 4 HACC.out (by omega) (by omega) (fun h => hnb (.inr h))
            have h64 : 2 ^ (32 : Int).toNat ≤ 18446744073709551616 := by rcases HB.out with h | h <;> rw [h] <;> decide
            have hp2 : 2 ^ (7 * (4 + 1)) = 2 ^ (7 * 4) * 128 := by rw [show 7 * (4 + 1) = 7 * 4 + 7 by omega, Nat.pow_add]
            rw [← hz] at hA1 hA2 hp2
            have hA3 : acc + c.toNat % 128 * o < 18446744073709551616 := by omega
            have HA1 := Lib.hid hA1
            have HP2 := Lib.hid hp2
            have hmul : ((c.toNat : Int) % 128 * o) = ((c.toNat % 128 * o : Nat) : Int) := by rw [Int.natCast_mul, Int.natCast_emod]; rfl
            have HMUL := Lib.hid hmul
            have HVV := HV.out
            rw [vgo, if_neg hnb, ← hz] at HVV
            generalize hy : c.toNat % 128 * o = y at *
            have hy0 : (0 : Int) ≤ (c.toNat : Int) % 128 * o := by rw [hmul]; omega
            have hy1 : (c.toNat : Int) % 128 * o ≤ 18446744073709551615 := by rw [hmul]; omega
            have hy2 : (acc : Int) + (c.toNat : Int) % 128 * o ≤ 18446744073709551615 := by rw [hmul]; omega
            have HY := Lib.hid hy
            have HZ := Lib.hid hz
            clear hy hz hA1 hA2 hp2 hmul h64 hnb
            by_cases h128 : 128 ≤ c.toNat
            · have HN := Lib.hid (show vgo (32 : Int) (l.drop (4 + 1)) (4 + 1) (acc + y) (4 + 1) = r by rw [if_pos h128] at HVV; exact HVV)
              clear HVV
              go_wp2_with fail
              refine wp_loop_rounds 5 ?_
              repeat (rw [rounds_succ]; go_wp2_with fail)
              go_round
              case rel =>
                refine ⟨4 + 1, acc + y, (o * 128) % 18446744073709551616, by omega, by go_num, ?_, ?_, by go_num, by omega, ?_, HA1.out, HN.out⟩
                · rw [HMUL.out]; simp
                · first | rfl | simp
                · intro h
                  have h1 := HP2.out
                  have h2 : 2 ^ (7 * (4 + 1)) ≤ 2 ^ 63 := Nat.pow_le_pow_right (by decide) (by omega)
                  rw [h1] at h2 ⊢
                  have h3 : (2 : Nat) ^ 63 = 9223372036854775808 := by decide
                  omega
              case measure => simp [intOf]; omega
            · rw [if_neg h128] at HVV
              by_cases hz0 : c.toNat = 0 ∧ 0 < 4
              · have HE := Lib.hid (show vgot r = (0, 0, 3) by rw [if_pos hz0] at HVV; rw [← HVV]; rfl)
                clear HVV
                obtain ⟨hc0, hi0⟩ := hz0
                have hcz : ((c.toNat : Int) == 0) = true := by simp [hc0]
                go_wp2_with fail
                refine wp_loop_rounds 5 ?_
                repeat (rw [rounds_succ]; go_wp2_with fail)
                go_ret3
                exact ⟨congrArg Ending.returned (by rw [HE.out]; rfl), rfl⟩
              · have HE := Lib.hid (show vgot r = (acc + y, 4 + 1, 0) by rw [if_neg hz0] at HVV; rw [← HVV]; rfl)
                clear HVV
                by_cases hc0 : c.toNat = 0
                · exact absurd ⟨hc0, by omega⟩ hz0
                · have hcz : ((c.toNat : Int) == 0) = false := by simp; omega
                  go_wp2_with fail
                  refine wp_loop_rounds 5 ?_
                  repeat (rw [rounds_succ]; go_wp2_with fail)
                  go_ret3
                  exact ⟨congrArg Ending.returned (by rw [HE.out]; simp only [vgetV]; rw [Int.natCast_add, ← HMUL.out]; rfl), rfl⟩
          · have HE := Lib.hid (show vgot r = (0, 0, 3) by rw [← HV.out, vgo, if_pos (by exact .inr ⟨by omega, by rw [show ((32 : Int) - 7 * ((4 : Nat) : Int)).toNat = 4 by decide]; omega⟩)]; rfl)
            have hdd : 15 < (c.toNat : Int) % 128 := by omega
            go_wp2_with fail
            refine wp_loop_rounds 5 ?_
            repeat (rw [rounds_succ]; go_wp2_with fail)
            go_ret3
            exact ⟨congrArg Ending.returned (by rw [HE.out]; rfl), rfl⟩
        · have HE := Lib.hid (show vgot r = (0, 0, 3) by rw [← HV.out, vgo, if_pos (by left; omega)]; rfl)
          go_wp2_with fail
          refine wp_loop_rounds 1 ?_
          repeat (rw [rounds_succ]; go_wp2_with fail)
          go_ret3
          exact ⟨congrArg Ending.returned (by rw [HE.out]; rfl), rfl⟩
        · by_cases hd : c.toNat % 128 < 2
          · have hdd : (c.toNat : Int) % 128 ≤ 1 := by omega
            have hnb : ¬ ((64 : Int) - 7 * (9 : Nat) ≤ 0 ∨ ((64 : Int) - 7 * (9 : Nat) < 7 ∧ c.toNat % 128 / 2 ^ ((64 : Int) - 7 * (9 : Nat)).toNat ≠ 0)) := by
              have e : c.toNat % 128 / 2 ^ ((64 : Int) - 7 * (9 : Nat)).toNat = 0 := Nat.div_eq_of_lt hd
              rw [e]; omega
            have hz := HO.out (by omega)
            obtain ⟨hA1, hA2⟩ := vacc_lt (64 : Int) HB.out acc (c.toNat % 128) 9 HACC.out (by omega) (by omega) (fun h => hnb (.inr h))
            have h64 : 2 ^ (64 : Int).toNat ≤ 18446744073709551616 := by rcases HB.out with h | h <;> rw [h] <;> decide
            have hp2 : 2 ^ (7 * (9 + 1)) = 2 ^ (7 * 9) * 128 := by rw [show 7 * (9 + 1) = 7 * 9 + 7 by omega, Nat.pow_add]
            rw [← hz] at hA1 hA2 hp2
            have hA3 : acc + c.toNat % 128 * o < 18446744073709551616 := by omega
            have HA1 := Lib.hid hA1
            have HP2 := Lib.hid hp2
            have hmul : ((c.toNat : Int) % 128 * o) = ((c.toNat % 128 * o : Nat) : Int) := by rw [Int.natCast_mul, Int.natCast_emod]; rfl
            have HMUL := Lib.hid hmul
            have HVV := HV.out
            rw [vgo, if_neg hnb, ← hz] at HVV
            generalize hy : c.toNat % 128 * o = y at *
            have hy0 : (0 : Int) ≤ (c.toNat : Int) % 128 * o := by rw [hmul]; omega
            have hy1 : (c.toNat : Int) % 128 * o ≤ 18446744073709551615 := by rw [hmul]; omega
            have hy2 : (acc : Int) + (c.toNat : Int) % 128 * o ≤ 18446744073709551615 := by rw [hmul]; omega
            have HY := Lib.hid hy
            have HZ := Lib.hid hz
            clear hy hz hA1 hA2 hp2 hmul h64 hnb
            by_cases h128 : 128 ≤ c.toNat
            · have HN := Lib.hid (show vgo (64 : Int) (l.drop (9 + 1)) (9 + 1) (acc + y) (9 + 1) = r by rw [if_pos h128] at HVV; exact HVV)
              clear HVV
              go_wp2_with fail
              refine wp_loop_rounds 2 ?_
              repeat (rw [rounds_succ]; go_wp2_with fail)
              go_round
              case rel =>
                refine ⟨9 + 1, acc + y, (o * 128) % 18446744073709551616, by omega, by go_num, ?_, ?_, by go_num, by omega, ?_, HA1.out, HN.out⟩
                · rw [HMUL.out]; simp
                · first | rfl | simp
                · intro h
                  have h1 := HP2.out
                  have h2 : 2 ^ (7 * (9 + 1)) ≤ 2 ^ 63 := Nat.pow_le_pow_right (by decide) (by omega)
                  rw [h1] at h2 ⊢
                  have h3 : (2 : Nat) ^ 63 = 9223372036854775808 := by decide
                  omega
              case measure => simp [intOf]; omega
            · rw [if_neg h128] at HVV
              by_cases hz0 : c.toNat = 0 ∧ 0 < 9
              · have HE := Lib.hid (show vgot r = (0, 0, 3) by rw [if_pos hz0] at HVV; rw [← HVV]; rfl)
                clear HVV
                obtain ⟨hc0, hi0⟩ := hz0
                have hcz : ((c.toNat : Int) == 0) = true := by simp [hc0]
                go_wp2_with fail
                refine wp_loop_rounds 2 ?_
                repeat (rw [rounds_succ]; go_wp2_with fail)
                go_ret3
                exact ⟨congrArg Ending.returned (by rw [HE.out]; rfl), rfl⟩
              · have HE := Lib.hid (show vgot r = (acc + y, 9 + 1, 0) by rw [if_neg hz0] at HVV; rw [← HVV]; rfl)
                clear HVV
                by_cases hc0 : c.toNat = 0
                · exact absurd ⟨hc0, by omega⟩ hz0
                · have hcz : ((c.toNat : Int) == 0) = false := by simp; omega
                  go_wp2_with fail
                  refine wp_loop_rounds 2 ?_
                  repeat (rw [rounds_succ]; go_wp2_with fail)
                  go_ret3
                  exact ⟨congrArg Ending.returned (by rw [HE.out]; simp only [vgetV]; rw [Int.natCast_add, ← HMUL.out]; rfl), rfl⟩
          · have HE := Lib.hid (show vgot r = (0, 0, 3) by rw [← HV.out, vgo, if_pos (by exact .inr ⟨by omega, by rw [show ((64 : Int) - 7 * ((9 : Nat) : Int)).toNat = 1 by decide]; omega⟩)]; rfl)
            have hdd : 1 < (c.toNat : Int) % 128 := by omega
            go_wp2_with fail
            refine wp_loop_rounds 2 ?_
            repeat (rw [rounds_succ]; go_wp2_with fail)
            go_ret3
            exact ⟨congrArg Ending.returned (by rw [HE.out]; rfl), rfl⟩
        · have HE := Lib.hid (show vgot r = (0, 0, 3) by rw [← HV.out, vgo, if_pos (by left; omega)]; rfl)
          go_wp2_with fail
          refine wp_loop_rounds 1 ?_
          repeat (rw [rounds_succ]; go_wp2_with fail)
          go_ret3
          exact ⟨congrArg Ending.returned (by rw [HE.out]; rfl), rfl⟩
    · have e1 : i = l.length := by omega
      have HE := Lib.hid (show vgot r = (0, 0, 1) by rw [e1, List.drop_length] at hv; rw [← hv]; rfl)
      clear hv ho hacc
      go_wp2_with fail
      go_ret3
      exact ⟨congrArg Ending.returned (by rw [HE.out]; rfl), rfl⟩
end Go.Proofs.Ytdlpmcbglmgpiaa.Sl
