/- Printed by g.py: package cursitorlaw06. -/
import Derived.Test.YtchfkhdifmpbkaaGb
import Derived.Test.YtchfkhdifmpbkaaT
import Derived.Deep.LoopGhost
import Derived.WalkLawsBesides
import Derived.IntWalk
import Derived.Deep.RegionHeld3
namespace Go.Proofs.Ytchfkhdifmpbkaa.Sl
open Go.RowKit
set_option linter.unusedVariables false
set_option linter.unusedSimpArgs false
attribute [local go_sem] bsOf_toList bsOf_size bsOf_app
def f_l06_Small_l1 : List Hd → Int → Option (Lp Int Int)
  | [], y4 => some (Lp.go y4)
  | x9 :: xs, y4 => if -9223372036854775808 ≤ ((x9.fKey.length : Int) + (x9.fValue.data.length : Int)) ∧ ((x9.fKey.length : Int) + (x9.fValue.data.length : Int)) ≤ 9223372036854775807 then (if -9223372036854775808 ≤ (((x9.fKey.length : Int) + (x9.fValue.data.length : Int)) + 1) ∧ (((x9.fKey.length : Int) + (x9.fValue.data.length : Int)) + 1) ≤ 9223372036854775807 then (if -9223372036854775808 ≤ (y4 + (((x9.fKey.length : Int) + (x9.fValue.data.length : Int)) + 1)) ∧ (y4 + (((x9.fKey.length : Int) + (x9.fValue.data.length : Int)) + 1)) ≤ 9223372036854775807 then (if (y4 + (((x9.fKey.length : Int) + (x9.fValue.data.length : Int)) + 1)) > 1000 then some (Lp.ret 0) else (f_l06_Small_l1 xs (y4 + (((x9.fKey.length : Int) + (x9.fValue.data.length : Int)) + 1)))) else none) else none) else none
def f_l06_Small (a0 : List Hd) : Option (Int) := (f_l06_Small_l1 a0 0).bind fun e => match e with | .ret r => some r | .go y28 => some 1
set_option maxRecDepth 100000 in
set_option maxHeartbeats 1000000 in
theorem f_l06_Small_spec (a0 : List Hd) (A1 : Option Addr) (c2 : Nat) (r : Int) (h : f_l06_Small a0 = some r) : SpecX Try.prog 81 #[.slice A1 a0.length c2] (RX.of (sliceRd 3 Hd_rd) [.slice A1 a0.length c2] a0) (EmpR) (fun v A' N => v = .int .i64 r ∧ A' = EmpR ∧ N = []) := by
  intro F w hA hX
  have HX1 := Lib.hid hX
  clear hX
  have HS0 := Lib.hid (St.start F w (Sep.one hA))
  clear hA
  unfold f_l06_Small at h
  have HH := Lib.hid h
  clear h
  go_enter Try.func81, Try.ntmps81
  go_wp2_with fail
  have H0 := HH.out
  clear HH
  obtain ⟨E6, hE, H⟩ := Option.bind_eq_some_iff.1 H0
  clear H0
  have HHo7 := Lib.hid H
  have HE := Lib.hid hE
  clear H hE
  have hm30 := RX.len_le HX1.out
  go_loopg [3, 8] (a0.length) (fun g8 s3 s8 w3 => ∃ (y4 : Int) (k5 : Nat), k5 + g8 = a0.length ∧ s3 = .int .i64 y4 ∧ s8 = .int .i64 (k5 : Int) ∧ Hid (St F w [EmpR] w3) ∧ Hid (f_l06_Small_l1 (a0.drop k5) y4 = some E6))
  case atStart => exact ⟨0, 0, by simp, rfl, rfl, HS0, Lib.hid (by rw [List.drop_zero]; exact HE.out)⟩
  case round =>
    obtain ⟨y4, k5, hkg12, rfl, rfl, HSr10, HL11⟩ := hrel
    obtain ⟨w3, rfl⟩ : ∃ w3 : World, w3 = wr := ⟨_, rfl⟩
    clear HE
    cases gk with
    | zero =>
      have H := HL11.out
      clear HL11
      rw [List.drop_of_length_le (by omega), f_l06_Small_l1] at H
      have HH := Lib.hid H
      clear H
      have hkg12ge : ¬ ((k5 : Int) < (a0.length : Int)) := by omega
      have H1 := HSr10.out
      clear HSr10
      have HS31 := Lib.hid H1
      clear H1
      have H := Option.some.inj HH.out
      clear HH
      subst H
      have H := HHo7.out
      clear HHo7
      try dsimp only at H
      have HH := Lib.hid H
      clear H
      go_wp2_with fail
      go_ret
      have H := Option.some.inj HH.out
      clear HH
      subst H
      exact ⟨_, _, _, rfl, ⟨rfl, rfl, rfl⟩, (HS31.out.front 0 rfl).keep 1⟩
    | succ g8 =>
      have H := HL11.out
      clear HL11
      obtain ⟨x9, hxx9⟩ : ∃ x, a0[k5]? = some x := ⟨_, List.getElem?_eq_getElem (by omega)⟩
      rw [drop_cons hxx9, f_l06_Small_l1] at H
      have hxx9H := Lib.hid hxx9
      clear hxx9
      have HH := Lib.hid H
      clear H
      have hkg12lt : (k5 : Int) < (a0.length : Int) := by omega
      have H1 := HSr10.out
      clear HSr10
      have HS13 := Lib.hid H1
      clear H1
      obtain ⟨gz14, oz14, rfl, z14cs, z14l, z14c, z14nf, z14r⟩ := RX.elem (by decide) HX1.out hxx9H.out
      obtain ⟨z14S, z14r, z14r2⟩ := z14r
      obtain rfl : z14cs = [.string (bsOf x9.fKey), .bool x9.fValue.null, .string (bsOf x9.fValue.data)] := z14r
      have z14B0 := Lib.hid (show w.cell? ⟨gz14, oz14 + k5 * 3, none⟩ = some (.string (bsOf x9.fKey)) from z14c 0 (by decide))
      have z14B1 := Lib.hid (show w.cell? ⟨gz14, oz14 + k5 * 3 + 1, none⟩ = some (.bool x9.fValue.null) from z14c 1 (by decide))
      have z14B2 := Lib.hid (show w.cell? ⟨gz14, oz14 + k5 * 3 + 2, none⟩ = some (.string (bsOf x9.fValue.data)) from z14c 2 (by decide))
      clear z14c
      have d15 : w3.cell? ⟨gz14, oz14 + k5 * 3, none⟩ = some (.string (bsOf x9.fKey)) := St.old2 HS13.out z14nf z14B0.out
      have d16 : w3.cell? ⟨gz14, oz14 + k5 * 3 + 1, none⟩ = some (.bool x9.fValue.null) := St.old2 HS13.out z14nf z14B1.out
      have d17 : w3.cell? ⟨gz14, oz14 + k5 * 3 + 2, none⟩ = some (.string (bsOf x9.fValue.data)) := St.old2 HS13.out z14nf z14B2.out
      have lt18 : gz14 < w3.heap.size := Nat.lt_of_lt_of_le z14nf.2 HS13.out.fr.size
      have H0 := HH.out
      clear HH
      obtain ⟨⟨c19_0, c19_1⟩, H⟩ := guard_some H0
      clear H0
      have HH := Lib.hid H
      clear H
      have H0 := HH.out
      clear HH
      obtain ⟨⟨c20_0, c20_1⟩, H⟩ := guard_some H0
      clear H0
      have HH := Lib.hid H
      clear H
      have H0 := HH.out
      clear HH
      obtain ⟨⟨c21_0, c21_1⟩, H⟩ := guard_some H0
      clear H0
      have HH := Lib.hid H
      clear H
      by_cases c22 : (y4 + (((x9.fKey.length : Int) + (x9.fValue.data.length : Int)) + 1)) > 1000
      · have H := HH.out
        clear HH
        rw [if_pos c22] at H
        have HH := Lib.hid H
        clear H
        have b23 : decide (1000 < (y4 + (((x9.fKey.length : Int) + (x9.fValue.data.length : Int)) + 1))) = true := decide_eq_true c22
        go_wp2_with fail
        have HS240 := (HS13.out).alloc #[.string (bsOf x9.fKey), .bool x9.fValue.null, .string (bsOf x9.fValue.data)] 145
        try simp only [World.size_alloc, World.size_setCell] at HS240
        have HS24 := Lib.hid HS240
        clear HS240
        go_ret
        have H := HH.out
        clear HH
        have H := Option.some.inj H
        subst H
        have H := HHo7.out
        clear HHo7
        dsimp only at H
        have HH := Lib.hid H
        clear H
        have H := Option.some.inj HH.out
        clear HH
        subst H
        exact ⟨_, _, _, rfl, ⟨rfl, rfl, rfl⟩, (HS24.out.front 1 rfl).keep 1⟩
      · have H := HH.out
        clear HH
        rw [if_neg c22] at H
        have HH := Lib.hid H
        clear H
        have b25 : decide (1000 < (y4 + (((x9.fKey.length : Int) + (x9.fValue.data.length : Int)) + 1))) = false := decide_eq_false c22
        go_wp2_with fail
        have HS260 := (HS13.out).alloc #[.string (bsOf x9.fKey), .bool x9.fValue.null, .string (bsOf x9.fValue.data)] 145
        try simp only [World.size_alloc, World.size_setCell] at HS260
        have HS26 := Lib.hid HS260
        clear HS260
        go_roundg g8
        case measure => omega
        case rel => exact ⟨(y4 + (((x9.fKey.length : Int) + (x9.fValue.data.length : Int)) + 1)), k5 + 1, by omega, rfl, by go_num, Lib.hid ((HS26.out.front 1 rfl).keep 1), HH⟩
end Go.Proofs.Ytchfkhdifmpbkaa.Sl
