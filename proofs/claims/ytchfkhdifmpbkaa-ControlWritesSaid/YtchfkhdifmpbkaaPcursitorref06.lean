/- Printed by g.py: package cursitorref06. -/
import Derived.Test.YtchfkhdifmpbkaaGb
import Derived.Test.YtchfkhdifmpbkaaT
import Derived.Deep.LoopGhost
import Derived.WalkLawsBesides
import Derived.IntWalk
import Derived.Deep.RegionHeld3
namespace Go.Proofs.Ytchfkhdifmpbkaa.Sl
open Go.RowKit
set_option linter.unusedVariables false
set_option linter.unusedSimpArgs false
attribute [local go_sem] bsOf_toList bsOf_size bsOf_app
def f_r06_Same_l1 (a0 : List Hd) (a1 : List Hd) : Nat → Nat → Option (Lp Bool Nat)
  | 0, _ => none
  | g12 + 1, k9 => if (k9 : Int) < (a0.length : Int) then ((a0[k9]?).bind fun x20 => (a1[k9]?).bind fun x27 => if x20.fKey = x27.fKey then (if x20.fValue.null = x27.fValue.null then (if x20.fValue.data = x27.fValue.data then (if -9223372036854775808 ≤ ((k9 : Int) + 1) ∧ ((k9 : Int) + 1) ≤ 9223372036854775807 then (f_r06_Same_l1 a0 a1 g12 (k9 + 1)) else none) else some (Lp.ret false)) else some (Lp.ret false)) else some (Lp.ret false)) else some (Lp.go k9)
def f_r06_Same (a0 : List Hd) (a1 : List Hd) : Option (Bool) := if (a0.length : Int) = (a1.length : Int) then ((f_r06_Same_l1 a0 a1 (((a0.length : Int)).toNat + 1) 0).bind fun e => match e with | .ret r => some r | .go k52 => some true) else some false
set_option maxRecDepth 100000 in
set_option maxHeartbeats 1000000 in
theorem f_r06_Same_spec (a0 : List Hd) (A1 : Option Addr) (c2 : Nat) (a1 : List Hd) (A3 : Option Addr) (c4 : Nat) (r : Bool) (h : f_r06_Same a0 a1 = some r) : SpecX Try.prog 86 #[.slice A1 a0.length c2, .slice A3 a1.length c4] (RX.and (RX.of (sliceRd 3 Hd_rd) [.slice A1 a0.length c2] a0) (RX.of (sliceRd 3 Hd_rd) [.slice A3 a1.length c4] a1)) (EmpR) (fun v A' N => v = .bool r ∧ A' = EmpR ∧ N = []) := by
  intro F w hA hX
  have HX1 := Lib.hid (RX.reads_left hX)
  have HX2 := Lib.hid (RX.reads_right hX)
  clear hX
  have HS0 := Lib.hid (St.start F w (Sep.one hA))
  clear hA
  unfold f_r06_Same at h
  have HH := Lib.hid h
  clear h
  go_enter Try.func86, Try.ntmps86
  by_cases c5 : (a0.length : Int) = (a1.length : Int)
  · have H := HH.out
    clear HH
    rw [if_pos c5] at H
    have HH := Lib.hid H
    clear H
    have b6 : ((a0.length : Int) == (a1.length : Int)) = true := beq_iff_eq.2 c5
    have b7 : ((a0.length : Int) != (a1.length : Int)) = false := bne_eq_false_iff_eq.2 c5
    clear c5
    go_wp2_with fail
    have H0 := HH.out
    clear HH
    obtain ⟨E10, hE, H⟩ := Option.bind_eq_some_iff.1 H0
    clear H0
    have HHo11 := Lib.hid H
    have HE := Lib.hid hE
    clear H hE
    go_loopg [5] (((a0.length : Int)).toNat + 1) (fun g12 s5 w8 => ∃ (k9 : Nat), s5 = .int .i64 (k9 : Int) ∧ Hid (St F w [EmpR] w8) ∧ Hid (f_r06_Same_l1 a0 a1 g12 k9 = some E10))
    case atStart => exact ⟨0, rfl, HS0, HE⟩
    case round =>
      obtain ⟨k9, rfl, HSr14, HL15⟩ := hrel
      obtain ⟨w8, rfl⟩ : ∃ w8 : World, w8 = wr := ⟨_, rfl⟩
      clear HE
      cases gk with
      | zero =>
        have H := HL15.out
        rw [f_r06_Same_l1] at H
        cases H
      | succ g12 =>
        have H := HL15.out
        clear HL15
        rw [f_r06_Same_l1] at H
        have HH := Lib.hid H
        clear H
        have H1 := HSr14.out
        clear HSr14
        have HS17 := Lib.hid H1
        clear H1
        by_cases c18 : (k9 : Int) < (a0.length : Int)
        · have H := HH.out
          clear HH
          rw [if_pos c18] at H
          have HH := Lib.hid H
          clear H
          have b19 : decide ((k9 : Int) < (a0.length : Int)) = true := decide_eq_true c18
          go_wp2_with fail
          have H0 := HH.out
          clear HH
          obtain ⟨x20, hx21, H⟩ := Option.bind_eq_some_iff.1 H0
          clear H0
          try dsimp only at H
          have hx21L := (List.getElem?_eq_some_iff.1 hx21).1
          have hx21H := Lib.hid hx21
          clear hx21
          have HH := Lib.hid H
          clear H
          obtain ⟨gz22, oz22, rfl, z22cs, z22l, z22c, z22nf, z22r⟩ := RX.elem (by decide) HX1.out hx21H.out
          obtain ⟨z22S, z22r, z22r2⟩ := z22r
          obtain rfl : z22cs = [.string (bsOf x20.fKey), .bool x20.fValue.null, .string (bsOf x20.fValue.data)] := z22r
          have z22B0 := Lib.hid (show w.cell? ⟨gz22, oz22 + k9 * 3, none⟩ = some (.string (bsOf x20.fKey)) from z22c 0 (by decide))
          have z22B1 := Lib.hid (show w.cell? ⟨gz22, oz22 + k9 * 3 + 1, none⟩ = some (.bool x20.fValue.null) from z22c 1 (by decide))
          have z22B2 := Lib.hid (show w.cell? ⟨gz22, oz22 + k9 * 3 + 2, none⟩ = some (.string (bsOf x20.fValue.data)) from z22c 2 (by decide))
          clear z22c
          have d23 : w8.cell? ⟨gz22, oz22 + k9 * 3, none⟩ = some (.string (bsOf x20.fKey)) := St.old2 HS17.out z22nf z22B0.out
          have d24 : w8.cell? ⟨gz22, oz22 + k9 * 3 + 1, none⟩ = some (.bool x20.fValue.null) := St.old2 HS17.out z22nf z22B1.out
          have d25 : w8.cell? ⟨gz22, oz22 + k9 * 3 + 2, none⟩ = some (.string (bsOf x20.fValue.data)) := St.old2 HS17.out z22nf z22B2.out
          have lt26 : gz22 < w8.heap.size := Nat.lt_of_lt_of_le z22nf.2 HS17.out.fr.size
          have H0 := HH.out
          clear HH
          obtain ⟨x27, hx28, H⟩ := Option.bind_eq_some_iff.1 H0
          clear H0
          try dsimp only at H
          have hx28L := (List.getElem?_eq_some_iff.1 hx28).1
          have hx28H := Lib.hid hx28
          clear hx28
          have HH := Lib.hid H
          clear H
          obtain ⟨gz29, oz29, rfl, z29cs, z29l, z29c, z29nf, z29r⟩ := RX.elem (by decide) HX2.out hx28H.out
          obtain ⟨z29S, z29r, z29r2⟩ := z29r
          obtain rfl : z29cs = [.string (bsOf x27.fKey), .bool x27.fValue.null, .string (bsOf x27.fValue.data)] := z29r
          have z29B0 := Lib.hid (show w.cell? ⟨gz29, oz29 + k9 * 3, none⟩ = some (.string (bsOf x27.fKey)) from z29c 0 (by decide))
          have z29B1 := Lib.hid (show w.cell? ⟨gz29, oz29 + k9 * 3 + 1, none⟩ = some (.bool x27.fValue.null) from z29c 1 (by decide))
          have z29B2 := Lib.hid (show w.cell? ⟨gz29, oz29 + k9 * 3 + 2, none⟩ = some (.string (bsOf x27.fValue.data)) from z29c 2 (by decide))
          clear z29c
          have d30 : w8.cell? ⟨gz29, oz29 + k9 * 3, none⟩ = some (.string (bsOf x27.fKey)) := St.old2 HS17.out z29nf z29B0.out
          have d31 : w8.cell? ⟨gz29, oz29 + k9 * 3 + 1, none⟩ = some (.bool x27.fValue.null) := St.old2 HS17.out z29nf z29B1.out
          have d32 : w8.cell? ⟨gz29, oz29 + k9 * 3 + 2, none⟩ = some (.string (bsOf x27.fValue.data)) := St.old2 HS17.out z29nf z29B2.out
          have lt33 : gz29 < w8.heap.size := Nat.lt_of_lt_of_le z29nf.2 HS17.out.fr.size
          by_cases c34 : x20.fKey = x27.fKey
          · have H := HH.out
            clear HH
            rw [if_pos c34] at H
            have HH := Lib.hid H
            clear H
            have b35 : (x20.fKey == x27.fKey) = true := beq_iff_eq.2 c34
            have b36 : (x20.fKey != x27.fKey) = false := bne_eq_false_iff_eq.2 c34
            clear c34
            by_cases c37 : x20.fValue.null = x27.fValue.null
            · have H := HH.out
              clear HH
              rw [if_pos c37] at H
              have HH := Lib.hid H
              clear H
              have b38 : (x20.fValue.null == x27.fValue.null) = true := beq_iff_eq.2 c37
              have b39 : (x20.fValue.null != x27.fValue.null) = false := bne_eq_false_iff_eq.2 c37
              clear c37
              by_cases c40 : x20.fValue.data = x27.fValue.data
              · have H := HH.out
                clear HH
                rw [if_pos c40] at H
                have HH := Lib.hid H
                clear H
                have b41 : (x20.fValue.data == x27.fValue.data) = true := beq_iff_eq.2 c40
                have b42 : (x20.fValue.data != x27.fValue.data) = false := bne_eq_false_iff_eq.2 c40
                clear c40
                go_quiet (fail)
                have H0 := HH.out
                clear HH
                obtain ⟨⟨c43_0, c43_1⟩, H⟩ := guard_some H0
                clear H0
                have HH := Lib.hid H
                clear H
                go_wp2_with fail
                go_roundg g12
                case measure => omega
                case rel => exact ⟨k9 + 1, by go_num, Lib.hid (((HS17.out.drewN _).front 0 rfl).keep 1), HH⟩
              · have H := HH.out
                clear HH
                rw [if_neg c40] at H
                have HH := Lib.hid H
                clear H
                have b44 : (x20.fValue.data == x27.fValue.data) = false := beq_eq_false_iff_ne.2 c40
                have b45 : (x20.fValue.data != x27.fValue.data) = true := bne_iff_ne.2 c40
                clear c40
                go_quiet (fail)
                go_wp2_with fail
                go_ret
                have H := HH.out
                clear HH
                have H := Option.some.inj H
                subst H
                have H := HHo11.out
                clear HHo11
                dsimp only at H
                have HH := Lib.hid H
                clear H
                have H := Option.some.inj HH.out
                clear HH
                subst H
                exact ⟨_, _, _, rfl, ⟨rfl, rfl, rfl⟩, ((HS17.out.drewN _).front 0 rfl).keep 1⟩
            · have H := HH.out
              clear HH
              rw [if_neg c37] at H
              have HH := Lib.hid H
              clear H
              have b46 : (x20.fValue.null == x27.fValue.null) = false := beq_eq_false_iff_ne.2 c37
              have b47 : (x20.fValue.null != x27.fValue.null) = true := bne_iff_ne.2 c37
              clear c37
              go_quiet (fail)
              go_wp2_with fail
              go_ret
              have H := HH.out
              clear HH
              have H := Option.some.inj H
              subst H
              have H := HHo11.out
              clear HHo11
              dsimp only at H
              have HH := Lib.hid H
              clear H
              have H := Option.some.inj HH.out
              clear HH
              subst H
              exact ⟨_, _, _, rfl, ⟨rfl, rfl, rfl⟩, ((HS17.out.drewN _).front 0 rfl).keep 1⟩
          · have H := HH.out
            clear HH
            rw [if_neg c34] at H
            have HH := Lib.hid H
            clear H
            have b48 : (x20.fKey == x27.fKey) = false := beq_eq_false_iff_ne.2 c34
            have b49 : (x20.fKey != x27.fKey) = true := bne_iff_ne.2 c34
            clear c34
            go_quiet (fail)
            go_wp2_with fail
            go_ret
            have H := HH.out
            clear HH
            have H := Option.some.inj H
            subst H
            have H := HHo11.out
            clear HHo11
            dsimp only at H
            have HH := Lib.hid H
            clear H
            have H := Option.some.inj HH.out
            clear HH
            subst H
            exact ⟨_, _, _, rfl, ⟨rfl, rfl, rfl⟩, ((HS17.out.drewN _).front 0 rfl).keep 1⟩
        · have H := HH.out
          clear HH
          rw [if_neg c18] at H
          have HH := Lib.hid H
          clear H
          have b50 : decide ((k9 : Int) < (a0.length : Int)) = false := decide_eq_false c18
          have H := Option.some.inj HH.out
          clear HH
          subst H
          have H := HHo11.out
          clear HHo11
          try dsimp only at H
          have HH := Lib.hid H
          clear H
          go_wp2_with fail
          go_ret
          have H := Option.some.inj HH.out
          clear HH
          subst H
          exact ⟨_, _, _, rfl, ⟨rfl, rfl, rfl⟩, (HS17.out.front 0 rfl).keep 1⟩
  · have H := HH.out
    clear HH
    rw [if_neg c5] at H
    have HH := Lib.hid H
    clear H
    have b53 : ((a0.length : Int) == (a1.length : Int)) = false := beq_eq_false_iff_ne.2 c5
    have b54 : ((a0.length : Int) != (a1.length : Int)) = true := bne_iff_ne.2 c5
    clear c5
    go_wp2_with fail
    go_ret
    have H := Option.some.inj HH.out
    clear HH
    subst H
    exact ⟨_, _, _, rfl, ⟨rfl, rfl, rfl⟩, (HS0.out.front 0 rfl).keep 1⟩
end Go.Proofs.Ytchfkhdifmpbkaa.Sl
