/- Printed by g.py: package cursitorref07. -/
import Derived.Test.YtchfkhdifmpbkaaGb
import Derived.Test.YtchfkhdifmpbkaaT
import Derived.Test.YtchfkhdifmpbkaaPcursitorref06
import Derived.Deep.LoopGhost
import Derived.WalkLawsBesides
import Derived.IntWalk
import Derived.Deep.RegionHeld3
namespace Go.Proofs.Ytchfkhdifmpbkaa.Sl
open Go.RowKit
set_option linter.unusedVariables false
set_option linter.unusedSimpArgs false
attribute [local go_sem] bsOf_toList bsOf_size bsOf_app
def f_r07_Same (a0 : Rec) (a1 : Rec) : Option (Bool) := if a0.fTime = a1.fTime then (if a0.fOffset = a1.fOffset then (if a0.fKey.null = a1.fKey.null then (if a0.fKey.data = a1.fKey.data then (if a0.fValue.null = a1.fValue.null then (if a0.fValue.data = a1.fValue.data then ((f_r06_Same a0.fHeaders a1.fHeaders).bind fun x23 => some x23) else some false) else some false) else some false) else some false) else some false) else some false
set_option maxRecDepth 100000 in
set_option maxHeartbeats 1000000 in
theorem f_r07_Same_spec (a0 : Rec) (A1 : Option Addr) (c2 : Nat) (a1 : Rec) (A3 : Option Addr) (c4 : Nat) (r : Bool) (h : f_r07_Same a0 a1 = some r) : SpecX Try.prog 50 #[.agg #[.int .i64 a0.fTime, .int .i64 a0.fOffset, .bool a0.fKey.null, .string (bsOf a0.fKey.data), .bool a0.fValue.null, .string (bsOf a0.fValue.data), .slice A1 a0.fHeaders.length c2], .agg #[.int .i64 a1.fTime, .int .i64 a1.fOffset, .bool a1.fKey.null, .string (bsOf a1.fKey.data), .bool a1.fValue.null, .string (bsOf a1.fValue.data), .slice A3 a1.fHeaders.length c4]] (RX.and (RX.of (sliceRd 3 Hd_rd) [.slice A1 a0.fHeaders.length c2] a0.fHeaders) (RX.of (sliceRd 3 Hd_rd) [.slice A3 a1.fHeaders.length c4] a1.fHeaders)) (EmpR) (fun v A' N => v = .bool r ∧ A' = EmpR ∧ N = []) := by
  intro F w hA hX
  have HX1 := Lib.hid (RX.reads_left hX)
  have HX2 := Lib.hid (RX.reads_right hX)
  clear hX
  have HS0 := Lib.hid (St.start F w (Sep.one hA))
  clear hA
  unfold f_r07_Same at h
  have HH := Lib.hid h
  clear h
  go_enter Try.func50, Try.ntmps50
  by_cases c5 : a0.fTime = a1.fTime
  · have H := HH.out
    clear HH
    rw [if_pos c5] at H
    have HH := Lib.hid H
    clear H
    have b6 : (a0.fTime == a1.fTime) = true := beq_iff_eq.2 c5
    have b7 : (a0.fTime != a1.fTime) = false := bne_eq_false_iff_eq.2 c5
    clear c5
    by_cases c8 : a0.fOffset = a1.fOffset
    · have H := HH.out
      clear HH
      rw [if_pos c8] at H
      have HH := Lib.hid H
      clear H
      have b9 : (a0.fOffset == a1.fOffset) = true := beq_iff_eq.2 c8
      have b10 : (a0.fOffset != a1.fOffset) = false := bne_eq_false_iff_eq.2 c8
      clear c8
      by_cases c11 : a0.fKey.null = a1.fKey.null
      · have H := HH.out
        clear HH
        rw [if_pos c11] at H
        have HH := Lib.hid H
        clear H
        have b12 : (a0.fKey.null == a1.fKey.null) = true := beq_iff_eq.2 c11
        have b13 : (a0.fKey.null != a1.fKey.null) = false := bne_eq_false_iff_eq.2 c11
        clear c11
        by_cases c14 : a0.fKey.data = a1.fKey.data
        · have H := HH.out
          clear HH
          rw [if_pos c14] at H
          have HH := Lib.hid H
          clear H
          have b15 : (a0.fKey.data == a1.fKey.data) = true := beq_iff_eq.2 c14
          have b16 : (a0.fKey.data != a1.fKey.data) = false := bne_eq_false_iff_eq.2 c14
          clear c14
          by_cases c17 : a0.fValue.null = a1.fValue.null
          · have H := HH.out
            clear HH
            rw [if_pos c17] at H
            have HH := Lib.hid H
            clear H
            have b18 : (a0.fValue.null == a1.fValue.null) = true := beq_iff_eq.2 c17
            have b19 : (a0.fValue.null != a1.fValue.null) = false := bne_eq_false_iff_eq.2 c17
            clear c17
            by_cases c20 : a0.fValue.data = a1.fValue.data
            · have H := HH.out
              clear HH
              rw [if_pos c20] at H
              have HH := Lib.hid H
              clear H
              have b21 : (a0.fValue.data == a1.fValue.data) = true := beq_iff_eq.2 c20
              have b22 : (a0.fValue.data != a1.fValue.data) = false := bne_eq_false_iff_eq.2 c20
              clear c20
              go_wp2_with fail
              have H0 := HH.out
              clear HH
              obtain ⟨x23, hx24, H⟩ := Option.bind_eq_some_iff.1 H0
              clear H0
              try dsimp only at H
              have hx24H := Lib.hid hx24
              clear hx24
              have HH := Lib.hid H
              clear H
              have HS250 := ((HS0.out).alloc #[.int .i64 a0.fTime, .int .i64 a0.fOffset, .bool a0.fKey.null, .string (bsOf a0.fKey.data), .bool a0.fValue.null, .string (bsOf a0.fValue.data), .slice A1 a0.fHeaders.length c2] 65).alloc #[.int .i64 a1.fTime, .int .i64 a1.fOffset, .bool a1.fKey.null, .string (bsOf a1.fKey.data), .bool a1.fValue.null, .string (bsOf a1.fValue.data), .slice A3 a1.fHeaders.length c4] 65
              try simp only [World.size_alloc, World.size_setCell] at HS250
              have HS25 := Lib.hid HS250
              clear HS250
              refine (St.callE HS25.out (f_r06_Same_spec a0.fHeaders _ _ a1.fHeaders _ _ _ hx24H.out) (RX.reads_and (SrcE.old HS25.out HX1.out) (SrcE.old HS25.out HX2.out))).mono ?_
              rintro e w26 ⟨v, A', N, rfl, ⟨rfl, rfl, rfl⟩, H1⟩
              clear hx24H HS25
              try simp only [List.cons_append, List.nil_append, List.set_cons_zero, List.set_cons_succ] at H1
              have HS27 := Lib.hid H1
              clear H1
              go_wp2_with fail
              go_ret
              have H := Option.some.inj HH.out
              clear HH
              subst H
              exact ⟨_, _, _, rfl, ⟨rfl, rfl, rfl⟩, (HS27.out.front 2 rfl).keep 1⟩
            · have H := HH.out
              clear HH
              rw [if_neg c20] at H
              have HH := Lib.hid H
              clear H
              have b28 : (a0.fValue.data == a1.fValue.data) = false := beq_eq_false_iff_ne.2 c20
              have b29 : (a0.fValue.data != a1.fValue.data) = true := bne_iff_ne.2 c20
              clear c20
              go_wp2_with fail
              have HS300 := ((HS0.out).alloc #[.int .i64 a0.fTime, .int .i64 a0.fOffset, .bool a0.fKey.null, .string (bsOf a0.fKey.data), .bool a0.fValue.null, .string (bsOf a0.fValue.data), .slice A1 a0.fHeaders.length c2] 65).alloc #[.int .i64 a1.fTime, .int .i64 a1.fOffset, .bool a1.fKey.null, .string (bsOf a1.fKey.data), .bool a1.fValue.null, .string (bsOf a1.fValue.data), .slice A3 a1.fHeaders.length c4] 65
              try simp only [World.size_alloc, World.size_setCell] at HS300
              have HS30 := Lib.hid HS300
              clear HS300
              go_ret
              have H := Option.some.inj HH.out
              clear HH
              subst H
              exact ⟨_, _, _, rfl, ⟨rfl, rfl, rfl⟩, (HS30.out.front 2 rfl).keep 1⟩
          · have H := HH.out
            clear HH
            rw [if_neg c17] at H
            have HH := Lib.hid H
            clear H
            have b31 : (a0.fValue.null == a1.fValue.null) = false := beq_eq_false_iff_ne.2 c17
            have b32 : (a0.fValue.null != a1.fValue.null) = true := bne_iff_ne.2 c17
            clear c17
            go_wp2_with fail
            have HS330 := ((HS0.out).alloc #[.int .i64 a0.fTime, .int .i64 a0.fOffset, .bool a0.fKey.null, .string (bsOf a0.fKey.data), .bool a0.fValue.null, .string (bsOf a0.fValue.data), .slice A1 a0.fHeaders.length c2] 65).alloc #[.int .i64 a1.fTime, .int .i64 a1.fOffset, .bool a1.fKey.null, .string (bsOf a1.fKey.data), .bool a1.fValue.null, .string (bsOf a1.fValue.data), .slice A3 a1.fHeaders.length c4] 65
            try simp only [World.size_alloc, World.size_setCell] at HS330
            have HS33 := Lib.hid HS330
            clear HS330
            go_ret
            have H := Option.some.inj HH.out
            clear HH
            subst H
            exact ⟨_, _, _, rfl, ⟨rfl, rfl, rfl⟩, (HS33.out.front 2 rfl).keep 1⟩
        · have H := HH.out
          clear HH
          rw [if_neg c14] at H
          have HH := Lib.hid H
          clear H
          have b34 : (a0.fKey.data == a1.fKey.data) = false := beq_eq_false_iff_ne.2 c14
          have b35 : (a0.fKey.data != a1.fKey.data) = true := bne_iff_ne.2 c14
          clear c14
          go_wp2_with fail
          have HS360 := ((HS0.out).alloc #[.int .i64 a0.fTime, .int .i64 a0.fOffset, .bool a0.fKey.null, .string (bsOf a0.fKey.data), .bool a0.fValue.null, .string (bsOf a0.fValue.data), .slice A1 a0.fHeaders.length c2] 65).alloc #[.int .i64 a1.fTime, .int .i64 a1.fOffset, .bool a1.fKey.null, .string (bsOf a1.fKey.data), .bool a1.fValue.null, .string (bsOf a1.fValue.data), .slice A3 a1.fHeaders.length c4] 65
          try simp only [World.size_alloc, World.size_setCell] at HS360
          have HS36 := Lib.hid HS360
          clear HS360
          go_ret
          have H := Option.some.inj HH.out
          clear HH
          subst H
          exact ⟨_, _, _, rfl, ⟨rfl, rfl, rfl⟩, (HS36.out.front 2 rfl).keep 1⟩
      · have H := HH.out
        clear HH
        rw [if_neg c11] at H
        have HH := Lib.hid H
        clear H
        have b37 : (a0.fKey.null == a1.fKey.null) = false := beq_eq_false_iff_ne.2 c11
        have b38 : (a0.fKey.null != a1.fKey.null) = true := bne_iff_ne.2 c11
        clear c11
        go_wp2_with fail
        have HS390 := ((HS0.out).alloc #[.int .i64 a0.fTime, .int .i64 a0.fOffset, .bool a0.fKey.null, .string (bsOf a0.fKey.data), .bool a0.fValue.null, .string (bsOf a0.fValue.data), .slice A1 a0.fHeaders.length c2] 65).alloc #[.int .i64 a1.fTime, .int .i64 a1.fOffset, .bool a1.fKey.null, .string (bsOf a1.fKey.data), .bool a1.fValue.null, .string (bsOf a1.fValue.data), .slice A3 a1.fHeaders.length c4] 65
        try simp only [World.size_alloc, World.size_setCell] at HS390
        have HS39 := Lib.hid HS390
        clear HS390
        go_ret
        have H := Option.some.inj HH.out
        clear HH
        subst H
        exact ⟨_, _, _, rfl, ⟨rfl, rfl, rfl⟩, (HS39.out.front 2 rfl).keep 1⟩
    · have H := HH.out
      clear HH
      rw [if_neg c8] at H
      have HH := Lib.hid H
      clear H
      have b40 : (a0.fOffset == a1.fOffset) = false := beq_eq_false_iff_ne.2 c8
      have b41 : (a0.fOffset != a1.fOffset) = true := bne_iff_ne.2 c8
      clear c8
      go_wp2_with fail
      have HS420 := ((HS0.out).alloc #[.int .i64 a0.fTime, .int .i64 a0.fOffset, .bool a0.fKey.null, .string (bsOf a0.fKey.data), .bool a0.fValue.null, .string (bsOf a0.fValue.data), .slice A1 a0.fHeaders.length c2] 65).alloc #[.int .i64 a1.fTime, .int .i64 a1.fOffset, .bool a1.fKey.null, .string (bsOf a1.fKey.data), .bool a1.fValue.null, .string (bsOf a1.fValue.data), .slice A3 a1.fHeaders.length c4] 65
      try simp only [World.size_alloc, World.size_setCell] at HS420
      have HS42 := Lib.hid HS420
      clear HS420
      go_ret
      have H := Option.some.inj HH.out
      clear HH
      subst H
      exact ⟨_, _, _, rfl, ⟨rfl, rfl, rfl⟩, (HS42.out.front 2 rfl).keep 1⟩
  · have H := HH.out
    clear HH
    rw [if_neg c5] at H
    have HH := Lib.hid H
    clear H
    have b43 : (a0.fTime == a1.fTime) = false := beq_eq_false_iff_ne.2 c5
    have b44 : (a0.fTime != a1.fTime) = true := bne_iff_ne.2 c5
    clear c5
    go_wp2_with fail
    have HS450 := ((HS0.out).alloc #[.int .i64 a0.fTime, .int .i64 a0.fOffset, .bool a0.fKey.null, .string (bsOf a0.fKey.data), .bool a0.fValue.null, .string (bsOf a0.fValue.data), .slice A1 a0.fHeaders.length c2] 65).alloc #[.int .i64 a1.fTime, .int .i64 a1.fOffset, .bool a1.fKey.null, .string (bsOf a1.fKey.data), .bool a1.fValue.null, .string (bsOf a1.fValue.data), .slice A3 a1.fHeaders.length c4] 65
    try simp only [World.size_alloc, World.size_setCell] at HS450
    have HS45 := Lib.hid HS450
    clear HS450
    go_ret
    have H := Option.some.inj HH.out
    clear HH
    subst H
    exact ⟨_, _, _, rfl, ⟨rfl, rfl, rfl⟩, (HS45.out.front 2 rfl).keep 1⟩
end Go.Proofs.Ytchfkhdifmpbkaa.Sl
