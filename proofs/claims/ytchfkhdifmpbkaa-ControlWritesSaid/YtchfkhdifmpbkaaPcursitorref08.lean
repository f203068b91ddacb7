/- Printed by g.py: package cursitorref08. -/
import Derived.Test.YtchfkhdifmpbkaaGb
import Derived.Test.YtchfkhdifmpbkaaT
import Derived.Deep.LoopGhost
import Derived.WalkLawsBesides
import Derived.IntWalk
import Derived.Deep.RegionHeld3
namespace Go.Proofs.Ytchfkhdifmpbkaa.Sl
open Go.RowKit
set_option linter.unusedVariables false
set_option linter.unusedSimpArgs false
attribute [local go_sem] bsOf_toList bsOf_size bsOf_app
def f_r08_ReadKey (a0 : List UInt8) : Option (Int × Int) := if (a0.length : Int) < 2 then some (0, 1) else (if 2 ≤ (a0.length : Int) then ((gRInt (a0.take 2)).bind fun x6 => if x6 = 0 then (if (a0.length : Int) < 4 then some (0, 1) else (if 4 ≤ (a0.length : Int) then ((gRInt ((a0.drop 2).take 2)).bind fun x14 => if x14 = 0 then (if (a0.length : Int) > 4 then some (0, 2) else some (0, 0)) else (if x14 = 1 then (if (a0.length : Int) > 4 then some (0, 2) else some (1, 0)) else some (0, 12))) else none)) else some (0, 7)) else none)
set_option maxRecDepth 100000 in
set_option maxHeartbeats 1000000 in
theorem f_r08_ReadKey_spec (a0 : List UInt8) (r : Int × Int) (h : f_r08_ReadKey a0 = some r) : SpecX Try.prog 83 #[.string (bsOf a0)] .triv (EmpR) (fun v A' N => v = .tuple #[.int .i64 r.1, .int .i64 r.2] ∧ A' = EmpR ∧ N = []) := by
  intro F w hA hX
  clear hX
  have HS0 := Lib.hid (St.start F w (Sep.one hA))
  clear hA
  unfold f_r08_ReadKey at h
  have HH := Lib.hid h
  clear h
  go_enter Try.func83, Try.ntmps83
  by_cases c1 : (a0.length : Int) < 2
  · have H := HH.out
    clear HH
    rw [if_pos c1] at H
    have HH := Lib.hid H
    clear H
    have b2 : decide ((a0.length : Int) < 2) = true := decide_eq_true c1
    go_wp2_with fail
    go_ret2
    have H := Option.some.inj HH.out
    clear HH
    subst H
    exact ⟨_, _, _, rfl, ⟨rfl, rfl, rfl⟩, (HS0.out.front 0 rfl).keep 1⟩
  · have H := HH.out
    clear HH
    rw [if_neg c1] at H
    have HH := Lib.hid H
    clear H
    have b3 : decide ((a0.length : Int) < 2) = false := decide_eq_false c1
    have H0 := HH.out
    clear HH
    obtain ⟨c5_0, H⟩ := guard_some H0
    clear H0
    have HH := Lib.hid H
    clear H
    have e4 : (bsOf a0).extract 0 2 = bsOf (a0.take 2) := bsOf_extract0 _ _
    go_wp2_with fail
    have H0 := HH.out
    clear HH
    obtain ⟨x6, hx7, H⟩ := Option.bind_eq_some_iff.1 H0
    clear H0
    try dsimp only at H
    have hx7H := Lib.hid hx7
    clear hx7
    have HH := Lib.hid H
    clear H
    refine (gRInt_spec (a0.take 2) _ hx7H.out _).mono ?_
    rintro e w1 ⟨rfl, rfl⟩
    clear hx7H
    by_cases c8 : x6 = 0
    · have H := HH.out
      clear HH
      rw [if_pos c8] at H
      have HH := Lib.hid H
      clear H
      subst c8
      by_cases c9 : (a0.length : Int) < 4
      · have H := HH.out
        clear HH
        rw [if_pos c9] at H
        have HH := Lib.hid H
        clear H
        have b10 : decide ((a0.length : Int) < 4) = true := decide_eq_true c9
        go_wp2_with fail
        go_ret2
        have H := Option.some.inj HH.out
        clear HH
        subst H
        exact ⟨_, _, _, rfl, ⟨rfl, rfl, rfl⟩, (HS0.out.front 0 rfl).keep 1⟩
      · have H := HH.out
        clear HH
        rw [if_neg c9] at H
        have HH := Lib.hid H
        clear H
        have b11 : decide ((a0.length : Int) < 4) = false := decide_eq_false c9
        have H0 := HH.out
        clear HH
        obtain ⟨c13_0, H⟩ := guard_some H0
        clear H0
        have HH := Lib.hid H
        clear H
        have e12 : (bsOf a0).extract 2 4 = bsOf ((a0.drop 2).take 2) := bsOf_extract _ _ _
        go_wp2_with fail
        have H0 := HH.out
        clear HH
        obtain ⟨x14, hx15, H⟩ := Option.bind_eq_some_iff.1 H0
        clear H0
        try dsimp only at H
        have hx15H := Lib.hid hx15
        clear hx15
        have HH := Lib.hid H
        clear H
        refine (gRInt_spec ((a0.drop 2).take 2) _ hx15H.out _).mono ?_
        rintro e w1 ⟨rfl, rfl⟩
        clear hx15H
        by_cases c16 : x14 = 0
        · have H := HH.out
          clear HH
          rw [if_pos c16] at H
          have HH := Lib.hid H
          clear H
          subst c16
          by_cases c17 : (a0.length : Int) > 4
          · have H := HH.out
            clear HH
            rw [if_pos c17] at H
            have HH := Lib.hid H
            clear H
            have b18 : decide (4 < (a0.length : Int)) = true := decide_eq_true c17
            go_wp2_with fail
            go_ret2
            have H := Option.some.inj HH.out
            clear HH
            subst H
            exact ⟨_, _, _, rfl, ⟨rfl, rfl, rfl⟩, (HS0.out.front 0 rfl).keep 1⟩
          · have H := HH.out
            clear HH
            rw [if_neg c17] at H
            have HH := Lib.hid H
            clear H
            have b19 : decide (4 < (a0.length : Int)) = false := decide_eq_false c17
            go_wp2_with fail
            go_ret2
            have H := Option.some.inj HH.out
            clear HH
            subst H
            exact ⟨_, _, _, rfl, ⟨rfl, rfl, rfl⟩, (HS0.out.front 0 rfl).keep 1⟩
        · have H := HH.out
          clear HH
          rw [if_neg c16] at H
          have HH := Lib.hid H
          clear H
          have b20 : (x14 == 0) = false := beq_eq_false_iff_ne.2 c16
          have b21 : (x14 != 0) = true := bne_iff_ne.2 c16
          clear c16
          by_cases c22 : x14 = 1
          · have H := HH.out
            clear HH
            rw [if_pos c22] at H
            have HH := Lib.hid H
            clear H
            subst c22
            by_cases c23 : (a0.length : Int) > 4
            · have H := HH.out
              clear HH
              rw [if_pos c23] at H
              have HH := Lib.hid H
              clear H
              have b24 : decide (4 < (a0.length : Int)) = true := decide_eq_true c23
              go_wp2_with fail
              go_ret2
              have H := Option.some.inj HH.out
              clear HH
              subst H
              exact ⟨_, _, _, rfl, ⟨rfl, rfl, rfl⟩, (HS0.out.front 0 rfl).keep 1⟩
            · have H := HH.out
              clear HH
              rw [if_neg c23] at H
              have HH := Lib.hid H
              clear H
              have b25 : decide (4 < (a0.length : Int)) = false := decide_eq_false c23
              go_wp2_with fail
              go_ret2
              have H := Option.some.inj HH.out
              clear HH
              subst H
              exact ⟨_, _, _, rfl, ⟨rfl, rfl, rfl⟩, (HS0.out.front 0 rfl).keep 1⟩
          · have H := HH.out
            clear HH
            rw [if_neg c22] at H
            have HH := Lib.hid H
            clear H
            have b26 : (x14 == 1) = false := beq_eq_false_iff_ne.2 c22
            have b27 : (x14 != 1) = true := bne_iff_ne.2 c22
            clear c22
            go_wp2_with fail
            go_ret2
            have H := Option.some.inj HH.out
            clear HH
            subst H
            exact ⟨_, _, _, rfl, ⟨rfl, rfl, rfl⟩, (HS0.out.front 0 rfl).keep 1⟩
    · have H := HH.out
      clear HH
      rw [if_neg c8] at H
      have HH := Lib.hid H
      clear H
      have b28 : (x6 == 0) = false := beq_eq_false_iff_ne.2 c8
      have b29 : (x6 != 0) = true := bne_iff_ne.2 c8
      clear c8
      go_wp2_with fail
      go_ret2
      have H := Option.some.inj HH.out
      clear HH
      subst H
      exact ⟨_, _, _, rfl, ⟨rfl, rfl, rfl⟩, (HS0.out.front 0 rfl).keep 1⟩
def f_r08_ReadValue (a0 : List UInt8) : Option (Int × Int) := if (a0.length : Int) < 2 then some (0, 1) else (if 2 ≤ (a0.length : Int) then ((gRInt (a0.take 2)).bind fun x6 => if x6 = 0 then (if (a0.length : Int) < 6 then some (0, 1) else (if 6 ≤ (a0.length : Int) then ((gRInt ((a0.drop 2).take 4)).bind fun x14 => if x14 < 0 then some (0, 11) else (if (a0.length : Int) > 6 then some (0, 2) else some (x14, 0))) else none)) else some (0, 7)) else none)
set_option maxRecDepth 100000 in
set_option maxHeartbeats 1000000 in
theorem f_r08_ReadValue_spec (a0 : List UInt8) (r : Int × Int) (h : f_r08_ReadValue a0 = some r) : SpecX Try.prog 84 #[.string (bsOf a0)] .triv (EmpR) (fun v A' N => v = .tuple #[.int .i64 r.1, .int .i64 r.2] ∧ A' = EmpR ∧ N = []) := by
  intro F w hA hX
  clear hX
  have HS0 := Lib.hid (St.start F w (Sep.one hA))
  clear hA
  unfold f_r08_ReadValue at h
  have HH := Lib.hid h
  clear h
  go_enter Try.func84, Try.ntmps84
  by_cases c1 : (a0.length : Int) < 2
  · have H := HH.out
    clear HH
    rw [if_pos c1] at H
    have HH := Lib.hid H
    clear H
    have b2 : decide ((a0.length : Int) < 2) = true := decide_eq_true c1
    go_wp2_with fail
    go_ret2
    have H := Option.some.inj HH.out
    clear HH
    subst H
    exact ⟨_, _, _, rfl, ⟨rfl, rfl, rfl⟩, (HS0.out.front 0 rfl).keep 1⟩
  · have H := HH.out
    clear HH
    rw [if_neg c1] at H
    have HH := Lib.hid H
    clear H
    have b3 : decide ((a0.length : Int) < 2) = false := decide_eq_false c1
    have H0 := HH.out
    clear HH
    obtain ⟨c5_0, H⟩ := guard_some H0
    clear H0
    have HH := Lib.hid H
    clear H
    have e4 : (bsOf a0).extract 0 2 = bsOf (a0.take 2) := bsOf_extract0 _ _
    go_wp2_with fail
    have H0 := HH.out
    clear HH
    obtain ⟨x6, hx7, H⟩ := Option.bind_eq_some_iff.1 H0
    clear H0
    try dsimp only at H
    have hx7H := Lib.hid hx7
    clear hx7
    have HH := Lib.hid H
    clear H
    refine (gRInt_spec (a0.take 2) _ hx7H.out _).mono ?_
    rintro e w1 ⟨rfl, rfl⟩
    clear hx7H
    by_cases c8 : x6 = 0
    · have H := HH.out
      clear HH
      rw [if_pos c8] at H
      have HH := Lib.hid H
      clear H
      subst c8
      by_cases c9 : (a0.length : Int) < 6
      · have H := HH.out
        clear HH
        rw [if_pos c9] at H
        have HH := Lib.hid H
        clear H
        have b10 : decide ((a0.length : Int) < 6) = true := decide_eq_true c9
        go_wp2_with fail
        go_ret2
        have H := Option.some.inj HH.out
        clear HH
        subst H
        exact ⟨_, _, _, rfl, ⟨rfl, rfl, rfl⟩, (HS0.out.front 0 rfl).keep 1⟩
      · have H := HH.out
        clear HH
        rw [if_neg c9] at H
        have HH := Lib.hid H
        clear H
        have b11 : decide ((a0.length : Int) < 6) = false := decide_eq_false c9
        have H0 := HH.out
        clear HH
        obtain ⟨c13_0, H⟩ := guard_some H0
        clear H0
        have HH := Lib.hid H
        clear H
        have e12 : (bsOf a0).extract 2 6 = bsOf ((a0.drop 2).take 4) := bsOf_extract _ _ _
        go_wp2_with fail
        have H0 := HH.out
        clear HH
        obtain ⟨x14, hx15, H⟩ := Option.bind_eq_some_iff.1 H0
        clear H0
        try dsimp only at H
        have hx15H := Lib.hid hx15
        clear hx15
        have HH := Lib.hid H
        clear H
        refine (gRInt_spec ((a0.drop 2).take 4) _ hx15H.out _).mono ?_
        rintro e w1 ⟨rfl, rfl⟩
        clear hx15H
        by_cases c16 : x14 < 0
        · have H := HH.out
          clear HH
          rw [if_pos c16] at H
          have HH := Lib.hid H
          clear H
          have b17 : decide (x14 < 0) = true := decide_eq_true c16
          go_wp2_with fail
          go_ret2
          have H := Option.some.inj HH.out
          clear HH
          subst H
          exact ⟨_, _, _, rfl, ⟨rfl, rfl, rfl⟩, (HS0.out.front 0 rfl).keep 1⟩
        · have H := HH.out
          clear HH
          rw [if_neg c16] at H
          have HH := Lib.hid H
          clear H
          have b18 : decide (x14 < 0) = false := decide_eq_false c16
          by_cases c19 : (a0.length : Int) > 6
          · have H := HH.out
            clear HH
            rw [if_pos c19] at H
            have HH := Lib.hid H
            clear H
            have b20 : decide (6 < (a0.length : Int)) = true := decide_eq_true c19
            go_wp2_with fail
            go_ret2
            have H := Option.some.inj HH.out
            clear HH
            subst H
            exact ⟨_, _, _, rfl, ⟨rfl, rfl, rfl⟩, (HS0.out.front 0 rfl).keep 1⟩
          · have H := HH.out
            clear HH
            rw [if_neg c19] at H
            have HH := Lib.hid H
            clear H
            have b21 : decide (6 < (a0.length : Int)) = false := decide_eq_false c19
            go_wp2_with fail
            go_ret2
            have H := Option.some.inj HH.out
            clear HH
            subst H
            exact ⟨_, _, _, rfl, ⟨rfl, rfl, rfl⟩, (HS0.out.front 0 rfl).keep 1⟩
    · have H := HH.out
      clear HH
      rw [if_neg c8] at H
      have HH := Lib.hid H
      clear H
      have b22 : (x6 == 0) = false := beq_eq_false_iff_ne.2 c8
      have b23 : (x6 != 0) = true := bne_iff_ne.2 c8
      clear c8
      go_wp2_with fail
      go_ret2
      have H := Option.some.inj HH.out
      clear HH
      subst H
      exact ⟨_, _, _, rfl, ⟨rfl, rfl, rfl⟩, (HS0.out.front 0 rfl).keep 1⟩
def f_r08_Read (a0 : Rec) : Option (Int × Int × Int) := if a0.fKey.null = true then some (0, 0, 12) else (if a0.fValue.null = true then some (0, 0, 12) else (if a0.fHeaders = [] then (if a0.fOffset = 0 then ((f_r08_ReadKey a0.fKey.data).bind fun (x18, x19) => if x19 = 0 then ((f_r08_ReadValue a0.fValue.data).bind fun (x32, x33) => if x33 = 0 then some (x18, x32, 0) else some (0, 0, x33)) else some (0, 0, x19)) else some (0, 0, 12)) else some (0, 0, 12)))
set_option maxRecDepth 100000 in
set_option maxHeartbeats 1000000 in
theorem f_r08_Read_spec (a0 : Rec) (A1 : Option Addr) (c2 : Nat) (r : Int × Int × Int) (h : f_r08_Read a0 = some r) : SpecX Try.prog 37 #[.agg #[.int .i64 a0.fTime, .int .i64 a0.fOffset, .bool a0.fKey.null, .string (bsOf a0.fKey.data), .bool a0.fValue.null, .string (bsOf a0.fValue.data), .slice A1 a0.fHeaders.length c2]] (RX.of (sliceRd 3 Hd_rd) [.slice A1 a0.fHeaders.length c2] a0.fHeaders) (EmpR) (fun v A' N => v = .tuple #[.int .i64 r.1, .int .i64 r.2.1, .int .i64 r.2.2] ∧ A' = EmpR ∧ N = []) := by
  intro F w hA hX
  have HX1 := Lib.hid hX
  clear hX
  have HS0 := Lib.hid (St.start F w (Sep.one hA))
  clear hA
  unfold f_r08_Read at h
  have HH := Lib.hid h
  clear h
  go_enter Try.func37, Try.ntmps37
  by_cases c3 : a0.fKey.null = true
  · have H := HH.out
    clear HH
    rw [if_pos c3] at H
    have HH := Lib.hid H
    clear H
    have H1 := HS0.out
    try simp only [c3] at H1
    have HS4 := Lib.hid H1
    clear H1
    have H1 := HX1.out
    clear HX1
    try simp only [c3] at H1
    have HX1 := Lib.hid H1
    clear H1
    go_wp2_with fail
    have HS50 := (HS4.out).alloc #[.int .i64 a0.fTime, .int .i64 a0.fOffset, .bool true, .string (bsOf a0.fKey.data), .bool a0.fValue.null, .string (bsOf a0.fValue.data), .slice A1 a0.fHeaders.length c2] 65
    try simp only [World.size_alloc, World.size_setCell] at HS50
    have HS5 := Lib.hid HS50
    clear HS50
    go_ret3
    have H := Option.some.inj HH.out
    clear HH
    subst H
    exact ⟨_, _, _, rfl, ⟨rfl, rfl, rfl⟩, (HS5.out.front 1 rfl).keep 1⟩
  · have H := HH.out
    clear HH
    rw [if_neg c3] at H
    have HH := Lib.hid H
    clear H
    have b6 : a0.fKey.null = false := by simpa using c3
    clear c3
    have H1 := HS0.out
    try simp only [b6] at H1
    have HS7 := Lib.hid H1
    clear H1
    have H1 := HX1.out
    clear HX1
    try simp only [b6] at H1
    have HX1 := Lib.hid H1
    clear H1
    by_cases c8 : a0.fValue.null = true
    · have H := HH.out
      clear HH
      rw [if_pos c8] at H
      have HH := Lib.hid H
      clear H
      have H1 := HS7.out
      try simp only [c8] at H1
      have HS9 := Lib.hid H1
      clear H1
      have H1 := HX1.out
      clear HX1
      try simp only [c8] at H1
      have HX1 := Lib.hid H1
      clear H1
      go_wp2_with fail
      have HS100 := (HS9.out).alloc #[.int .i64 a0.fTime, .int .i64 a0.fOffset, .bool false, .string (bsOf a0.fKey.data), .bool true, .string (bsOf a0.fValue.data), .slice A1 a0.fHeaders.length c2] 65
      try simp only [World.size_alloc, World.size_setCell] at HS100
      have HS10 := Lib.hid HS100
      clear HS100
      go_ret3
      have H := Option.some.inj HH.out
      clear HH
      subst H
      exact ⟨_, _, _, rfl, ⟨rfl, rfl, rfl⟩, (HS10.out.front 1 rfl).keep 1⟩
    · have H := HH.out
      clear HH
      rw [if_neg c8] at H
      have HH := Lib.hid H
      clear H
      have b11 : a0.fValue.null = false := by simpa using c8
      clear c8
      have H1 := HS7.out
      try simp only [b11] at H1
      have HS12 := Lib.hid H1
      clear H1
      have H1 := HX1.out
      clear HX1
      try simp only [b11] at H1
      have HX1 := Lib.hid H1
      clear H1
      by_cases c13 : a0.fHeaders = []
      · have H := HH.out
        clear HH
        rw [if_pos c13] at H
        have HH := Lib.hid H
        clear H
        have H1 := HS12.out
        try simp only [c13] at H1
        have HS14 := Lib.hid H1
        clear H1
        have H1 := HX1.out
        clear HX1
        try simp only [c13] at H1
        have HX1 := Lib.hid H1
        clear H1
        by_cases c15 : a0.fOffset = 0
        · have H := HH.out
          clear HH
          rw [if_pos c15] at H
          have HH := Lib.hid H
          clear H
          have b16 : (a0.fOffset == 0) = true := beq_iff_eq.2 c15
          have b17 : (a0.fOffset != 0) = false := bne_eq_false_iff_eq.2 c15
          have c15E := Lib.hid c15
          clear c15
          go_wp2_with fail
          have H0 := HH.out
          clear HH
          obtain ⟨⟨x18, x19⟩, hx20, H⟩ := Option.bind_eq_some_iff.1 H0
          clear H0
          try dsimp only at H
          have hx20H := Lib.hid hx20
          clear hx20
          have HH := Lib.hid H
          clear H
          have HS210 := (HS14.out).alloc #[.int .i64 a0.fTime, .int .i64 a0.fOffset, .bool false, .string (bsOf a0.fKey.data), .bool false, .string (bsOf a0.fValue.data), .slice A1 0 c2] 65
          try simp only [World.size_alloc, World.size_setCell] at HS210
          have HS21 := Lib.hid HS210
          clear HS210
          refine (St.callE HS21.out (f_r08_ReadKey_spec a0.fKey.data _ hx20H.out) (RX.reads_triv _ _)).mono ?_
          rintro e w22 ⟨v, A', N, rfl, ⟨rfl, rfl, rfl⟩, H1⟩
          clear hx20H HS21
          try simp only [List.cons_append, List.nil_append, List.set_cons_zero, List.set_cons_succ] at H1
          have d23 : w22.cell? ⟨w.heap.size, 0, none⟩ = some (.int .i64 a0.fTime) := heap_at (St.blk 0 H1 rfl) 0
          have d24 : w22.cell? ⟨w.heap.size, 1, none⟩ = some (.int .i64 a0.fOffset) := heap_at (St.blk 0 H1 rfl) 1
          have d25 : w22.cell? ⟨w.heap.size, 2, none⟩ = some (.bool false) := heap_at (St.blk 0 H1 rfl) 2
          have d26 : w22.cell? ⟨w.heap.size, 3, none⟩ = some (.string (bsOf a0.fKey.data)) := heap_at (St.blk 0 H1 rfl) 3
          have d27 : w22.cell? ⟨w.heap.size, 4, none⟩ = some (.bool false) := heap_at (St.blk 0 H1 rfl) 4
          have d28 : w22.cell? ⟨w.heap.size, 5, none⟩ = some (.string (bsOf a0.fValue.data)) := heap_at (St.blk 0 H1 rfl) 5
          have d29 : w22.cell? ⟨w.heap.size, 6, none⟩ = some (.slice A1 0 c2) := heap_at (St.blk 0 H1 rfl) 6
          have HS30 := Lib.hid H1
          clear H1
          by_cases c31 : x19 = 0
          · have H := HH.out
            clear HH
            rw [if_pos c31] at H
            have HH := Lib.hid H
            clear H
            subst c31
            go_wp2_with fail
            have H0 := HH.out
            clear HH
            obtain ⟨⟨x32, x33⟩, hx34, H⟩ := Option.bind_eq_some_iff.1 H0
            clear H0
            try dsimp only at H
            have hx34H := Lib.hid hx34
            clear hx34
            have HH := Lib.hid H
            clear H
            refine (St.callE HS30.out (f_r08_ReadValue_spec a0.fValue.data _ hx34H.out) (RX.reads_triv _ _)).mono ?_
            rintro e w35 ⟨v, A', N, rfl, ⟨rfl, rfl, rfl⟩, H1⟩
            clear hx34H HS30
            try simp only [List.cons_append, List.nil_append, List.set_cons_zero, List.set_cons_succ] at H1
            clear d23 d24 d25 d26 d27 d28 d29
            have HS36 := Lib.hid H1
            clear H1
            by_cases c37 : x33 = 0
            · have H := HH.out
              clear HH
              rw [if_pos c37] at H
              have HH := Lib.hid H
              clear H
              subst c37
              go_wp2_with fail
              go_ret3
              have H := Option.some.inj HH.out
              clear HH
              subst H
              exact ⟨_, _, _, rfl, ⟨rfl, rfl, rfl⟩, (HS36.out.front 1 rfl).keep 1⟩
            · have H := HH.out
              clear HH
              rw [if_neg c37] at H
              have HH := Lib.hid H
              clear H
              have b38 : (x33 == 0) = false := beq_eq_false_iff_ne.2 c37
              have b39 : (x33 != 0) = true := bne_iff_ne.2 c37
              clear c37
              go_wp2_with fail
              go_ret3
              have H := Option.some.inj HH.out
              clear HH
              subst H
              exact ⟨_, _, _, rfl, ⟨rfl, rfl, rfl⟩, (HS36.out.front 1 rfl).keep 1⟩
          · have H := HH.out
            clear HH
            rw [if_neg c31] at H
            have HH := Lib.hid H
            clear H
            have b40 : (x19 == 0) = false := beq_eq_false_iff_ne.2 c31
            have b41 : (x19 != 0) = true := bne_iff_ne.2 c31
            clear c31
            go_wp2_with fail
            go_ret3
            have H := Option.some.inj HH.out
            clear HH
            subst H
            exact ⟨_, _, _, rfl, ⟨rfl, rfl, rfl⟩, (HS30.out.front 1 rfl).keep 1⟩
        · have H := HH.out
          clear HH
          rw [if_neg c15] at H
          have HH := Lib.hid H
          clear H
          have b42 : (a0.fOffset == 0) = false := beq_eq_false_iff_ne.2 c15
          have b43 : (a0.fOffset != 0) = true := bne_iff_ne.2 c15
          clear c15
          go_wp2_with fail
          have HS440 := (HS14.out).alloc #[.int .i64 a0.fTime, .int .i64 a0.fOffset, .bool false, .string (bsOf a0.fKey.data), .bool false, .string (bsOf a0.fValue.data), .slice A1 0 c2] 65
          try simp only [World.size_alloc, World.size_setCell] at HS440
          have HS44 := Lib.hid HS440
          clear HS440
          go_ret3
          have H := Option.some.inj HH.out
          clear HH
          subst H
          exact ⟨_, _, _, rfl, ⟨rfl, rfl, rfl⟩, (HS44.out.front 1 rfl).keep 1⟩
      · have H := HH.out
        clear HH
        rw [if_neg c13] at H
        have HH := Lib.hid H
        clear H
        have b45 : 0 < a0.fHeaders.length := List.length_pos_iff.2 c13
        have b46 : a0.fHeaders.isEmpty = false := by simpa using c13
        go_wp2_with fail
        have HS470 := (HS12.out).alloc #[.int .i64 a0.fTime, .int .i64 a0.fOffset, .bool false, .string (bsOf a0.fKey.data), .bool false, .string (bsOf a0.fValue.data), .slice A1 a0.fHeaders.length c2] 65
        try simp only [World.size_alloc, World.size_setCell] at HS470
        have HS47 := Lib.hid HS470
        clear HS470
        go_ret3
        have H := Option.some.inj HH.out
        clear HH
        subst H
        exact ⟨_, _, _, rfl, ⟨rfl, rfl, rfl⟩, (HS47.out.front 1 rfl).keep 1⟩
def f_r08_Key (a0 : Int) : Option (List UInt8) := (gRBytes 0 2).bind fun x1 => (gRBytes a0 2).bind fun x5 => if x1.length + x5.length ≤ 9223372036854775807 then some (x1 ++ x5) else none
set_option maxRecDepth 100000 in
set_option maxHeartbeats 1000000 in
theorem f_r08_Key_spec (a0 : Int) (r : List UInt8) (h : f_r08_Key a0 = some r) : SpecX Try.prog 48 #[.int .i64 a0] .triv (EmpR) (fun v A' N => v = .string (bsOf r) ∧ A' = EmpR ∧ N = []) := by
  intro F w hA hX
  clear hX
  have HS0 := Lib.hid (St.start F w (Sep.one hA))
  clear hA
  unfold f_r08_Key at h
  have HH := Lib.hid h
  clear h
  go_enter Try.func48, Try.ntmps48
  go_wp2_with fail
  have H0 := HH.out
  clear HH
  obtain ⟨x1, hx2, H⟩ := Option.bind_eq_some_iff.1 H0
  clear H0
  try dsimp only at H
  have hx2H := Lib.hid hx2
  clear hx2
  have HH := Lib.hid H
  clear H
  refine (St.callE HS0.out (gRBytes_spec 0 2 _ hx2H.out) (RX.reads_triv _ _)).mono ?_
  rintro e w3 ⟨v, A', N, rfl, ⟨rfl, rfl, rfl⟩, H1⟩
  clear hx2H HS0
  try simp only [List.cons_append, List.nil_append, List.set_cons_zero, List.set_cons_succ] at H1
  have HS4 := Lib.hid H1
  clear H1
  go_wp2_with fail
  have H0 := HH.out
  clear HH
  obtain ⟨x5, hx6, H⟩ := Option.bind_eq_some_iff.1 H0
  clear H0
  try dsimp only at H
  have hx6H := Lib.hid hx6
  clear hx6
  have HH := Lib.hid H
  clear H
  refine (St.callE HS4.out (gRBytes_spec a0 2 _ hx6H.out) (RX.reads_triv _ _)).mono ?_
  rintro e w7 ⟨v, A', N, rfl, ⟨rfl, rfl, rfl⟩, H1⟩
  clear hx6H HS4
  try simp only [List.cons_append, List.nil_append, List.set_cons_zero, List.set_cons_succ] at H1
  have HS8 := Lib.hid H1
  clear H1
  have H0 := HH.out
  clear HH
  obtain ⟨c9_0, H⟩ := guard_some H0
  clear H0
  have HH := Lib.hid H
  clear H
  have q10 : ¬ (9223372036854775807 < x1.length + x5.length) := by have HQ := c9_0; (try simp only [List.length_append] at HQ); omega
  go_wp2_with fail
  go_ret
  have H := Option.some.inj HH.out
  clear HH
  subst H
  exact ⟨_, _, _, rfl, ⟨rfl, rfl, rfl⟩, (HS8.out.front 0 rfl).keep 1⟩
def f_r08_Value (a0 : Int) : Option (List UInt8) := (gRBytes 0 2).bind fun x1 => (gRBytes a0 4).bind fun x5 => if x1.length + x5.length ≤ 9223372036854775807 then some (x1 ++ x5) else none
set_option maxRecDepth 100000 in
set_option maxHeartbeats 1000000 in
theorem f_r08_Value_spec (a0 : Int) (r : List UInt8) (h : f_r08_Value a0 = some r) : SpecX Try.prog 49 #[.int .i64 a0] .triv (EmpR) (fun v A' N => v = .string (bsOf r) ∧ A' = EmpR ∧ N = []) := by
  intro F w hA hX
  clear hX
  have HS0 := Lib.hid (St.start F w (Sep.one hA))
  clear hA
  unfold f_r08_Value at h
  have HH := Lib.hid h
  clear h
  go_enter Try.func49, Try.ntmps49
  go_wp2_with fail
  have H0 := HH.out
  clear HH
  obtain ⟨x1, hx2, H⟩ := Option.bind_eq_some_iff.1 H0
  clear H0
  try dsimp only at H
  have hx2H := Lib.hid hx2
  clear hx2
  have HH := Lib.hid H
  clear H
  refine (St.callE HS0.out (gRBytes_spec 0 2 _ hx2H.out) (RX.reads_triv _ _)).mono ?_
  rintro e w3 ⟨v, A', N, rfl, ⟨rfl, rfl, rfl⟩, H1⟩
  clear hx2H HS0
  try simp only [List.cons_append, List.nil_append, List.set_cons_zero, List.set_cons_succ] at H1
  have HS4 := Lib.hid H1
  clear H1
  go_wp2_with fail
  have H0 := HH.out
  clear HH
  obtain ⟨x5, hx6, H⟩ := Option.bind_eq_some_iff.1 H0
  clear H0
  try dsimp only at H
  have hx6H := Lib.hid hx6
  clear hx6
  have HH := Lib.hid H
  clear H
  refine (St.callE HS4.out (gRBytes_spec a0 4 _ hx6H.out) (RX.reads_triv _ _)).mono ?_
  rintro e w7 ⟨v, A', N, rfl, ⟨rfl, rfl, rfl⟩, H1⟩
  clear hx6H HS4
  try simp only [List.cons_append, List.nil_append, List.set_cons_zero, List.set_cons_succ] at H1
  have HS8 := Lib.hid H1
  clear H1
  have H0 := HH.out
  clear HH
  obtain ⟨c9_0, H⟩ := guard_some H0
  clear H0
  have HH := Lib.hid H
  clear H
  have q10 : ¬ (9223372036854775807 < x1.length + x5.length) := by have HQ := c9_0; (try simp only [List.length_append] at HQ); omega
  go_wp2_with fail
  go_ret
  have H := Option.some.inj HH.out
  clear HH
  subst H
  exact ⟨_, _, _, rfl, ⟨rfl, rfl, rfl⟩, (HS8.out.front 0 rfl).keep 1⟩
end Go.Proofs.Ytchfkhdifmpbkaa.Sl
