/- Printed by g.py: package cursitorlaw08. -/
import Derived.Test.YtchfkhdifmpbkaaGb
import Derived.Test.YtchfkhdifmpbkaaT
import Derived.Test.YtchfkhdifmpbkaaPcontrol
import Derived.Test.YtchfkhdifmpbkaaPcursitorlaw07
import Derived.Test.YtchfkhdifmpbkaaPcursitorref07
import Derived.Test.YtchfkhdifmpbkaaPcursitorref08
import Derived.Deep.LoopGhost
import Derived.WalkLawsBesides
import Derived.IntWalk
import Derived.Deep.RegionHeld3
namespace Go.Proofs.Ytchfkhdifmpbkaa.Sl
open Go.RowKit
set_option linter.unusedVariables false
set_option linter.unusedSimpArgs false
attribute [local go_sem] bsOf_toList bsOf_size bsOf_app
def f_l08_speaks  : Option (Bool) := (f_control_Key 1).bind fun (x1, x2) => (f_control_ReadKey x1).bind fun (x6, x7) => (f_control_ReadKey [0, 0, 0, 2]).bind fun (x11, x12) => if x1 = [0, 0, 0, 1] then (if x2 = 0 then (if x6 = 1 then (if x7 = 0 then (if x12 = 12 then some true else some false) else some false) else some false) else some false) else some false
set_option maxRecDepth 100000 in
set_option maxHeartbeats 1000000 in
theorem f_l08_speaks_spec  (r : Bool) (h : f_l08_speaks  = some r) : SpecX Try.prog 34 #[] .triv (EmpR) (fun v A' N => v = .bool r ∧ A' = EmpR ∧ N = []) := by
  intro F w hA hX
  clear hX
  have HS0 := Lib.hid (St.start F w (Sep.one hA))
  clear hA
  unfold f_l08_speaks at h
  have HH := Lib.hid h
  clear h
  go_enter Try.func34, Try.ntmps34
  go_wp2_with fail
  have H0 := HH.out
  clear HH
  obtain ⟨⟨x1, x2⟩, hx3, H⟩ := Option.bind_eq_some_iff.1 H0
  clear H0
  try dsimp only at H
  have hx3H := Lib.hid hx3
  clear hx3
  have HH := Lib.hid H
  clear H
  refine (St.callE HS0.out (f_control_Key_spec 1 _ hx3H.out) (RX.reads_triv _ _)).mono ?_
  rintro e w4 ⟨v, A', N, rfl, ⟨rfl, rfl, rfl⟩, H1⟩
  clear hx3H HS0
  try simp only [List.cons_append, List.nil_append, List.set_cons_zero, List.set_cons_succ] at H1
  have HS5 := Lib.hid H1
  clear H1
  go_wp2_with fail
  have H0 := HH.out
  clear HH
  obtain ⟨⟨x6, x7⟩, hx8, H⟩ := Option.bind_eq_some_iff.1 H0
  clear H0
  try dsimp only at H
  have hx8H := Lib.hid hx8
  clear hx8
  have HH := Lib.hid H
  clear H
  refine (St.callE HS5.out (f_control_ReadKey_spec x1 _ hx8H.out) (RX.reads_triv _ _)).mono ?_
  rintro e w9 ⟨v, A', N, rfl, ⟨rfl, rfl, rfl⟩, H1⟩
  clear hx8H HS5
  try simp only [List.cons_append, List.nil_append, List.set_cons_zero, List.set_cons_succ] at H1
  have HS10 := Lib.hid H1
  clear H1
  go_wp2_with fail
  have H0 := HH.out
  clear HH
  obtain ⟨⟨x11, x12⟩, hx13, H⟩ := Option.bind_eq_some_iff.1 H0
  clear H0
  try dsimp only at H
  have hx13H := Lib.hid hx13
  clear hx13
  have HH := Lib.hid H
  clear H
  refine (St.callE HS10.out (f_control_ReadKey_spec [0, 0, 0, 2] _ hx13H.out) (RX.reads_triv _ _)).mono ?_
  rintro e w14 ⟨v, A', N, rfl, ⟨rfl, rfl, rfl⟩, H1⟩
  clear hx13H HS10
  try simp only [List.cons_append, List.nil_append, List.set_cons_zero, List.set_cons_succ] at H1
  have HS15 := Lib.hid H1
  clear H1
  by_cases c16 : x1 = [0, 0, 0, 1]
  · have H := HH.out
    clear HH
    rw [if_pos c16] at H
    have HH := Lib.hid H
    clear H
    have b17 : (x1 == [0, 0, 0, 1]) = true := beq_iff_eq.2 c16
    have b18 : (x1 != [0, 0, 0, 1]) = false := bne_eq_false_iff_eq.2 c16
    clear c16
    by_cases c19 : x2 = 0
    · have H := HH.out
      clear HH
      rw [if_pos c19] at H
      have HH := Lib.hid H
      clear H
      subst c19
      by_cases c20 : x6 = 1
      · have H := HH.out
        clear HH
        rw [if_pos c20] at H
        have HH := Lib.hid H
        clear H
        subst c20
        by_cases c21 : x7 = 0
        · have H := HH.out
          clear HH
          rw [if_pos c21] at H
          have HH := Lib.hid H
          clear H
          subst c21
          by_cases c22 : x12 = 12
          · have H := HH.out
            clear HH
            rw [if_pos c22] at H
            have HH := Lib.hid H
            clear H
            subst c22
            go_wp2_with fail
            go_ret
            have H := Option.some.inj HH.out
            clear HH
            subst H
            exact ⟨_, _, _, rfl, ⟨rfl, rfl, rfl⟩, (HS15.out.front 0 rfl).keep 1⟩
          · have H := HH.out
            clear HH
            rw [if_neg c22] at H
            have HH := Lib.hid H
            clear H
            have b23 : (x12 == 12) = false := beq_eq_false_iff_ne.2 c22
            have b24 : (x12 != 12) = true := bne_iff_ne.2 c22
            clear c22
            go_wp2_with fail
            go_ret
            have H := Option.some.inj HH.out
            clear HH
            subst H
            exact ⟨_, _, _, rfl, ⟨rfl, rfl, rfl⟩, (HS15.out.front 0 rfl).keep 1⟩
        · have H := HH.out
          clear HH
          rw [if_neg c21] at H
          have HH := Lib.hid H
          clear H
          have b25 : (x7 == 0) = false := beq_eq_false_iff_ne.2 c21
          have b26 : (x7 != 0) = true := bne_iff_ne.2 c21
          clear c21
          go_wp2_with fail
          go_ret
          have H := Option.some.inj HH.out
          clear HH
          subst H
          exact ⟨_, _, _, rfl, ⟨rfl, rfl, rfl⟩, (HS15.out.front 0 rfl).keep 1⟩
      · have H := HH.out
        clear HH
        rw [if_neg c20] at H
        have HH := Lib.hid H
        clear H
        have b27 : (x6 == 1) = false := beq_eq_false_iff_ne.2 c20
        have b28 : (x6 != 1) = true := bne_iff_ne.2 c20
        clear c20
        go_wp2_with fail
        go_ret
        have H := Option.some.inj HH.out
        clear HH
        subst H
        exact ⟨_, _, _, rfl, ⟨rfl, rfl, rfl⟩, (HS15.out.front 0 rfl).keep 1⟩
    · have H := HH.out
      clear HH
      rw [if_neg c19] at H
      have HH := Lib.hid H
      clear H
      have b29 : (x2 == 0) = false := beq_eq_false_iff_ne.2 c19
      have b30 : (x2 != 0) = true := bne_iff_ne.2 c19
      clear c19
      go_wp2_with fail
      go_ret
      have H := Option.some.inj HH.out
      clear HH
      subst H
      exact ⟨_, _, _, rfl, ⟨rfl, rfl, rfl⟩, (HS15.out.front 0 rfl).keep 1⟩
  · have H := HH.out
    clear HH
    rw [if_neg c16] at H
    have HH := Lib.hid H
    clear H
    have b31 : (x1 == [0, 0, 0, 1]) = false := beq_eq_false_iff_ne.2 c16
    have b32 : (x1 != [0, 0, 0, 1]) = true := bne_iff_ne.2 c16
    clear c16
    go_wp2_with fail
    go_ret
    have H := Option.some.inj HH.out
    clear HH
    subst H
    exact ⟨_, _, _, rfl, ⟨rfl, rfl, rfl⟩, (HS15.out.front 0 rfl).keep 1⟩
def f_l08_ControlRecords (a0 : Rec) : Option (Bool) := (f_l08_speaks).bind fun x3 => if x3 = true then ((f_l07_Small a0).bind fun x16 => if x16 = 0 then some true else ((f_control_Read a0).bind fun (x30, x31, x32) => (f_r08_Read a0).bind fun (x43, x44, x45) => if x30 = x43 then (if x31 = x44 then (if x32 = x45 then some true else some false) else some false) else some false)) else some false
set_option maxRecDepth 100000 in
set_option maxHeartbeats 1000000 in
theorem f_l08_ControlRecords_spec (a0 : Rec) (A1 : Option Addr) (c2 : Nat) (r : Bool) (h : f_l08_ControlRecords a0 = some r) : SpecX Try.prog 6 #[.agg #[.int .i64 a0.fTime, .int .i64 a0.fOffset, .bool a0.fKey.null, .string (bsOf a0.fKey.data), .bool a0.fValue.null, .string (bsOf a0.fValue.data), .slice A1 a0.fHeaders.length c2]] (RX.of (sliceRd 3 Hd_rd) [.slice A1 a0.fHeaders.length c2] a0.fHeaders) (EmpR) (fun v A' N => v = .bool r ∧ A' = EmpR ∧ N = []) := by
  intro F w hA hX
  have HX1 := Lib.hid hX
  clear hX
  have HS0 := Lib.hid (St.start F w (Sep.one hA))
  clear hA
  unfold f_l08_ControlRecords at h
  have HH := Lib.hid h
  clear h
  go_enter Try.func6, Try.ntmps6
  go_wp2_with fail
  have H0 := HH.out
  clear HH
  obtain ⟨x3, hx4, H⟩ := Option.bind_eq_some_iff.1 H0
  clear H0
  try dsimp only at H
  have hx4H := Lib.hid hx4
  clear hx4
  have HH := Lib.hid H
  clear H
  have HS50 := (HS0.out).alloc #[.int .i64 a0.fTime, .int .i64 a0.fOffset, .bool a0.fKey.null, .string (bsOf a0.fKey.data), .bool a0.fValue.null, .string (bsOf a0.fValue.data), .slice A1 a0.fHeaders.length c2] 65
  try simp only [World.size_alloc, World.size_setCell] at HS50
  have HS5 := Lib.hid HS50
  clear HS50
  refine (St.callE HS5.out (f_l08_speaks_spec _ hx4H.out) (RX.reads_triv _ _)).mono ?_
  rintro e w6 ⟨v, A', N, rfl, ⟨rfl, rfl, rfl⟩, H1⟩
  clear hx4H HS5
  try simp only [List.cons_append, List.nil_append, List.set_cons_zero, List.set_cons_succ] at H1
  have d7 : w6.cell? ⟨w.heap.size, 0, none⟩ = some (.int .i64 a0.fTime) := heap_at (St.blk 0 H1 rfl) 0
  have d8 : w6.cell? ⟨w.heap.size, 1, none⟩ = some (.int .i64 a0.fOffset) := heap_at (St.blk 0 H1 rfl) 1
  have d9 : w6.cell? ⟨w.heap.size, 2, none⟩ = some (.bool a0.fKey.null) := heap_at (St.blk 0 H1 rfl) 2
  have d10 : w6.cell? ⟨w.heap.size, 3, none⟩ = some (.string (bsOf a0.fKey.data)) := heap_at (St.blk 0 H1 rfl) 3
  have d11 : w6.cell? ⟨w.heap.size, 4, none⟩ = some (.bool a0.fValue.null) := heap_at (St.blk 0 H1 rfl) 4
  have d12 : w6.cell? ⟨w.heap.size, 5, none⟩ = some (.string (bsOf a0.fValue.data)) := heap_at (St.blk 0 H1 rfl) 5
  have d13 : w6.cell? ⟨w.heap.size, 6, none⟩ = some (.slice A1 a0.fHeaders.length c2) := heap_at (St.blk 0 H1 rfl) 6
  have HS14 := Lib.hid H1
  clear H1
  by_cases c15 : x3 = true
  · have H := HH.out
    clear HH
    rw [if_pos c15] at H
    have HH := Lib.hid H
    clear H
    subst c15
    go_wp2_with fail
    have H0 := HH.out
    clear HH
    obtain ⟨x16, hx17, H⟩ := Option.bind_eq_some_iff.1 H0
    clear H0
    try dsimp only at H
    have hx17H := Lib.hid hx17
    clear hx17
    have HH := Lib.hid H
    clear H
    refine (St.callE HS14.out (f_l07_Small_spec a0 _ _ _ hx17H.out) (SrcE.old HS14.out HX1.out)).mono ?_
    rintro e w18 ⟨v, A', N, rfl, ⟨rfl, rfl, rfl⟩, H1⟩
    clear hx17H HS14
    try simp only [List.cons_append, List.nil_append, List.set_cons_zero, List.set_cons_succ] at H1
    clear d7 d8 d9 d10 d11 d12 d13
    have d19 : w18.cell? ⟨w.heap.size, 0, none⟩ = some (.int .i64 a0.fTime) := heap_at (St.blk 0 H1 rfl) 0
    have d20 : w18.cell? ⟨w.heap.size, 1, none⟩ = some (.int .i64 a0.fOffset) := heap_at (St.blk 0 H1 rfl) 1
    have d21 : w18.cell? ⟨w.heap.size, 2, none⟩ = some (.bool a0.fKey.null) := heap_at (St.blk 0 H1 rfl) 2
    have d22 : w18.cell? ⟨w.heap.size, 3, none⟩ = some (.string (bsOf a0.fKey.data)) := heap_at (St.blk 0 H1 rfl) 3
    have d23 : w18.cell? ⟨w.heap.size, 4, none⟩ = some (.bool a0.fValue.null) := heap_at (St.blk 0 H1 rfl) 4
    have d24 : w18.cell? ⟨w.heap.size, 5, none⟩ = some (.string (bsOf a0.fValue.data)) := heap_at (St.blk 0 H1 rfl) 5
    have d25 : w18.cell? ⟨w.heap.size, 6, none⟩ = some (.slice A1 a0.fHeaders.length c2) := heap_at (St.blk 0 H1 rfl) 6
    have HS26 := Lib.hid H1
    clear H1
    by_cases c27 : x16 = 0
    · have H := HH.out
      clear HH
      rw [if_pos c27] at H
      have HH := Lib.hid H
      clear H
      subst c27
      go_wp2_with fail
      go_ret
      have H := Option.some.inj HH.out
      clear HH
      subst H
      exact ⟨_, _, _, rfl, ⟨rfl, rfl, rfl⟩, (HS26.out.front 1 rfl).keep 1⟩
    · have H := HH.out
      clear HH
      rw [if_neg c27] at H
      have HH := Lib.hid H
      clear H
      have b28 : (x16 == 0) = false := beq_eq_false_iff_ne.2 c27
      have b29 : (x16 != 0) = true := bne_iff_ne.2 c27
      clear c27
      go_wp2_with fail
      have H0 := HH.out
      clear HH
      obtain ⟨⟨x30, x31, x32⟩, hx33, H⟩ := Option.bind_eq_some_iff.1 H0
      clear H0
      try dsimp only at H
      have hx33H := Lib.hid hx33
      clear hx33
      have HH := Lib.hid H
      clear H
      refine (St.callE HS26.out (f_control_Read_spec a0 _ _ _ hx33H.out) (SrcE.old HS26.out HX1.out)).mono ?_
      rintro e w34 ⟨v, A', N, rfl, ⟨rfl, rfl, rfl⟩, H1⟩
      clear hx33H HS26
      try simp only [List.cons_append, List.nil_append, List.set_cons_zero, List.set_cons_succ] at H1
      clear d19 d20 d21 d22 d23 d24 d25
      have d35 : w34.cell? ⟨w.heap.size, 0, none⟩ = some (.int .i64 a0.fTime) := heap_at (St.blk 0 H1 rfl) 0
      have d36 : w34.cell? ⟨w.heap.size, 1, none⟩ = some (.int .i64 a0.fOffset) := heap_at (St.blk 0 H1 rfl) 1
      have d37 : w34.cell? ⟨w.heap.size, 2, none⟩ = some (.bool a0.fKey.null) := heap_at (St.blk 0 H1 rfl) 2
      have d38 : w34.cell? ⟨w.heap.size, 3, none⟩ = some (.string (bsOf a0.fKey.data)) := heap_at (St.blk 0 H1 rfl) 3
      have d39 : w34.cell? ⟨w.heap.size, 4, none⟩ = some (.bool a0.fValue.null) := heap_at (St.blk 0 H1 rfl) 4
      have d40 : w34.cell? ⟨w.heap.size, 5, none⟩ = some (.string (bsOf a0.fValue.data)) := heap_at (St.blk 0 H1 rfl) 5
      have d41 : w34.cell? ⟨w.heap.size, 6, none⟩ = some (.slice A1 a0.fHeaders.length c2) := heap_at (St.blk 0 H1 rfl) 6
      have HS42 := Lib.hid H1
      clear H1
      go_wp2_with fail
      have H0 := HH.out
      clear HH
      obtain ⟨⟨x43, x44, x45⟩, hx46, H⟩ := Option.bind_eq_some_iff.1 H0
      clear H0
      try dsimp only at H
      have hx46H := Lib.hid hx46
      clear hx46
      have HH := Lib.hid H
      clear H
      refine (St.callE HS42.out (f_r08_Read_spec a0 _ _ _ hx46H.out) (SrcE.old HS42.out HX1.out)).mono ?_
      rintro e w47 ⟨v, A', N, rfl, ⟨rfl, rfl, rfl⟩, H1⟩
      clear hx46H HS42
      try simp only [List.cons_append, List.nil_append, List.set_cons_zero, List.set_cons_succ] at H1
      clear d35 d36 d37 d38 d39 d40 d41
      have HS48 := Lib.hid H1
      clear H1
      by_cases c49 : x30 = x43
      · have H := HH.out
        clear HH
        rw [if_pos c49] at H
        have HH := Lib.hid H
        clear H
        have b50 : (x30 == x43) = true := beq_iff_eq.2 c49
        have b51 : (x30 != x43) = false := bne_eq_false_iff_eq.2 c49
        clear c49
        by_cases c52 : x31 = x44
        · have H := HH.out
          clear HH
          rw [if_pos c52] at H
          have HH := Lib.hid H
          clear H
          have b53 : (x31 == x44) = true := beq_iff_eq.2 c52
          have b54 : (x31 != x44) = false := bne_eq_false_iff_eq.2 c52
          clear c52
          by_cases c55 : x32 = x45
          · have H := HH.out
            clear HH
            rw [if_pos c55] at H
            have HH := Lib.hid H
            clear H
            have b56 : (x32 == x45) = true := beq_iff_eq.2 c55
            have b57 : (x32 != x45) = false := bne_eq_false_iff_eq.2 c55
            clear c55
            go_wp2_with fail
            go_ret
            have H := Option.some.inj HH.out
            clear HH
            subst H
            exact ⟨_, _, _, rfl, ⟨rfl, rfl, rfl⟩, (HS48.out.front 1 rfl).keep 1⟩
          · have H := HH.out
            clear HH
            rw [if_neg c55] at H
            have HH := Lib.hid H
            clear H
            have b58 : (x32 == x45) = false := beq_eq_false_iff_ne.2 c55
            have b59 : (x32 != x45) = true := bne_iff_ne.2 c55
            clear c55
            go_wp2_with fail
            go_ret
            have H := Option.some.inj HH.out
            clear HH
            subst H
            exact ⟨_, _, _, rfl, ⟨rfl, rfl, rfl⟩, (HS48.out.front 1 rfl).keep 1⟩
        · have H := HH.out
          clear HH
          rw [if_neg c52] at H
          have HH := Lib.hid H
          clear H
          have b60 : (x31 == x44) = false := beq_eq_false_iff_ne.2 c52
          have b61 : (x31 != x44) = true := bne_iff_ne.2 c52
          clear c52
          go_wp2_with fail
          go_ret
          have H := Option.some.inj HH.out
          clear HH
          subst H
          exact ⟨_, _, _, rfl, ⟨rfl, rfl, rfl⟩, (HS48.out.front 1 rfl).keep 1⟩
      · have H := HH.out
        clear HH
        rw [if_neg c49] at H
        have HH := Lib.hid H
        clear H
        have b62 : (x30 == x43) = false := beq_eq_false_iff_ne.2 c49
        have b63 : (x30 != x43) = true := bne_iff_ne.2 c49
        clear c49
        go_wp2_with fail
        go_ret
        have H := Option.some.inj HH.out
        clear HH
        subst H
        exact ⟨_, _, _, rfl, ⟨rfl, rfl, rfl⟩, (HS48.out.front 1 rfl).keep 1⟩
  · have H := HH.out
    clear HH
    rw [if_neg c15] at H
    have HH := Lib.hid H
    clear H
    have c15 : x3 = false := by simpa using c15
    subst c15
    go_wp2_with fail
    go_ret
    have H := Option.some.inj HH.out
    clear HH
    subst H
    exact ⟨_, _, _, rfl, ⟨rfl, rfl, rfl⟩, (HS14.out.front 1 rfl).keep 1⟩
def f_l08_ControlWrites (a0 : Int) (a1 : Int) : Option (Bool) := (f_l08_speaks).bind fun x1 => if x1 = true then (if a0 = 0 then (if a1 ≥ 0 then ((gRFits a1 4).bind fun x9 => (f_control_Key 0).bind fun (x13, x14) => (f_control_Value a1).bind fun (x18, x19) => (f_control_Record 0 a1).bind fun (x23, x26) => if x14 = 0 then ((f_r08_Key 0).bind fun x31 => if x13 = x31 then (if x9 = true then (if x19 = 0 then ((f_r08_Value a1).bind fun x55 => if x18 = x55 then ((f_control_Read x23).bind fun (x76, x77, x78) => if x26 = 0 then ((f_r07_Same x23 (⟨0, 0, (⟨false, x13⟩ : Bl), (⟨false, x18⟩ : Bl), []⟩ : Rec)).bind fun x97 => if x97 = true then (if x76 = 0 then (if x77 = a1 then (if x78 = 0 then some true else some false) else some false) else some false) else some false) else some false) else some false) else some false) else (if x19 = 11 then (if x18 = [] then (if x26 = 11 then ((f_r07_Same x23 (⟨0, 0, (⟨false, []⟩ : Bl), (⟨false, []⟩ : Bl), []⟩ : Rec)).bind fun x122 => some x122) else some false) else some false) else some false)) else some false) else some false) else ((f_control_Key 0).bind fun (x154, x155) => (f_control_Value a1).bind fun (x159, x160) => (f_control_Record 0 a1).bind fun (x164, x167) => if x155 = 0 then ((f_r08_Key 0).bind fun x172 => if x154 = x172 then (if x160 = 11 then (if x159 = [] then (if x167 = 11 then ((f_r07_Same x164 (⟨0, 0, (⟨false, []⟩ : Bl), (⟨false, []⟩ : Bl), []⟩ : Rec)).bind fun x197 => some x197) else some false) else some false) else some false) else some false) else some false)) else (if a1 ≥ 0 then ((gRFits a1 4).bind fun x232 => (f_control_Key a0).bind fun (x236, x237) => (f_control_Value a1).bind fun (x241, x242) => (f_control_Record a0 a1).bind fun (x246, x249) => if a0 = 1 then (if x237 = 0 then ((f_r08_Key 1).bind fun x255 => if x236 = x255 then (if x232 = true then (if x242 = 0 then ((f_r08_Value a1).bind fun x279 => if x241 = x279 then ((f_control_Read x246).bind fun (x300, x301, x302) => if x249 = 0 then ((f_r07_Same x246 (⟨0, 0, (⟨false, x236⟩ : Bl), (⟨false, x241⟩ : Bl), []⟩ : Rec)).bind fun x321 => if x321 = true then (if x300 = 1 then (if x301 = a1 then (if x302 = 0 then some true else some false) else some false) else some false) else some false) else some false) else some false) else some false) else (if x242 = 11 then (if x241 = [] then (if x249 = 11 then ((f_r07_Same x246 (⟨0, 0, (⟨false, []⟩ : Bl), (⟨false, []⟩ : Bl), []⟩ : Rec)).bind fun x346 => some x346) else some false) else some false) else some false)) else some false) else some false) else (if x237 = 12 then (if x236 = [] then (if x232 = true then (if x242 = 0 then ((f_r08_Value a1).bind fun x383 => if x241 = x383 then (if x249 = 12 then ((f_r07_Same x246 (⟨0, 0, (⟨false, []⟩ : Bl), (⟨false, []⟩ : Bl), []⟩ : Rec)).bind fun x406 => some x406) else some false) else some false) else some false) else (if x242 = 11 then (if x241 = [] then (if x249 = 12 then ((f_r07_Same x246 (⟨0, 0, (⟨false, []⟩ : Bl), (⟨false, []⟩ : Bl), []⟩ : Rec)).bind fun x434 => some x434) else some false) else some false) else some false)) else some false) else some false)) else ((f_control_Key a0).bind fun (x473, x474) => (f_control_Value a1).bind fun (x478, x479) => (f_control_Record a0 a1).bind fun (x483, x486) => if a0 = 1 then (if x474 = 0 then ((f_r08_Key 1).bind fun x492 => if x473 = x492 then (if x479 = 11 then (if x478 = [] then (if x486 = 11 then ((f_r07_Same x483 (⟨0, 0, (⟨false, []⟩ : Bl), (⟨false, []⟩ : Bl), []⟩ : Rec)).bind fun x517 => some x517) else some false) else some false) else some false) else some false) else some false) else (if x474 = 12 then (if x473 = [] then (if x479 = 11 then (if x478 = [] then (if x486 = 12 then ((f_r07_Same x483 (⟨0, 0, (⟨false, []⟩ : Bl), (⟨false, []⟩ : Bl), []⟩ : Rec)).bind fun x555 => some x555) else some false) else some false) else some false) else some false) else some false)))) else some false
set_option maxRecDepth 100000 in
set_option maxHeartbeats 1000000 in
theorem f_l08_ControlWrites_spec (a0 : Int) (a1 : Int) (r : Bool) (h : f_l08_ControlWrites a0 a1 = some r) : SpecX Try.prog 9 #[.int .i64 a0, .int .i64 a1] .triv (EmpR) (fun v A' N => v = .bool r ∧ A' = EmpR ∧ N = []) := by
  intro F w hA hX
  clear hX
  have HS0 := Lib.hid (St.start F w (Sep.one hA))
  clear hA
  unfold f_l08_ControlWrites at h
  have HH := Lib.hid h
  clear h
  go_enter Try.func9, Try.ntmps9
  go_wp2_with fail
  have H0 := HH.out
  clear HH
  obtain ⟨x1, hx2, H⟩ := Option.bind_eq_some_iff.1 H0
  clear H0
  try dsimp only at H
  have hx2H := Lib.hid hx2
  clear hx2
  have HH := Lib.hid H
  clear H
  refine (St.callE HS0.out (f_l08_speaks_spec _ hx2H.out) (RX.reads_triv _ _)).mono ?_
  rintro e w3 ⟨v, A', N, rfl, ⟨rfl, rfl, rfl⟩, H1⟩
  clear hx2H HS0
  try simp only [List.cons_append, List.nil_append, List.set_cons_zero, List.set_cons_succ] at H1
  have HS4 := Lib.hid H1
  clear H1
  by_cases c5 : x1 = true
  · have H := HH.out
    clear HH
    rw [if_pos c5] at H
    have HH := Lib.hid H
    clear H
    subst c5
    by_cases c6 : a0 = 0
    · have H := HH.out
      clear HH
      rw [if_pos c6] at H
      have HH := Lib.hid H
      clear H
      subst c6
      by_cases c7 : a1 ≥ 0
      · have H := HH.out
        clear HH
        rw [if_pos c7] at H
        have HH := Lib.hid H
        clear H
        have b8 : decide (0 ≤ a1) = true := decide_eq_true c7
        go_wp2_with fail
        have H0 := HH.out
        clear HH
        obtain ⟨x9, hx10, H⟩ := Option.bind_eq_some_iff.1 H0
        clear H0
        try dsimp only at H
        have hx10H := Lib.hid hx10
        clear hx10
        have HH := Lib.hid H
        clear H
        refine (St.callE HS4.out (gRFits_spec a1 4 _ hx10H.out) (RX.reads_triv _ _)).mono ?_
        rintro e w11 ⟨v, A', N, rfl, ⟨rfl, rfl, rfl⟩, H1⟩
        clear hx10H HS4
        try simp only [List.cons_append, List.nil_append, List.set_cons_zero, List.set_cons_succ] at H1
        have HS12 := Lib.hid H1
        clear H1
        go_wp2_with fail
        have H0 := HH.out
        clear HH
        obtain ⟨⟨x13, x14⟩, hx15, H⟩ := Option.bind_eq_some_iff.1 H0
        clear H0
        try dsimp only at H
        have hx15H := Lib.hid hx15
        clear hx15
        have HH := Lib.hid H
        clear H
        refine (St.callE HS12.out (f_control_Key_spec 0 _ hx15H.out) (RX.reads_triv _ _)).mono ?_
        rintro e w16 ⟨v, A', N, rfl, ⟨rfl, rfl, rfl⟩, H1⟩
        clear hx15H HS12
        try simp only [List.cons_append, List.nil_append, List.set_cons_zero, List.set_cons_succ] at H1
        have HS17 := Lib.hid H1
        clear H1
        go_wp2_with fail
        have H0 := HH.out
        clear HH
        obtain ⟨⟨x18, x19⟩, hx20, H⟩ := Option.bind_eq_some_iff.1 H0
        clear H0
        try dsimp only at H
        have hx20H := Lib.hid hx20
        clear hx20
        have HH := Lib.hid H
        clear H
        refine (St.callE HS17.out (f_control_Value_spec a1 _ hx20H.out) (RX.reads_triv _ _)).mono ?_
        rintro e w21 ⟨v, A', N, rfl, ⟨rfl, rfl, rfl⟩, H1⟩
        clear hx20H HS17
        try simp only [List.cons_append, List.nil_append, List.set_cons_zero, List.set_cons_succ] at H1
        have HS22 := Lib.hid H1
        clear H1
        go_wp2_with fail
        have H0 := HH.out
        clear HH
        obtain ⟨⟨x23, x26⟩, hx27, H⟩ := Option.bind_eq_some_iff.1 H0
        clear H0
        try dsimp only at H
        have hx27H := Lib.hid hx27
        clear hx27
        have HH := Lib.hid H
        clear H
        refine (St.callE HS22.out (f_control_Record_spec 0 a1 _ hx27H.out) (RX.reads_triv _ _)).mono ?_
        rintro e w28 ⟨v, A', N, rfl, ⟨A24, c25, rfl, rfl, rfl⟩, H1⟩
        clear hx27H HS22
        try simp only [List.cons_append, List.nil_append, List.set_cons_zero, List.set_cons_succ] at H1
        have HS29 := Lib.hid H1
        clear H1
        by_cases c30 : x14 = 0
        · have H := HH.out
          clear HH
          rw [if_pos c30] at H
          have HH := Lib.hid H
          clear H
          subst c30
          go_wp2_with fail
          have H0 := HH.out
          clear HH
          obtain ⟨x31, hx32, H⟩ := Option.bind_eq_some_iff.1 H0
          clear H0
          try dsimp only at H
          have hx32H := Lib.hid hx32
          clear hx32
          have HH := Lib.hid H
          clear H
          have HS330 := (HS29.out).alloc #[.int .i64 x23.fTime, .int .i64 x23.fOffset, .bool x23.fKey.null, .string (bsOf x23.fKey.data), .bool x23.fValue.null, .string (bsOf x23.fValue.data), .slice A24 x23.fHeaders.length c25] 65
          try simp only [World.size_alloc, World.size_setCell] at HS330
          have HS33 := Lib.hid HS330
          clear HS330
          refine (St.callE HS33.out (f_r08_Key_spec 0 _ hx32H.out) (RX.reads_triv _ _)).mono ?_
          rintro e w34 ⟨v, A', N, rfl, ⟨rfl, rfl, rfl⟩, H1⟩
          clear hx32H HS33
          try simp only [List.cons_append, List.nil_append, List.set_cons_zero, List.set_cons_succ] at H1
          have d35 : w34.cell? ⟨w28.heap.size, 0, none⟩ = some (.int .i64 x23.fTime) := heap_at (St.blk 0 H1 rfl) 0
          have d36 : w34.cell? ⟨w28.heap.size, 1, none⟩ = some (.int .i64 x23.fOffset) := heap_at (St.blk 0 H1 rfl) 1
          have d37 : w34.cell? ⟨w28.heap.size, 2, none⟩ = some (.bool x23.fKey.null) := heap_at (St.blk 0 H1 rfl) 2
          have d38 : w34.cell? ⟨w28.heap.size, 3, none⟩ = some (.string (bsOf x23.fKey.data)) := heap_at (St.blk 0 H1 rfl) 3
          have d39 : w34.cell? ⟨w28.heap.size, 4, none⟩ = some (.bool x23.fValue.null) := heap_at (St.blk 0 H1 rfl) 4
          have d40 : w34.cell? ⟨w28.heap.size, 5, none⟩ = some (.string (bsOf x23.fValue.data)) := heap_at (St.blk 0 H1 rfl) 5
          have d41 : w34.cell? ⟨w28.heap.size, 6, none⟩ = some (.slice A24 x23.fHeaders.length c25) := heap_at (St.blk 0 H1 rfl) 6
          have z42 : w34.frozen? ⟨w28.heap.size, 0, none⟩ = false := heap_free (St.blk 0 H1 rfl) 0
          have z43 : w34.frozen? ⟨w28.heap.size, 1, none⟩ = false := heap_free (St.blk 0 H1 rfl) 1
          have z44 : w34.frozen? ⟨w28.heap.size, 2, none⟩ = false := heap_free (St.blk 0 H1 rfl) 2
          have z45 : w34.frozen? ⟨w28.heap.size, 3, none⟩ = false := heap_free (St.blk 0 H1 rfl) 3
          have z46 : w34.frozen? ⟨w28.heap.size, 4, none⟩ = false := heap_free (St.blk 0 H1 rfl) 4
          have z47 : w34.frozen? ⟨w28.heap.size, 5, none⟩ = false := heap_free (St.blk 0 H1 rfl) 5
          have z48 : w34.frozen? ⟨w28.heap.size, 6, none⟩ = false := heap_free (St.blk 0 H1 rfl) 6
          have HS49 := Lib.hid H1
          clear H1
          by_cases c50 : x13 = x31
          · have H := HH.out
            clear HH
            rw [if_pos c50] at H
            have HH := Lib.hid H
            clear H
            have b51 : (x13 == x31) = true := beq_iff_eq.2 c50
            have b52 : (x13 != x31) = false := bne_eq_false_iff_eq.2 c50
            clear c50
            by_cases c53 : x9 = true
            · have H := HH.out
              clear HH
              rw [if_pos c53] at H
              have HH := Lib.hid H
              clear H
              subst c53
              by_cases c54 : x19 = 0
              · have H := HH.out
                clear HH
                rw [if_pos c54] at H
                have HH := Lib.hid H
                clear H
                subst c54
                go_wp2_with fail
                have H0 := HH.out
                clear HH
                obtain ⟨x55, hx56, H⟩ := Option.bind_eq_some_iff.1 H0
                clear H0
                try dsimp only at H
                have hx56H := Lib.hid hx56
                clear hx56
                have HH := Lib.hid H
                clear H
                refine (St.callE HS49.out (f_r08_Value_spec a1 _ hx56H.out) (RX.reads_triv _ _)).mono ?_
                rintro e w57 ⟨v, A', N, rfl, ⟨rfl, rfl, rfl⟩, H1⟩
                clear hx56H HS49
                try simp only [List.cons_append, List.nil_append, List.set_cons_zero, List.set_cons_succ] at H1
                clear d35 d36 d37 d38 d39 d40 d41 z42 z43 z44 z45 z46 z47 z48
                have d58 : w57.cell? ⟨w28.heap.size, 0, none⟩ = some (.int .i64 x23.fTime) := heap_at (St.blk 0 H1 rfl) 0
                have d59 : w57.cell? ⟨w28.heap.size, 1, none⟩ = some (.int .i64 x23.fOffset) := heap_at (St.blk 0 H1 rfl) 1
                have d60 : w57.cell? ⟨w28.heap.size, 2, none⟩ = some (.bool x23.fKey.null) := heap_at (St.blk 0 H1 rfl) 2
                have d61 : w57.cell? ⟨w28.heap.size, 3, none⟩ = some (.string (bsOf x23.fKey.data)) := heap_at (St.blk 0 H1 rfl) 3
                have d62 : w57.cell? ⟨w28.heap.size, 4, none⟩ = some (.bool x23.fValue.null) := heap_at (St.blk 0 H1 rfl) 4
                have d63 : w57.cell? ⟨w28.heap.size, 5, none⟩ = some (.string (bsOf x23.fValue.data)) := heap_at (St.blk 0 H1 rfl) 5
                have d64 : w57.cell? ⟨w28.heap.size, 6, none⟩ = some (.slice A24 x23.fHeaders.length c25) := heap_at (St.blk 0 H1 rfl) 6
                have z65 : w57.frozen? ⟨w28.heap.size, 0, none⟩ = false := heap_free (St.blk 0 H1 rfl) 0
                have z66 : w57.frozen? ⟨w28.heap.size, 1, none⟩ = false := heap_free (St.blk 0 H1 rfl) 1
                have z67 : w57.frozen? ⟨w28.heap.size, 2, none⟩ = false := heap_free (St.blk 0 H1 rfl) 2
                have z68 : w57.frozen? ⟨w28.heap.size, 3, none⟩ = false := heap_free (St.blk 0 H1 rfl) 3
                have z69 : w57.frozen? ⟨w28.heap.size, 4, none⟩ = false := heap_free (St.blk 0 H1 rfl) 4
                have z70 : w57.frozen? ⟨w28.heap.size, 5, none⟩ = false := heap_free (St.blk 0 H1 rfl) 5
                have z71 : w57.frozen? ⟨w28.heap.size, 6, none⟩ = false := heap_free (St.blk 0 H1 rfl) 6
                have HS72 := Lib.hid H1
                clear H1
                by_cases c73 : x18 = x55
                · have H := HH.out
                  clear HH
                  rw [if_pos c73] at H
                  have HH := Lib.hid H
                  clear H
                  have b74 : (x18 == x55) = true := beq_iff_eq.2 c73
                  have b75 : (x18 != x55) = false := bne_eq_false_iff_eq.2 c73
                  clear c73
                  go_wp2_with fail
                  have H0 := HH.out
                  clear HH
                  obtain ⟨⟨x76, x77, x78⟩, hx79, H⟩ := Option.bind_eq_some_iff.1 H0
                  clear H0
                  try dsimp only at H
                  have hx79H := Lib.hid hx79
                  clear hx79
                  have HH := Lib.hid H
                  clear H
                  refine (St.callE HS72.out (f_control_Read_spec x23 _ _ _ hx79H.out) (SrcE.res 1 HS72.out rfl rd_reads)).mono ?_
                  rintro e w80 ⟨v, A', N, rfl, ⟨rfl, rfl, rfl⟩, H1⟩
                  clear hx79H HS72
                  try simp only [List.cons_append, List.nil_append, List.set_cons_zero, List.set_cons_succ] at H1
                  clear d58 d59 d60 d61 d62 d63 d64 z65 z66 z67 z68 z69 z70 z71
                  have d81 : w80.cell? ⟨w28.heap.size, 0, none⟩ = some (.int .i64 x23.fTime) := heap_at (St.blk 0 H1 rfl) 0
                  have d82 : w80.cell? ⟨w28.heap.size, 1, none⟩ = some (.int .i64 x23.fOffset) := heap_at (St.blk 0 H1 rfl) 1
                  have d83 : w80.cell? ⟨w28.heap.size, 2, none⟩ = some (.bool x23.fKey.null) := heap_at (St.blk 0 H1 rfl) 2
                  have d84 : w80.cell? ⟨w28.heap.size, 3, none⟩ = some (.string (bsOf x23.fKey.data)) := heap_at (St.blk 0 H1 rfl) 3
                  have d85 : w80.cell? ⟨w28.heap.size, 4, none⟩ = some (.bool x23.fValue.null) := heap_at (St.blk 0 H1 rfl) 4
                  have d86 : w80.cell? ⟨w28.heap.size, 5, none⟩ = some (.string (bsOf x23.fValue.data)) := heap_at (St.blk 0 H1 rfl) 5
                  have d87 : w80.cell? ⟨w28.heap.size, 6, none⟩ = some (.slice A24 x23.fHeaders.length c25) := heap_at (St.blk 0 H1 rfl) 6
                  have z88 : w80.frozen? ⟨w28.heap.size, 0, none⟩ = false := heap_free (St.blk 0 H1 rfl) 0
                  have z89 : w80.frozen? ⟨w28.heap.size, 1, none⟩ = false := heap_free (St.blk 0 H1 rfl) 1
                  have z90 : w80.frozen? ⟨w28.heap.size, 2, none⟩ = false := heap_free (St.blk 0 H1 rfl) 2
                  have z91 : w80.frozen? ⟨w28.heap.size, 3, none⟩ = false := heap_free (St.blk 0 H1 rfl) 3
                  have z92 : w80.frozen? ⟨w28.heap.size, 4, none⟩ = false := heap_free (St.blk 0 H1 rfl) 4
                  have z93 : w80.frozen? ⟨w28.heap.size, 5, none⟩ = false := heap_free (St.blk 0 H1 rfl) 5
                  have z94 : w80.frozen? ⟨w28.heap.size, 6, none⟩ = false := heap_free (St.blk 0 H1 rfl) 6
                  have HS95 := Lib.hid H1
                  clear H1
                  by_cases c96 : x26 = 0
                  · have H := HH.out
                    clear HH
                    rw [if_pos c96] at H
                    have HH := Lib.hid H
                    clear H
                    subst c96
                    go_wp2_with fail
                    have H0 := HH.out
                    clear HH
                    obtain ⟨x97, hx98, H⟩ := Option.bind_eq_some_iff.1 H0
                    clear H0
                    try dsimp only at H
                    have hx98H := Lib.hid hx98
                    clear hx98
                    have HH := Lib.hid H
                    clear H
                    refine (St.callE HS95.out (f_r07_Same_spec x23 _ _ (⟨0, 0, (⟨false, x13⟩ : Bl), (⟨false, x18⟩ : Bl), []⟩ : Rec) _ _ _ hx98H.out) (RX.reads_and (SrcE.res 1 HS95.out rfl rd_reads) slice_nil_reads)).mono ?_
                    rintro e w99 ⟨v, A', N, rfl, ⟨rfl, rfl, rfl⟩, H1⟩
                    clear hx98H HS95
                    try simp only [List.cons_append, List.nil_append, List.set_cons_zero, List.set_cons_succ] at H1
                    clear d81 d82 d83 d84 d85 d86 d87 z88 z89 z90 z91 z92 z93 z94
                    have HS100 := Lib.hid H1
                    clear H1
                    by_cases c101 : x97 = true
                    · have H := HH.out
                      clear HH
                      rw [if_pos c101] at H
                      have HH := Lib.hid H
                      clear H
                      subst c101
                      by_cases c102 : x76 = 0
                      · have H := HH.out
                        clear HH
                        rw [if_pos c102] at H
                        have HH := Lib.hid H
                        clear H
                        subst c102
                        by_cases c103 : x77 = a1
                        · have H := HH.out
                          clear HH
                          rw [if_pos c103] at H
                          have HH := Lib.hid H
                          clear H
                          have b104 : (x77 == a1) = true := beq_iff_eq.2 c103
                          have b105 : (x77 != a1) = false := bne_eq_false_iff_eq.2 c103
                          clear c103
                          by_cases c106 : x78 = 0
                          · have H := HH.out
                            clear HH
                            rw [if_pos c106] at H
                            have HH := Lib.hid H
                            clear H
                            subst c106
                            go_wp2_with fail
                            go_ret
                            have H := Option.some.inj HH.out
                            clear HH
                            subst H
                            exact ⟨_, _, _, rfl, ⟨rfl, rfl, rfl⟩, (HS100.out.front 2 rfl).keep 1⟩
                          · have H := HH.out
                            clear HH
                            rw [if_neg c106] at H
                            have HH := Lib.hid H
                            clear H
                            have b107 : (x78 == 0) = false := beq_eq_false_iff_ne.2 c106
                            have b108 : (x78 != 0) = true := bne_iff_ne.2 c106
                            clear c106
                            go_wp2_with fail
                            go_ret
                            have H := Option.some.inj HH.out
                            clear HH
                            subst H
                            exact ⟨_, _, _, rfl, ⟨rfl, rfl, rfl⟩, (HS100.out.front 2 rfl).keep 1⟩
                        · have H := HH.out
                          clear HH
                          rw [if_neg c103] at H
                          have HH := Lib.hid H
                          clear H
                          have b109 : (x77 == a1) = false := beq_eq_false_iff_ne.2 c103
                          have b110 : (x77 != a1) = true := bne_iff_ne.2 c103
                          clear c103
                          go_wp2_with fail
                          go_ret
                          have H := Option.some.inj HH.out
                          clear HH
                          subst H
                          exact ⟨_, _, _, rfl, ⟨rfl, rfl, rfl⟩, (HS100.out.front 2 rfl).keep 1⟩
                      · have H := HH.out
                        clear HH
                        rw [if_neg c102] at H
                        have HH := Lib.hid H
                        clear H
                        have b111 : (x76 == 0) = false := beq_eq_false_iff_ne.2 c102
                        have b112 : (x76 != 0) = true := bne_iff_ne.2 c102
                        clear c102
                        go_wp2_with fail
                        go_ret
                        have H := Option.some.inj HH.out
                        clear HH
                        subst H
                        exact ⟨_, _, _, rfl, ⟨rfl, rfl, rfl⟩, (HS100.out.front 2 rfl).keep 1⟩
                    · have H := HH.out
                      clear HH
                      rw [if_neg c101] at H
                      have HH := Lib.hid H
                      clear H
                      have c101 : x97 = false := by simpa using c101
                      subst c101
                      go_wp2_with fail
                      go_ret
                      have H := Option.some.inj HH.out
                      clear HH
                      subst H
                      exact ⟨_, _, _, rfl, ⟨rfl, rfl, rfl⟩, (HS100.out.front 2 rfl).keep 1⟩
                  · have H := HH.out
                    clear HH
                    rw [if_neg c96] at H
                    have HH := Lib.hid H
                    clear H
                    have b113 : (x26 == 0) = false := beq_eq_false_iff_ne.2 c96
                    have b114 : (x26 != 0) = true := bne_iff_ne.2 c96
                    clear c96
                    go_wp2_with fail
                    go_ret
                    have H := Option.some.inj HH.out
                    clear HH
                    subst H
                    exact ⟨_, _, _, rfl, ⟨rfl, rfl, rfl⟩, (HS95.out.front 2 rfl).keep 1⟩
                · have H := HH.out
                  clear HH
                  rw [if_neg c73] at H
                  have HH := Lib.hid H
                  clear H
                  have b115 : (x18 == x55) = false := beq_eq_false_iff_ne.2 c73
                  have b116 : (x18 != x55) = true := bne_iff_ne.2 c73
                  clear c73
                  go_wp2_with fail
                  go_ret
                  have H := Option.some.inj HH.out
                  clear HH
                  subst H
                  exact ⟨_, _, _, rfl, ⟨rfl, rfl, rfl⟩, (HS72.out.front 2 rfl).keep 1⟩
              · have H := HH.out
                clear HH
                rw [if_neg c54] at H
                have HH := Lib.hid H
                clear H
                have b117 : (x19 == 0) = false := beq_eq_false_iff_ne.2 c54
                have b118 : (x19 != 0) = true := bne_iff_ne.2 c54
                clear c54
                go_wp2_with fail
                go_ret
                have H := Option.some.inj HH.out
                clear HH
                subst H
                exact ⟨_, _, _, rfl, ⟨rfl, rfl, rfl⟩, (HS49.out.front 2 rfl).keep 1⟩
            · have H := HH.out
              clear HH
              rw [if_neg c53] at H
              have HH := Lib.hid H
              clear H
              have c53 : x9 = false := by simpa using c53
              subst c53
              by_cases c119 : x19 = 11
              · have H := HH.out
                clear HH
                rw [if_pos c119] at H
                have HH := Lib.hid H
                clear H
                subst c119
                by_cases c120 : x18 = []
                · have H := HH.out
                  clear HH
                  rw [if_pos c120] at H
                  have HH := Lib.hid H
                  clear H
                  subst c120
                  by_cases c121 : x26 = 11
                  · have H := HH.out
                    clear HH
                    rw [if_pos c121] at H
                    have HH := Lib.hid H
                    clear H
                    subst c121
                    go_wp2_with fail
                    have H0 := HH.out
                    clear HH
                    obtain ⟨x122, hx123, H⟩ := Option.bind_eq_some_iff.1 H0
                    clear H0
                    try dsimp only at H
                    have hx123H := Lib.hid hx123
                    clear hx123
                    have HH := Lib.hid H
                    clear H
                    refine (St.callE HS49.out (f_r07_Same_spec x23 _ _ (⟨0, 0, (⟨false, []⟩ : Bl), (⟨false, []⟩ : Bl), []⟩ : Rec) _ _ _ hx123H.out) (RX.reads_and (SrcE.res 1 HS49.out rfl rd_reads) slice_nil_reads)).mono ?_
                    rintro e w124 ⟨v, A', N, rfl, ⟨rfl, rfl, rfl⟩, H1⟩
                    clear hx123H HS49
                    try simp only [List.cons_append, List.nil_append, List.set_cons_zero, List.set_cons_succ] at H1
                    clear d35 d36 d37 d38 d39 d40 d41 z42 z43 z44 z45 z46 z47 z48
                    have d125 : w124.cell? ⟨w28.heap.size, 0, none⟩ = some (.int .i64 x23.fTime) := heap_at (St.blk 0 H1 rfl) 0
                    have d126 : w124.cell? ⟨w28.heap.size, 1, none⟩ = some (.int .i64 x23.fOffset) := heap_at (St.blk 0 H1 rfl) 1
                    have d127 : w124.cell? ⟨w28.heap.size, 2, none⟩ = some (.bool x23.fKey.null) := heap_at (St.blk 0 H1 rfl) 2
                    have d128 : w124.cell? ⟨w28.heap.size, 3, none⟩ = some (.string (bsOf x23.fKey.data)) := heap_at (St.blk 0 H1 rfl) 3
                    have d129 : w124.cell? ⟨w28.heap.size, 4, none⟩ = some (.bool x23.fValue.null) := heap_at (St.blk 0 H1 rfl) 4
                    have d130 : w124.cell? ⟨w28.heap.size, 5, none⟩ = some (.string (bsOf x23.fValue.data)) := heap_at (St.blk 0 H1 rfl) 5
                    have d131 : w124.cell? ⟨w28.heap.size, 6, none⟩ = some (.slice A24 x23.fHeaders.length c25) := heap_at (St.blk 0 H1 rfl) 6
                    have z132 : w124.frozen? ⟨w28.heap.size, 0, none⟩ = false := heap_free (St.blk 0 H1 rfl) 0
                    have z133 : w124.frozen? ⟨w28.heap.size, 1, none⟩ = false := heap_free (St.blk 0 H1 rfl) 1
                    have z134 : w124.frozen? ⟨w28.heap.size, 2, none⟩ = false := heap_free (St.blk 0 H1 rfl) 2
                    have z135 : w124.frozen? ⟨w28.heap.size, 3, none⟩ = false := heap_free (St.blk 0 H1 rfl) 3
                    have z136 : w124.frozen? ⟨w28.heap.size, 4, none⟩ = false := heap_free (St.blk 0 H1 rfl) 4
                    have z137 : w124.frozen? ⟨w28.heap.size, 5, none⟩ = false := heap_free (St.blk 0 H1 rfl) 5
                    have z138 : w124.frozen? ⟨w28.heap.size, 6, none⟩ = false := heap_free (St.blk 0 H1 rfl) 6
                    have HS139 := Lib.hid H1
                    clear H1
                    go_wp2_with fail
                    go_ret
                    have H := Option.some.inj HH.out
                    clear HH
                    subst H
                    exact ⟨_, _, _, rfl, ⟨rfl, rfl, rfl⟩, (HS139.out.front 2 rfl).keep 1⟩
                  · have H := HH.out
                    clear HH
                    rw [if_neg c121] at H
                    have HH := Lib.hid H
                    clear H
                    have b140 : (x26 == 11) = false := beq_eq_false_iff_ne.2 c121
                    have b141 : (x26 != 11) = true := bne_iff_ne.2 c121
                    clear c121
                    go_wp2_with fail
                    go_ret
                    have H := Option.some.inj HH.out
                    clear HH
                    subst H
                    exact ⟨_, _, _, rfl, ⟨rfl, rfl, rfl⟩, (HS49.out.front 2 rfl).keep 1⟩
                · have H := HH.out
                  clear HH
                  rw [if_neg c120] at H
                  have HH := Lib.hid H
                  clear H
                  have b142 : 0 < x18.length := List.length_pos_iff.2 c120
                  have b143 : x18.isEmpty = false := by simpa using c120
                  have b144 : (x18 == []) = false := beq_eq_false_iff_ne.2 c120
                  have b145 : (x18 != []) = true := bne_iff_ne.2 c120
                  go_wp2_with fail
                  go_ret
                  have H := Option.some.inj HH.out
                  clear HH
                  subst H
                  exact ⟨_, _, _, rfl, ⟨rfl, rfl, rfl⟩, (HS49.out.front 2 rfl).keep 1⟩
              · have H := HH.out
                clear HH
                rw [if_neg c119] at H
                have HH := Lib.hid H
                clear H
                have b146 : (x19 == 11) = false := beq_eq_false_iff_ne.2 c119
                have b147 : (x19 != 11) = true := bne_iff_ne.2 c119
                clear c119
                go_wp2_with fail
                go_ret
                have H := Option.some.inj HH.out
                clear HH
                subst H
                exact ⟨_, _, _, rfl, ⟨rfl, rfl, rfl⟩, (HS49.out.front 2 rfl).keep 1⟩
          · have H := HH.out
            clear HH
            rw [if_neg c50] at H
            have HH := Lib.hid H
            clear H
            have b148 : (x13 == x31) = false := beq_eq_false_iff_ne.2 c50
            have b149 : (x13 != x31) = true := bne_iff_ne.2 c50
            clear c50
            go_wp2_with fail
            go_ret
            have H := Option.some.inj HH.out
            clear HH
            subst H
            exact ⟨_, _, _, rfl, ⟨rfl, rfl, rfl⟩, (HS49.out.front 2 rfl).keep 1⟩
        · have H := HH.out
          clear HH
          rw [if_neg c30] at H
          have HH := Lib.hid H
          clear H
          have b150 : (x14 == 0) = false := beq_eq_false_iff_ne.2 c30
          have b151 : (x14 != 0) = true := bne_iff_ne.2 c30
          clear c30
          go_wp2_with fail
          have HS1520 := (HS29.out).alloc #[.int .i64 x23.fTime, .int .i64 x23.fOffset, .bool x23.fKey.null, .string (bsOf x23.fKey.data), .bool x23.fValue.null, .string (bsOf x23.fValue.data), .slice A24 x23.fHeaders.length c25] 65
          try simp only [World.size_alloc, World.size_setCell] at HS1520
          have HS152 := Lib.hid HS1520
          clear HS1520
          go_ret
          have H := Option.some.inj HH.out
          clear HH
          subst H
          exact ⟨_, _, _, rfl, ⟨rfl, rfl, rfl⟩, (HS152.out.front 2 rfl).keep 1⟩
      · have H := HH.out
        clear HH
        rw [if_neg c7] at H
        have HH := Lib.hid H
        clear H
        have b153 : decide (0 ≤ a1) = false := decide_eq_false c7
        go_wp2_with fail
        have H0 := HH.out
        clear HH
        obtain ⟨⟨x154, x155⟩, hx156, H⟩ := Option.bind_eq_some_iff.1 H0
        clear H0
        try dsimp only at H
        have hx156H := Lib.hid hx156
        clear hx156
        have HH := Lib.hid H
        clear H
        refine (St.callE HS4.out (f_control_Key_spec 0 _ hx156H.out) (RX.reads_triv _ _)).mono ?_
        rintro e w157 ⟨v, A', N, rfl, ⟨rfl, rfl, rfl⟩, H1⟩
        clear hx156H HS4
        try simp only [List.cons_append, List.nil_append, List.set_cons_zero, List.set_cons_succ] at H1
        have HS158 := Lib.hid H1
        clear H1
        go_wp2_with fail
        have H0 := HH.out
        clear HH
        obtain ⟨⟨x159, x160⟩, hx161, H⟩ := Option.bind_eq_some_iff.1 H0
        clear H0
        try dsimp only at H
        have hx161H := Lib.hid hx161
        clear hx161
        have HH := Lib.hid H
        clear H
        refine (St.callE HS158.out (f_control_Value_spec a1 _ hx161H.out) (RX.reads_triv _ _)).mono ?_
        rintro e w162 ⟨v, A', N, rfl, ⟨rfl, rfl, rfl⟩, H1⟩
        clear hx161H HS158
        try simp only [List.cons_append, List.nil_append, List.set_cons_zero, List.set_cons_succ] at H1
        have HS163 := Lib.hid H1
        clear H1
        go_wp2_with fail
        have H0 := HH.out
        clear HH
        obtain ⟨⟨x164, x167⟩, hx168, H⟩ := Option.bind_eq_some_iff.1 H0
        clear H0
        try dsimp only at H
        have hx168H := Lib.hid hx168
        clear hx168
        have HH := Lib.hid H
        clear H
        refine (St.callE HS163.out (f_control_Record_spec 0 a1 _ hx168H.out) (RX.reads_triv _ _)).mono ?_
        rintro e w169 ⟨v, A', N, rfl, ⟨A165, c166, rfl, rfl, rfl⟩, H1⟩
        clear hx168H HS163
        try simp only [List.cons_append, List.nil_append, List.set_cons_zero, List.set_cons_succ] at H1
        have HS170 := Lib.hid H1
        clear H1
        by_cases c171 : x155 = 0
        · have H := HH.out
          clear HH
          rw [if_pos c171] at H
          have HH := Lib.hid H
          clear H
          subst c171
          go_wp2_with fail
          have H0 := HH.out
          clear HH
          obtain ⟨x172, hx173, H⟩ := Option.bind_eq_some_iff.1 H0
          clear H0
          try dsimp only at H
          have hx173H := Lib.hid hx173
          clear hx173
          have HH := Lib.hid H
          clear H
          have HS1740 := (HS170.out).alloc #[.int .i64 x164.fTime, .int .i64 x164.fOffset, .bool x164.fKey.null, .string (bsOf x164.fKey.data), .bool x164.fValue.null, .string (bsOf x164.fValue.data), .slice A165 x164.fHeaders.length c166] 65
          try simp only [World.size_alloc, World.size_setCell] at HS1740
          have HS174 := Lib.hid HS1740
          clear HS1740
          refine (St.callE HS174.out (f_r08_Key_spec 0 _ hx173H.out) (RX.reads_triv _ _)).mono ?_
          rintro e w175 ⟨v, A', N, rfl, ⟨rfl, rfl, rfl⟩, H1⟩
          clear hx173H HS174
          try simp only [List.cons_append, List.nil_append, List.set_cons_zero, List.set_cons_succ] at H1
          have d176 : w175.cell? ⟨w169.heap.size, 0, none⟩ = some (.int .i64 x164.fTime) := heap_at (St.blk 0 H1 rfl) 0
          have d177 : w175.cell? ⟨w169.heap.size, 1, none⟩ = some (.int .i64 x164.fOffset) := heap_at (St.blk 0 H1 rfl) 1
          have d178 : w175.cell? ⟨w169.heap.size, 2, none⟩ = some (.bool x164.fKey.null) := heap_at (St.blk 0 H1 rfl) 2
          have d179 : w175.cell? ⟨w169.heap.size, 3, none⟩ = some (.string (bsOf x164.fKey.data)) := heap_at (St.blk 0 H1 rfl) 3
          have d180 : w175.cell? ⟨w169.heap.size, 4, none⟩ = some (.bool x164.fValue.null) := heap_at (St.blk 0 H1 rfl) 4
          have d181 : w175.cell? ⟨w169.heap.size, 5, none⟩ = some (.string (bsOf x164.fValue.data)) := heap_at (St.blk 0 H1 rfl) 5
          have d182 : w175.cell? ⟨w169.heap.size, 6, none⟩ = some (.slice A165 x164.fHeaders.length c166) := heap_at (St.blk 0 H1 rfl) 6
          have z183 : w175.frozen? ⟨w169.heap.size, 0, none⟩ = false := heap_free (St.blk 0 H1 rfl) 0
          have z184 : w175.frozen? ⟨w169.heap.size, 1, none⟩ = false := heap_free (St.blk 0 H1 rfl) 1
          have z185 : w175.frozen? ⟨w169.heap.size, 2, none⟩ = false := heap_free (St.blk 0 H1 rfl) 2
          have z186 : w175.frozen? ⟨w169.heap.size, 3, none⟩ = false := heap_free (St.blk 0 H1 rfl) 3
          have z187 : w175.frozen? ⟨w169.heap.size, 4, none⟩ = false := heap_free (St.blk 0 H1 rfl) 4
          have z188 : w175.frozen? ⟨w169.heap.size, 5, none⟩ = false := heap_free (St.blk 0 H1 rfl) 5
          have z189 : w175.frozen? ⟨w169.heap.size, 6, none⟩ = false := heap_free (St.blk 0 H1 rfl) 6
          have HS190 := Lib.hid H1
          clear H1
          by_cases c191 : x154 = x172
          · have H := HH.out
            clear HH
            rw [if_pos c191] at H
            have HH := Lib.hid H
            clear H
            have b192 : (x154 == x172) = true := beq_iff_eq.2 c191
            have b193 : (x154 != x172) = false := bne_eq_false_iff_eq.2 c191
            clear c191
            by_cases c194 : x160 = 11
            · have H := HH.out
              clear HH
              rw [if_pos c194] at H
              have HH := Lib.hid H
              clear H
              subst c194
              by_cases c195 : x159 = []
              · have H := HH.out
                clear HH
                rw [if_pos c195] at H
                have HH := Lib.hid H
                clear H
                subst c195
                by_cases c196 : x167 = 11
                · have H := HH.out
                  clear HH
                  rw [if_pos c196] at H
                  have HH := Lib.hid H
                  clear H
                  subst c196
                  go_wp2_with fail
                  have H0 := HH.out
                  clear HH
                  obtain ⟨x197, hx198, H⟩ := Option.bind_eq_some_iff.1 H0
                  clear H0
                  try dsimp only at H
                  have hx198H := Lib.hid hx198
                  clear hx198
                  have HH := Lib.hid H
                  clear H
                  refine (St.callE HS190.out (f_r07_Same_spec x164 _ _ (⟨0, 0, (⟨false, []⟩ : Bl), (⟨false, []⟩ : Bl), []⟩ : Rec) _ _ _ hx198H.out) (RX.reads_and (SrcE.res 1 HS190.out rfl rd_reads) slice_nil_reads)).mono ?_
                  rintro e w199 ⟨v, A', N, rfl, ⟨rfl, rfl, rfl⟩, H1⟩
                  clear hx198H HS190
                  try simp only [List.cons_append, List.nil_append, List.set_cons_zero, List.set_cons_succ] at H1
                  clear d176 d177 d178 d179 d180 d181 d182 z183 z184 z185 z186 z187 z188 z189
                  have d200 : w199.cell? ⟨w169.heap.size, 0, none⟩ = some (.int .i64 x164.fTime) := heap_at (St.blk 0 H1 rfl) 0
                  have d201 : w199.cell? ⟨w169.heap.size, 1, none⟩ = some (.int .i64 x164.fOffset) := heap_at (St.blk 0 H1 rfl) 1
                  have d202 : w199.cell? ⟨w169.heap.size, 2, none⟩ = some (.bool x164.fKey.null) := heap_at (St.blk 0 H1 rfl) 2
                  have d203 : w199.cell? ⟨w169.heap.size, 3, none⟩ = some (.string (bsOf x164.fKey.data)) := heap_at (St.blk 0 H1 rfl) 3
                  have d204 : w199.cell? ⟨w169.heap.size, 4, none⟩ = some (.bool x164.fValue.null) := heap_at (St.blk 0 H1 rfl) 4
                  have d205 : w199.cell? ⟨w169.heap.size, 5, none⟩ = some (.string (bsOf x164.fValue.data)) := heap_at (St.blk 0 H1 rfl) 5
                  have d206 : w199.cell? ⟨w169.heap.size, 6, none⟩ = some (.slice A165 x164.fHeaders.length c166) := heap_at (St.blk 0 H1 rfl) 6
                  have z207 : w199.frozen? ⟨w169.heap.size, 0, none⟩ = false := heap_free (St.blk 0 H1 rfl) 0
                  have z208 : w199.frozen? ⟨w169.heap.size, 1, none⟩ = false := heap_free (St.blk 0 H1 rfl) 1
                  have z209 : w199.frozen? ⟨w169.heap.size, 2, none⟩ = false := heap_free (St.blk 0 H1 rfl) 2
                  have z210 : w199.frozen? ⟨w169.heap.size, 3, none⟩ = false := heap_free (St.blk 0 H1 rfl) 3
                  have z211 : w199.frozen? ⟨w169.heap.size, 4, none⟩ = false := heap_free (St.blk 0 H1 rfl) 4
                  have z212 : w199.frozen? ⟨w169.heap.size, 5, none⟩ = false := heap_free (St.blk 0 H1 rfl) 5
                  have z213 : w199.frozen? ⟨w169.heap.size, 6, none⟩ = false := heap_free (St.blk 0 H1 rfl) 6
                  have HS214 := Lib.hid H1
                  clear H1
                  go_wp2_with fail
                  go_ret
                  have H := Option.some.inj HH.out
                  clear HH
                  subst H
                  exact ⟨_, _, _, rfl, ⟨rfl, rfl, rfl⟩, (HS214.out.front 2 rfl).keep 1⟩
                · have H := HH.out
                  clear HH
                  rw [if_neg c196] at H
                  have HH := Lib.hid H
                  clear H
                  have b215 : (x167 == 11) = false := beq_eq_false_iff_ne.2 c196
                  have b216 : (x167 != 11) = true := bne_iff_ne.2 c196
                  clear c196
                  go_wp2_with fail
                  go_ret
                  have H := Option.some.inj HH.out
                  clear HH
                  subst H
                  exact ⟨_, _, _, rfl, ⟨rfl, rfl, rfl⟩, (HS190.out.front 2 rfl).keep 1⟩
              · have H := HH.out
                clear HH
                rw [if_neg c195] at H
                have HH := Lib.hid H
                clear H
                have b217 : 0 < x159.length := List.length_pos_iff.2 c195
                have b218 : x159.isEmpty = false := by simpa using c195
                have b219 : (x159 == []) = false := beq_eq_false_iff_ne.2 c195
                have b220 : (x159 != []) = true := bne_iff_ne.2 c195
                go_wp2_with fail
                go_ret
                have H := Option.some.inj HH.out
                clear HH
                subst H
                exact ⟨_, _, _, rfl, ⟨rfl, rfl, rfl⟩, (HS190.out.front 2 rfl).keep 1⟩
            · have H := HH.out
              clear HH
              rw [if_neg c194] at H
              have HH := Lib.hid H
              clear H
              have b221 : (x160 == 11) = false := beq_eq_false_iff_ne.2 c194
              have b222 : (x160 != 11) = true := bne_iff_ne.2 c194
              clear c194
              go_wp2_with fail
              go_ret
              have H := Option.some.inj HH.out
              clear HH
              subst H
              exact ⟨_, _, _, rfl, ⟨rfl, rfl, rfl⟩, (HS190.out.front 2 rfl).keep 1⟩
          · have H := HH.out
            clear HH
            rw [if_neg c191] at H
            have HH := Lib.hid H
            clear H
            have b223 : (x154 == x172) = false := beq_eq_false_iff_ne.2 c191
            have b224 : (x154 != x172) = true := bne_iff_ne.2 c191
            clear c191
            go_wp2_with fail
            go_ret
            have H := Option.some.inj HH.out
            clear HH
            subst H
            exact ⟨_, _, _, rfl, ⟨rfl, rfl, rfl⟩, (HS190.out.front 2 rfl).keep 1⟩
        · have H := HH.out
          clear HH
          rw [if_neg c171] at H
          have HH := Lib.hid H
          clear H
          have b225 : (x155 == 0) = false := beq_eq_false_iff_ne.2 c171
          have b226 : (x155 != 0) = true := bne_iff_ne.2 c171
          clear c171
          go_wp2_with fail
          have HS2270 := (HS170.out).alloc #[.int .i64 x164.fTime, .int .i64 x164.fOffset, .bool x164.fKey.null, .string (bsOf x164.fKey.data), .bool x164.fValue.null, .string (bsOf x164.fValue.data), .slice A165 x164.fHeaders.length c166] 65
          try simp only [World.size_alloc, World.size_setCell] at HS2270
          have HS227 := Lib.hid HS2270
          clear HS2270
          go_ret
          have H := Option.some.inj HH.out
          clear HH
          subst H
          exact ⟨_, _, _, rfl, ⟨rfl, rfl, rfl⟩, (HS227.out.front 2 rfl).keep 1⟩
    · have H := HH.out
      clear HH
      rw [if_neg c6] at H
      have HH := Lib.hid H
      clear H
      have b228 : (a0 == 0) = false := beq_eq_false_iff_ne.2 c6
      have b229 : (a0 != 0) = true := bne_iff_ne.2 c6
      clear c6
      by_cases c230 : a1 ≥ 0
      · have H := HH.out
        clear HH
        rw [if_pos c230] at H
        have HH := Lib.hid H
        clear H
        have b231 : decide (0 ≤ a1) = true := decide_eq_true c230
        go_wp2_with fail
        have H0 := HH.out
        clear HH
        obtain ⟨x232, hx233, H⟩ := Option.bind_eq_some_iff.1 H0
        clear H0
        try dsimp only at H
        have hx233H := Lib.hid hx233
        clear hx233
        have HH := Lib.hid H
        clear H
        refine (St.callE HS4.out (gRFits_spec a1 4 _ hx233H.out) (RX.reads_triv _ _)).mono ?_
        rintro e w234 ⟨v, A', N, rfl, ⟨rfl, rfl, rfl⟩, H1⟩
        clear hx233H HS4
        try simp only [List.cons_append, List.nil_append, List.set_cons_zero, List.set_cons_succ] at H1
        have HS235 := Lib.hid H1
        clear H1
        go_wp2_with fail
        have H0 := HH.out
        clear HH
        obtain ⟨⟨x236, x237⟩, hx238, H⟩ := Option.bind_eq_some_iff.1 H0
        clear H0
        try dsimp only at H
        have hx238H := Lib.hid hx238
        clear hx238
        have HH := Lib.hid H
        clear H
        refine (St.callE HS235.out (f_control_Key_spec a0 _ hx238H.out) (RX.reads_triv _ _)).mono ?_
        rintro e w239 ⟨v, A', N, rfl, ⟨rfl, rfl, rfl⟩, H1⟩
        clear hx238H HS235
        try simp only [List.cons_append, List.nil_append, List.set_cons_zero, List.set_cons_succ] at H1
        have HS240 := Lib.hid H1
        clear H1
        go_wp2_with fail
        have H0 := HH.out
        clear HH
        obtain ⟨⟨x241, x242⟩, hx243, H⟩ := Option.bind_eq_some_iff.1 H0
        clear H0
        try dsimp only at H
        have hx243H := Lib.hid hx243
        clear hx243
        have HH := Lib.hid H
        clear H
        refine (St.callE HS240.out (f_control_Value_spec a1 _ hx243H.out) (RX.reads_triv _ _)).mono ?_
        rintro e w244 ⟨v, A', N, rfl, ⟨rfl, rfl, rfl⟩, H1⟩
        clear hx243H HS240
        try simp only [List.cons_append, List.nil_append, List.set_cons_zero, List.set_cons_succ] at H1
        have HS245 := Lib.hid H1
        clear H1
        go_wp2_with fail
        have H0 := HH.out
        clear HH
        obtain ⟨⟨x246, x249⟩, hx250, H⟩ := Option.bind_eq_some_iff.1 H0
        clear H0
        try dsimp only at H
        have hx250H := Lib.hid hx250
        clear hx250
        have HH := Lib.hid H
        clear H
        refine (St.callE HS245.out (f_control_Record_spec a0 a1 _ hx250H.out) (RX.reads_triv _ _)).mono ?_
        rintro e w251 ⟨v, A', N, rfl, ⟨A247, c248, rfl, rfl, rfl⟩, H1⟩
        clear hx250H HS245
        try simp only [List.cons_append, List.nil_append, List.set_cons_zero, List.set_cons_succ] at H1
        have HS252 := Lib.hid H1
        clear H1
        by_cases c253 : a0 = 1
        · have H := HH.out
          clear HH
          rw [if_pos c253] at H
          have HH := Lib.hid H
          clear H
          subst c253
          by_cases c254 : x237 = 0
          · have H := HH.out
            clear HH
            rw [if_pos c254] at H
            have HH := Lib.hid H
            clear H
            subst c254
            go_wp2_with fail
            have H0 := HH.out
            clear HH
            obtain ⟨x255, hx256, H⟩ := Option.bind_eq_some_iff.1 H0
            clear H0
            try dsimp only at H
            have hx256H := Lib.hid hx256
            clear hx256
            have HH := Lib.hid H
            clear H
            have HS2570 := (HS252.out).alloc #[.int .i64 x246.fTime, .int .i64 x246.fOffset, .bool x246.fKey.null, .string (bsOf x246.fKey.data), .bool x246.fValue.null, .string (bsOf x246.fValue.data), .slice A247 x246.fHeaders.length c248] 65
            try simp only [World.size_alloc, World.size_setCell] at HS2570
            have HS257 := Lib.hid HS2570
            clear HS2570
            refine (St.callE HS257.out (f_r08_Key_spec 1 _ hx256H.out) (RX.reads_triv _ _)).mono ?_
            rintro e w258 ⟨v, A', N, rfl, ⟨rfl, rfl, rfl⟩, H1⟩
            clear hx256H HS257
            try simp only [List.cons_append, List.nil_append, List.set_cons_zero, List.set_cons_succ] at H1
            have d259 : w258.cell? ⟨w251.heap.size, 0, none⟩ = some (.int .i64 x246.fTime) := heap_at (St.blk 0 H1 rfl) 0
            have d260 : w258.cell? ⟨w251.heap.size, 1, none⟩ = some (.int .i64 x246.fOffset) := heap_at (St.blk 0 H1 rfl) 1
            have d261 : w258.cell? ⟨w251.heap.size, 2, none⟩ = some (.bool x246.fKey.null) := heap_at (St.blk 0 H1 rfl) 2
            have d262 : w258.cell? ⟨w251.heap.size, 3, none⟩ = some (.string (bsOf x246.fKey.data)) := heap_at (St.blk 0 H1 rfl) 3
            have d263 : w258.cell? ⟨w251.heap.size, 4, none⟩ = some (.bool x246.fValue.null) := heap_at (St.blk 0 H1 rfl) 4
            have d264 : w258.cell? ⟨w251.heap.size, 5, none⟩ = some (.string (bsOf x246.fValue.data)) := heap_at (St.blk 0 H1 rfl) 5
            have d265 : w258.cell? ⟨w251.heap.size, 6, none⟩ = some (.slice A247 x246.fHeaders.length c248) := heap_at (St.blk 0 H1 rfl) 6
            have z266 : w258.frozen? ⟨w251.heap.size, 0, none⟩ = false := heap_free (St.blk 0 H1 rfl) 0
            have z267 : w258.frozen? ⟨w251.heap.size, 1, none⟩ = false := heap_free (St.blk 0 H1 rfl) 1
            have z268 : w258.frozen? ⟨w251.heap.size, 2, none⟩ = false := heap_free (St.blk 0 H1 rfl) 2
            have z269 : w258.frozen? ⟨w251.heap.size, 3, none⟩ = false := heap_free (St.blk 0 H1 rfl) 3
            have z270 : w258.frozen? ⟨w251.heap.size, 4, none⟩ = false := heap_free (St.blk 0 H1 rfl) 4
            have z271 : w258.frozen? ⟨w251.heap.size, 5, none⟩ = false := heap_free (St.blk 0 H1 rfl) 5
            have z272 : w258.frozen? ⟨w251.heap.size, 6, none⟩ = false := heap_free (St.blk 0 H1 rfl) 6
            have HS273 := Lib.hid H1
            clear H1
            by_cases c274 : x236 = x255
            · have H := HH.out
              clear HH
              rw [if_pos c274] at H
              have HH := Lib.hid H
              clear H
              have b275 : (x236 == x255) = true := beq_iff_eq.2 c274
              have b276 : (x236 != x255) = false := bne_eq_false_iff_eq.2 c274
              clear c274
              by_cases c277 : x232 = true
              · have H := HH.out
                clear HH
                rw [if_pos c277] at H
                have HH := Lib.hid H
                clear H
                subst c277
                by_cases c278 : x242 = 0
                · have H := HH.out
                  clear HH
                  rw [if_pos c278] at H
                  have HH := Lib.hid H
                  clear H
                  subst c278
                  go_wp2_with fail
                  have H0 := HH.out
                  clear HH
                  obtain ⟨x279, hx280, H⟩ := Option.bind_eq_some_iff.1 H0
                  clear H0
                  try dsimp only at H
                  have hx280H := Lib.hid hx280
                  clear hx280
                  have HH := Lib.hid H
                  clear H
                  refine (St.callE HS273.out (f_r08_Value_spec a1 _ hx280H.out) (RX.reads_triv _ _)).mono ?_
                  rintro e w281 ⟨v, A', N, rfl, ⟨rfl, rfl, rfl⟩, H1⟩
                  clear hx280H HS273
                  try simp only [List.cons_append, List.nil_append, List.set_cons_zero, List.set_cons_succ] at H1
                  clear d259 d260 d261 d262 d263 d264 d265 z266 z267 z268 z269 z270 z271 z272
                  have d282 : w281.cell? ⟨w251.heap.size, 0, none⟩ = some (.int .i64 x246.fTime) := heap_at (St.blk 0 H1 rfl) 0
                  have d283 : w281.cell? ⟨w251.heap.size, 1, none⟩ = some (.int .i64 x246.fOffset) := heap_at (St.blk 0 H1 rfl) 1
                  have d284 : w281.cell? ⟨w251.heap.size, 2, none⟩ = some (.bool x246.fKey.null) := heap_at (St.blk 0 H1 rfl) 2
                  have d285 : w281.cell? ⟨w251.heap.size, 3, none⟩ = some (.string (bsOf x246.fKey.data)) := heap_at (St.blk 0 H1 rfl) 3
                  have d286 : w281.cell? ⟨w251.heap.size, 4, none⟩ = some (.bool x246.fValue.null) := heap_at (St.blk 0 H1 rfl) 4
                  have d287 : w281.cell? ⟨w251.heap.size, 5, none⟩ = some (.string (bsOf x246.fValue.data)) := heap_at (St.blk 0 H1 rfl) 5
                  have d288 : w281.cell? ⟨w251.heap.size, 6, none⟩ = some (.slice A247 x246.fHeaders.length c248) := heap_at (St.blk 0 H1 rfl) 6
                  have z289 : w281.frozen? ⟨w251.heap.size, 0, none⟩ = false := heap_free (St.blk 0 H1 rfl) 0
                  have z290 : w281.frozen? ⟨w251.heap.size, 1, none⟩ = false := heap_free (St.blk 0 H1 rfl) 1
                  have z291 : w281.frozen? ⟨w251.heap.size, 2, none⟩ = false := heap_free (St.blk 0 H1 rfl) 2
                  have z292 : w281.frozen? ⟨w251.heap.size, 3, none⟩ = false := heap_free (St.blk 0 H1 rfl) 3
                  have z293 : w281.frozen? ⟨w251.heap.size, 4, none⟩ = false := heap_free (St.blk 0 H1 rfl) 4
                  have z294 : w281.frozen? ⟨w251.heap.size, 5, none⟩ = false := heap_free (St.blk 0 H1 rfl) 5
                  have z295 : w281.frozen? ⟨w251.heap.size, 6, none⟩ = false := heap_free (St.blk 0 H1 rfl) 6
                  have HS296 := Lib.hid H1
                  clear H1
                  by_cases c297 : x241 = x279
                  · have H := HH.out
                    clear HH
                    rw [if_pos c297] at H
                    have HH := Lib.hid H
                    clear H
                    have b298 : (x241 == x279) = true := beq_iff_eq.2 c297
                    have b299 : (x241 != x279) = false := bne_eq_false_iff_eq.2 c297
                    clear c297
                    go_wp2_with fail
                    have H0 := HH.out
                    clear HH
                    obtain ⟨⟨x300, x301, x302⟩, hx303, H⟩ := Option.bind_eq_some_iff.1 H0
                    clear H0
                    try dsimp only at H
                    have hx303H := Lib.hid hx303
                    clear hx303
                    have HH := Lib.hid H
                    clear H
                    refine (St.callE HS296.out (f_control_Read_spec x246 _ _ _ hx303H.out) (SrcE.res 1 HS296.out rfl rd_reads)).mono ?_
                    rintro e w304 ⟨v, A', N, rfl, ⟨rfl, rfl, rfl⟩, H1⟩
                    clear hx303H HS296
                    try simp only [List.cons_append, List.nil_append, List.set_cons_zero, List.set_cons_succ] at H1
                    clear d282 d283 d284 d285 d286 d287 d288 z289 z290 z291 z292 z293 z294 z295
                    have d305 : w304.cell? ⟨w251.heap.size, 0, none⟩ = some (.int .i64 x246.fTime) := heap_at (St.blk 0 H1 rfl) 0
                    have d306 : w304.cell? ⟨w251.heap.size, 1, none⟩ = some (.int .i64 x246.fOffset) := heap_at (St.blk 0 H1 rfl) 1
                    have d307 : w304.cell? ⟨w251.heap.size, 2, none⟩ = some (.bool x246.fKey.null) := heap_at (St.blk 0 H1 rfl) 2
                    have d308 : w304.cell? ⟨w251.heap.size, 3, none⟩ = some (.string (bsOf x246.fKey.data)) := heap_at (St.blk 0 H1 rfl) 3
                    have d309 : w304.cell? ⟨w251.heap.size, 4, none⟩ = some (.bool x246.fValue.null) := heap_at (St.blk 0 H1 rfl) 4
                    have d310 : w304.cell? ⟨w251.heap.size, 5, none⟩ = some (.string (bsOf x246.fValue.data)) := heap_at (St.blk 0 H1 rfl) 5
                    have d311 : w304.cell? ⟨w251.heap.size, 6, none⟩ = some (.slice A247 x246.fHeaders.length c248) := heap_at (St.blk 0 H1 rfl) 6
                    have z312 : w304.frozen? ⟨w251.heap.size, 0, none⟩ = false := heap_free (St.blk 0 H1 rfl) 0
                    have z313 : w304.frozen? ⟨w251.heap.size, 1, none⟩ = false := heap_free (St.blk 0 H1 rfl) 1
                    have z314 : w304.frozen? ⟨w251.heap.size, 2, none⟩ = false := heap_free (St.blk 0 H1 rfl) 2
                    have z315 : w304.frozen? ⟨w251.heap.size, 3, none⟩ = false := heap_free (St.blk 0 H1 rfl) 3
                    have z316 : w304.frozen? ⟨w251.heap.size, 4, none⟩ = false := heap_free (St.blk 0 H1 rfl) 4
                    have z317 : w304.frozen? ⟨w251.heap.size, 5, none⟩ = false := heap_free (St.blk 0 H1 rfl) 5
                    have z318 : w304.frozen? ⟨w251.heap.size, 6, none⟩ = false := heap_free (St.blk 0 H1 rfl) 6
                    have HS319 := Lib.hid H1
                    clear H1
                    by_cases c320 : x249 = 0
                    · have H := HH.out
                      clear HH
                      rw [if_pos c320] at H
                      have HH := Lib.hid H
                      clear H
                      subst c320
                      go_wp2_with fail
                      have H0 := HH.out
                      clear HH
                      obtain ⟨x321, hx322, H⟩ := Option.bind_eq_some_iff.1 H0
                      clear H0
                      try dsimp only at H
                      have hx322H := Lib.hid hx322
                      clear hx322
                      have HH := Lib.hid H
                      clear H
                      refine (St.callE HS319.out (f_r07_Same_spec x246 _ _ (⟨0, 0, (⟨false, x236⟩ : Bl), (⟨false, x241⟩ : Bl), []⟩ : Rec) _ _ _ hx322H.out) (RX.reads_and (SrcE.res 1 HS319.out rfl rd_reads) slice_nil_reads)).mono ?_
                      rintro e w323 ⟨v, A', N, rfl, ⟨rfl, rfl, rfl⟩, H1⟩
                      clear hx322H HS319
                      try simp only [List.cons_append, List.nil_append, List.set_cons_zero, List.set_cons_succ] at H1
                      clear d305 d306 d307 d308 d309 d310 d311 z312 z313 z314 z315 z316 z317 z318
                      have HS324 := Lib.hid H1
                      clear H1
                      by_cases c325 : x321 = true
                      · have H := HH.out
                        clear HH
                        rw [if_pos c325] at H
                        have HH := Lib.hid H
                        clear H
                        subst c325
                        by_cases c326 : x300 = 1
                        · have H := HH.out
                          clear HH
                          rw [if_pos c326] at H
                          have HH := Lib.hid H
                          clear H
                          subst c326
                          by_cases c327 : x301 = a1
                          · have H := HH.out
                            clear HH
                            rw [if_pos c327] at H
                            have HH := Lib.hid H
                            clear H
                            have b328 : (x301 == a1) = true := beq_iff_eq.2 c327
                            have b329 : (x301 != a1) = false := bne_eq_false_iff_eq.2 c327
                            clear c327
                            by_cases c330 : x302 = 0
                            · have H := HH.out
                              clear HH
                              rw [if_pos c330] at H
                              have HH := Lib.hid H
                              clear H
                              subst c330
                              go_wp2_with fail
                              go_ret
                              have H := Option.some.inj HH.out
                              clear HH
                              subst H
                              exact ⟨_, _, _, rfl, ⟨rfl, rfl, rfl⟩, (HS324.out.front 2 rfl).keep 1⟩
                            · have H := HH.out
                              clear HH
                              rw [if_neg c330] at H
                              have HH := Lib.hid H
                              clear H
                              have b331 : (x302 == 0) = false := beq_eq_false_iff_ne.2 c330
                              have b332 : (x302 != 0) = true := bne_iff_ne.2 c330
                              clear c330
                              go_wp2_with fail
                              go_ret
                              have H := Option.some.inj HH.out
                              clear HH
                              subst H
                              exact ⟨_, _, _, rfl, ⟨rfl, rfl, rfl⟩, (HS324.out.front 2 rfl).keep 1⟩
                          · have H := HH.out
                            clear HH
                            rw [if_neg c327] at H
                            have HH := Lib.hid H
                            clear H
                            have b333 : (x301 == a1) = false := beq_eq_false_iff_ne.2 c327
                            have b334 : (x301 != a1) = true := bne_iff_ne.2 c327
                            clear c327
                            go_wp2_with fail
                            go_ret
                            have H := Option.some.inj HH.out
                            clear HH
                            subst H
                            exact ⟨_, _, _, rfl, ⟨rfl, rfl, rfl⟩, (HS324.out.front 2 rfl).keep 1⟩
                        · have H := HH.out
                          clear HH
                          rw [if_neg c326] at H
                          have HH := Lib.hid H
                          clear H
                          have b335 : (x300 == 1) = false := beq_eq_false_iff_ne.2 c326
                          have b336 : (x300 != 1) = true := bne_iff_ne.2 c326
                          clear c326
                          go_wp2_with fail
                          go_ret
                          have H := Option.some.inj HH.out
                          clear HH
                          subst H
                          exact ⟨_, _, _, rfl, ⟨rfl, rfl, rfl⟩, (HS324.out.front 2 rfl).keep 1⟩
                      · have H := HH.out
                        clear HH
                        rw [if_neg c325] at H
                        have HH := Lib.hid H
                        clear H
                        have c325 : x321 = false := by simpa using c325
                        subst c325
                        go_wp2_with fail
                        go_ret
                        have H := Option.some.inj HH.out
                        clear HH
                        subst H
                        exact ⟨_, _, _, rfl, ⟨rfl, rfl, rfl⟩, (HS324.out.front 2 rfl).keep 1⟩
                    · have H := HH.out
                      clear HH
                      rw [if_neg c320] at H
                      have HH := Lib.hid H
                      clear H
                      have b337 : (x249 == 0) = false := beq_eq_false_iff_ne.2 c320
                      have b338 : (x249 != 0) = true := bne_iff_ne.2 c320
                      clear c320
                      go_wp2_with fail
                      go_ret
                      have H := Option.some.inj HH.out
                      clear HH
                      subst H
                      exact ⟨_, _, _, rfl, ⟨rfl, rfl, rfl⟩, (HS319.out.front 2 rfl).keep 1⟩
                  · have H := HH.out
                    clear HH
                    rw [if_neg c297] at H
                    have HH := Lib.hid H
                    clear H
                    have b339 : (x241 == x279) = false := beq_eq_false_iff_ne.2 c297
                    have b340 : (x241 != x279) = true := bne_iff_ne.2 c297
                    clear c297
                    go_wp2_with fail
                    go_ret
                    have H := Option.some.inj HH.out
                    clear HH
                    subst H
                    exact ⟨_, _, _, rfl, ⟨rfl, rfl, rfl⟩, (HS296.out.front 2 rfl).keep 1⟩
                · have H := HH.out
                  clear HH
                  rw [if_neg c278] at H
                  have HH := Lib.hid H
                  clear H
                  have b341 : (x242 == 0) = false := beq_eq_false_iff_ne.2 c278
                  have b342 : (x242 != 0) = true := bne_iff_ne.2 c278
                  clear c278
                  go_wp2_with fail
                  go_ret
                  have H := Option.some.inj HH.out
                  clear HH
                  subst H
                  exact ⟨_, _, _, rfl, ⟨rfl, rfl, rfl⟩, (HS273.out.front 2 rfl).keep 1⟩
              · have H := HH.out
                clear HH
                rw [if_neg c277] at H
                have HH := Lib.hid H
                clear H
                have c277 : x232 = false := by simpa using c277
                subst c277
                by_cases c343 : x242 = 11
                · have H := HH.out
                  clear HH
                  rw [if_pos c343] at H
                  have HH := Lib.hid H
                  clear H
                  subst c343
                  by_cases c344 : x241 = []
                  · have H := HH.out
                    clear HH
                    rw [if_pos c344] at H
                    have HH := Lib.hid H
                    clear H
                    subst c344
                    by_cases c345 : x249 = 11
                    · have H := HH.out
                      clear HH
                      rw [if_pos c345] at H
                      have HH := Lib.hid H
                      clear H
                      subst c345
                      go_wp2_with fail
                      have H0 := HH.out
                      clear HH
                      obtain ⟨x346, hx347, H⟩ := Option.bind_eq_some_iff.1 H0
                      clear H0
                      try dsimp only at H
                      have hx347H := Lib.hid hx347
                      clear hx347
                      have HH := Lib.hid H
                      clear H
                      refine (St.callE HS273.out (f_r07_Same_spec x246 _ _ (⟨0, 0, (⟨false, []⟩ : Bl), (⟨false, []⟩ : Bl), []⟩ : Rec) _ _ _ hx347H.out) (RX.reads_and (SrcE.res 1 HS273.out rfl rd_reads) slice_nil_reads)).mono ?_
                      rintro e w348 ⟨v, A', N, rfl, ⟨rfl, rfl, rfl⟩, H1⟩
                      clear hx347H HS273
                      try simp only [List.cons_append, List.nil_append, List.set_cons_zero, List.set_cons_succ] at H1
                      clear d259 d260 d261 d262 d263 d264 d265 z266 z267 z268 z269 z270 z271 z272
                      have d349 : w348.cell? ⟨w251.heap.size, 0, none⟩ = some (.int .i64 x246.fTime) := heap_at (St.blk 0 H1 rfl) 0
                      have d350 : w348.cell? ⟨w251.heap.size, 1, none⟩ = some (.int .i64 x246.fOffset) := heap_at (St.blk 0 H1 rfl) 1
                      have d351 : w348.cell? ⟨w251.heap.size, 2, none⟩ = some (.bool x246.fKey.null) := heap_at (St.blk 0 H1 rfl) 2
                      have d352 : w348.cell? ⟨w251.heap.size, 3, none⟩ = some (.string (bsOf x246.fKey.data)) := heap_at (St.blk 0 H1 rfl) 3
                      have d353 : w348.cell? ⟨w251.heap.size, 4, none⟩ = some (.bool x246.fValue.null) := heap_at (St.blk 0 H1 rfl) 4
                      have d354 : w348.cell? ⟨w251.heap.size, 5, none⟩ = some (.string (bsOf x246.fValue.data)) := heap_at (St.blk 0 H1 rfl) 5
                      have d355 : w348.cell? ⟨w251.heap.size, 6, none⟩ = some (.slice A247 x246.fHeaders.length c248) := heap_at (St.blk 0 H1 rfl) 6
                      have z356 : w348.frozen? ⟨w251.heap.size, 0, none⟩ = false := heap_free (St.blk 0 H1 rfl) 0
                      have z357 : w348.frozen? ⟨w251.heap.size, 1, none⟩ = false := heap_free (St.blk 0 H1 rfl) 1
                      have z358 : w348.frozen? ⟨w251.heap.size, 2, none⟩ = false := heap_free (St.blk 0 H1 rfl) 2
                      have z359 : w348.frozen? ⟨w251.heap.size, 3, none⟩ = false := heap_free (St.blk 0 H1 rfl) 3
                      have z360 : w348.frozen? ⟨w251.heap.size, 4, none⟩ = false := heap_free (St.blk 0 H1 rfl) 4
                      have z361 : w348.frozen? ⟨w251.heap.size, 5, none⟩ = false := heap_free (St.blk 0 H1 rfl) 5
                      have z362 : w348.frozen? ⟨w251.heap.size, 6, none⟩ = false := heap_free (St.blk 0 H1 rfl) 6
                      have HS363 := Lib.hid H1
                      clear H1
                      go_wp2_with fail
                      go_ret
                      have H := Option.some.inj HH.out
                      clear HH
                      subst H
                      exact ⟨_, _, _, rfl, ⟨rfl, rfl, rfl⟩, (HS363.out.front 2 rfl).keep 1⟩
                    · have H := HH.out
                      clear HH
                      rw [if_neg c345] at H
                      have HH := Lib.hid H
                      clear H
                      have b364 : (x249 == 11) = false := beq_eq_false_iff_ne.2 c345
                      have b365 : (x249 != 11) = true := bne_iff_ne.2 c345
                      clear c345
                      go_wp2_with fail
                      go_ret
                      have H := Option.some.inj HH.out
                      clear HH
                      subst H
                      exact ⟨_, _, _, rfl, ⟨rfl, rfl, rfl⟩, (HS273.out.front 2 rfl).keep 1⟩
                  · have H := HH.out
                    clear HH
                    rw [if_neg c344] at H
                    have HH := Lib.hid H
                    clear H
                    have b366 : 0 < x241.length := List.length_pos_iff.2 c344
                    have b367 : x241.isEmpty = false := by simpa using c344
                    have b368 : (x241 == []) = false := beq_eq_false_iff_ne.2 c344
                    have b369 : (x241 != []) = true := bne_iff_ne.2 c344
                    go_wp2_with fail
                    go_ret
                    have H := Option.some.inj HH.out
                    clear HH
                    subst H
                    exact ⟨_, _, _, rfl, ⟨rfl, rfl, rfl⟩, (HS273.out.front 2 rfl).keep 1⟩
                · have H := HH.out
                  clear HH
                  rw [if_neg c343] at H
                  have HH := Lib.hid H
                  clear H
                  have b370 : (x242 == 11) = false := beq_eq_false_iff_ne.2 c343
                  have b371 : (x242 != 11) = true := bne_iff_ne.2 c343
                  clear c343
                  go_wp2_with fail
                  go_ret
                  have H := Option.some.inj HH.out
                  clear HH
                  subst H
                  exact ⟨_, _, _, rfl, ⟨rfl, rfl, rfl⟩, (HS273.out.front 2 rfl).keep 1⟩
            · have H := HH.out
              clear HH
              rw [if_neg c274] at H
              have HH := Lib.hid H
              clear H
              have b372 : (x236 == x255) = false := beq_eq_false_iff_ne.2 c274
              have b373 : (x236 != x255) = true := bne_iff_ne.2 c274
              clear c274
              go_wp2_with fail
              go_ret
              have H := Option.some.inj HH.out
              clear HH
              subst H
              exact ⟨_, _, _, rfl, ⟨rfl, rfl, rfl⟩, (HS273.out.front 2 rfl).keep 1⟩
          · have H := HH.out
            clear HH
            rw [if_neg c254] at H
            have HH := Lib.hid H
            clear H
            have b374 : (x237 == 0) = false := beq_eq_false_iff_ne.2 c254
            have b375 : (x237 != 0) = true := bne_iff_ne.2 c254
            clear c254
            go_wp2_with fail
            have HS3760 := (HS252.out).alloc #[.int .i64 x246.fTime, .int .i64 x246.fOffset, .bool x246.fKey.null, .string (bsOf x246.fKey.data), .bool x246.fValue.null, .string (bsOf x246.fValue.data), .slice A247 x246.fHeaders.length c248] 65
            try simp only [World.size_alloc, World.size_setCell] at HS3760
            have HS376 := Lib.hid HS3760
            clear HS3760
            go_ret
            have H := Option.some.inj HH.out
            clear HH
            subst H
            exact ⟨_, _, _, rfl, ⟨rfl, rfl, rfl⟩, (HS376.out.front 2 rfl).keep 1⟩
        · have H := HH.out
          clear HH
          rw [if_neg c253] at H
          have HH := Lib.hid H
          clear H
          have b377 : (a0 == 1) = false := beq_eq_false_iff_ne.2 c253
          have b378 : (a0 != 1) = true := bne_iff_ne.2 c253
          clear c253
          by_cases c379 : x237 = 12
          · have H := HH.out
            clear HH
            rw [if_pos c379] at H
            have HH := Lib.hid H
            clear H
            subst c379
            by_cases c380 : x236 = []
            · have H := HH.out
              clear HH
              rw [if_pos c380] at H
              have HH := Lib.hid H
              clear H
              subst c380
              by_cases c381 : x232 = true
              · have H := HH.out
                clear HH
                rw [if_pos c381] at H
                have HH := Lib.hid H
                clear H
                subst c381
                by_cases c382 : x242 = 0
                · have H := HH.out
                  clear HH
                  rw [if_pos c382] at H
                  have HH := Lib.hid H
                  clear H
                  subst c382
                  go_wp2_with fail
                  have H0 := HH.out
                  clear HH
                  obtain ⟨x383, hx384, H⟩ := Option.bind_eq_some_iff.1 H0
                  clear H0
                  try dsimp only at H
                  have hx384H := Lib.hid hx384
                  clear hx384
                  have HH := Lib.hid H
                  clear H
                  have HS3850 := (HS252.out).alloc #[.int .i64 x246.fTime, .int .i64 x246.fOffset, .bool x246.fKey.null, .string (bsOf x246.fKey.data), .bool x246.fValue.null, .string (bsOf x246.fValue.data), .slice A247 x246.fHeaders.length c248] 65
                  try simp only [World.size_alloc, World.size_setCell] at HS3850
                  have HS385 := Lib.hid HS3850
                  clear HS3850
                  refine (St.callE HS385.out (f_r08_Value_spec a1 _ hx384H.out) (RX.reads_triv _ _)).mono ?_
                  rintro e w386 ⟨v, A', N, rfl, ⟨rfl, rfl, rfl⟩, H1⟩
                  clear hx384H HS385
                  try simp only [List.cons_append, List.nil_append, List.set_cons_zero, List.set_cons_succ] at H1
                  have d387 : w386.cell? ⟨w251.heap.size, 0, none⟩ = some (.int .i64 x246.fTime) := heap_at (St.blk 0 H1 rfl) 0
                  have d388 : w386.cell? ⟨w251.heap.size, 1, none⟩ = some (.int .i64 x246.fOffset) := heap_at (St.blk 0 H1 rfl) 1
                  have d389 : w386.cell? ⟨w251.heap.size, 2, none⟩ = some (.bool x246.fKey.null) := heap_at (St.blk 0 H1 rfl) 2
                  have d390 : w386.cell? ⟨w251.heap.size, 3, none⟩ = some (.string (bsOf x246.fKey.data)) := heap_at (St.blk 0 H1 rfl) 3
                  have d391 : w386.cell? ⟨w251.heap.size, 4, none⟩ = some (.bool x246.fValue.null) := heap_at (St.blk 0 H1 rfl) 4
                  have d392 : w386.cell? ⟨w251.heap.size, 5, none⟩ = some (.string (bsOf x246.fValue.data)) := heap_at (St.blk 0 H1 rfl) 5
                  have d393 : w386.cell? ⟨w251.heap.size, 6, none⟩ = some (.slice A247 x246.fHeaders.length c248) := heap_at (St.blk 0 H1 rfl) 6
                  have z394 : w386.frozen? ⟨w251.heap.size, 0, none⟩ = false := heap_free (St.blk 0 H1 rfl) 0
                  have z395 : w386.frozen? ⟨w251.heap.size, 1, none⟩ = false := heap_free (St.blk 0 H1 rfl) 1
                  have z396 : w386.frozen? ⟨w251.heap.size, 2, none⟩ = false := heap_free (St.blk 0 H1 rfl) 2
                  have z397 : w386.frozen? ⟨w251.heap.size, 3, none⟩ = false := heap_free (St.blk 0 H1 rfl) 3
                  have z398 : w386.frozen? ⟨w251.heap.size, 4, none⟩ = false := heap_free (St.blk 0 H1 rfl) 4
                  have z399 : w386.frozen? ⟨w251.heap.size, 5, none⟩ = false := heap_free (St.blk 0 H1 rfl) 5
                  have z400 : w386.frozen? ⟨w251.heap.size, 6, none⟩ = false := heap_free (St.blk 0 H1 rfl) 6
                  have HS401 := Lib.hid H1
                  clear H1
                  by_cases c402 : x241 = x383
                  · have H := HH.out
                    clear HH
                    rw [if_pos c402] at H
                    have HH := Lib.hid H
                    clear H
                    have b403 : (x241 == x383) = true := beq_iff_eq.2 c402
                    have b404 : (x241 != x383) = false := bne_eq_false_iff_eq.2 c402
                    clear c402
                    by_cases c405 : x249 = 12
                    · have H := HH.out
                      clear HH
                      rw [if_pos c405] at H
                      have HH := Lib.hid H
                      clear H
                      subst c405
                      go_wp2_with fail
                      have H0 := HH.out
                      clear HH
                      obtain ⟨x406, hx407, H⟩ := Option.bind_eq_some_iff.1 H0
                      clear H0
                      try dsimp only at H
                      have hx407H := Lib.hid hx407
                      clear hx407
                      have HH := Lib.hid H
                      clear H
                      refine (St.callE HS401.out (f_r07_Same_spec x246 _ _ (⟨0, 0, (⟨false, []⟩ : Bl), (⟨false, []⟩ : Bl), []⟩ : Rec) _ _ _ hx407H.out) (RX.reads_and (SrcE.res 1 HS401.out rfl rd_reads) slice_nil_reads)).mono ?_
                      rintro e w408 ⟨v, A', N, rfl, ⟨rfl, rfl, rfl⟩, H1⟩
                      clear hx407H HS401
                      try simp only [List.cons_append, List.nil_append, List.set_cons_zero, List.set_cons_succ] at H1
                      clear d387 d388 d389 d390 d391 d392 d393 z394 z395 z396 z397 z398 z399 z400
                      have d409 : w408.cell? ⟨w251.heap.size, 0, none⟩ = some (.int .i64 x246.fTime) := heap_at (St.blk 0 H1 rfl) 0
                      have d410 : w408.cell? ⟨w251.heap.size, 1, none⟩ = some (.int .i64 x246.fOffset) := heap_at (St.blk 0 H1 rfl) 1
                      have d411 : w408.cell? ⟨w251.heap.size, 2, none⟩ = some (.bool x246.fKey.null) := heap_at (St.blk 0 H1 rfl) 2
                      have d412 : w408.cell? ⟨w251.heap.size, 3, none⟩ = some (.string (bsOf x246.fKey.data)) := heap_at (St.blk 0 H1 rfl) 3
                      have d413 : w408.cell? ⟨w251.heap.size, 4, none⟩ = some (.bool x246.fValue.null) := heap_at (St.blk 0 H1 rfl) 4
                      have d414 : w408.cell? ⟨w251.heap.size, 5, none⟩ = some (.string (bsOf x246.fValue.data)) := heap_at (St.blk 0 H1 rfl) 5
                      have d415 : w408.cell? ⟨w251.heap.size, 6, none⟩ = some (.slice A247 x246.fHeaders.length c248) := heap_at (St.blk 0 H1 rfl) 6
                      have z416 : w408.frozen? ⟨w251.heap.size, 0, none⟩ = false := heap_free (St.blk 0 H1 rfl) 0
                      have z417 : w408.frozen? ⟨w251.heap.size, 1, none⟩ = false := heap_free (St.blk 0 H1 rfl) 1
                      have z418 : w408.frozen? ⟨w251.heap.size, 2, none⟩ = false := heap_free (St.blk 0 H1 rfl) 2
                      have z419 : w408.frozen? ⟨w251.heap.size, 3, none⟩ = false := heap_free (St.blk 0 H1 rfl) 3
                      have z420 : w408.frozen? ⟨w251.heap.size, 4, none⟩ = false := heap_free (St.blk 0 H1 rfl) 4
                      have z421 : w408.frozen? ⟨w251.heap.size, 5, none⟩ = false := heap_free (St.blk 0 H1 rfl) 5
                      have z422 : w408.frozen? ⟨w251.heap.size, 6, none⟩ = false := heap_free (St.blk 0 H1 rfl) 6
                      have HS423 := Lib.hid H1
                      clear H1
                      go_wp2_with fail
                      go_ret
                      have H := Option.some.inj HH.out
                      clear HH
                      subst H
                      exact ⟨_, _, _, rfl, ⟨rfl, rfl, rfl⟩, (HS423.out.front 2 rfl).keep 1⟩
                    · have H := HH.out
                      clear HH
                      rw [if_neg c405] at H
                      have HH := Lib.hid H
                      clear H
                      have b424 : (x249 == 12) = false := beq_eq_false_iff_ne.2 c405
                      have b425 : (x249 != 12) = true := bne_iff_ne.2 c405
                      clear c405
                      go_wp2_with fail
                      go_ret
                      have H := Option.some.inj HH.out
                      clear HH
                      subst H
                      exact ⟨_, _, _, rfl, ⟨rfl, rfl, rfl⟩, (HS401.out.front 2 rfl).keep 1⟩
                  · have H := HH.out
                    clear HH
                    rw [if_neg c402] at H
                    have HH := Lib.hid H
                    clear H
                    have b426 : (x241 == x383) = false := beq_eq_false_iff_ne.2 c402
                    have b427 : (x241 != x383) = true := bne_iff_ne.2 c402
                    clear c402
                    go_wp2_with fail
                    go_ret
                    have H := Option.some.inj HH.out
                    clear HH
                    subst H
                    exact ⟨_, _, _, rfl, ⟨rfl, rfl, rfl⟩, (HS401.out.front 2 rfl).keep 1⟩
                · have H := HH.out
                  clear HH
                  rw [if_neg c382] at H
                  have HH := Lib.hid H
                  clear H
                  have b428 : (x242 == 0) = false := beq_eq_false_iff_ne.2 c382
                  have b429 : (x242 != 0) = true := bne_iff_ne.2 c382
                  clear c382
                  go_wp2_with fail
                  have HS4300 := (HS252.out).alloc #[.int .i64 x246.fTime, .int .i64 x246.fOffset, .bool x246.fKey.null, .string (bsOf x246.fKey.data), .bool x246.fValue.null, .string (bsOf x246.fValue.data), .slice A247 x246.fHeaders.length c248] 65
                  try simp only [World.size_alloc, World.size_setCell] at HS4300
                  have HS430 := Lib.hid HS4300
                  clear HS4300
                  go_ret
                  have H := Option.some.inj HH.out
                  clear HH
                  subst H
                  exact ⟨_, _, _, rfl, ⟨rfl, rfl, rfl⟩, (HS430.out.front 2 rfl).keep 1⟩
              · have H := HH.out
                clear HH
                rw [if_neg c381] at H
                have HH := Lib.hid H
                clear H
                have c381 : x232 = false := by simpa using c381
                subst c381
                by_cases c431 : x242 = 11
                · have H := HH.out
                  clear HH
                  rw [if_pos c431] at H
                  have HH := Lib.hid H
                  clear H
                  subst c431
                  by_cases c432 : x241 = []
                  · have H := HH.out
                    clear HH
                    rw [if_pos c432] at H
                    have HH := Lib.hid H
                    clear H
                    subst c432
                    by_cases c433 : x249 = 12
                    · have H := HH.out
                      clear HH
                      rw [if_pos c433] at H
                      have HH := Lib.hid H
                      clear H
                      subst c433
                      go_wp2_with fail
                      have H0 := HH.out
                      clear HH
                      obtain ⟨x434, hx435, H⟩ := Option.bind_eq_some_iff.1 H0
                      clear H0
                      try dsimp only at H
                      have hx435H := Lib.hid hx435
                      clear hx435
                      have HH := Lib.hid H
                      clear H
                      have HS4360 := (HS252.out).alloc #[.int .i64 x246.fTime, .int .i64 x246.fOffset, .bool x246.fKey.null, .string (bsOf x246.fKey.data), .bool x246.fValue.null, .string (bsOf x246.fValue.data), .slice A247 x246.fHeaders.length c248] 65
                      try simp only [World.size_alloc, World.size_setCell] at HS4360
                      have HS436 := Lib.hid HS4360
                      clear HS4360
                      refine (St.callE HS436.out (f_r07_Same_spec x246 _ _ (⟨0, 0, (⟨false, []⟩ : Bl), (⟨false, []⟩ : Bl), []⟩ : Rec) _ _ _ hx435H.out) (RX.reads_and (SrcE.res 1 HS436.out rfl rd_reads) slice_nil_reads)).mono ?_
                      rintro e w437 ⟨v, A', N, rfl, ⟨rfl, rfl, rfl⟩, H1⟩
                      clear hx435H HS436
                      try simp only [List.cons_append, List.nil_append, List.set_cons_zero, List.set_cons_succ] at H1
                      have d438 : w437.cell? ⟨w251.heap.size, 0, none⟩ = some (.int .i64 x246.fTime) := heap_at (St.blk 0 H1 rfl) 0
                      have d439 : w437.cell? ⟨w251.heap.size, 1, none⟩ = some (.int .i64 x246.fOffset) := heap_at (St.blk 0 H1 rfl) 1
                      have d440 : w437.cell? ⟨w251.heap.size, 2, none⟩ = some (.bool x246.fKey.null) := heap_at (St.blk 0 H1 rfl) 2
                      have d441 : w437.cell? ⟨w251.heap.size, 3, none⟩ = some (.string (bsOf x246.fKey.data)) := heap_at (St.blk 0 H1 rfl) 3
                      have d442 : w437.cell? ⟨w251.heap.size, 4, none⟩ = some (.bool x246.fValue.null) := heap_at (St.blk 0 H1 rfl) 4
                      have d443 : w437.cell? ⟨w251.heap.size, 5, none⟩ = some (.string (bsOf x246.fValue.data)) := heap_at (St.blk 0 H1 rfl) 5
                      have d444 : w437.cell? ⟨w251.heap.size, 6, none⟩ = some (.slice A247 x246.fHeaders.length c248) := heap_at (St.blk 0 H1 rfl) 6
                      have z445 : w437.frozen? ⟨w251.heap.size, 0, none⟩ = false := heap_free (St.blk 0 H1 rfl) 0
                      have z446 : w437.frozen? ⟨w251.heap.size, 1, none⟩ = false := heap_free (St.blk 0 H1 rfl) 1
                      have z447 : w437.frozen? ⟨w251.heap.size, 2, none⟩ = false := heap_free (St.blk 0 H1 rfl) 2
                      have z448 : w437.frozen? ⟨w251.heap.size, 3, none⟩ = false := heap_free (St.blk 0 H1 rfl) 3
                      have z449 : w437.frozen? ⟨w251.heap.size, 4, none⟩ = false := heap_free (St.blk 0 H1 rfl) 4
                      have z450 : w437.frozen? ⟨w251.heap.size, 5, none⟩ = false := heap_free (St.blk 0 H1 rfl) 5
                      have z451 : w437.frozen? ⟨w251.heap.size, 6, none⟩ = false := heap_free (St.blk 0 H1 rfl) 6
                      have HS452 := Lib.hid H1
                      clear H1
                      go_wp2_with fail
                      go_ret
                      have H := Option.some.inj HH.out
                      clear HH
                      subst H
                      exact ⟨_, _, _, rfl, ⟨rfl, rfl, rfl⟩, (HS452.out.front 2 rfl).keep 1⟩
                    · have H := HH.out
                      clear HH
                      rw [if_neg c433] at H
                      have HH := Lib.hid H
                      clear H
                      have b453 : (x249 == 12) = false := beq_eq_false_iff_ne.2 c433
                      have b454 : (x249 != 12) = true := bne_iff_ne.2 c433
                      clear c433
                      go_wp2_with fail
                      have HS4550 := (HS252.out).alloc #[.int .i64 x246.fTime, .int .i64 x246.fOffset, .bool x246.fKey.null, .string (bsOf x246.fKey.data), .bool x246.fValue.null, .string (bsOf x246.fValue.data), .slice A247 x246.fHeaders.length c248] 65
                      try simp only [World.size_alloc, World.size_setCell] at HS4550
                      have HS455 := Lib.hid HS4550
                      clear HS4550
                      go_ret
                      have H := Option.some.inj HH.out
                      clear HH
                      subst H
                      exact ⟨_, _, _, rfl, ⟨rfl, rfl, rfl⟩, (HS455.out.front 2 rfl).keep 1⟩
                  · have H := HH.out
                    clear HH
                    rw [if_neg c432] at H
                    have HH := Lib.hid H
                    clear H
                    have b456 : 0 < x241.length := List.length_pos_iff.2 c432
                    have b457 : x241.isEmpty = false := by simpa using c432
                    have b458 : (x241 == []) = false := beq_eq_false_iff_ne.2 c432
                    have b459 : (x241 != []) = true := bne_iff_ne.2 c432
                    go_wp2_with fail
                    have HS4600 := (HS252.out).alloc #[.int .i64 x246.fTime, .int .i64 x246.fOffset, .bool x246.fKey.null, .string (bsOf x246.fKey.data), .bool x246.fValue.null, .string (bsOf x246.fValue.data), .slice A247 x246.fHeaders.length c248] 65
                    try simp only [World.size_alloc, World.size_setCell] at HS4600
                    have HS460 := Lib.hid HS4600
                    clear HS4600
                    go_ret
                    have H := Option.some.inj HH.out
                    clear HH
                    subst H
                    exact ⟨_, _, _, rfl, ⟨rfl, rfl, rfl⟩, (HS460.out.front 2 rfl).keep 1⟩
                · have H := HH.out
                  clear HH
                  rw [if_neg c431] at H
                  have HH := Lib.hid H
                  clear H
                  have b461 : (x242 == 11) = false := beq_eq_false_iff_ne.2 c431
                  have b462 : (x242 != 11) = true := bne_iff_ne.2 c431
                  clear c431
                  go_wp2_with fail
                  have HS4630 := (HS252.out).alloc #[.int .i64 x246.fTime, .int .i64 x246.fOffset, .bool x246.fKey.null, .string (bsOf x246.fKey.data), .bool x246.fValue.null, .string (bsOf x246.fValue.data), .slice A247 x246.fHeaders.length c248] 65
                  try simp only [World.size_alloc, World.size_setCell] at HS4630
                  have HS463 := Lib.hid HS4630
                  clear HS4630
                  go_ret
                  have H := Option.some.inj HH.out
                  clear HH
                  subst H
                  exact ⟨_, _, _, rfl, ⟨rfl, rfl, rfl⟩, (HS463.out.front 2 rfl).keep 1⟩
            · have H := HH.out
              clear HH
              rw [if_neg c380] at H
              have HH := Lib.hid H
              clear H
              have b464 : 0 < x236.length := List.length_pos_iff.2 c380
              have b465 : x236.isEmpty = false := by simpa using c380
              have b466 : (x236 == []) = false := beq_eq_false_iff_ne.2 c380
              have b467 : (x236 != []) = true := bne_iff_ne.2 c380
              go_wp2_with fail
              have HS4680 := (HS252.out).alloc #[.int .i64 x246.fTime, .int .i64 x246.fOffset, .bool x246.fKey.null, .string (bsOf x246.fKey.data), .bool x246.fValue.null, .string (bsOf x246.fValue.data), .slice A247 x246.fHeaders.length c248] 65
              try simp only [World.size_alloc, World.size_setCell] at HS4680
              have HS468 := Lib.hid HS4680
              clear HS4680
              go_ret
              have H := Option.some.inj HH.out
              clear HH
              subst H
              exact ⟨_, _, _, rfl, ⟨rfl, rfl, rfl⟩, (HS468.out.front 2 rfl).keep 1⟩
          · have H := HH.out
            clear HH
            rw [if_neg c379] at H
            have HH := Lib.hid H
            clear H
            have b469 : (x237 == 12) = false := beq_eq_false_iff_ne.2 c379
            have b470 : (x237 != 12) = true := bne_iff_ne.2 c379
            clear c379
            go_wp2_with fail
            have HS4710 := (HS252.out).alloc #[.int .i64 x246.fTime, .int .i64 x246.fOffset, .bool x246.fKey.null, .string (bsOf x246.fKey.data), .bool x246.fValue.null, .string (bsOf x246.fValue.data), .slice A247 x246.fHeaders.length c248] 65
            try simp only [World.size_alloc, World.size_setCell] at HS4710
            have HS471 := Lib.hid HS4710
            clear HS4710
            go_ret
            have H := Option.some.inj HH.out
            clear HH
            subst H
            exact ⟨_, _, _, rfl, ⟨rfl, rfl, rfl⟩, (HS471.out.front 2 rfl).keep 1⟩
      · have H := HH.out
        clear HH
        rw [if_neg c230] at H
        have HH := Lib.hid H
        clear H
        have b472 : decide (0 ≤ a1) = false := decide_eq_false c230
        go_wp2_with fail
        have H0 := HH.out
        clear HH
        obtain ⟨⟨x473, x474⟩, hx475, H⟩ := Option.bind_eq_some_iff.1 H0
        clear H0
        try dsimp only at H
        have hx475H := Lib.hid hx475
        clear hx475
        have HH := Lib.hid H
        clear H
        refine (St.callE HS4.out (f_control_Key_spec a0 _ hx475H.out) (RX.reads_triv _ _)).mono ?_
        rintro e w476 ⟨v, A', N, rfl, ⟨rfl, rfl, rfl⟩, H1⟩
        clear hx475H HS4
        try simp only [List.cons_append, List.nil_append, List.set_cons_zero, List.set_cons_succ] at H1
        have HS477 := Lib.hid H1
        clear H1
        go_wp2_with fail
        have H0 := HH.out
        clear HH
        obtain ⟨⟨x478, x479⟩, hx480, H⟩ := Option.bind_eq_some_iff.1 H0
        clear H0
        try dsimp only at H
        have hx480H := Lib.hid hx480
        clear hx480
        have HH := Lib.hid H
        clear H
        refine (St.callE HS477.out (f_control_Value_spec a1 _ hx480H.out) (RX.reads_triv _ _)).mono ?_
        rintro e w481 ⟨v, A', N, rfl, ⟨rfl, rfl, rfl⟩, H1⟩
        clear hx480H HS477
        try simp only [List.cons_append, List.nil_append, List.set_cons_zero, List.set_cons_succ] at H1
        have HS482 := Lib.hid H1
        clear H1
        go_wp2_with fail
        have H0 := HH.out
        clear HH
        obtain ⟨⟨x483, x486⟩, hx487, H⟩ := Option.bind_eq_some_iff.1 H0
        clear H0
        try dsimp only at H
        have hx487H := Lib.hid hx487
        clear hx487
        have HH := Lib.hid H
        clear H
        refine (St.callE HS482.out (f_control_Record_spec a0 a1 _ hx487H.out) (RX.reads_triv _ _)).mono ?_
        rintro e w488 ⟨v, A', N, rfl, ⟨A484, c485, rfl, rfl, rfl⟩, H1⟩
        clear hx487H HS482
        try simp only [List.cons_append, List.nil_append, List.set_cons_zero, List.set_cons_succ] at H1
        have HS489 := Lib.hid H1
        clear H1
        by_cases c490 : a0 = 1
        · have H := HH.out
          clear HH
          rw [if_pos c490] at H
          have HH := Lib.hid H
          clear H
          subst c490
          by_cases c491 : x474 = 0
          · have H := HH.out
            clear HH
            rw [if_pos c491] at H
            have HH := Lib.hid H
            clear H
            subst c491
            go_wp2_with fail
            have H0 := HH.out
            clear HH
            obtain ⟨x492, hx493, H⟩ := Option.bind_eq_some_iff.1 H0
            clear H0
            try dsimp only at H
            have hx493H := Lib.hid hx493
            clear hx493
            have HH := Lib.hid H
            clear H
            have HS4940 := (HS489.out).alloc #[.int .i64 x483.fTime, .int .i64 x483.fOffset, .bool x483.fKey.null, .string (bsOf x483.fKey.data), .bool x483.fValue.null, .string (bsOf x483.fValue.data), .slice A484 x483.fHeaders.length c485] 65
            try simp only [World.size_alloc, World.size_setCell] at HS4940
            have HS494 := Lib.hid HS4940
            clear HS4940
            refine (St.callE HS494.out (f_r08_Key_spec 1 _ hx493H.out) (RX.reads_triv _ _)).mono ?_
            rintro e w495 ⟨v, A', N, rfl, ⟨rfl, rfl, rfl⟩, H1⟩
            clear hx493H HS494
            try simp only [List.cons_append, List.nil_append, List.set_cons_zero, List.set_cons_succ] at H1
            have d496 : w495.cell? ⟨w488.heap.size, 0, none⟩ = some (.int .i64 x483.fTime) := heap_at (St.blk 0 H1 rfl) 0
            have d497 : w495.cell? ⟨w488.heap.size, 1, none⟩ = some (.int .i64 x483.fOffset) := heap_at (St.blk 0 H1 rfl) 1
            have d498 : w495.cell? ⟨w488.heap.size, 2, none⟩ = some (.bool x483.fKey.null) := heap_at (St.blk 0 H1 rfl) 2
            have d499 : w495.cell? ⟨w488.heap.size, 3, none⟩ = some (.string (bsOf x483.fKey.data)) := heap_at (St.blk 0 H1 rfl) 3
            have d500 : w495.cell? ⟨w488.heap.size, 4, none⟩ = some (.bool x483.fValue.null) := heap_at (St.blk 0 H1 rfl) 4
            have d501 : w495.cell? ⟨w488.heap.size, 5, none⟩ = some (.string (bsOf x483.fValue.data)) := heap_at (St.blk 0 H1 rfl) 5
            have d502 : w495.cell? ⟨w488.heap.size, 6, none⟩ = some (.slice A484 x483.fHeaders.length c485) := heap_at (St.blk 0 H1 rfl) 6
            have z503 : w495.frozen? ⟨w488.heap.size, 0, none⟩ = false := heap_free (St.blk 0 H1 rfl) 0
            have z504 : w495.frozen? ⟨w488.heap.size, 1, none⟩ = false := heap_free (St.blk 0 H1 rfl) 1
            have z505 : w495.frozen? ⟨w488.heap.size, 2, none⟩ = false := heap_free (St.blk 0 H1 rfl) 2
            have z506 : w495.frozen? ⟨w488.heap.size, 3, none⟩ = false := heap_free (St.blk 0 H1 rfl) 3
            have z507 : w495.frozen? ⟨w488.heap.size, 4, none⟩ = false := heap_free (St.blk 0 H1 rfl) 4
            have z508 : w495.frozen? ⟨w488.heap.size, 5, none⟩ = false := heap_free (St.blk 0 H1 rfl) 5
            have z509 : w495.frozen? ⟨w488.heap.size, 6, none⟩ = false := heap_free (St.blk 0 H1 rfl) 6
            have HS510 := Lib.hid H1
            clear H1
            by_cases c511 : x473 = x492
            · have H := HH.out
              clear HH
              rw [if_pos c511] at H
              have HH := Lib.hid H
              clear H
              have b512 : (x473 == x492) = true := beq_iff_eq.2 c511
              have b513 : (x473 != x492) = false := bne_eq_false_iff_eq.2 c511
              clear c511
              by_cases c514 : x479 = 11
              · have H := HH.out
                clear HH
                rw [if_pos c514] at H
                have HH := Lib.hid H
                clear H
                subst c514
                by_cases c515 : x478 = []
                · have H := HH.out
                  clear HH
                  rw [if_pos c515] at H
                  have HH := Lib.hid H
                  clear H
                  subst c515
                  by_cases c516 : x486 = 11
                  · have H := HH.out
                    clear HH
                    rw [if_pos c516] at H
                    have HH := Lib.hid H
                    clear H
                    subst c516
                    go_wp2_with fail
                    have H0 := HH.out
                    clear HH
                    obtain ⟨x517, hx518, H⟩ := Option.bind_eq_some_iff.1 H0
                    clear H0
                    try dsimp only at H
                    have hx518H := Lib.hid hx518
                    clear hx518
                    have HH := Lib.hid H
                    clear H
                    refine (St.callE HS510.out (f_r07_Same_spec x483 _ _ (⟨0, 0, (⟨false, []⟩ : Bl), (⟨false, []⟩ : Bl), []⟩ : Rec) _ _ _ hx518H.out) (RX.reads_and (SrcE.res 1 HS510.out rfl rd_reads) slice_nil_reads)).mono ?_
                    rintro e w519 ⟨v, A', N, rfl, ⟨rfl, rfl, rfl⟩, H1⟩
                    clear hx518H HS510
                    try simp only [List.cons_append, List.nil_append, List.set_cons_zero, List.set_cons_succ] at H1
                    clear d496 d497 d498 d499 d500 d501 d502 z503 z504 z505 z506 z507 z508 z509
                    have d520 : w519.cell? ⟨w488.heap.size, 0, none⟩ = some (.int .i64 x483.fTime) := heap_at (St.blk 0 H1 rfl) 0
                    have d521 : w519.cell? ⟨w488.heap.size, 1, none⟩ = some (.int .i64 x483.fOffset) := heap_at (St.blk 0 H1 rfl) 1
                    have d522 : w519.cell? ⟨w488.heap.size, 2, none⟩ = some (.bool x483.fKey.null) := heap_at (St.blk 0 H1 rfl) 2
                    have d523 : w519.cell? ⟨w488.heap.size, 3, none⟩ = some (.string (bsOf x483.fKey.data)) := heap_at (St.blk 0 H1 rfl) 3
                    have d524 : w519.cell? ⟨w488.heap.size, 4, none⟩ = some (.bool x483.fValue.null) := heap_at (St.blk 0 H1 rfl) 4
                    have d525 : w519.cell? ⟨w488.heap.size, 5, none⟩ = some (.string (bsOf x483.fValue.data)) := heap_at (St.blk 0 H1 rfl) 5
                    have d526 : w519.cell? ⟨w488.heap.size, 6, none⟩ = some (.slice A484 x483.fHeaders.length c485) := heap_at (St.blk 0 H1 rfl) 6
                    have z527 : w519.frozen? ⟨w488.heap.size, 0, none⟩ = false := heap_free (St.blk 0 H1 rfl) 0
                    have z528 : w519.frozen? ⟨w488.heap.size, 1, none⟩ = false := heap_free (St.blk 0 H1 rfl) 1
                    have z529 : w519.frozen? ⟨w488.heap.size, 2, none⟩ = false := heap_free (St.blk 0 H1 rfl) 2
                    have z530 : w519.frozen? ⟨w488.heap.size, 3, none⟩ = false := heap_free (St.blk 0 H1 rfl) 3
                    have z531 : w519.frozen? ⟨w488.heap.size, 4, none⟩ = false := heap_free (St.blk 0 H1 rfl) 4
                    have z532 : w519.frozen? ⟨w488.heap.size, 5, none⟩ = false := heap_free (St.blk 0 H1 rfl) 5
                    have z533 : w519.frozen? ⟨w488.heap.size, 6, none⟩ = false := heap_free (St.blk 0 H1 rfl) 6
                    have HS534 := Lib.hid H1
                    clear H1
                    go_wp2_with fail
                    go_ret
                    have H := Option.some.inj HH.out
                    clear HH
                    subst H
                    exact ⟨_, _, _, rfl, ⟨rfl, rfl, rfl⟩, (HS534.out.front 2 rfl).keep 1⟩
                  · have H := HH.out
                    clear HH
                    rw [if_neg c516] at H
                    have HH := Lib.hid H
                    clear H
                    have b535 : (x486 == 11) = false := beq_eq_false_iff_ne.2 c516
                    have b536 : (x486 != 11) = true := bne_iff_ne.2 c516
                    clear c516
                    go_wp2_with fail
                    go_ret
                    have H := Option.some.inj HH.out
                    clear HH
                    subst H
                    exact ⟨_, _, _, rfl, ⟨rfl, rfl, rfl⟩, (HS510.out.front 2 rfl).keep 1⟩
                · have H := HH.out
                  clear HH
                  rw [if_neg c515] at H
                  have HH := Lib.hid H
                  clear H
                  have b537 : 0 < x478.length := List.length_pos_iff.2 c515
                  have b538 : x478.isEmpty = false := by simpa using c515
                  have b539 : (x478 == []) = false := beq_eq_false_iff_ne.2 c515
                  have b540 : (x478 != []) = true := bne_iff_ne.2 c515
                  go_wp2_with fail
                  go_ret
                  have H := Option.some.inj HH.out
                  clear HH
                  subst H
                  exact ⟨_, _, _, rfl, ⟨rfl, rfl, rfl⟩, (HS510.out.front 2 rfl).keep 1⟩
              · have H := HH.out
                clear HH
                rw [if_neg c514] at H
                have HH := Lib.hid H
                clear H
                have b541 : (x479 == 11) = false := beq_eq_false_iff_ne.2 c514
                have b542 : (x479 != 11) = true := bne_iff_ne.2 c514
                clear c514
                go_wp2_with fail
                go_ret
                have H := Option.some.inj HH.out
                clear HH
                subst H
                exact ⟨_, _, _, rfl, ⟨rfl, rfl, rfl⟩, (HS510.out.front 2 rfl).keep 1⟩
            · have H := HH.out
              clear HH
              rw [if_neg c511] at H
              have HH := Lib.hid H
              clear H
              have b543 : (x473 == x492) = false := beq_eq_false_iff_ne.2 c511
              have b544 : (x473 != x492) = true := bne_iff_ne.2 c511
              clear c511
              go_wp2_with fail
              go_ret
              have H := Option.some.inj HH.out
              clear HH
              subst H
              exact ⟨_, _, _, rfl, ⟨rfl, rfl, rfl⟩, (HS510.out.front 2 rfl).keep 1⟩
          · have H := HH.out
            clear HH
            rw [if_neg c491] at H
            have HH := Lib.hid H
            clear H
            have b545 : (x474 == 0) = false := beq_eq_false_iff_ne.2 c491
            have b546 : (x474 != 0) = true := bne_iff_ne.2 c491
            clear c491
            go_wp2_with fail
            have HS5470 := (HS489.out).alloc #[.int .i64 x483.fTime, .int .i64 x483.fOffset, .bool x483.fKey.null, .string (bsOf x483.fKey.data), .bool x483.fValue.null, .string (bsOf x483.fValue.data), .slice A484 x483.fHeaders.length c485] 65
            try simp only [World.size_alloc, World.size_setCell] at HS5470
            have HS547 := Lib.hid HS5470
            clear HS5470
            go_ret
            have H := Option.some.inj HH.out
            clear HH
            subst H
            exact ⟨_, _, _, rfl, ⟨rfl, rfl, rfl⟩, (HS547.out.front 2 rfl).keep 1⟩
        · have H := HH.out
          clear HH
          rw [if_neg c490] at H
          have HH := Lib.hid H
          clear H
          have b548 : (a0 == 1) = false := beq_eq_false_iff_ne.2 c490
          have b549 : (a0 != 1) = true := bne_iff_ne.2 c490
          clear c490
          by_cases c550 : x474 = 12
          · have H := HH.out
            clear HH
            rw [if_pos c550] at H
            have HH := Lib.hid H
            clear H
            subst c550
            by_cases c551 : x473 = []
            · have H := HH.out
              clear HH
              rw [if_pos c551] at H
              have HH := Lib.hid H
              clear H
              subst c551
              by_cases c552 : x479 = 11
              · have H := HH.out
                clear HH
                rw [if_pos c552] at H
                have HH := Lib.hid H
                clear H
                subst c552
                by_cases c553 : x478 = []
                · have H := HH.out
                  clear HH
                  rw [if_pos c553] at H
                  have HH := Lib.hid H
                  clear H
                  subst c553
                  by_cases c554 : x486 = 12
                  · have H := HH.out
                    clear HH
                    rw [if_pos c554] at H
                    have HH := Lib.hid H
                    clear H
                    subst c554
                    go_wp2_with fail
                    have H0 := HH.out
                    clear HH
                    obtain ⟨x555, hx556, H⟩ := Option.bind_eq_some_iff.1 H0
                    clear H0
                    try dsimp only at H
                    have hx556H := Lib.hid hx556
                    clear hx556
                    have HH := Lib.hid H
                    clear H
                    have HS5570 := (HS489.out).alloc #[.int .i64 x483.fTime, .int .i64 x483.fOffset, .bool x483.fKey.null, .string (bsOf x483.fKey.data), .bool x483.fValue.null, .string (bsOf x483.fValue.data), .slice A484 x483.fHeaders.length c485] 65
                    try simp only [World.size_alloc, World.size_setCell] at HS5570
                    have HS557 := Lib.hid HS5570
                    clear HS5570
                    refine (St.callE HS557.out (f_r07_Same_spec x483 _ _ (⟨0, 0, (⟨false, []⟩ : Bl), (⟨false, []⟩ : Bl), []⟩ : Rec) _ _ _ hx556H.out) (RX.reads_and (SrcE.res 1 HS557.out rfl rd_reads) slice_nil_reads)).mono ?_
                    rintro e w558 ⟨v, A', N, rfl, ⟨rfl, rfl, rfl⟩, H1⟩
                    clear hx556H HS557
                    try simp only [List.cons_append, List.nil_append, List.set_cons_zero, List.set_cons_succ] at H1
                    have d559 : w558.cell? ⟨w488.heap.size, 0, none⟩ = some (.int .i64 x483.fTime) := heap_at (St.blk 0 H1 rfl) 0
                    have d560 : w558.cell? ⟨w488.heap.size, 1, none⟩ = some (.int .i64 x483.fOffset) := heap_at (St.blk 0 H1 rfl) 1
                    have d561 : w558.cell? ⟨w488.heap.size, 2, none⟩ = some (.bool x483.fKey.null) := heap_at (St.blk 0 H1 rfl) 2
                    have d562 : w558.cell? ⟨w488.heap.size, 3, none⟩ = some (.string (bsOf x483.fKey.data)) := heap_at (St.blk 0 H1 rfl) 3
                    have d563 : w558.cell? ⟨w488.heap.size, 4, none⟩ = some (.bool x483.fValue.null) := heap_at (St.blk 0 H1 rfl) 4
                    have d564 : w558.cell? ⟨w488.heap.size, 5, none⟩ = some (.string (bsOf x483.fValue.data)) := heap_at (St.blk 0 H1 rfl) 5
                    have d565 : w558.cell? ⟨w488.heap.size, 6, none⟩ = some (.slice A484 x483.fHeaders.length c485) := heap_at (St.blk 0 H1 rfl) 6
                    have z566 : w558.frozen? ⟨w488.heap.size, 0, none⟩ = false := heap_free (St.blk 0 H1 rfl) 0
                    have z567 : w558.frozen? ⟨w488.heap.size, 1, none⟩ = false := heap_free (St.blk 0 H1 rfl) 1
                    have z568 : w558.frozen? ⟨w488.heap.size, 2, none⟩ = false := heap_free (St.blk 0 H1 rfl) 2
                    have z569 : w558.frozen? ⟨w488.heap.size, 3, none⟩ = false := heap_free (St.blk 0 H1 rfl) 3
                    have z570 : w558.frozen? ⟨w488.heap.size, 4, none⟩ = false := heap_free (St.blk 0 H1 rfl) 4
                    have z571 : w558.frozen? ⟨w488.heap.size, 5, none⟩ = false := heap_free (St.blk 0 H1 rfl) 5
                    have z572 : w558.frozen? ⟨w488.heap.size, 6, none⟩ = false := heap_free (St.blk 0 H1 rfl) 6
                    have HS573 := Lib.hid H1
                    clear H1
                    go_wp2_with fail
                    go_ret
                    have H := Option.some.inj HH.out
                    clear HH
                    subst H
                    exact ⟨_, _, _, rfl, ⟨rfl, rfl, rfl⟩, (HS573.out.front 2 rfl).keep 1⟩
                  · have H := HH.out
                    clear HH
                    rw [if_neg c554] at H
                    have HH := Lib.hid H
                    clear H
                    have b574 : (x486 == 12) = false := beq_eq_false_iff_ne.2 c554
                    have b575 : (x486 != 12) = true := bne_iff_ne.2 c554
                    clear c554
                    go_wp2_with fail
                    have HS5760 := (HS489.out).alloc #[.int .i64 x483.fTime, .int .i64 x483.fOffset, .bool x483.fKey.null, .string (bsOf x483.fKey.data), .bool x483.fValue.null, .string (bsOf x483.fValue.data), .slice A484 x483.fHeaders.length c485] 65
                    try simp only [World.size_alloc, World.size_setCell] at HS5760
                    have HS576 := Lib.hid HS5760
                    clear HS5760
                    go_ret
                    have H := Option.some.inj HH.out
                    clear HH
                    subst H
                    exact ⟨_, _, _, rfl, ⟨rfl, rfl, rfl⟩, (HS576.out.front 2 rfl).keep 1⟩
                · have H := HH.out
                  clear HH
                  rw [if_neg c553] at H
                  have HH := Lib.hid H
                  clear H
                  have b577 : 0 < x478.length := List.length_pos_iff.2 c553
                  have b578 : x478.isEmpty = false := by simpa using c553
                  have b579 : (x478 == []) = false := beq_eq_false_iff_ne.2 c553
                  have b580 : (x478 != []) = true := bne_iff_ne.2 c553
                  go_wp2_with fail
                  have HS5810 := (HS489.out).alloc #[.int .i64 x483.fTime, .int .i64 x483.fOffset, .bool x483.fKey.null, .string (bsOf x483.fKey.data), .bool x483.fValue.null, .string (bsOf x483.fValue.data), .slice A484 x483.fHeaders.length c485] 65
                  try simp only [World.size_alloc, World.size_setCell] at HS5810
                  have HS581 := Lib.hid HS5810
                  clear HS5810
                  go_ret
                  have H := Option.some.inj HH.out
                  clear HH
                  subst H
                  exact ⟨_, _, _, rfl, ⟨rfl, rfl, rfl⟩, (HS581.out.front 2 rfl).keep 1⟩
              · have H := HH.out
                clear HH
                rw [if_neg c552] at H
                have HH := Lib.hid H
                clear H
                have b582 : (x479 == 11) = false := beq_eq_false_iff_ne.2 c552
                have b583 : (x479 != 11) = true := bne_iff_ne.2 c552
                clear c552
                go_wp2_with fail
                have HS5840 := (HS489.out).alloc #[.int .i64 x483.fTime, .int .i64 x483.fOffset, .bool x483.fKey.null, .string (bsOf x483.fKey.data), .bool x483.fValue.null, .string (bsOf x483.fValue.data), .slice A484 x483.fHeaders.length c485] 65
                try simp only [World.size_alloc, World.size_setCell] at HS5840
                have HS584 := Lib.hid HS5840
                clear HS5840
                go_ret
                have H := Option.some.inj HH.out
                clear HH
                subst H
                exact ⟨_, _, _, rfl, ⟨rfl, rfl, rfl⟩, (HS584.out.front 2 rfl).keep 1⟩
            · have H := HH.out
              clear HH
              rw [if_neg c551] at H
              have HH := Lib.hid H
              clear H
              have b585 : 0 < x473.length := List.length_pos_iff.2 c551
              have b586 : x473.isEmpty = false := by simpa using c551
              have b587 : (x473 == []) = false := beq_eq_false_iff_ne.2 c551
              have b588 : (x473 != []) = true := bne_iff_ne.2 c551
              go_wp2_with fail
              have HS5890 := (HS489.out).alloc #[.int .i64 x483.fTime, .int .i64 x483.fOffset, .bool x483.fKey.null, .string (bsOf x483.fKey.data), .bool x483.fValue.null, .string (bsOf x483.fValue.data), .slice A484 x483.fHeaders.length c485] 65
              try simp only [World.size_alloc, World.size_setCell] at HS5890
              have HS589 := Lib.hid HS5890
              clear HS5890
              go_ret
              have H := Option.some.inj HH.out
              clear HH
              subst H
              exact ⟨_, _, _, rfl, ⟨rfl, rfl, rfl⟩, (HS589.out.front 2 rfl).keep 1⟩
          · have H := HH.out
            clear HH
            rw [if_neg c550] at H
            have HH := Lib.hid H
            clear H
            have b590 : (x474 == 12) = false := beq_eq_false_iff_ne.2 c550
            have b591 : (x474 != 12) = true := bne_iff_ne.2 c550
            clear c550
            go_wp2_with fail
            have HS5920 := (HS489.out).alloc #[.int .i64 x483.fTime, .int .i64 x483.fOffset, .bool x483.fKey.null, .string (bsOf x483.fKey.data), .bool x483.fValue.null, .string (bsOf x483.fValue.data), .slice A484 x483.fHeaders.length c485] 65
            try simp only [World.size_alloc, World.size_setCell] at HS5920
            have HS592 := Lib.hid HS5920
            clear HS5920
            go_ret
            have H := Option.some.inj HH.out
            clear HH
            subst H
            exact ⟨_, _, _, rfl, ⟨rfl, rfl, rfl⟩, (HS592.out.front 2 rfl).keep 1⟩
  · have H := HH.out
    clear HH
    rw [if_neg c5] at H
    have HH := Lib.hid H
    clear H
    have c5 : x1 = false := by simpa using c5
    subst c5
    go_wp2_with fail
    go_ret
    have H := Option.some.inj HH.out
    clear HH
    subst H
    exact ⟨_, _, _, rfl, ⟨rfl, rfl, rfl⟩, (HS4.out.front 0 rfl).keep 1⟩
end Go.Proofs.Ytchfkhdifmpbkaa.Sl
