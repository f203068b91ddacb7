/- Printed by g.py: package control. -/
import Derived.Test.YtchfkhdifmpbkaaGb
import Derived.Test.YtchfkhdifmpbkaaT
import Derived.Deep.LoopGhost
import Derived.WalkLawsBesides
import Derived.IntWalk
import Derived.Deep.RegionHeld3
namespace Go.Proofs.Ytchfkhdifmpbkaa.Sl
open Go.RowKit
set_option linter.unusedVariables false
set_option linter.unusedSimpArgs false
attribute [local go_sem] bsOf_toList bsOf_size bsOf_app
theorem infoG_cursitor_api_Record : (Try.prog.info? 65).map (·.size) = some 7 := by kernel_rfl
def f_control_Key (a0 : Int) : Option (List UInt8 × Int) := if a0 = 0 then ((gOInt ([], 0) 0 2).bind fun st2 => (gOInt st2 0 2).bind fun st7 => (gOText st7).bind fun (x11, x12, st13) => some (x11, x12)) else (if a0 = 1 then ((gOInt ([], 0) 0 2).bind fun st20 => (gOInt st20 1 2).bind fun st25 => (gOText st25).bind fun (x29, x30, st31) => some (x29, x30)) else some ([], 12))
set_option maxRecDepth 100000 in
set_option maxHeartbeats 1000000 in
theorem f_control_Key_spec (a0 : Int) (r : List UInt8 × Int) (h : f_control_Key a0 = some r) : SpecX Try.prog 45 #[.int .i64 a0] .triv (EmpR) (fun v A' N => v = .tuple #[.string (bsOf r.1), .int .i64 r.2] ∧ A' = EmpR ∧ N = []) := by
  intro F w hA hX
  clear hX
  have HS0 := Lib.hid (St.start F w (Sep.one hA))
  clear hA
  unfold f_control_Key at h
  have HH := Lib.hid h
  clear h
  go_enter Try.func45, Try.ntmps45
  by_cases c1 : a0 = 0
  · have H := HH.out
    clear HH
    rw [if_pos c1] at H
    have HH := Lib.hid H
    clear H
    subst c1
    go_wp2_with fail
    have H0 := HH.out
    clear HH
    obtain ⟨st2, hx3, H⟩ := Option.bind_eq_some_iff.1 H0
    clear H0
    try dsimp only at H
    have hx3H := Lib.hid hx3
    clear hx3
    have HH := Lib.hid H
    clear H
    have HS40 := OutR.new (HS0.out)
    try simp only [World.size_alloc, World.size_setCell] at HS40
    have HS4 := Lib.hid HS40
    clear HS40
    refine (St.callX 0 HS4.out rfl (gOInt_spec w.heap.size ([], 0) 0 2 _ hx3H.out) (Src.triv _)).mono ?_
    rintro e w5 ⟨v, A', N, rfl, ⟨rfl, rfl, rfl⟩, H1⟩
    clear hx3H HS4
    try simp only [List.cons_append, List.nil_append, List.set_cons_zero, List.set_cons_succ] at H1
    have HS6 := Lib.hid H1
    clear H1
    go_wp2_with fail
    have H0 := HH.out
    clear HH
    obtain ⟨st7, hx8, H⟩ := Option.bind_eq_some_iff.1 H0
    clear H0
    try dsimp only at H
    have hx8H := Lib.hid hx8
    clear hx8
    have HH := Lib.hid H
    clear H
    refine (St.callX 0 HS6.out rfl (gOInt_spec w.heap.size st2 0 2 _ hx8H.out) (Src.triv _)).mono ?_
    rintro e w9 ⟨v, A', N, rfl, ⟨rfl, rfl, rfl⟩, H1⟩
    clear hx8H HS6
    try simp only [List.cons_append, List.nil_append, List.set_cons_zero, List.set_cons_succ] at H1
    have HS10 := Lib.hid H1
    clear H1
    go_wp2_with fail
    have H0 := HH.out
    clear HH
    obtain ⟨⟨x11, x12, st13⟩, hx14, H⟩ := Option.bind_eq_some_iff.1 H0
    clear H0
    try dsimp only at H
    have hx14H := Lib.hid hx14
    clear hx14
    have HH := Lib.hid H
    clear H
    refine (St.callX 0 HS10.out rfl (gOText_spec w.heap.size st7 _ hx14H.out) (Src.triv _)).mono ?_
    rintro e w15 ⟨v, A', N, rfl, ⟨rfl, rfl, rfl⟩, H1⟩
    clear hx14H HS10
    try simp only [List.cons_append, List.nil_append, List.set_cons_zero, List.set_cons_succ] at H1
    have HS16 := Lib.hid H1
    clear H1
    go_wp2_with fail
    go_ret2
    have H := Option.some.inj HH.out
    clear HH
    subst H
    exact ⟨_, _, _, rfl, ⟨rfl, rfl, rfl⟩, (HS16.out.front 1 rfl).keep 1⟩
  · have H := HH.out
    clear HH
    rw [if_neg c1] at H
    have HH := Lib.hid H
    clear H
    have b17 : (a0 == 0) = false := beq_eq_false_iff_ne.2 c1
    have b18 : (a0 != 0) = true := bne_iff_ne.2 c1
    clear c1
    by_cases c19 : a0 = 1
    · have H := HH.out
      clear HH
      rw [if_pos c19] at H
      have HH := Lib.hid H
      clear H
      subst c19
      go_wp2_with fail
      have H0 := HH.out
      clear HH
      obtain ⟨st20, hx21, H⟩ := Option.bind_eq_some_iff.1 H0
      clear H0
      try dsimp only at H
      have hx21H := Lib.hid hx21
      clear hx21
      have HH := Lib.hid H
      clear H
      have HS220 := OutR.new (HS0.out)
      try simp only [World.size_alloc, World.size_setCell] at HS220
      have HS22 := Lib.hid HS220
      clear HS220
      refine (St.callX 0 HS22.out rfl (gOInt_spec w.heap.size ([], 0) 0 2 _ hx21H.out) (Src.triv _)).mono ?_
      rintro e w23 ⟨v, A', N, rfl, ⟨rfl, rfl, rfl⟩, H1⟩
      clear hx21H HS22
      try simp only [List.cons_append, List.nil_append, List.set_cons_zero, List.set_cons_succ] at H1
      have HS24 := Lib.hid H1
      clear H1
      go_wp2_with fail
      have H0 := HH.out
      clear HH
      obtain ⟨st25, hx26, H⟩ := Option.bind_eq_some_iff.1 H0
      clear H0
      try dsimp only at H
      have hx26H := Lib.hid hx26
      clear hx26
      have HH := Lib.hid H
      clear H
      refine (St.callX 0 HS24.out rfl (gOInt_spec w.heap.size st20 1 2 _ hx26H.out) (Src.triv _)).mono ?_
      rintro e w27 ⟨v, A', N, rfl, ⟨rfl, rfl, rfl⟩, H1⟩
      clear hx26H HS24
      try simp only [List.cons_append, List.nil_append, List.set_cons_zero, List.set_cons_succ] at H1
      have HS28 := Lib.hid H1
      clear H1
      go_wp2_with fail
      have H0 := HH.out
      clear HH
      obtain ⟨⟨x29, x30, st31⟩, hx32, H⟩ := Option.bind_eq_some_iff.1 H0
      clear H0
      try dsimp only at H
      have hx32H := Lib.hid hx32
      clear hx32
      have HH := Lib.hid H
      clear H
      refine (St.callX 0 HS28.out rfl (gOText_spec w.heap.size st25 _ hx32H.out) (Src.triv _)).mono ?_
      rintro e w33 ⟨v, A', N, rfl, ⟨rfl, rfl, rfl⟩, H1⟩
      clear hx32H HS28
      try simp only [List.cons_append, List.nil_append, List.set_cons_zero, List.set_cons_succ] at H1
      have HS34 := Lib.hid H1
      clear H1
      go_wp2_with fail
      go_ret2
      have H := Option.some.inj HH.out
      clear HH
      subst H
      exact ⟨_, _, _, rfl, ⟨rfl, rfl, rfl⟩, (HS34.out.front 1 rfl).keep 1⟩
    · have H := HH.out
      clear HH
      rw [if_neg c19] at H
      have HH := Lib.hid H
      clear H
      have b35 : (a0 == 1) = false := beq_eq_false_iff_ne.2 c19
      have b36 : (a0 != 1) = true := bne_iff_ne.2 c19
      clear c19
      go_wp2_with fail
      go_ret2
      have H := Option.some.inj HH.out
      clear HH
      subst H
      exact ⟨_, _, _, rfl, ⟨rfl, rfl, rfl⟩, (HS0.out.front 0 rfl).keep 1⟩
def f_control_version (st : I)  : Option (I) := (gInt st 2).bind fun (x1, st2) => if x1 = 0 then some st2 else ((gIFail st2 7).bind fun st9 => some st9)
set_option maxRecDepth 100000 in
set_option maxHeartbeats 1000000 in
theorem f_control_version_spec (g : Nat) (st : I)  (r : I) (h : f_control_version st  = some r) : SpecX Try.prog 105 #[.pointer (some ⟨g, 0, none⟩)] .triv (InR g st) (fun v A' N => v = .tuple #[] ∧ A' = InR g r ∧ N = []) := by
  intro F w hA hX
  clear hX
  have HS0 := Lib.hid (St.start F w (Sep.one hA))
  clear hA
  unfold f_control_version at h
  have HH := Lib.hid h
  clear h
  go_enter Try.func105, Try.ntmps105
  go_wp2_with fail
  have H0 := HH.out
  clear HH
  obtain ⟨⟨x1, st2⟩, hx3, H⟩ := Option.bind_eq_some_iff.1 H0
  clear H0
  try dsimp only at H
  have hx3H := Lib.hid hx3
  clear hx3
  have HH := Lib.hid H
  clear H
  refine (St.callX 0 HS0.out rfl (gInt_spec g st 2 _ hx3H.out) (Src.triv _)).mono ?_
  rintro e w4 ⟨v, A', N, rfl, ⟨rfl, rfl, rfl⟩, H1⟩
  clear hx3H HS0
  try simp only [List.cons_append, List.nil_append, List.set_cons_zero, List.set_cons_succ] at H1
  have HS5 := Lib.hid H1
  clear H1
  by_cases c6 : x1 = 0
  · have H := HH.out
    clear HH
    rw [if_pos c6] at H
    have HH := Lib.hid H
    clear H
    subst c6
    go_wp2_with fail
    go_end0
    have H := Option.some.inj HH.out
    clear HH
    subst H
    exact ⟨_, _, _, rfl, ⟨rfl, rfl, rfl⟩, (HS5.out.front 0 rfl).keep 1⟩
  · have H := HH.out
    clear HH
    rw [if_neg c6] at H
    have HH := Lib.hid H
    clear H
    have b7 : (x1 == 0) = false := beq_eq_false_iff_ne.2 c6
    have b8 : (x1 != 0) = true := bne_iff_ne.2 c6
    clear c6
    go_wp2_with fail
    have H0 := HH.out
    clear HH
    obtain ⟨st9, hx10, H⟩ := Option.bind_eq_some_iff.1 H0
    clear H0
    try dsimp only at H
    have hx10H := Lib.hid hx10
    clear hx10
    have HH := Lib.hid H
    clear H
    refine (St.callX 0 HS5.out rfl (gIFail_spec g st2 7 _ hx10H.out) (Src.triv _)).mono ?_
    rintro e w11 ⟨v, A', N, rfl, ⟨rfl, rfl, rfl⟩, H1⟩
    clear hx10H HS5
    try simp only [List.cons_append, List.nil_append, List.set_cons_zero, List.set_cons_succ] at H1
    have HS12 := Lib.hid H1
    clear H1
    go_wp2_with fail
    go_end0
    have H := Option.some.inj HH.out
    clear HH
    subst H
    exact ⟨_, _, _, rfl, ⟨rfl, rfl, rfl⟩, (HS12.out.front 0 rfl).keep 1⟩
def f_control_ReadKey (a0 : List UInt8) : Option (Int × Int) := (gNew a0).bind fun st1 => (f_control_version st1).bind fun st6 => (gInt st6 2).bind fun (x10, st11) => if x10 = 0 then ((gClose st11).bind fun (x16, st17) => if x16 = 0 then some (0, 0) else some (0, x16)) else (if x10 = 1 then ((gClose st11).bind fun (x27, st28) => if x27 = 0 then some (1, 0) else some (0, x27)) else ((gIFail st11 12).bind fun st37 => (gClose st37).bind fun (x41, st42) => if x41 = 0 then some (x10, 0) else some (0, x41)))
set_option maxRecDepth 100000 in
set_option maxHeartbeats 1000000 in
theorem f_control_ReadKey_spec (a0 : List UInt8) (r : Int × Int) (h : f_control_ReadKey a0 = some r) : SpecX Try.prog 80 #[.string (bsOf a0)] .triv (EmpR) (fun v A' N => v = .tuple #[.int .i64 r.1, .int .i64 r.2] ∧ A' = EmpR ∧ N = []) := by
  intro F w hA hX
  clear hX
  have HS0 := Lib.hid (St.start F w (Sep.one hA))
  clear hA
  unfold f_control_ReadKey at h
  have HH := Lib.hid h
  clear h
  go_enter Try.func80, Try.ntmps80
  go_wp2_with fail
  have H0 := HH.out
  clear HH
  obtain ⟨st1, hx2, H⟩ := Option.bind_eq_some_iff.1 H0
  clear H0
  try dsimp only at H
  have hx2H := Lib.hid hx2
  clear hx2
  have HH := Lib.hid H
  clear H
  refine (St.callE HS0.out (gNew_spec a0 _ hx2H.out) (RX.reads_triv _ _)).mono ?_
  rintro e w3 ⟨v, A', N, rfl, ⟨g4, rfl, rfl, rfl⟩, H1⟩
  clear hx2H HS0
  try simp only [List.cons_append, List.nil_append, List.set_cons_zero, List.set_cons_succ] at H1
  have HS5 := Lib.hid H1
  clear H1
  go_wp2_with fail
  have H0 := HH.out
  clear HH
  obtain ⟨st6, hx7, H⟩ := Option.bind_eq_some_iff.1 H0
  clear H0
  try dsimp only at H
  have hx7H := Lib.hid hx7
  clear hx7
  have HH := Lib.hid H
  clear H
  refine (St.callX 0 HS5.out rfl (f_control_version_spec g4 st1 _ hx7H.out) (Src.triv _)).mono ?_
  rintro e w8 ⟨v, A', N, rfl, ⟨rfl, rfl, rfl⟩, H1⟩
  clear hx7H HS5
  try simp only [List.cons_append, List.nil_append, List.set_cons_zero, List.set_cons_succ] at H1
  have HS9 := Lib.hid H1
  clear H1
  go_wp2_with fail
  have H0 := HH.out
  clear HH
  obtain ⟨⟨x10, st11⟩, hx12, H⟩ := Option.bind_eq_some_iff.1 H0
  clear H0
  try dsimp only at H
  have hx12H := Lib.hid hx12
  clear hx12
  have HH := Lib.hid H
  clear H
  refine (St.callX 0 HS9.out rfl (gInt_spec g4 st6 2 _ hx12H.out) (Src.triv _)).mono ?_
  rintro e w13 ⟨v, A', N, rfl, ⟨rfl, rfl, rfl⟩, H1⟩
  clear hx12H HS9
  try simp only [List.cons_append, List.nil_append, List.set_cons_zero, List.set_cons_succ] at H1
  have HS14 := Lib.hid H1
  clear H1
  by_cases c15 : x10 = 0
  · have H := HH.out
    clear HH
    rw [if_pos c15] at H
    have HH := Lib.hid H
    clear H
    subst c15
    go_wp2_with fail
    have H0 := HH.out
    clear HH
    obtain ⟨⟨x16, st17⟩, hx18, H⟩ := Option.bind_eq_some_iff.1 H0
    clear H0
    try dsimp only at H
    have hx18H := Lib.hid hx18
    clear hx18
    have HH := Lib.hid H
    clear H
    refine (St.callX 0 HS14.out rfl (gClose_spec g4 st11 _ hx18H.out) (Src.triv _)).mono ?_
    rintro e w19 ⟨v, A', N, rfl, ⟨rfl, rfl, rfl⟩, H1⟩
    clear hx18H HS14
    try simp only [List.cons_append, List.nil_append, List.set_cons_zero, List.set_cons_succ] at H1
    have HS20 := Lib.hid H1
    clear H1
    by_cases c21 : x16 = 0
    · have H := HH.out
      clear HH
      rw [if_pos c21] at H
      have HH := Lib.hid H
      clear H
      subst c21
      go_wp2_with fail
      go_ret2
      have H := Option.some.inj HH.out
      clear HH
      subst H
      exact ⟨_, _, _, rfl, ⟨rfl, rfl, rfl⟩, (HS20.out.front 1 rfl).keep 1⟩
    · have H := HH.out
      clear HH
      rw [if_neg c21] at H
      have HH := Lib.hid H
      clear H
      have b22 : (x16 == 0) = false := beq_eq_false_iff_ne.2 c21
      have b23 : (x16 != 0) = true := bne_iff_ne.2 c21
      clear c21
      go_wp2_with fail
      go_ret2
      have H := Option.some.inj HH.out
      clear HH
      subst H
      exact ⟨_, _, _, rfl, ⟨rfl, rfl, rfl⟩, (HS20.out.front 1 rfl).keep 1⟩
  · have H := HH.out
    clear HH
    rw [if_neg c15] at H
    have HH := Lib.hid H
    clear H
    have b24 : (x10 == 0) = false := beq_eq_false_iff_ne.2 c15
    have b25 : (x10 != 0) = true := bne_iff_ne.2 c15
    clear c15
    by_cases c26 : x10 = 1
    · have H := HH.out
      clear HH
      rw [if_pos c26] at H
      have HH := Lib.hid H
      clear H
      subst c26
      go_wp2_with fail
      have H0 := HH.out
      clear HH
      obtain ⟨⟨x27, st28⟩, hx29, H⟩ := Option.bind_eq_some_iff.1 H0
      clear H0
      try dsimp only at H
      have hx29H := Lib.hid hx29
      clear hx29
      have HH := Lib.hid H
      clear H
      refine (St.callX 0 HS14.out rfl (gClose_spec g4 st11 _ hx29H.out) (Src.triv _)).mono ?_
      rintro e w30 ⟨v, A', N, rfl, ⟨rfl, rfl, rfl⟩, H1⟩
      clear hx29H HS14
      try simp only [List.cons_append, List.nil_append, List.set_cons_zero, List.set_cons_succ] at H1
      have HS31 := Lib.hid H1
      clear H1
      by_cases c32 : x27 = 0
      · have H := HH.out
        clear HH
        rw [if_pos c32] at H
        have HH := Lib.hid H
        clear H
        subst c32
        go_wp2_with fail
        go_ret2
        have H := Option.some.inj HH.out
        clear HH
        subst H
        exact ⟨_, _, _, rfl, ⟨rfl, rfl, rfl⟩, (HS31.out.front 1 rfl).keep 1⟩
      · have H := HH.out
        clear HH
        rw [if_neg c32] at H
        have HH := Lib.hid H
        clear H
        have b33 : (x27 == 0) = false := beq_eq_false_iff_ne.2 c32
        have b34 : (x27 != 0) = true := bne_iff_ne.2 c32
        clear c32
        go_wp2_with fail
        go_ret2
        have H := Option.some.inj HH.out
        clear HH
        subst H
        exact ⟨_, _, _, rfl, ⟨rfl, rfl, rfl⟩, (HS31.out.front 1 rfl).keep 1⟩
    · have H := HH.out
      clear HH
      rw [if_neg c26] at H
      have HH := Lib.hid H
      clear H
      have b35 : (x10 == 1) = false := beq_eq_false_iff_ne.2 c26
      have b36 : (x10 != 1) = true := bne_iff_ne.2 c26
      clear c26
      go_wp2_with fail
      have H0 := HH.out
      clear HH
      obtain ⟨st37, hx38, H⟩ := Option.bind_eq_some_iff.1 H0
      clear H0
      try dsimp only at H
      have hx38H := Lib.hid hx38
      clear hx38
      have HH := Lib.hid H
      clear H
      refine (St.callX 0 HS14.out rfl (gIFail_spec g4 st11 12 _ hx38H.out) (Src.triv _)).mono ?_
      rintro e w39 ⟨v, A', N, rfl, ⟨rfl, rfl, rfl⟩, H1⟩
      clear hx38H HS14
      try simp only [List.cons_append, List.nil_append, List.set_cons_zero, List.set_cons_succ] at H1
      have HS40 := Lib.hid H1
      clear H1
      go_wp2_with fail
      have H0 := HH.out
      clear HH
      obtain ⟨⟨x41, st42⟩, hx43, H⟩ := Option.bind_eq_some_iff.1 H0
      clear H0
      try dsimp only at H
      have hx43H := Lib.hid hx43
      clear hx43
      have HH := Lib.hid H
      clear H
      refine (St.callX 0 HS40.out rfl (gClose_spec g4 st37 _ hx43H.out) (Src.triv _)).mono ?_
      rintro e w44 ⟨v, A', N, rfl, ⟨rfl, rfl, rfl⟩, H1⟩
      clear hx43H HS40
      try simp only [List.cons_append, List.nil_append, List.set_cons_zero, List.set_cons_succ] at H1
      have HS45 := Lib.hid H1
      clear H1
      by_cases c46 : x41 = 0
      · have H := HH.out
        clear HH
        rw [if_pos c46] at H
        have HH := Lib.hid H
        clear H
        subst c46
        go_wp2_with fail
        go_ret2
        have H := Option.some.inj HH.out
        clear HH
        subst H
        exact ⟨_, _, _, rfl, ⟨rfl, rfl, rfl⟩, (HS45.out.front 1 rfl).keep 1⟩
      · have H := HH.out
        clear HH
        rw [if_neg c46] at H
        have HH := Lib.hid H
        clear H
        have b47 : (x41 == 0) = false := beq_eq_false_iff_ne.2 c46
        have b48 : (x41 != 0) = true := bne_iff_ne.2 c46
        clear c46
        go_wp2_with fail
        go_ret2
        have H := Option.some.inj HH.out
        clear HH
        subst H
        exact ⟨_, _, _, rfl, ⟨rfl, rfl, rfl⟩, (HS45.out.front 1 rfl).keep 1⟩
def f_control_ReadValue (a0 : List UInt8) : Option (Int × Int) := (gNew a0).bind fun st1 => (f_control_version st1).bind fun st6 => (gInt st6 4).bind fun (x10, st11) => if x10 < 0 then ((gIFail st11 11).bind fun st17 => (gClose st17).bind fun (x21, st22) => if x21 = 0 then some (x10, 0) else some (0, x21)) else ((gClose st11).bind fun (x30, st31) => if x30 = 0 then some (x10, 0) else some (0, x30))
set_option maxRecDepth 100000 in
set_option maxHeartbeats 1000000 in
theorem f_control_ReadValue_spec (a0 : List UInt8) (r : Int × Int) (h : f_control_ReadValue a0 = some r) : SpecX Try.prog 82 #[.string (bsOf a0)] .triv (EmpR) (fun v A' N => v = .tuple #[.int .i64 r.1, .int .i64 r.2] ∧ A' = EmpR ∧ N = []) := by
  intro F w hA hX
  clear hX
  have HS0 := Lib.hid (St.start F w (Sep.one hA))
  clear hA
  unfold f_control_ReadValue at h
  have HH := Lib.hid h
  clear h
  go_enter Try.func82, Try.ntmps82
  go_wp2_with fail
  have H0 := HH.out
  clear HH
  obtain ⟨st1, hx2, H⟩ := Option.bind_eq_some_iff.1 H0
  clear H0
  try dsimp only at H
  have hx2H := Lib.hid hx2
  clear hx2
  have HH := Lib.hid H
  clear H
  refine (St.callE HS0.out (gNew_spec a0 _ hx2H.out) (RX.reads_triv _ _)).mono ?_
  rintro e w3 ⟨v, A', N, rfl, ⟨g4, rfl, rfl, rfl⟩, H1⟩
  clear hx2H HS0
  try simp only [List.cons_append, List.nil_append, List.set_cons_zero, List.set_cons_succ] at H1
  have HS5 := Lib.hid H1
  clear H1
  go_wp2_with fail
  have H0 := HH.out
  clear HH
  obtain ⟨st6, hx7, H⟩ := Option.bind_eq_some_iff.1 H0
  clear H0
  try dsimp only at H
  have hx7H := Lib.hid hx7
  clear hx7
  have HH := Lib.hid H
  clear H
  refine (St.callX 0 HS5.out rfl (f_control_version_spec g4 st1 _ hx7H.out) (Src.triv _)).mono ?_
  rintro e w8 ⟨v, A', N, rfl, ⟨rfl, rfl, rfl⟩, H1⟩
  clear hx7H HS5
  try simp only [List.cons_append, List.nil_append, List.set_cons_zero, List.set_cons_succ] at H1
  have HS9 := Lib.hid H1
  clear H1
  go_wp2_with fail
  have H0 := HH.out
  clear HH
  obtain ⟨⟨x10, st11⟩, hx12, H⟩ := Option.bind_eq_some_iff.1 H0
  clear H0
  try dsimp only at H
  have hx12H := Lib.hid hx12
  clear hx12
  have HH := Lib.hid H
  clear H
  refine (St.callX 0 HS9.out rfl (gInt_spec g4 st6 4 _ hx12H.out) (Src.triv _)).mono ?_
  rintro e w13 ⟨v, A', N, rfl, ⟨rfl, rfl, rfl⟩, H1⟩
  clear hx12H HS9
  try simp only [List.cons_append, List.nil_append, List.set_cons_zero, List.set_cons_succ] at H1
  have HS14 := Lib.hid H1
  clear H1
  by_cases c15 : x10 < 0
  · have H := HH.out
    clear HH
    rw [if_pos c15] at H
    have HH := Lib.hid H
    clear H
    have b16 : decide (x10 < 0) = true := decide_eq_true c15
    go_wp2_with fail
    have H0 := HH.out
    clear HH
    obtain ⟨st17, hx18, H⟩ := Option.bind_eq_some_iff.1 H0
    clear H0
    try dsimp only at H
    have hx18H := Lib.hid hx18
    clear hx18
    have HH := Lib.hid H
    clear H
    refine (St.callX 0 HS14.out rfl (gIFail_spec g4 st11 11 _ hx18H.out) (Src.triv _)).mono ?_
    rintro e w19 ⟨v, A', N, rfl, ⟨rfl, rfl, rfl⟩, H1⟩
    clear hx18H HS14
    try simp only [List.cons_append, List.nil_append, List.set_cons_zero, List.set_cons_succ] at H1
    have HS20 := Lib.hid H1
    clear H1
    go_wp2_with fail
    have H0 := HH.out
    clear HH
    obtain ⟨⟨x21, st22⟩, hx23, H⟩ := Option.bind_eq_some_iff.1 H0
    clear H0
    try dsimp only at H
    have hx23H := Lib.hid hx23
    clear hx23
    have HH := Lib.hid H
    clear H
    refine (St.callX 0 HS20.out rfl (gClose_spec g4 st17 _ hx23H.out) (Src.triv _)).mono ?_
    rintro e w24 ⟨v, A', N, rfl, ⟨rfl, rfl, rfl⟩, H1⟩
    clear hx23H HS20
    try simp only [List.cons_append, List.nil_append, List.set_cons_zero, List.set_cons_succ] at H1
    have HS25 := Lib.hid H1
    clear H1
    by_cases c26 : x21 = 0
    · have H := HH.out
      clear HH
      rw [if_pos c26] at H
      have HH := Lib.hid H
      clear H
      subst c26
      go_wp2_with fail
      go_ret2
      have H := Option.some.inj HH.out
      clear HH
      subst H
      exact ⟨_, _, _, rfl, ⟨rfl, rfl, rfl⟩, (HS25.out.front 1 rfl).keep 1⟩
    · have H := HH.out
      clear HH
      rw [if_neg c26] at H
      have HH := Lib.hid H
      clear H
      have b27 : (x21 == 0) = false := beq_eq_false_iff_ne.2 c26
      have b28 : (x21 != 0) = true := bne_iff_ne.2 c26
      clear c26
      go_wp2_with fail
      go_ret2
      have H := Option.some.inj HH.out
      clear HH
      subst H
      exact ⟨_, _, _, rfl, ⟨rfl, rfl, rfl⟩, (HS25.out.front 1 rfl).keep 1⟩
  · have H := HH.out
    clear HH
    rw [if_neg c15] at H
    have HH := Lib.hid H
    clear H
    have b29 : decide (x10 < 0) = false := decide_eq_false c15
    go_wp2_with fail
    have H0 := HH.out
    clear HH
    obtain ⟨⟨x30, st31⟩, hx32, H⟩ := Option.bind_eq_some_iff.1 H0
    clear H0
    try dsimp only at H
    have hx32H := Lib.hid hx32
    clear hx32
    have HH := Lib.hid H
    clear H
    refine (St.callX 0 HS14.out rfl (gClose_spec g4 st11 _ hx32H.out) (Src.triv _)).mono ?_
    rintro e w33 ⟨v, A', N, rfl, ⟨rfl, rfl, rfl⟩, H1⟩
    clear hx32H HS14
    try simp only [List.cons_append, List.nil_append, List.set_cons_zero, List.set_cons_succ] at H1
    have HS34 := Lib.hid H1
    clear H1
    by_cases c35 : x30 = 0
    · have H := HH.out
      clear HH
      rw [if_pos c35] at H
      have HH := Lib.hid H
      clear H
      subst c35
      go_wp2_with fail
      go_ret2
      have H := Option.some.inj HH.out
      clear HH
      subst H
      exact ⟨_, _, _, rfl, ⟨rfl, rfl, rfl⟩, (HS34.out.front 1 rfl).keep 1⟩
    · have H := HH.out
      clear HH
      rw [if_neg c35] at H
      have HH := Lib.hid H
      clear H
      have b36 : (x30 == 0) = false := beq_eq_false_iff_ne.2 c35
      have b37 : (x30 != 0) = true := bne_iff_ne.2 c35
      clear c35
      go_wp2_with fail
      go_ret2
      have H := Option.some.inj HH.out
      clear HH
      subst H
      exact ⟨_, _, _, rfl, ⟨rfl, rfl, rfl⟩, (HS34.out.front 1 rfl).keep 1⟩
def f_control_Read (a0 : Rec) : Option (Int × Int × Int) := if a0.fKey.null = true then some (0, 0, 12) else (if a0.fValue.null = true then some (0, 0, 12) else (if a0.fHeaders = [] then (if a0.fOffset = 0 then ((f_control_ReadKey a0.fKey.data).bind fun (x18, x19) => if x19 = 0 then ((f_control_ReadValue a0.fValue.data).bind fun (x32, x33) => if x33 = 0 then some (x18, x32, 0) else some (0, 0, x33)) else some (0, 0, x19)) else some (0, 0, 12)) else some (0, 0, 12)))
set_option maxRecDepth 100000 in
set_option maxHeartbeats 1000000 in
theorem f_control_Read_spec (a0 : Rec) (A1 : Option Addr) (c2 : Nat) (r : Int × Int × Int) (h : f_control_Read a0 = some r) : SpecX Try.prog 36 #[.agg #[.int .i64 a0.fTime, .int .i64 a0.fOffset, .bool a0.fKey.null, .string (bsOf a0.fKey.data), .bool a0.fValue.null, .string (bsOf a0.fValue.data), .slice A1 a0.fHeaders.length c2]] (RX.of (sliceRd 3 Hd_rd) [.slice A1 a0.fHeaders.length c2] a0.fHeaders) (EmpR) (fun v A' N => v = .tuple #[.int .i64 r.1, .int .i64 r.2.1, .int .i64 r.2.2] ∧ A' = EmpR ∧ N = []) := by
  intro F w hA hX
  have HX1 := Lib.hid hX
  clear hX
  have HS0 := Lib.hid (St.start F w (Sep.one hA))
  clear hA
  unfold f_control_Read at h
  have HH := Lib.hid h
  clear h
  go_enter Try.func36, Try.ntmps36
  by_cases c3 : a0.fKey.null = true
  · have H := HH.out
    clear HH
    rw [if_pos c3] at H
    have HH := Lib.hid H
    clear H
    have H1 := HS0.out
    try simp only [c3] at H1
    have HS4 := Lib.hid H1
    clear H1
    have H1 := HX1.out
    clear HX1
    try simp only [c3] at H1
    have HX1 := Lib.hid H1
    clear H1
    go_wp2_with fail
    have HS50 := (HS4.out).alloc #[.int .i64 a0.fTime, .int .i64 a0.fOffset, .bool true, .string (bsOf a0.fKey.data), .bool a0.fValue.null, .string (bsOf a0.fValue.data), .slice A1 a0.fHeaders.length c2] 65
    try simp only [World.size_alloc, World.size_setCell] at HS50
    have HS5 := Lib.hid HS50
    clear HS50
    go_ret3
    have H := Option.some.inj HH.out
    clear HH
    subst H
    exact ⟨_, _, _, rfl, ⟨rfl, rfl, rfl⟩, (HS5.out.front 1 rfl).keep 1⟩
  · have H := HH.out
    clear HH
    rw [if_neg c3] at H
    have HH := Lib.hid H
    clear H
    have b6 : a0.fKey.null = false := by simpa using c3
    clear c3
    have H1 := HS0.out
    try simp only [b6] at H1
    have HS7 := Lib.hid H1
    clear H1
    have H1 := HX1.out
    clear HX1
    try simp only [b6] at H1
    have HX1 := Lib.hid H1
    clear H1
    by_cases c8 : a0.fValue.null = true
    · have H := HH.out
      clear HH
      rw [if_pos c8] at H
      have HH := Lib.hid H
      clear H
      have H1 := HS7.out
      try simp only [c8] at H1
      have HS9 := Lib.hid H1
      clear H1
      have H1 := HX1.out
      clear HX1
      try simp only [c8] at H1
      have HX1 := Lib.hid H1
      clear H1
      go_wp2_with fail
      have HS100 := (HS9.out).alloc #[.int .i64 a0.fTime, .int .i64 a0.fOffset, .bool false, .string (bsOf a0.fKey.data), .bool true, .string (bsOf a0.fValue.data), .slice A1 a0.fHeaders.length c2] 65
      try simp only [World.size_alloc, World.size_setCell] at HS100
      have HS10 := Lib.hid HS100
      clear HS100
      go_ret3
      have H := Option.some.inj HH.out
      clear HH
      subst H
      exact ⟨_, _, _, rfl, ⟨rfl, rfl, rfl⟩, (HS10.out.front 1 rfl).keep 1⟩
    · have H := HH.out
      clear HH
      rw [if_neg c8] at H
      have HH := Lib.hid H
      clear H
      have b11 : a0.fValue.null = false := by simpa using c8
      clear c8
      have H1 := HS7.out
      try simp only [b11] at H1
      have HS12 := Lib.hid H1
      clear H1
      have H1 := HX1.out
      clear HX1
      try simp only [b11] at H1
      have HX1 := Lib.hid H1
      clear H1
      by_cases c13 : a0.fHeaders = []
      · have H := HH.out
        clear HH
        rw [if_pos c13] at H
        have HH := Lib.hid H
        clear H
        have H1 := HS12.out
        try simp only [c13] at H1
        have HS14 := Lib.hid H1
        clear H1
        have H1 := HX1.out
        clear HX1
        try simp only [c13] at H1
        have HX1 := Lib.hid H1
        clear H1
        by_cases c15 : a0.fOffset = 0
        · have H := HH.out
          clear HH
          rw [if_pos c15] at H
          have HH := Lib.hid H
          clear H
          have b16 : (a0.fOffset == 0) = true := beq_iff_eq.2 c15
          have b17 : (a0.fOffset != 0) = false := bne_eq_false_iff_eq.2 c15
          have c15E := Lib.hid c15
          clear c15
          go_wp2_with fail
          have H0 := HH.out
          clear HH
          obtain ⟨⟨x18, x19⟩, hx20, H⟩ := Option.bind_eq_some_iff.1 H0
          clear H0
          try dsimp only at H
          have hx20H := Lib.hid hx20
          clear hx20
          have HH := Lib.hid H
          clear H
          have HS210 := (HS14.out).alloc #[.int .i64 a0.fTime, .int .i64 a0.fOffset, .bool false, .string (bsOf a0.fKey.data), .bool false, .string (bsOf a0.fValue.data), .slice A1 0 c2] 65
          try simp only [World.size_alloc, World.size_setCell] at HS210
          have HS21 := Lib.hid HS210
          clear HS210
          refine (St.callE HS21.out (f_control_ReadKey_spec a0.fKey.data _ hx20H.out) (RX.reads_triv _ _)).mono ?_
          rintro e w22 ⟨v, A', N, rfl, ⟨rfl, rfl, rfl⟩, H1⟩
          clear hx20H HS21
          try simp only [List.cons_append, List.nil_append, List.set_cons_zero, List.set_cons_succ] at H1
          have d23 : w22.cell? ⟨w.heap.size, 0, none⟩ = some (.int .i64 a0.fTime) := heap_at (St.blk 0 H1 rfl) 0
          have d24 : w22.cell? ⟨w.heap.size, 1, none⟩ = some (.int .i64 a0.fOffset) := heap_at (St.blk 0 H1 rfl) 1
          have d25 : w22.cell? ⟨w.heap.size, 2, none⟩ = some (.bool false) := heap_at (St.blk 0 H1 rfl) 2
          have d26 : w22.cell? ⟨w.heap.size, 3, none⟩ = some (.string (bsOf a0.fKey.data)) := heap_at (St.blk 0 H1 rfl) 3
          have d27 : w22.cell? ⟨w.heap.size, 4, none⟩ = some (.bool false) := heap_at (St.blk 0 H1 rfl) 4
          have d28 : w22.cell? ⟨w.heap.size, 5, none⟩ = some (.string (bsOf a0.fValue.data)) := heap_at (St.blk 0 H1 rfl) 5
          have d29 : w22.cell? ⟨w.heap.size, 6, none⟩ = some (.slice A1 0 c2) := heap_at (St.blk 0 H1 rfl) 6
          have HS30 := Lib.hid H1
          clear H1
          by_cases c31 : x19 = 0
          · have H := HH.out
            clear HH
            rw [if_pos c31] at H
            have HH := Lib.hid H
            clear H
            subst c31
            go_wp2_with fail
            have H0 := HH.out
            clear HH
            obtain ⟨⟨x32, x33⟩, hx34, H⟩ := Option.bind_eq_some_iff.1 H0
            clear H0
            try dsimp only at H
            have hx34H := Lib.hid hx34
            clear hx34
            have HH := Lib.hid H
            clear H
            refine (St.callE HS30.out (f_control_ReadValue_spec a0.fValue.data _ hx34H.out) (RX.reads_triv _ _)).mono ?_
            rintro e w35 ⟨v, A', N, rfl, ⟨rfl, rfl, rfl⟩, H1⟩
            clear hx34H HS30
            try simp only [List.cons_append, List.nil_append, List.set_cons_zero, List.set_cons_succ] at H1
            clear d23 d24 d25 d26 d27 d28 d29
            have HS36 := Lib.hid H1
            clear H1
            by_cases c37 : x33 = 0
            · have H := HH.out
              clear HH
              rw [if_pos c37] at H
              have HH := Lib.hid H
              clear H
              subst c37
              go_wp2_with fail
              go_ret3
              have H := Option.some.inj HH.out
              clear HH
              subst H
              exact ⟨_, _, _, rfl, ⟨rfl, rfl, rfl⟩, (HS36.out.front 1 rfl).keep 1⟩
            · have H := HH.out
              clear HH
              rw [if_neg c37] at H
              have HH := Lib.hid H
              clear H
              have b38 : (x33 == 0) = false := beq_eq_false_iff_ne.2 c37
              have b39 : (x33 != 0) = true := bne_iff_ne.2 c37
              clear c37
              go_wp2_with fail
              go_ret3
              have H := Option.some.inj HH.out
              clear HH
              subst H
              exact ⟨_, _, _, rfl, ⟨rfl, rfl, rfl⟩, (HS36.out.front 1 rfl).keep 1⟩
          · have H := HH.out
            clear HH
            rw [if_neg c31] at H
            have HH := Lib.hid H
            clear H
            have b40 : (x19 == 0) = false := beq_eq_false_iff_ne.2 c31
            have b41 : (x19 != 0) = true := bne_iff_ne.2 c31
            clear c31
            go_wp2_with fail
            go_ret3
            have H := Option.some.inj HH.out
            clear HH
            subst H
            exact ⟨_, _, _, rfl, ⟨rfl, rfl, rfl⟩, (HS30.out.front 1 rfl).keep 1⟩
        · have H := HH.out
          clear HH
          rw [if_neg c15] at H
          have HH := Lib.hid H
          clear H
          have b42 : (a0.fOffset == 0) = false := beq_eq_false_iff_ne.2 c15
          have b43 : (a0.fOffset != 0) = true := bne_iff_ne.2 c15
          clear c15
          go_wp2_with fail
          have HS440 := (HS14.out).alloc #[.int .i64 a0.fTime, .int .i64 a0.fOffset, .bool false, .string (bsOf a0.fKey.data), .bool false, .string (bsOf a0.fValue.data), .slice A1 0 c2] 65
          try simp only [World.size_alloc, World.size_setCell] at HS440
          have HS44 := Lib.hid HS440
          clear HS440
          go_ret3
          have H := Option.some.inj HH.out
          clear HH
          subst H
          exact ⟨_, _, _, rfl, ⟨rfl, rfl, rfl⟩, (HS44.out.front 1 rfl).keep 1⟩
      · have H := HH.out
        clear HH
        rw [if_neg c13] at H
        have HH := Lib.hid H
        clear H
        have b45 : 0 < a0.fHeaders.length := List.length_pos_iff.2 c13
        have b46 : a0.fHeaders.isEmpty = false := by simpa using c13
        go_wp2_with fail
        have HS470 := (HS12.out).alloc #[.int .i64 a0.fTime, .int .i64 a0.fOffset, .bool false, .string (bsOf a0.fKey.data), .bool false, .string (bsOf a0.fValue.data), .slice A1 a0.fHeaders.length c2] 65
        try simp only [World.size_alloc, World.size_setCell] at HS470
        have HS47 := Lib.hid HS470
        clear HS470
        go_ret3
        have H := Option.some.inj HH.out
        clear HH
        subst H
        exact ⟨_, _, _, rfl, ⟨rfl, rfl, rfl⟩, (HS47.out.front 1 rfl).keep 1⟩
def f_control_Value (a0 : Int) : Option (List UInt8 × Int) := if a0 < 0 then some ([], 11) else ((gOInt ([], 0) 0 2).bind fun st4 => (gOInt st4 a0 4).bind fun st9 => (gOText st9).bind fun (x13, x14, st15) => some (x13, x14))
set_option maxRecDepth 100000 in
set_option maxHeartbeats 1000000 in
theorem f_control_Value_spec (a0 : Int) (r : List UInt8 × Int) (h : f_control_Value a0 = some r) : SpecX Try.prog 46 #[.int .i64 a0] .triv (EmpR) (fun v A' N => v = .tuple #[.string (bsOf r.1), .int .i64 r.2] ∧ A' = EmpR ∧ N = []) := by
  intro F w hA hX
  clear hX
  have HS0 := Lib.hid (St.start F w (Sep.one hA))
  clear hA
  unfold f_control_Value at h
  have HH := Lib.hid h
  clear h
  go_enter Try.func46, Try.ntmps46
  by_cases c1 : a0 < 0
  · have H := HH.out
    clear HH
    rw [if_pos c1] at H
    have HH := Lib.hid H
    clear H
    have b2 : decide (a0 < 0) = true := decide_eq_true c1
    go_wp2_with fail
    go_ret2
    have H := Option.some.inj HH.out
    clear HH
    subst H
    exact ⟨_, _, _, rfl, ⟨rfl, rfl, rfl⟩, (HS0.out.front 0 rfl).keep 1⟩
  · have H := HH.out
    clear HH
    rw [if_neg c1] at H
    have HH := Lib.hid H
    clear H
    have b3 : decide (a0 < 0) = false := decide_eq_false c1
    go_wp2_with fail
    have H0 := HH.out
    clear HH
    obtain ⟨st4, hx5, H⟩ := Option.bind_eq_some_iff.1 H0
    clear H0
    try dsimp only at H
    have hx5H := Lib.hid hx5
    clear hx5
    have HH := Lib.hid H
    clear H
    have HS60 := OutR.new (HS0.out)
    try simp only [World.size_alloc, World.size_setCell] at HS60
    have HS6 := Lib.hid HS60
    clear HS60
    refine (St.callX 0 HS6.out rfl (gOInt_spec w.heap.size ([], 0) 0 2 _ hx5H.out) (Src.triv _)).mono ?_
    rintro e w7 ⟨v, A', N, rfl, ⟨rfl, rfl, rfl⟩, H1⟩
    clear hx5H HS6
    try simp only [List.cons_append, List.nil_append, List.set_cons_zero, List.set_cons_succ] at H1
    have HS8 := Lib.hid H1
    clear H1
    go_wp2_with fail
    have H0 := HH.out
    clear HH
    obtain ⟨st9, hx10, H⟩ := Option.bind_eq_some_iff.1 H0
    clear H0
    try dsimp only at H
    have hx10H := Lib.hid hx10
    clear hx10
    have HH := Lib.hid H
    clear H
    refine (St.callX 0 HS8.out rfl (gOInt_spec w.heap.size st4 a0 4 _ hx10H.out) (Src.triv _)).mono ?_
    rintro e w11 ⟨v, A', N, rfl, ⟨rfl, rfl, rfl⟩, H1⟩
    clear hx10H HS8
    try simp only [List.cons_append, List.nil_append, List.set_cons_zero, List.set_cons_succ] at H1
    have HS12 := Lib.hid H1
    clear H1
    go_wp2_with fail
    have H0 := HH.out
    clear HH
    obtain ⟨⟨x13, x14, st15⟩, hx16, H⟩ := Option.bind_eq_some_iff.1 H0
    clear H0
    try dsimp only at H
    have hx16H := Lib.hid hx16
    clear hx16
    have HH := Lib.hid H
    clear H
    refine (St.callX 0 HS12.out rfl (gOText_spec w.heap.size st9 _ hx16H.out) (Src.triv _)).mono ?_
    rintro e w17 ⟨v, A', N, rfl, ⟨rfl, rfl, rfl⟩, H1⟩
    clear hx16H HS12
    try simp only [List.cons_append, List.nil_append, List.set_cons_zero, List.set_cons_succ] at H1
    have HS18 := Lib.hid H1
    clear H1
    go_wp2_with fail
    go_ret2
    have H := Option.some.inj HH.out
    clear HH
    subst H
    exact ⟨_, _, _, rfl, ⟨rfl, rfl, rfl⟩, (HS18.out.front 1 rfl).keep 1⟩
def f_control_Record (a0 : Int) (a1 : Int) : Option (Rec × Int) := (f_control_Key a0).bind fun (x1, x2) => if x2 = 0 then ((f_control_Value a1).bind fun (x22, x23) => if x23 = 0 then ((gOf x1).bind fun x42 => (gOf x22).bind fun x60 => some ((⟨0, 0, x42, x60, []⟩ : Rec), 0)) else (some ((⟨0, 0, (⟨false, []⟩ : Bl), (⟨false, []⟩ : Bl), []⟩ : Rec), x23))) else (some ((⟨0, 0, (⟨false, []⟩ : Bl), (⟨false, []⟩ : Bl), []⟩ : Rec), x2))
set_option maxRecDepth 100000 in
set_option maxHeartbeats 1000000 in
theorem f_control_Record_spec (a0 : Int) (a1 : Int) (r : Rec × Int) (h : f_control_Record a0 a1 = some r) : SpecX Try.prog 47 #[.int .i64 a0, .int .i64 a1] .triv (EmpR) (fun v A' N => ∃ (A85 : Option Addr) (c86 : Nat), v = .tuple #[.agg #[.int .i64 r.1.fTime, .int .i64 r.1.fOffset, .bool r.1.fKey.null, .string (bsOf r.1.fKey.data), .bool r.1.fValue.null, .string (bsOf r.1.fValue.data), .slice A85 r.1.fHeaders.length c86], .int .i64 r.2] ∧ A' = EmpR ∧ N = [RdR (sliceRd 3 Hd_rd) [.slice A85 r.1.fHeaders.length c86] r.1.fHeaders]) := by
  intro F w hA hX
  clear hX
  have HS0 := Lib.hid (St.start F w (Sep.one hA))
  clear hA
  unfold f_control_Record at h
  have HH := Lib.hid h
  clear h
  go_enter Try.func47, Try.ntmps47
  go_wp2_with fail
  have H0 := HH.out
  clear HH
  obtain ⟨⟨x1, x2⟩, hx3, H⟩ := Option.bind_eq_some_iff.1 H0
  clear H0
  try dsimp only at H
  have hx3H := Lib.hid hx3
  clear hx3
  have HH := Lib.hid H
  clear H
  have HS40 := (HS0.out).alloc #[.int .i64 0, .int .i64 0, .bool false, .string ⟨#[]⟩, .bool false, .string ⟨#[]⟩, .slice none 0 0] 65
  try simp only [World.size_alloc, World.size_setCell] at HS40
  have HS4 := Lib.hid HS40
  clear HS40
  refine (St.callE HS4.out (f_control_Key_spec a0 _ hx3H.out) (RX.reads_triv _ _)).mono ?_
  rintro e w5 ⟨v, A', N, rfl, ⟨rfl, rfl, rfl⟩, H1⟩
  clear hx3H HS4
  try simp only [List.cons_append, List.nil_append, List.set_cons_zero, List.set_cons_succ] at H1
  have d6 : w5.cell? ⟨w.heap.size, 0, none⟩ = some (.int .i64 0) := heap_at (St.blk 0 H1 rfl) 0
  have d7 : w5.cell? ⟨w.heap.size, 1, none⟩ = some (.int .i64 0) := heap_at (St.blk 0 H1 rfl) 1
  have d8 : w5.cell? ⟨w.heap.size, 2, none⟩ = some (.bool false) := heap_at (St.blk 0 H1 rfl) 2
  have d9 : w5.cell? ⟨w.heap.size, 3, none⟩ = some (.string ⟨#[]⟩) := heap_at (St.blk 0 H1 rfl) 3
  have d10 : w5.cell? ⟨w.heap.size, 4, none⟩ = some (.bool false) := heap_at (St.blk 0 H1 rfl) 4
  have d11 : w5.cell? ⟨w.heap.size, 5, none⟩ = some (.string ⟨#[]⟩) := heap_at (St.blk 0 H1 rfl) 5
  have d12 : w5.cell? ⟨w.heap.size, 6, none⟩ = some (.slice none 0 0) := heap_at (St.blk 0 H1 rfl) 6
  have z13 : w5.frozen? ⟨w.heap.size, 0, none⟩ = false := heap_free (St.blk 0 H1 rfl) 0
  have z14 : w5.frozen? ⟨w.heap.size, 1, none⟩ = false := heap_free (St.blk 0 H1 rfl) 1
  have z15 : w5.frozen? ⟨w.heap.size, 2, none⟩ = false := heap_free (St.blk 0 H1 rfl) 2
  have z16 : w5.frozen? ⟨w.heap.size, 3, none⟩ = false := heap_free (St.blk 0 H1 rfl) 3
  have z17 : w5.frozen? ⟨w.heap.size, 4, none⟩ = false := heap_free (St.blk 0 H1 rfl) 4
  have z18 : w5.frozen? ⟨w.heap.size, 5, none⟩ = false := heap_free (St.blk 0 H1 rfl) 5
  have z19 : w5.frozen? ⟨w.heap.size, 6, none⟩ = false := heap_free (St.blk 0 H1 rfl) 6
  have HS20 := Lib.hid H1
  clear H1
  by_cases c21 : x2 = 0
  · have H := HH.out
    clear HH
    rw [if_pos c21] at H
    have HH := Lib.hid H
    clear H
    subst c21
    go_wp2_with fail
    have H0 := HH.out
    clear HH
    obtain ⟨⟨x22, x23⟩, hx24, H⟩ := Option.bind_eq_some_iff.1 H0
    clear H0
    try dsimp only at H
    have hx24H := Lib.hid hx24
    clear hx24
    have HH := Lib.hid H
    clear H
    refine (St.callE HS20.out (f_control_Value_spec a1 _ hx24H.out) (RX.reads_triv _ _)).mono ?_
    rintro e w25 ⟨v, A', N, rfl, ⟨rfl, rfl, rfl⟩, H1⟩
    clear hx24H HS20
    try simp only [List.cons_append, List.nil_append, List.set_cons_zero, List.set_cons_succ] at H1
    clear d6 d7 d8 d9 d10 d11 d12 z13 z14 z15 z16 z17 z18 z19
    have d26 : w25.cell? ⟨w.heap.size, 0, none⟩ = some (.int .i64 0) := heap_at (St.blk 0 H1 rfl) 0
    have d27 : w25.cell? ⟨w.heap.size, 1, none⟩ = some (.int .i64 0) := heap_at (St.blk 0 H1 rfl) 1
    have d28 : w25.cell? ⟨w.heap.size, 2, none⟩ = some (.bool false) := heap_at (St.blk 0 H1 rfl) 2
    have d29 : w25.cell? ⟨w.heap.size, 3, none⟩ = some (.string ⟨#[]⟩) := heap_at (St.blk 0 H1 rfl) 3
    have d30 : w25.cell? ⟨w.heap.size, 4, none⟩ = some (.bool false) := heap_at (St.blk 0 H1 rfl) 4
    have d31 : w25.cell? ⟨w.heap.size, 5, none⟩ = some (.string ⟨#[]⟩) := heap_at (St.blk 0 H1 rfl) 5
    have d32 : w25.cell? ⟨w.heap.size, 6, none⟩ = some (.slice none 0 0) := heap_at (St.blk 0 H1 rfl) 6
    have z33 : w25.frozen? ⟨w.heap.size, 0, none⟩ = false := heap_free (St.blk 0 H1 rfl) 0
    have z34 : w25.frozen? ⟨w.heap.size, 1, none⟩ = false := heap_free (St.blk 0 H1 rfl) 1
    have z35 : w25.frozen? ⟨w.heap.size, 2, none⟩ = false := heap_free (St.blk 0 H1 rfl) 2
    have z36 : w25.frozen? ⟨w.heap.size, 3, none⟩ = false := heap_free (St.blk 0 H1 rfl) 3
    have z37 : w25.frozen? ⟨w.heap.size, 4, none⟩ = false := heap_free (St.blk 0 H1 rfl) 4
    have z38 : w25.frozen? ⟨w.heap.size, 5, none⟩ = false := heap_free (St.blk 0 H1 rfl) 5
    have z39 : w25.frozen? ⟨w.heap.size, 6, none⟩ = false := heap_free (St.blk 0 H1 rfl) 6
    have HS40 := Lib.hid H1
    clear H1
    by_cases c41 : x23 = 0
    · have H := HH.out
      clear HH
      rw [if_pos c41] at H
      have HH := Lib.hid H
      clear H
      subst c41
      go_wp2_with fail
      have H0 := HH.out
      clear HH
      obtain ⟨x42, hx43, H⟩ := Option.bind_eq_some_iff.1 H0
      clear H0
      try dsimp only at H
      have hx43H := Lib.hid hx43
      clear hx43
      have HH := Lib.hid H
      clear H
      refine (St.callE HS40.out (gOf_spec x1 _ hx43H.out) (RX.reads_triv _ _)).mono ?_
      rintro e w44 ⟨v, A', N, rfl, ⟨rfl, rfl, rfl⟩, H1⟩
      clear hx43H HS40
      try simp only [List.cons_append, List.nil_append, List.set_cons_zero, List.set_cons_succ] at H1
      clear d26 d27 d28 d29 d30 d31 d32 z33 z34 z35 z36 z37 z38 z39
      have d45 : w44.cell? ⟨w.heap.size, 0, none⟩ = some (.int .i64 0) := heap_at (St.blk 0 H1 rfl) 0
      have d46 : w44.cell? ⟨w.heap.size, 1, none⟩ = some (.int .i64 0) := heap_at (St.blk 0 H1 rfl) 1
      have d47 : w44.cell? ⟨w.heap.size, 2, none⟩ = some (.bool false) := heap_at (St.blk 0 H1 rfl) 2
      have d48 : w44.cell? ⟨w.heap.size, 3, none⟩ = some (.string ⟨#[]⟩) := heap_at (St.blk 0 H1 rfl) 3
      have d49 : w44.cell? ⟨w.heap.size, 4, none⟩ = some (.bool false) := heap_at (St.blk 0 H1 rfl) 4
      have d50 : w44.cell? ⟨w.heap.size, 5, none⟩ = some (.string ⟨#[]⟩) := heap_at (St.blk 0 H1 rfl) 5
      have d51 : w44.cell? ⟨w.heap.size, 6, none⟩ = some (.slice none 0 0) := heap_at (St.blk 0 H1 rfl) 6
      have z52 : w44.frozen? ⟨w.heap.size, 0, none⟩ = false := heap_free (St.blk 0 H1 rfl) 0
      have z53 : w44.frozen? ⟨w.heap.size, 1, none⟩ = false := heap_free (St.blk 0 H1 rfl) 1
      have z54 : w44.frozen? ⟨w.heap.size, 2, none⟩ = false := heap_free (St.blk 0 H1 rfl) 2
      have z55 : w44.frozen? ⟨w.heap.size, 3, none⟩ = false := heap_free (St.blk 0 H1 rfl) 3
      have z56 : w44.frozen? ⟨w.heap.size, 4, none⟩ = false := heap_free (St.blk 0 H1 rfl) 4
      have z57 : w44.frozen? ⟨w.heap.size, 5, none⟩ = false := heap_free (St.blk 0 H1 rfl) 5
      have z58 : w44.frozen? ⟨w.heap.size, 6, none⟩ = false := heap_free (St.blk 0 H1 rfl) 6
      have HS59 := Lib.hid H1
      clear H1
      go_wp2_with fail
      have H0 := HH.out
      clear HH
      obtain ⟨x60, hx61, H⟩ := Option.bind_eq_some_iff.1 H0
      clear H0
      try dsimp only at H
      have hx61H := Lib.hid hx61
      clear hx61
      have HH := Lib.hid H
      clear H
      refine (St.callE HS59.out (gOf_spec x22 _ hx61H.out) (RX.reads_triv _ _)).mono ?_
      rintro e w62 ⟨v, A', N, rfl, ⟨rfl, rfl, rfl⟩, H1⟩
      clear hx61H HS59
      try simp only [List.cons_append, List.nil_append, List.set_cons_zero, List.set_cons_succ] at H1
      clear d45 d46 d47 d48 d49 d50 d51 z52 z53 z54 z55 z56 z57 z58
      have d63 : w62.cell? ⟨w.heap.size, 0, none⟩ = some (.int .i64 0) := heap_at (St.blk 0 H1 rfl) 0
      have d64 : w62.cell? ⟨w.heap.size, 1, none⟩ = some (.int .i64 0) := heap_at (St.blk 0 H1 rfl) 1
      have d65 : w62.cell? ⟨w.heap.size, 2, none⟩ = some (.bool false) := heap_at (St.blk 0 H1 rfl) 2
      have d66 : w62.cell? ⟨w.heap.size, 3, none⟩ = some (.string ⟨#[]⟩) := heap_at (St.blk 0 H1 rfl) 3
      have d67 : w62.cell? ⟨w.heap.size, 4, none⟩ = some (.bool false) := heap_at (St.blk 0 H1 rfl) 4
      have d68 : w62.cell? ⟨w.heap.size, 5, none⟩ = some (.string ⟨#[]⟩) := heap_at (St.blk 0 H1 rfl) 5
      have d69 : w62.cell? ⟨w.heap.size, 6, none⟩ = some (.slice none 0 0) := heap_at (St.blk 0 H1 rfl) 6
      have z70 : w62.frozen? ⟨w.heap.size, 0, none⟩ = false := heap_free (St.blk 0 H1 rfl) 0
      have z71 : w62.frozen? ⟨w.heap.size, 1, none⟩ = false := heap_free (St.blk 0 H1 rfl) 1
      have z72 : w62.frozen? ⟨w.heap.size, 2, none⟩ = false := heap_free (St.blk 0 H1 rfl) 2
      have z73 : w62.frozen? ⟨w.heap.size, 3, none⟩ = false := heap_free (St.blk 0 H1 rfl) 3
      have z74 : w62.frozen? ⟨w.heap.size, 4, none⟩ = false := heap_free (St.blk 0 H1 rfl) 4
      have z75 : w62.frozen? ⟨w.heap.size, 5, none⟩ = false := heap_free (St.blk 0 H1 rfl) 5
      have z76 : w62.frozen? ⟨w.heap.size, 6, none⟩ = false := heap_free (St.blk 0 H1 rfl) 6
      have HS77 := Lib.hid H1
      clear H1
      go_wp2_with fail
      have HS780 := (((((((HS77.out).set 0 rfl 0 (.int .i64 0)).set 0 rfl 1 (.int .i64 0)).set 0 rfl 2 (.bool x42.null)).set 0 rfl 3 (.string (bsOf x42.data))).set 0 rfl 4 (.bool x60.null)).set 0 rfl 5 (.string (bsOf x60.data))).set 0 rfl 6 (.slice none 0 0)
      try simp only [World.size_alloc, World.size_setCell] at HS780
      have HS78 := Lib.hid HS780
      clear HS780
      refine bodyPost_ret (v := .tuple #[.agg #[.int .i64 0, .int .i64 0, .bool x42.null, .string (bsOf x42.data), .bool x60.null, .string (bsOf x60.data), .slice none 0 0], .int .i64 0]) (results2 (by rfl) (resc w.heap.size 65 #[.int .i64 0, .int .i64 0, .bool x42.null, .string (bsOf x42.data), .bool x60.null, .string (bsOf x60.data), .slice none 0 0] (0, 0) _ rfl (St.blk 0 HS78.out rfl) Try.underlying65 rfl infoG_cursitor_api_Record) (rest_ _ _ rfl)) rfl ?_
      have H := Option.some.inj HH.out
      clear HH
      subst H
      exact ⟨_, _, _, rfl, ⟨_, _, rfl, rfl, rfl⟩, (((RdR.nil 3 Hd_rd HS78.out).front 0 rfl).front 2 rfl).keep 2⟩
    · have H := HH.out
      clear HH
      rw [if_neg c41] at H
      have HH := Lib.hid H
      clear H
      have b79 : (x23 == 0) = false := beq_eq_false_iff_ne.2 c41
      have b80 : (x23 != 0) = true := bne_iff_ne.2 c41
      clear c41
      go_wp2_with fail
      have HS810 := (((((((HS40.out).set 0 rfl 0 (.int .i64 0)).set 0 rfl 1 (.int .i64 0)).set 0 rfl 2 (.bool false)).set 0 rfl 3 (.string ⟨#[]⟩)).set 0 rfl 4 (.bool false)).set 0 rfl 5 (.string ⟨#[]⟩)).set 0 rfl 6 (.slice none 0 0)
      try simp only [World.size_alloc, World.size_setCell] at HS810
      have HS81 := Lib.hid HS810
      clear HS810
      refine bodyPost_ret (v := .tuple #[.agg #[.int .i64 0, .int .i64 0, .bool false, .string ⟨#[]⟩, .bool false, .string ⟨#[]⟩, .slice none 0 0], .int .i64 x23]) (results2 (by rfl) (resc w.heap.size 65 #[.int .i64 0, .int .i64 0, .bool false, .string ⟨#[]⟩, .bool false, .string ⟨#[]⟩, .slice none 0 0] (0, 0) _ rfl (St.blk 0 HS81.out rfl) Try.underlying65 rfl infoG_cursitor_api_Record) (rest_ _ _ rfl)) rfl ?_
      have H := Option.some.inj HH.out
      clear HH
      subst H
      exact ⟨_, _, _, rfl, ⟨_, _, rfl, rfl, rfl⟩, (((RdR.nil 3 Hd_rd HS81.out).front 0 rfl).front 2 rfl).keep 2⟩
  · have H := HH.out
    clear HH
    rw [if_neg c21] at H
    have HH := Lib.hid H
    clear H
    have b82 : (x2 == 0) = false := beq_eq_false_iff_ne.2 c21
    have b83 : (x2 != 0) = true := bne_iff_ne.2 c21
    clear c21
    go_wp2_with fail
    have HS840 := (((((((HS20.out).set 0 rfl 0 (.int .i64 0)).set 0 rfl 1 (.int .i64 0)).set 0 rfl 2 (.bool false)).set 0 rfl 3 (.string ⟨#[]⟩)).set 0 rfl 4 (.bool false)).set 0 rfl 5 (.string ⟨#[]⟩)).set 0 rfl 6 (.slice none 0 0)
    try simp only [World.size_alloc, World.size_setCell] at HS840
    have HS84 := Lib.hid HS840
    clear HS840
    refine bodyPost_ret (v := .tuple #[.agg #[.int .i64 0, .int .i64 0, .bool false, .string ⟨#[]⟩, .bool false, .string ⟨#[]⟩, .slice none 0 0], .int .i64 x2]) (results2 (by rfl) (resc w.heap.size 65 #[.int .i64 0, .int .i64 0, .bool false, .string ⟨#[]⟩, .bool false, .string ⟨#[]⟩, .slice none 0 0] (0, 0) _ rfl (St.blk 0 HS84.out rfl) Try.underlying65 rfl infoG_cursitor_api_Record) (rest_ _ _ rfl)) rfl ?_
    have H := Option.some.inj HH.out
    clear HH
    subst H
    exact ⟨_, _, _, rfl, ⟨_, _, rfl, rfl, rfl⟩, (((RdR.nil 3 Hd_rd HS84.out).front 0 rfl).front 2 rfl).keep 2⟩
end Go.Proofs.Ytchfkhdifmpbkaa.Sl
