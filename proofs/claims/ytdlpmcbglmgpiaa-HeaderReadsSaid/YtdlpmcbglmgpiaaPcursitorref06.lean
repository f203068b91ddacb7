/- Printed by g.py: package cursitorref06. -/
import Derived.Test.YtdlpmcbglmgpiaaGb
import Derived.Test.YtdlpmcbglmgpiaaT
import Derived.Deep.LoopGhost
import Derived.WalkLawsBesides
import Derived.IntWalk
import Derived.Deep.RegionHeld3
namespace Go.Proofs.Ytdlpmcbglmgpiaa.Sl
open Go.RowKit
set_option linter.unusedVariables false
set_option linter.unusedSimpArgs false
attribute [local go_sem] bsOf_toList bsOf_size bsOf_app
theorem infoE_cursitor_api_Header : (Try.prog.info? 58).map (fun i => (i.zero, i.size, i.bytes)) = some (some (.agg #[.string ⟨#[]⟩, .bool false, .string ⟨#[]⟩]), 3, 40) := by kernel_rfl
def f_r06_Right_l1 (a0 : List Hd) : Nat → Nat → Option (Lp Bool Nat)
  | 0, _ => none
  | g7 + 1, k4 => if (k4 : Int) < (a0.length : Int) then ((a0[k4]?).bind fun x15 => if x15.fValue.null = true then (if x15.fValue.data = [] then (if -9223372036854775808 ≤ ((k4 : Int) + 1) ∧ ((k4 : Int) + 1) ≤ 9223372036854775807 then (f_r06_Right_l1 a0 g7 (k4 + 1)) else none) else some (Lp.ret false)) else (if -9223372036854775808 ≤ ((k4 : Int) + 1) ∧ ((k4 : Int) + 1) ≤ 9223372036854775807 then (f_r06_Right_l1 a0 g7 (k4 + 1)) else none)) else some (Lp.go k4)
def f_r06_Right (a0 : List Hd) : Option (Bool) := (f_r06_Right_l1 a0 (((a0.length : Int)).toNat + 1) 0).bind fun e => match e with | .ret r => some r | .go k36 => some true
set_option maxRecDepth 100000 in
set_option maxHeartbeats 1000000 in
theorem f_r06_Right_spec (a0 : List Hd) (A1 : Option Addr) (c2 : Nat) (r : Bool) (h : f_r06_Right a0 = some r) : SpecX Try.prog 30 #[.slice A1 a0.length c2] (RX.of (sliceRd 3 Hd_rd) [.slice A1 a0.length c2] a0) (EmpR) (fun v A' N => v = .bool r ∧ A' = EmpR ∧ N = []) := by
  intro F w hA hX
  have HX1 := Lib.hid hX
  clear hX
  have HS0 := Lib.hid (St.start F w (Sep.one hA))
  clear hA
  unfold f_r06_Right at h
  have HH := Lib.hid h
  clear h
  go_enter Try.func30, Try.ntmps30
  go_wp2_with fail
  have H0 := HH.out
  clear HH
  obtain ⟨E5, hE, H⟩ := Option.bind_eq_some_iff.1 H0
  clear H0
  have HHo6 := Lib.hid H
  have HE := Lib.hid hE
  clear H hE
  go_loopg [3] (((a0.length : Int)).toNat + 1) (fun g7 s3 w3 => ∃ (k4 : Nat), s3 = .int .i64 (k4 : Int) ∧ Hid (St F w [EmpR] w3) ∧ Hid (f_r06_Right_l1 a0 g7 k4 = some E5))
  case atStart => exact ⟨0, rfl, HS0, HE⟩
  case round =>
    obtain ⟨k4, rfl, HSr9, HL10⟩ := hrel
    obtain ⟨w3, rfl⟩ : ∃ w3 : World, w3 = wr := ⟨_, rfl⟩
    clear HE
    cases gk with
    | zero =>
      have H := HL10.out
      rw [f_r06_Right_l1] at H
      cases H
    | succ g7 =>
      have H := HL10.out
      clear HL10
      rw [f_r06_Right_l1] at H
      have HH := Lib.hid H
      clear H
      have H1 := HSr9.out
      clear HSr9
      have HS12 := Lib.hid H1
      clear H1
      by_cases c13 : (k4 : Int) < (a0.length : Int)
      · have H := HH.out
        clear HH
        rw [if_pos c13] at H
        have HH := Lib.hid H
        clear H
        have b14 : decide ((k4 : Int) < (a0.length : Int)) = true := decide_eq_true c13
        have H0 := HH.out
        clear HH
        obtain ⟨x15, hx16, H⟩ := Option.bind_eq_some_iff.1 H0
        clear H0
        try dsimp only at H
        have hx16L := (List.getElem?_eq_some_iff.1 hx16).1
        have hx16H := Lib.hid hx16
        clear hx16
        have HH := Lib.hid H
        clear H
        obtain ⟨gz17, oz17, rfl, z17cs, z17l, z17c, z17nf, z17r⟩ := RX.elem (by decide) HX1.out hx16H.out
        obtain ⟨z17S, z17r, z17r2⟩ := z17r
        obtain rfl : z17cs = [.string (bsOf x15.fKey), .bool x15.fValue.null, .string (bsOf x15.fValue.data)] := z17r
        have z17B0 := Lib.hid (show w.cell? ⟨gz17, oz17 + k4 * 3, none⟩ = some (.string (bsOf x15.fKey)) from z17c 0 (by decide))
        have z17B1 := Lib.hid (show w.cell? ⟨gz17, oz17 + k4 * 3 + 1, none⟩ = some (.bool x15.fValue.null) from z17c 1 (by decide))
        have z17B2 := Lib.hid (show w.cell? ⟨gz17, oz17 + k4 * 3 + 2, none⟩ = some (.string (bsOf x15.fValue.data)) from z17c 2 (by decide))
        clear z17c
        have d18 : w3.cell? ⟨gz17, oz17 + k4 * 3, none⟩ = some (.string (bsOf x15.fKey)) := St.old2 HS12.out z17nf z17B0.out
        have d19 : w3.cell? ⟨gz17, oz17 + k4 * 3 + 1, none⟩ = some (.bool x15.fValue.null) := St.old2 HS12.out z17nf z17B1.out
        have d20 : w3.cell? ⟨gz17, oz17 + k4 * 3 + 2, none⟩ = some (.string (bsOf x15.fValue.data)) := St.old2 HS12.out z17nf z17B2.out
        have lt21 : gz17 < w3.heap.size := Nat.lt_of_lt_of_le z17nf.2 HS12.out.fr.size
        by_cases c22 : x15.fValue.null = true
        · have H := HH.out
          clear HH
          rw [if_pos c22] at H
          have HH := Lib.hid H
          clear H
          have H1 := HS12.out
          try simp only [c22] at H1
          have HS23 := Lib.hid H1
          clear H1
          have H1 := HX1.out
          clear HX1
          try simp only [c22] at H1
          have HX1 := Lib.hid H1
          clear H1
          by_cases c24 : x15.fValue.data = []
          · have H := HH.out
            clear HH
            rw [if_pos c24] at H
            have HH := Lib.hid H
            clear H
            have H1 := HS23.out
            try simp only [c24] at H1
            have HS25 := Lib.hid H1
            clear H1
            have H1 := HX1.out
            clear HX1
            try simp only [c24] at H1
            have HX1 := Lib.hid H1
            clear H1
            have H0 := HH.out
            clear HH
            obtain ⟨⟨c26_0, c26_1⟩, H⟩ := guard_some H0
            clear H0
            have HH := Lib.hid H
            clear H
            go_wp2_with fail
            go_roundg g7
            case measure => omega
            case rel => exact ⟨k4 + 1, by go_num, Lib.hid ((HS25.out.front 0 rfl).keep 1), HH⟩
          · have H := HH.out
            clear HH
            rw [if_neg c24] at H
            have HH := Lib.hid H
            clear H
            have b27 : 0 < x15.fValue.data.length := List.length_pos_iff.2 c24
            have b28 : x15.fValue.data.isEmpty = false := by simpa using c24
            have b29 : (x15.fValue.data == []) = false := beq_eq_false_iff_ne.2 c24
            have b30 : (x15.fValue.data != []) = true := bne_iff_ne.2 c24
            go_wp2_with fail
            go_ret
            have H := HH.out
            clear HH
            have H := Option.some.inj H
            subst H
            have H := HHo6.out
            clear HHo6
            dsimp only at H
            have HH := Lib.hid H
            clear H
            have H := Option.some.inj HH.out
            clear HH
            subst H
            exact ⟨_, _, _, rfl, ⟨rfl, rfl, rfl⟩, (HS23.out.front 0 rfl).keep 1⟩
        · have H := HH.out
          clear HH
          rw [if_neg c22] at H
          have HH := Lib.hid H
          clear H
          have b31 : x15.fValue.null = false := by simpa using c22
          clear c22
          have H1 := HS12.out
          try simp only [b31] at H1
          have HS32 := Lib.hid H1
          clear H1
          have H1 := HX1.out
          clear HX1
          try simp only [b31] at H1
          have HX1 := Lib.hid H1
          clear H1
          have H0 := HH.out
          clear HH
          obtain ⟨⟨c33_0, c33_1⟩, H⟩ := guard_some H0
          clear H0
          have HH := Lib.hid H
          clear H
          go_wp2_with fail
          go_roundg g7
          case measure => omega
          case rel => exact ⟨k4 + 1, by go_num, Lib.hid ((HS32.out.front 0 rfl).keep 1), HH⟩
      · have H := HH.out
        clear HH
        rw [if_neg c13] at H
        have HH := Lib.hid H
        clear H
        have b34 : decide ((k4 : Int) < (a0.length : Int)) = false := decide_eq_false c13
        have H := Option.some.inj HH.out
        clear HH
        subst H
        have H := HHo6.out
        clear HHo6
        try dsimp only at H
        have HH := Lib.hid H
        clear H
        go_wp2_with fail
        go_ret
        have H := Option.some.inj HH.out
        clear HH
        subst H
        exact ⟨_, _, _, rfl, ⟨rfl, rfl, rfl⟩, (HS12.out.front 0 rfl).keep 1⟩
def f_r06_Int (a0 : Int) : Option (List UInt8) := (gRFold a0).bind fun x1 => (gRPut x1).bind fun x3 => some x3
set_option maxRecDepth 100000 in
set_option maxHeartbeats 1000000 in
theorem f_r06_Int_spec (a0 : Int) (r : List UInt8) (h : f_r06_Int a0 = some r) : SpecX Try.prog 90 #[.int .i64 a0] .triv (EmpR) (fun v A' N => v = .string (bsOf r) ∧ A' = EmpR ∧ N = []) := by
  intro F w hA hX
  clear hX
  have HS0 := Lib.hid (St.start F w (Sep.one hA))
  clear hA
  unfold f_r06_Int at h
  have HH := Lib.hid h
  clear h
  go_enter Try.func90, Try.ntmps90
  go_wp2_with fail
  have H0 := HH.out
  clear HH
  obtain ⟨x1, hx2, H⟩ := Option.bind_eq_some_iff.1 H0
  clear H0
  try dsimp only at H
  have hx2H := Lib.hid hx2
  clear hx2
  have HH := Lib.hid H
  clear H
  refine (gRFold_spec a0 _ hx2H.out _).mono ?_
  rintro e w1 ⟨rfl, rfl⟩
  clear hx2H
  go_wp2_with fail
  have H0 := HH.out
  clear HH
  obtain ⟨x3, hx4, H⟩ := Option.bind_eq_some_iff.1 H0
  clear H0
  try dsimp only at H
  have hx4H := Lib.hid hx4
  clear hx4
  have HH := Lib.hid H
  clear H
  refine (St.callE HS0.out (gRPut_spec x1 _ hx4H.out) (RX.reads_triv _ _)).mono ?_
  rintro e w5 ⟨v, A', N, rfl, ⟨rfl, rfl, rfl⟩, H1⟩
  clear hx4H HS0
  try simp only [List.cons_append, List.nil_append, List.set_cons_zero, List.set_cons_succ] at H1
  have HS6 := Lib.hid H1
  clear H1
  go_wp2_with fail
  go_ret
  have H := Option.some.inj HH.out
  clear HH
  subst H
  exact ⟨_, _, _, rfl, ⟨rfl, rfl, rfl⟩, (HS6.out.front 0 rfl).keep 1⟩
def f_r06_Write_l1 (a0 : List Hd) : Nat → List UInt8 → Nat → Option (List UInt8 × Nat)
  | 0, _, _ => none
  | g12 + 1, y8, k9 => if (k9 : Int) < (a0.length : Int) then ((a0[k9]?).bind fun x20 => (gRBVaried (⟨false, x20.fKey⟩ : Bl)).bind fun x23 => if y8.length + x23.length ≤ 9223372036854775807 then ((gRBVaried x20.fValue).bind fun x30 => if (y8 ++ x23).length + x30.length ≤ 9223372036854775807 then (if -9223372036854775808 ≤ ((k9 : Int) + 1) ∧ ((k9 : Int) + 1) ≤ 9223372036854775807 then (f_r06_Write_l1 a0 g12 (y8 ++ (x23 ++ x30)) (k9 + 1)) else none) else none) else none) else some (y8, k9)
def f_r06_Write (a0 : List Hd) : Option (List UInt8) := (f_r06_Int (a0.length : Int)).bind fun x3 => (f_r06_Write_l1 a0 (((a0.length : Int)).toNat + 1) x3 0).bind fun (y41, k42) => some y41
set_option maxRecDepth 100000 in
set_option maxHeartbeats 1000000 in
theorem f_r06_Write_spec (a0 : List Hd) (A1 : Option Addr) (c2 : Nat) (r : List UInt8) (h : f_r06_Write a0 = some r) : SpecX Try.prog 31 #[.slice A1 a0.length c2] (RX.of (sliceRd 3 Hd_rd) [.slice A1 a0.length c2] a0) (EmpR) (fun v A' N => v = .string (bsOf r) ∧ A' = EmpR ∧ N = []) := by
  intro F w hA hX
  have HX1 := Lib.hid hX
  clear hX
  have HS0 := Lib.hid (St.start F w (Sep.one hA))
  clear hA
  unfold f_r06_Write at h
  have HH := Lib.hid h
  clear h
  go_enter Try.func31, Try.ntmps31
  go_wp2_with fail
  have H0 := HH.out
  clear HH
  obtain ⟨x3, hx4, H⟩ := Option.bind_eq_some_iff.1 H0
  clear H0
  try dsimp only at H
  have hx4H := Lib.hid hx4
  clear hx4
  have HH := Lib.hid H
  clear H
  refine (St.callE HS0.out (f_r06_Int_spec (a0.length : Int) _ hx4H.out) (RX.reads_triv _ _)).mono ?_
  rintro e w5 ⟨v, A', N, rfl, ⟨rfl, rfl, rfl⟩, H1⟩
  clear hx4H HS0
  try simp only [List.cons_append, List.nil_append, List.set_cons_zero, List.set_cons_succ] at H1
  have HS6 := Lib.hid H1
  clear H1
  go_wp2_with fail
  have H0 := HH.out
  clear HH
  obtain ⟨E10, hE, H⟩ := Option.bind_eq_some_iff.1 H0
  clear H0
  have HHo11 := Lib.hid H
  have HE := Lib.hid hE
  clear H hE
  go_loopg [3, 4] (((a0.length : Int)).toNat + 1) (fun g12 s3 s4 w7 => ∃ (y8 : List UInt8) (k9 : Nat), s3 = .string (bsOf y8) ∧ s4 = .int .i64 (k9 : Int) ∧ Hid (St F w [EmpR] w7) ∧ Hid (f_r06_Write_l1 a0 g12 y8 k9 = some E10))
  case atStart => exact ⟨x3, 0, rfl, rfl, HS6, HE⟩
  case round =>
    obtain ⟨y8, k9, rfl, rfl, HSr14, HL15⟩ := hrel
    obtain ⟨w7, rfl⟩ : ∃ w7 : World, w7 = wr := ⟨_, rfl⟩
    clear HE
    cases gk with
    | zero =>
      have H := HL15.out
      rw [f_r06_Write_l1] at H
      cases H
    | succ g12 =>
      have H := HL15.out
      clear HL15
      rw [f_r06_Write_l1] at H
      have HH := Lib.hid H
      clear H
      have H1 := HSr14.out
      clear HSr14
      have HS17 := Lib.hid H1
      clear H1
      by_cases c18 : (k9 : Int) < (a0.length : Int)
      · have H := HH.out
        clear HH
        rw [if_pos c18] at H
        have HH := Lib.hid H
        clear H
        have b19 : decide ((k9 : Int) < (a0.length : Int)) = true := decide_eq_true c18
        go_wp2_with fail
        have H0 := HH.out
        clear HH
        obtain ⟨x20, hx21, H⟩ := Option.bind_eq_some_iff.1 H0
        clear H0
        try dsimp only at H
        have hx21L := (List.getElem?_eq_some_iff.1 hx21).1
        have hx21H := Lib.hid hx21
        clear hx21
        have HH := Lib.hid H
        clear H
        obtain ⟨gz22, oz22, rfl, z22cs, z22l, z22c, z22nf, z22r⟩ := RX.elem (by decide) HX1.out hx21H.out
        obtain ⟨z22S, z22r, z22r2⟩ := z22r
        obtain rfl : z22cs = [.string (bsOf x20.fKey), .bool x20.fValue.null, .string (bsOf x20.fValue.data)] := z22r
        have z22B0 := Lib.hid (show w.cell? ⟨gz22, oz22 + k9 * 3, none⟩ = some (.string (bsOf x20.fKey)) from z22c 0 (by decide))
        have z22B1 := Lib.hid (show w.cell? ⟨gz22, oz22 + k9 * 3 + 1, none⟩ = some (.bool x20.fValue.null) from z22c 1 (by decide))
        have z22B2 := Lib.hid (show w.cell? ⟨gz22, oz22 + k9 * 3 + 2, none⟩ = some (.string (bsOf x20.fValue.data)) from z22c 2 (by decide))
        clear z22c
        have H0 := HH.out
        clear HH
        obtain ⟨x23, hx24, H⟩ := Option.bind_eq_some_iff.1 H0
        clear H0
        try dsimp only at H
        have hx24H := Lib.hid hx24
        clear hx24
        have HH := Lib.hid H
        clear H
        have H0 := HH.out
        clear HH
        obtain ⟨c28_0, H⟩ := guard_some H0
        clear H0
        have HH := Lib.hid H
        clear H
        have q38 : ¬ (9223372036854775807 < y8.length + x23.length) := by have HQ := c28_0; (try simp only [List.length_append] at HQ); omega
        have H0 := HH.out
        clear HH
        obtain ⟨x30, hx31, H⟩ := Option.bind_eq_some_iff.1 H0
        clear H0
        try dsimp only at H
        have hx31H := Lib.hid hx31
        clear hx31
        have HH := Lib.hid H
        clear H
        have H0 := HH.out
        clear HH
        obtain ⟨c34_0, H⟩ := guard_some H0
        clear H0
        have HH := Lib.hid H
        clear H
        have q37 : ¬ (9223372036854775807 < (y8.length + x23.length) + x30.length) := by have HQ := c34_0; (try simp only [List.length_append] at HQ); omega
        have dS0 := St.old2 HS17.out z22nf z22B0.out
        have dS1 := St.old2 HS17.out z22nf z22B1.out
        have dS2 := St.old2 HS17.out z22nf z22B2.out
        go_region_held3 (fun w' => w'.cell? ⟨gz22, oz22 + k9 * 3, none⟩ = some (.string (bsOf x20.fKey)) ∧ w'.cell? ⟨gz22, oz22 + k9 * 3 + 1, none⟩ = some (.bool x20.fValue.null) ∧ w'.cell? ⟨gz22, oz22 + k9 * 3 + 2, none⟩ = some (.string (bsOf x20.fValue.data))) (first | exact ⟨dS0, dS1, dS2⟩ | go_keep) (first | (go_at_call 91; have HS26 := Lib.hid HS17.out.drew; clear HS17; refine (St.callE HS26.out (gRBVaried_spec (⟨false, x20.fKey⟩ : Bl) _ hx24H.out) (RX.reads_triv _ _)).mono ?_; rintro e w25 ⟨v, A', N, rfl, ⟨rfl, rfl, rfl⟩, H1⟩; clear hx24H HS26; (try simp only [List.cons_append, List.nil_append, List.set_cons_zero, List.set_cons_succ] at H1); clear dS0 dS1 dS2; have dS0 := St.old2 H1 z22nf z22B0.out; have dS1 := St.old2 H1 z22nf z22B1.out; have dS2 := St.old2 H1 z22nf z22B2.out; have HS27 := Lib.hid H1; clear H1) | (go_at_call 91; refine (St.callE HS27.out (gRBVaried_spec x20.fValue _ hx31H.out) (RX.reads_triv _ _)).mono ?_; rintro e w32 ⟨v, A', N, rfl, ⟨rfl, rfl, rfl⟩, H1⟩; clear hx31H HS27; (try simp only [List.cons_append, List.nil_append, List.set_cons_zero, List.set_cons_succ] at H1); clear dS0 dS1 dS2; have dS0 := St.old2 H1 z22nf z22B0.out; have dS1 := St.old2 H1 z22nf z22B1.out; have dS2 := St.old2 H1 z22nf z22B2.out; have HS33 := Lib.hid H1; clear H1))
        try clear dS0 dS1 dS2
        have H1 := HS33.out
        clear HS33
        have HS35 := Lib.hid H1
        clear H1
        have H0 := HH.out
        clear HH
        obtain ⟨⟨c36_0, c36_1⟩, H⟩ := guard_some H0
        clear H0
        have HH := Lib.hid H
        clear H
        go_wp2_with fail
        go_roundg g12
        case measure => omega
        case rel => exact ⟨(y8 ++ (x23 ++ x30)), k9 + 1, rfl, by go_num, Lib.hid ((HS35.out.front 0 rfl).keep 1), HH⟩
      · have H := HH.out
        clear HH
        rw [if_neg c18] at H
        have HH := Lib.hid H
        clear H
        have b39 : decide ((k9 : Int) < (a0.length : Int)) = false := decide_eq_false c18
        have H := Option.some.inj HH.out
        clear HH
        subst H
        have H := HHo11.out
        clear HHo11
        try dsimp only at H
        have HH := Lib.hid H
        clear H
        go_wp2_with fail
        go_ret
        have H := Option.some.inj HH.out
        clear HH
        subst H
        exact ⟨_, _, _, rfl, ⟨rfl, rfl, rfl⟩, (HS17.out.front 0 rfl).keep 1⟩
def f_r06_Same_l1 (a0 : List Hd) (a1 : List Hd) : Nat → Nat → Option (Lp Bool Nat)
  | 0, _ => none
  | g12 + 1, k9 => if (k9 : Int) < (a0.length : Int) then ((a0[k9]?).bind fun x20 => (a1[k9]?).bind fun x27 => if x20.fKey = x27.fKey then (if x20.fValue.null = x27.fValue.null then (if x20.fValue.data = x27.fValue.data then (if -9223372036854775808 ≤ ((k9 : Int) + 1) ∧ ((k9 : Int) + 1) ≤ 9223372036854775807 then (f_r06_Same_l1 a0 a1 g12 (k9 + 1)) else none) else some (Lp.ret false)) else some (Lp.ret false)) else some (Lp.ret false)) else some (Lp.go k9)
def f_r06_Same (a0 : List Hd) (a1 : List Hd) : Option (Bool) := if (a0.length : Int) = (a1.length : Int) then ((f_r06_Same_l1 a0 a1 (((a0.length : Int)).toNat + 1) 0).bind fun e => match e with | .ret r => some r | .go k52 => some true) else some false
set_option maxRecDepth 100000 in
set_option maxHeartbeats 1000000 in
theorem f_r06_Same_spec (a0 : List Hd) (A1 : Option Addr) (c2 : Nat) (a1 : List Hd) (A3 : Option Addr) (c4 : Nat) (r : Bool) (h : f_r06_Same a0 a1 = some r) : SpecX Try.prog 32 #[.slice A1 a0.length c2, .slice A3 a1.length c4] (RX.and (RX.of (sliceRd 3 Hd_rd) [.slice A1 a0.length c2] a0) (RX.of (sliceRd 3 Hd_rd) [.slice A3 a1.length c4] a1)) (EmpR) (fun v A' N => v = .bool r ∧ A' = EmpR ∧ N = []) := by
  intro F w hA hX
  have HX1 := Lib.hid (RX.reads_left hX)
  have HX2 := Lib.hid (RX.reads_right hX)
  clear hX
  have HS0 := Lib.hid (St.start F w (Sep.one hA))
  clear hA
  unfold f_r06_Same at h
  have HH := Lib.hid h
  clear h
  go_enter Try.func32, Try.ntmps32
  by_cases c5 : (a0.length : Int) = (a1.length : Int)
  · have H := HH.out
    clear HH
    rw [if_pos c5] at H
    have HH := Lib.hid H
    clear H
    have b6 : ((a0.length : Int) == (a1.length : Int)) = true := beq_iff_eq.2 c5
    have b7 : ((a0.length : Int) != (a1.length : Int)) = false := bne_eq_false_iff_eq.2 c5
    clear c5
    go_wp2_with fail
    have H0 := HH.out
    clear HH
    obtain ⟨E10, hE, H⟩ := Option.bind_eq_some_iff.1 H0
    clear H0
    have HHo11 := Lib.hid H
    have HE := Lib.hid hE
    clear H hE
    go_loopg [5] (((a0.length : Int)).toNat + 1) (fun g12 s5 w8 => ∃ (k9 : Nat), s5 = .int .i64 (k9 : Int) ∧ Hid (St F w [EmpR] w8) ∧ Hid (f_r06_Same_l1 a0 a1 g12 k9 = some E10))
    case atStart => exact ⟨0, rfl, HS0, HE⟩
    case round =>
      obtain ⟨k9, rfl, HSr14, HL15⟩ := hrel
      obtain ⟨w8, rfl⟩ : ∃ w8 : World, w8 = wr := ⟨_, rfl⟩
      clear HE
      cases gk with
      | zero =>
        have H := HL15.out
        rw [f_r06_Same_l1] at H
        cases H
      | succ g12 =>
        have H := HL15.out
        clear HL15
        rw [f_r06_Same_l1] at H
        have HH := Lib.hid H
        clear H
        have H1 := HSr14.out
        clear HSr14
        have HS17 := Lib.hid H1
        clear H1
        by_cases c18 : (k9 : Int) < (a0.length : Int)
        · have H := HH.out
          clear HH
          rw [if_pos c18] at H
          have HH := Lib.hid H
          clear H
          have b19 : decide ((k9 : Int) < (a0.length : Int)) = true := decide_eq_true c18
          go_wp2_with fail
          have H0 := HH.out
          clear HH
          obtain ⟨x20, hx21, H⟩ := Option.bind_eq_some_iff.1 H0
          clear H0
          try dsimp only at H
          have hx21L := (List.getElem?_eq_some_iff.1 hx21).1
          have hx21H := Lib.hid hx21
          clear hx21
          have HH := Lib.hid H
          clear H
          obtain ⟨gz22, oz22, rfl, z22cs, z22l, z22c, z22nf, z22r⟩ := RX.elem (by decide) HX1.out hx21H.out
          obtain ⟨z22S, z22r, z22r2⟩ := z22r
          obtain rfl : z22cs = [.string (bsOf x20.fKey), .bool x20.fValue.null, .string (bsOf x20.fValue.data)] := z22r
          have z22B0 := Lib.hid (show w.cell? ⟨gz22, oz22 + k9 * 3, none⟩ = some (.string (bsOf x20.fKey)) from z22c 0 (by decide))
          have z22B1 := Lib.hid (show w.cell? ⟨gz22, oz22 + k9 * 3 + 1, none⟩ = some (.bool x20.fValue.null) from z22c 1 (by decide))
          have z22B2 := Lib.hid (show w.cell? ⟨gz22, oz22 + k9 * 3 + 2, none⟩ = some (.string (bsOf x20.fValue.data)) from z22c 2 (by decide))
          clear z22c
          have d23 : w8.cell? ⟨gz22, oz22 + k9 * 3, none⟩ = some (.string (bsOf x20.fKey)) := St.old2 HS17.out z22nf z22B0.out
          have d24 : w8.cell? ⟨gz22, oz22 + k9 * 3 + 1, none⟩ = some (.bool x20.fValue.null) := St.old2 HS17.out z22nf z22B1.out
          have d25 : w8.cell? ⟨gz22, oz22 + k9 * 3 + 2, none⟩ = some (.string (bsOf x20.fValue.data)) := St.old2 HS17.out z22nf z22B2.out
          have lt26 : gz22 < w8.heap.size := Nat.lt_of_lt_of_le z22nf.2 HS17.out.fr.size
          have H0 := HH.out
          clear HH
          obtain ⟨x27, hx28, H⟩ := Option.bind_eq_some_iff.1 H0
          clear H0
          try dsimp only at H
          have hx28L := (List.getElem?_eq_some_iff.1 hx28).1
          have hx28H := Lib.hid hx28
          clear hx28
          have HH := Lib.hid H
          clear H
          obtain ⟨gz29, oz29, rfl, z29cs, z29l, z29c, z29nf, z29r⟩ := RX.elem (by decide) HX2.out hx28H.out
          obtain ⟨z29S, z29r, z29r2⟩ := z29r
          obtain rfl : z29cs = [.string (bsOf x27.fKey), .bool x27.fValue.null, .string (bsOf x27.fValue.data)] := z29r
          have z29B0 := Lib.hid (show w.cell? ⟨gz29, oz29 + k9 * 3, none⟩ = some (.string (bsOf x27.fKey)) from z29c 0 (by decide))
          have z29B1 := Lib.hid (show w.cell? ⟨gz29, oz29 + k9 * 3 + 1, none⟩ = some (.bool x27.fValue.null) from z29c 1 (by decide))
          have z29B2 := Lib.hid (show w.cell? ⟨gz29, oz29 + k9 * 3 + 2, none⟩ = some (.string (bsOf x27.fValue.data)) from z29c 2 (by decide))
          clear z29c
          have d30 : w8.cell? ⟨gz29, oz29 + k9 * 3, none⟩ = some (.string (bsOf x27.fKey)) := St.old2 HS17.out z29nf z29B0.out
          have d31 : w8.cell? ⟨gz29, oz29 + k9 * 3 + 1, none⟩ = some (.bool x27.fValue.null) := St.old2 HS17.out z29nf z29B1.out
          have d32 : w8.cell? ⟨gz29, oz29 + k9 * 3 + 2, none⟩ = some (.string (bsOf x27.fValue.data)) := St.old2 HS17.out z29nf z29B2.out
          have lt33 : gz29 < w8.heap.size := Nat.lt_of_lt_of_le z29nf.2 HS17.out.fr.size
          by_cases c34 : x20.fKey = x27.fKey
          · have H := HH.out
            clear HH
            rw [if_pos c34] at H
            have HH := Lib.hid H
            clear H
            have b35 : (x20.fKey == x27.fKey) = true := beq_iff_eq.2 c34
            have b36 : (x20.fKey != x27.fKey) = false := bne_eq_false_iff_eq.2 c34
            clear c34
            by_cases c37 : x20.fValue.null = x27.fValue.null
            · have H := HH.out
              clear HH
              rw [if_pos c37] at H
              have HH := Lib.hid H
              clear H
              have b38 : (x20.fValue.null == x27.fValue.null) = true := beq_iff_eq.2 c37
              have b39 : (x20.fValue.null != x27.fValue.null) = false := bne_eq_false_iff_eq.2 c37
              clear c37
              by_cases c40 : x20.fValue.data = x27.fValue.data
              · have H := HH.out
                clear HH
                rw [if_pos c40] at H
                have HH := Lib.hid H
                clear H
                have b41 : (x20.fValue.data == x27.fValue.data) = true := beq_iff_eq.2 c40
                have b42 : (x20.fValue.data != x27.fValue.data) = false := bne_eq_false_iff_eq.2 c40
                clear c40
                go_quiet (fail)
                have H0 := HH.out
                clear HH
                obtain ⟨⟨c43_0, c43_1⟩, H⟩ := guard_some H0
                clear H0
                have HH := Lib.hid H
                clear H
                go_wp2_with fail
                go_roundg g12
                case measure => omega
                case rel => exact ⟨k9 + 1, by go_num, Lib.hid (((HS17.out.drewN _).front 0 rfl).keep 1), HH⟩
              · have H := HH.out
                clear HH
                rw [if_neg c40] at H
                have HH := Lib.hid H
                clear H
                have b44 : (x20.fValue.data == x27.fValue.data) = false := beq_eq_false_iff_ne.2 c40
                have b45 : (x20.fValue.data != x27.fValue.data) = true := bne_iff_ne.2 c40
                clear c40
                go_quiet (fail)
                go_wp2_with fail
                go_ret
                have H := HH.out
                clear HH
                have H := Option.some.inj H
                subst H
                have H := HHo11.out
                clear HHo11
                dsimp only at H
                have HH := Lib.hid H
                clear H
                have H := Option.some.inj HH.out
                clear HH
                subst H
                exact ⟨_, _, _, rfl, ⟨rfl, rfl, rfl⟩, ((HS17.out.drewN _).front 0 rfl).keep 1⟩
            · have H := HH.out
              clear HH
              rw [if_neg c37] at H
              have HH := Lib.hid H
              clear H
              have b46 : (x20.fValue.null == x27.fValue.null) = false := beq_eq_false_iff_ne.2 c37
              have b47 : (x20.fValue.null != x27.fValue.null) = true := bne_iff_ne.2 c37
              clear c37
              go_quiet (fail)
              go_wp2_with fail
              go_ret
              have H := HH.out
              clear HH
              have H := Option.some.inj H
              subst H
              have H := HHo11.out
              clear HHo11
              dsimp only at H
              have HH := Lib.hid H
              clear H
              have H := Option.some.inj HH.out
              clear HH
              subst H
              exact ⟨_, _, _, rfl, ⟨rfl, rfl, rfl⟩, ((HS17.out.drewN _).front 0 rfl).keep 1⟩
          · have H := HH.out
            clear HH
            rw [if_neg c34] at H
            have HH := Lib.hid H
            clear H
            have b48 : (x20.fKey == x27.fKey) = false := beq_eq_false_iff_ne.2 c34
            have b49 : (x20.fKey != x27.fKey) = true := bne_iff_ne.2 c34
            clear c34
            go_quiet (fail)
            go_wp2_with fail
            go_ret
            have H := HH.out
            clear HH
            have H := Option.some.inj H
            subst H
            have H := HHo11.out
            clear HHo11
            dsimp only at H
            have HH := Lib.hid H
            clear H
            have H := Option.some.inj HH.out
            clear HH
            subst H
            exact ⟨_, _, _, rfl, ⟨rfl, rfl, rfl⟩, ((HS17.out.drewN _).front 0 rfl).keep 1⟩
        · have H := HH.out
          clear HH
          rw [if_neg c18] at H
          have HH := Lib.hid H
          clear H
          have b50 : decide ((k9 : Int) < (a0.length : Int)) = false := decide_eq_false c18
          have H := Option.some.inj HH.out
          clear HH
          subst H
          have H := HHo11.out
          clear HHo11
          try dsimp only at H
          have HH := Lib.hid H
          clear H
          go_wp2_with fail
          go_ret
          have H := Option.some.inj HH.out
          clear HH
          subst H
          exact ⟨_, _, _, rfl, ⟨rfl, rfl, rfl⟩, (HS17.out.front 0 rfl).keep 1⟩
  · have H := HH.out
    clear HH
    rw [if_neg c5] at H
    have HH := Lib.hid H
    clear H
    have b53 : ((a0.length : Int) == (a1.length : Int)) = false := beq_eq_false_iff_ne.2 c5
    have b54 : ((a0.length : Int) != (a1.length : Int)) = true := bne_iff_ne.2 c5
    clear c5
    go_wp2_with fail
    go_ret
    have H := Option.some.inj HH.out
    clear HH
    subst H
    exact ⟨_, _, _, rfl, ⟨rfl, rfl, rfl⟩, (HS0.out.front 0 rfl).keep 1⟩
def f_r06_Read_l1 (a0 : List UInt8) (x6 : Int) : Nat → Int → List Hd → Nat → Option (Lp (List Hd × Int × Int) (Int × List Hd × Nat))
  | 0, _, _, _ => none
  | g25 + 1, y18, y19, k22 => if (k22 : Int) < x6 then (if 0 ≤ y18 ∧ y18 ≤ (a0.length : Int) then ((gRRVaried (a0.drop y18.toNat)).bind fun x35 => if x35.err = 0 then (if x35.blob.null = true then (some (Lp.ret ([], 0, 4))) else (if -9223372036854775808 ≤ (y18 + x35.many) ∧ (y18 + x35.many) ≤ 9223372036854775807 then (if 0 ≤ (y18 + x35.many) ∧ (y18 + x35.many) ≤ (a0.length : Int) then ((gRRVaried (a0.drop (y18 + x35.many).toNat)).bind fun x50 => if x50.err = 0 then (if (y19.length + 1) * 40 ≤ 140737488355328 then (if -9223372036854775808 ≤ (y18 + x35.many) ∧ (y18 + x35.many) ≤ 9223372036854775807 then (if -9223372036854775808 ≤ ((y18 + x35.many) + x50.many) ∧ ((y18 + x35.many) + x50.many) ≤ 9223372036854775807 then (if -9223372036854775808 ≤ ((k22 : Int) + 1) ∧ ((k22 : Int) + 1) ≤ 9223372036854775807 then (f_r06_Read_l1 a0 x6 g25 ((y18 + x35.many) + x50.many) (y19 ++ [(⟨x35.blob.data, x50.blob⟩ : Hd)]) (k22 + 1)) else none) else none) else none) else none) else (some (Lp.ret ([], 0, x50.err)))) else none) else none)) else (some (Lp.ret ([], 0, x35.err)))) else none) else (some (Lp.go (y18, y19, k22)))
def f_r06_Read (a0 : List UInt8) : Option (List Hd × Int × Int) := (gRGet a0 32).bind fun (x1, x2, x3) => if x3 = 0 then ((gRBack x1).bind fun x6 => if x6 < 0 then some ([], 0, 4) else (if -9223372036854775808 ≤ ((a0.length : Int) - x2) ∧ ((a0.length : Int) - x2) ≤ 9223372036854775807 then (if 0 ≤ ((a0.length : Int) - x2) ∧ ((a0.length : Int) - x2) ≤ 9223372036854775807 then (if x6 > (((a0.length : Int) - x2) / 2) then some ([], 0, 1) else ((f_r06_Read_l1 a0 x6 ((x6).toNat + 1) x2 [] 0).bind fun e => match e with | .ret r => some r | .go (y103, y104, k107) => some (y104, y103, 0))) else none) else none)) else some ([], 0, x3)
set_option maxRecDepth 100000 in
set_option maxHeartbeats 1000000 in
theorem f_r06_Read_spec (a0 : List UInt8) (r : List Hd × Int × Int) (h : f_r06_Read a0 = some r) : SpecX Try.prog 34 #[.string (bsOf a0)] .triv (EmpR) (fun v A' N => ∃ (A110 : Option Addr) (c111 : Nat), v = .tuple #[.slice A110 r.1.length c111, .int .i64 r.2.1, .int .i64 r.2.2] ∧ A' = EmpR ∧ N = [RdR (sliceRd 3 Hd_rd) [.slice A110 r.1.length c111] r.1]) := by
  intro F w hA hX
  clear hX
  have HS0 := Lib.hid (St.start F w (Sep.one hA))
  clear hA
  unfold f_r06_Read at h
  have HH := Lib.hid h
  clear h
  go_enter Try.func34, Try.ntmps34
  go_wp2_with fail
  have H0 := HH.out
  clear HH
  obtain ⟨⟨x1, x2, x3⟩, hx4, H⟩ := Option.bind_eq_some_iff.1 H0
  clear H0
  try dsimp only at H
  have hx4H := Lib.hid hx4
  clear hx4
  have HH := Lib.hid H
  clear H
  refine (gRGet_spec a0 32 _ hx4H.out _).mono ?_
  rintro e w1 ⟨rfl, rfl⟩
  clear hx4H
  by_cases c5 : x3 = 0
  · have H := HH.out
    clear HH
    rw [if_pos c5] at H
    have HH := Lib.hid H
    clear H
    subst c5
    go_wp2_with fail
    have H0 := HH.out
    clear HH
    obtain ⟨x6, hx7, H⟩ := Option.bind_eq_some_iff.1 H0
    clear H0
    try dsimp only at H
    have hx7H := Lib.hid hx7
    clear hx7
    have HH := Lib.hid H
    clear H
    refine (gRBack_spec x1 _ hx7H.out _).mono ?_
    rintro e w1 ⟨rfl, rfl⟩
    clear hx7H
    by_cases c8 : x6 < 0
    · have H := HH.out
      clear HH
      rw [if_pos c8] at H
      have HH := Lib.hid H
      clear H
      have b9 : decide (x6 < 0) = true := decide_eq_true c8
      go_wp2_with fail
      go_ret3
      have H := Option.some.inj HH.out
      clear HH
      subst H
      exact ⟨_, _, _, rfl, ⟨_, _, by first | rfl | simp, rfl, rfl⟩, (((RdR.nil 3 Hd_rd HS0.out).front 0 rfl).front 1 rfl).keep 2⟩
    · have H := HH.out
      clear HH
      rw [if_neg c8] at H
      have HH := Lib.hid H
      clear H
      have b10 : decide (x6 < 0) = false := decide_eq_false c8
      have H0 := HH.out
      clear HH
      obtain ⟨⟨c11_0, c11_1⟩, H⟩ := guard_some H0
      clear H0
      have HH := Lib.hid H
      clear H
      have H0 := HH.out
      clear HH
      obtain ⟨⟨c12_0, c12_1⟩, H⟩ := guard_some H0
      clear H0
      have HH := Lib.hid H
      clear H
      by_cases c13 : x6 > (((a0.length : Int) - x2) / 2)
      · have H := HH.out
        clear HH
        rw [if_pos c13] at H
        have HH := Lib.hid H
        clear H
        have b14 : decide ((((a0.length : Int) - x2) / 2) < x6) = true := decide_eq_true c13
        go_wp2_with fail
        go_ret3
        have H := Option.some.inj HH.out
        clear HH
        subst H
        exact ⟨_, _, _, rfl, ⟨_, _, by first | rfl | simp, rfl, rfl⟩, (((RdR.nil 3 Hd_rd HS0.out).front 0 rfl).front 1 rfl).keep 2⟩
      · have H := HH.out
        clear HH
        rw [if_neg c13] at H
        have HH := Lib.hid H
        clear H
        have b15 : decide ((((a0.length : Int) - x2) / 2) < x6) = false := decide_eq_false c13
        have HS160 := OwnR.lit (T := 58) (size := 3) Hd_rd (HS0.out) #[] [] (Nat.le_of_ble_eq_true rfl) (rfl)
        try simp only [World.size_alloc, World.size_setCell, List.setIfInBounds_toArray, List.set_cons_zero, List.set_cons_succ] at HS160
        have HS16 := Lib.hid HS160
        clear HS160
        go_wp2_with fail
        have H0 := HH.out
        clear HH
        obtain ⟨E23, hE, H⟩ := Option.bind_eq_some_iff.1 H0
        clear H0
        have HHo24 := Lib.hid H
        have HE := Lib.hid hE
        clear H hE
        go_loopg [6, 9, 10] ((x6).toNat + 1) (fun g25 s6 s9 s10 w17 => ∃ (y18 : Int) (y19 : List Hd) (A20 : Option Addr) (c21 : Nat) (k22 : Nat), s6 = .int .i64 y18 ∧ s9 = .slice A20 y19.length c21 ∧ s10 = .int .i64 (k22 : Int) ∧ Hid (St F w [OwnR 58 3 Hd_rd (.slice A20 y19.length c21) y19, EmpR] w17) ∧ Hid (f_r06_Read_l1 a0 x6 g25 y18 y19 k22 = some E23))
        case atStart => exact ⟨x2, [], (some ⟨w.heap.size, 0, none⟩), 0, 0, rfl, rfl, rfl, HS16, HE⟩
        case round =>
          obtain ⟨y18, y19, A20, c21, k22, rfl, rfl, rfl, HSr27, HL28⟩ := hrel
          obtain ⟨w17, rfl⟩ : ∃ w17 : World, w17 = wr := ⟨_, rfl⟩
          clear HE
          cases gk with
          | zero =>
            have H := HL28.out
            rw [f_r06_Read_l1] at H
            cases H
          | succ g25 =>
            have H := HL28.out
            clear HL28
            rw [f_r06_Read_l1] at H
            have HH := Lib.hid H
            clear H
            have H1 := HSr27.out
            clear HSr27
            have HS30 := Lib.hid H1
            clear H1
            by_cases c31 : (k22 : Int) < x6
            · have H := HH.out
              clear HH
              rw [if_pos c31] at H
              have HH := Lib.hid H
              clear H
              have b32 : decide ((k22 : Int) < x6) = true := decide_eq_true c31
              have H0 := HH.out
              clear HH
              obtain ⟨⟨c34_0, c34_1⟩, H⟩ := guard_some H0
              clear H0
              have HH := Lib.hid H
              clear H
              have e33 : (bsOf a0).extract y18.toNat a0.length = bsOf (a0.drop y18.toNat) := bsOf_extractE _ _
              go_wp2_with fail
              have H0 := HH.out
              clear HH
              obtain ⟨x35, hx36, H⟩ := Option.bind_eq_some_iff.1 H0
              clear H0
              try dsimp only at H
              have hx36H := Lib.hid hx36
              clear hx36
              have HH := Lib.hid H
              clear H
              refine (St.callE HS30.out (gRRVaried_spec (a0.drop y18.toNat) _ hx36H.out) (RX.reads_triv _ _)).mono ?_
              rintro e w37 ⟨v, A', N, rfl, ⟨rfl, rfl, rfl⟩, H1⟩
              clear hx36H HS30
              try simp only [List.cons_append, List.nil_append, List.set_cons_zero, List.set_cons_succ] at H1
              have HS38 := Lib.hid H1
              clear H1
              by_cases c39 : x35.err = 0
              · have H := HH.out
                clear HH
                rw [if_pos c39] at H
                have HH := Lib.hid H
                clear H
                have b40 : (x35.err == 0) = true := beq_iff_eq.2 c39
                have b41 : (x35.err != 0) = false := bne_eq_false_iff_eq.2 c39
                have c39E := Lib.hid c39
                clear c39
                by_cases c42 : x35.blob.null = true
                · have H := HH.out
                  clear HH
                  rw [if_pos c42] at H
                  have HH := Lib.hid H
                  clear H
                  have H1 := HS38.out
                  try simp only [c42] at H1
                  have HS43 := Lib.hid H1
                  clear H1
                  go_wp2_with fail
                  have HS440 := (HS43.out).alloc #[.bool true, .string (bsOf x35.blob.data), .int .i64 x35.many, .int .i64 x35.err] 134
                  try simp only [World.size_alloc, World.size_setCell, List.setIfInBounds_toArray, List.set_cons_zero, List.set_cons_succ] at HS440
                  have HS44 := Lib.hid HS440
                  clear HS440
                  go_ret3
                  have H := HH.out
                  clear HH
                  have H := Option.some.inj H
                  subst H
                  have H := HHo24.out
                  clear HHo24
                  dsimp only at H
                  have HH := Lib.hid H
                  clear H
                  have H := Option.some.inj HH.out
                  clear HH
                  subst H
                  exact ⟨_, _, _, rfl, ⟨_, _, by first | rfl | simp, rfl, rfl⟩, (((RdR.nil 3 Hd_rd HS44.out).front 0 rfl).front 3 rfl).keep 2⟩
                · have H := HH.out
                  clear HH
                  rw [if_neg c42] at H
                  have HH := Lib.hid H
                  clear H
                  have b45 : x35.blob.null = false := by simpa using c42
                  clear c42
                  have H1 := HS38.out
                  try simp only [b45] at H1
                  have HS46 := Lib.hid H1
                  clear H1
                  have H0 := HH.out
                  clear HH
                  obtain ⟨⟨c47_0, c47_1⟩, H⟩ := guard_some H0
                  clear H0
                  have HH := Lib.hid H
                  clear H
                  have H0 := HH.out
                  clear HH
                  obtain ⟨⟨c49_0, c49_1⟩, H⟩ := guard_some H0
                  clear H0
                  have HH := Lib.hid H
                  clear H
                  have e48 : (bsOf a0).extract (y18 + x35.many).toNat a0.length = bsOf (a0.drop (y18 + x35.many).toNat) := bsOf_extractE _ _
                  go_wp2_with fail
                  have H0 := HH.out
                  clear HH
                  obtain ⟨x50, hx51, H⟩ := Option.bind_eq_some_iff.1 H0
                  clear H0
                  try dsimp only at H
                  have hx51H := Lib.hid hx51
                  clear hx51
                  have HH := Lib.hid H
                  clear H
                  have HS520 := (HS46.out).alloc #[.bool false, .string (bsOf x35.blob.data), .int .i64 x35.many, .int .i64 x35.err] 134
                  try simp only [World.size_alloc, World.size_setCell, List.setIfInBounds_toArray, List.set_cons_zero, List.set_cons_succ] at HS520
                  have HS52 := Lib.hid HS520
                  clear HS520
                  refine (St.callE HS52.out (gRRVaried_spec (a0.drop (y18 + x35.many).toNat) _ hx51H.out) (RX.reads_triv _ _)).mono ?_
                  rintro e w53 ⟨v, A', N, rfl, ⟨rfl, rfl, rfl⟩, H1⟩
                  clear hx51H HS52
                  try simp only [List.cons_append, List.nil_append, List.set_cons_zero, List.set_cons_succ] at H1
                  have lt54 : w37.heap.size < w53.heap.size := heap_lt (St.blk 0 H1 rfl)
                  have d55 : w53.cell? ⟨w37.heap.size, 0, none⟩ = some (.bool false) := heap_at (St.blk 0 H1 rfl) 0
                  have d56 : w53.cell? ⟨w37.heap.size, 1, none⟩ = some (.string (bsOf x35.blob.data)) := heap_at (St.blk 0 H1 rfl) 1
                  have d57 : w53.cell? ⟨w37.heap.size, 2, none⟩ = some (.int .i64 x35.many) := heap_at (St.blk 0 H1 rfl) 2
                  have d58 : w53.cell? ⟨w37.heap.size, 3, none⟩ = some (.int .i64 x35.err) := heap_at (St.blk 0 H1 rfl) 3
                  have z59 : w53.frozen? ⟨w37.heap.size, 0, none⟩ = false := heap_free (St.blk 0 H1 rfl) 0
                  have z60 : w53.frozen? ⟨w37.heap.size, 1, none⟩ = false := heap_free (St.blk 0 H1 rfl) 1
                  have z61 : w53.frozen? ⟨w37.heap.size, 2, none⟩ = false := heap_free (St.blk 0 H1 rfl) 2
                  have z62 : w53.frozen? ⟨w37.heap.size, 3, none⟩ = false := heap_free (St.blk 0 H1 rfl) 3
                  have HS63 := Lib.hid H1
                  clear H1
                  by_cases c64 : x50.err = 0
                  · have H := HH.out
                    clear HH
                    rw [if_pos c64] at H
                    have HH := Lib.hid H
                    clear H
                    have b65 : (x50.err == 0) = true := beq_iff_eq.2 c64
                    have b66 : (x50.err != 0) = false := bne_eq_false_iff_eq.2 c64
                    have c64E := Lib.hid c64
                    clear c64
                    have H0 := HH.out
                    clear HH
                    obtain ⟨c67_0, H⟩ := guard_some H0
                    clear H0
                    have HH := Lib.hid H
                    clear H
                    have HS680 := (HS63.out).alloc #[.bool x50.blob.null, .string (bsOf x50.blob.data), .int .i64 x50.many, .int .i64 x50.err] 134
                    try simp only [World.size_alloc, World.size_setCell, List.setIfInBounds_toArray, List.set_cons_zero, List.set_cons_succ] at HS680
                    have HS68 := Lib.hid HS680
                    clear HS680
                    obtain ⟨z69cs, z69o, z69p⟩ := OwnR.open_ 2 HS68.out rfl
                    have z69hb : (y19.length + 1) * 40 ≤ 140737488355328 := c67_0
                    have z69hm : y19.length + 1 ≤ 140737488355328 := by omega
                    have H0 := HH.out
                    clear HH
                    obtain ⟨⟨c92_0, c92_1⟩, H⟩ := guard_some H0
                    clear H0
                    have HH := Lib.hid H
                    clear H
                    have H0 := HH.out
                    clear HH
                    obtain ⟨⟨c93_0, c93_1⟩, H⟩ := guard_some H0
                    clear H0
                    have HH := Lib.hid H
                    clear H
                    have H0 := HH.out
                    clear HH
                    obtain ⟨⟨c94_0, c94_1⟩, H⟩ := guard_some H0
                    clear H0
                    have HH := Lib.hid H
                    clear H
                    go_wp2_with (at_builtin; refine wp_append_elem_at _ rfl (.tmp 63) (.tmp 70) 48 rfl 58 (.agg #[.string ⟨#[]⟩, .bool false, .string ⟨#[]⟩]) 3 40 (by decide) Try.underlying48 infoE_cursitor_api_Header rfl (.slice A20 y19.length c21) _ z69cs rfl z69o #[.string (bsOf x35.blob.data), .bool x50.blob.null, .string (bsOf x50.blob.data)] rfl (by simp [Value.oneCell']) (w53.heap.size + 1) (by first | rfl | simp) rfl z69hb z69hm ?_; intro v1 w72 ho1 hg hat; have H1 := z69p _ _ _ (⟨x35.blob.data, x50.blob⟩ : Hd) ho1 hg hat rfl (fun _ _ => rfl); rw [show y19.length + 1 = (y19 ++ [(⟨x35.blob.data, x50.blob⟩ : Hd)]).length by simp] at ho1; obtain ⟨A70, c71, rfl⟩ := row_slice ho1; clear ho1 hg hat z69p z69o z69hb z69hm HS68; (try simp only [List.cons_append, List.nil_append, List.set_cons_zero, List.set_cons_succ] at H1); clear lt54 d55 d56 d57 d58 z59 z60 z61 z62; have lt73 : w53.heap.size < w72.heap.size := heap_lt (St.blk 0 H1 rfl); have d74 : w72.cell? ⟨w53.heap.size, 0, none⟩ = some (.bool x50.blob.null) := heap_at (St.blk 0 H1 rfl) 0; have d75 : w72.cell? ⟨w53.heap.size, 1, none⟩ = some (.string (bsOf x50.blob.data)) := heap_at (St.blk 0 H1 rfl) 1; have d76 : w72.cell? ⟨w53.heap.size, 2, none⟩ = some (.int .i64 x50.many) := heap_at (St.blk 0 H1 rfl) 2; have d77 : w72.cell? ⟨w53.heap.size, 3, none⟩ = some (.int .i64 x50.err) := heap_at (St.blk 0 H1 rfl) 3; have z78 : w72.frozen? ⟨w53.heap.size, 0, none⟩ = false := heap_free (St.blk 0 H1 rfl) 0; have z79 : w72.frozen? ⟨w53.heap.size, 1, none⟩ = false := heap_free (St.blk 0 H1 rfl) 1; have z80 : w72.frozen? ⟨w53.heap.size, 2, none⟩ = false := heap_free (St.blk 0 H1 rfl) 2; have z81 : w72.frozen? ⟨w53.heap.size, 3, none⟩ = false := heap_free (St.blk 0 H1 rfl) 3; have lt82 : w37.heap.size < w72.heap.size := heap_lt (St.blk 1 H1 rfl); have d83 : w72.cell? ⟨w37.heap.size, 0, none⟩ = some (.bool false) := heap_at (St.blk 1 H1 rfl) 0; have d84 : w72.cell? ⟨w37.heap.size, 1, none⟩ = some (.string (bsOf x35.blob.data)) := heap_at (St.blk 1 H1 rfl) 1; have d85 : w72.cell? ⟨w37.heap.size, 2, none⟩ = some (.int .i64 x35.many) := heap_at (St.blk 1 H1 rfl) 2; have d86 : w72.cell? ⟨w37.heap.size, 3, none⟩ = some (.int .i64 x35.err) := heap_at (St.blk 1 H1 rfl) 3; have z87 : w72.frozen? ⟨w37.heap.size, 0, none⟩ = false := heap_free (St.blk 1 H1 rfl) 0; have z88 : w72.frozen? ⟨w37.heap.size, 1, none⟩ = false := heap_free (St.blk 1 H1 rfl) 1; have z89 : w72.frozen? ⟨w37.heap.size, 2, none⟩ = false := heap_free (St.blk 1 H1 rfl) 2; have z90 : w72.frozen? ⟨w37.heap.size, 3, none⟩ = false := heap_free (St.blk 1 H1 rfl) 3; have HS91 := Lib.hid H1; clear H1)
                    go_roundg g25
                    case measure => omega
                    case rel => exact ⟨((y18 + x35.many) + x50.many), (y19 ++ [(⟨x35.blob.data, x50.blob⟩ : Hd)]), A70, c71, k22 + 1, rfl, by first | rfl | simp, by go_num, Lib.hid (((HS91.out.front 3 rfl).front 3 rfl).keep 2), HH⟩
                  · have H := HH.out
                    clear HH
                    rw [if_neg c64] at H
                    have HH := Lib.hid H
                    clear H
                    have b95 : (x50.err == 0) = false := beq_eq_false_iff_ne.2 c64
                    have b96 : (x50.err != 0) = true := bne_iff_ne.2 c64
                    clear c64
                    go_wp2_with fail
                    go_quiet (fail)
                    go_wp2_with fail
                    have HS970 := (HS63.out).alloc #[.bool x50.blob.null, .string (bsOf x50.blob.data), .int .i64 x50.many, .int .i64 x50.err] 134
                    try simp only [World.size_alloc, World.size_setCell, List.setIfInBounds_toArray, List.set_cons_zero, List.set_cons_succ] at HS970
                    have HS97 := Lib.hid HS970
                    clear HS970
                    go_ret3
                    have H := HH.out
                    clear HH
                    have H := Option.some.inj H
                    subst H
                    have H := HHo24.out
                    clear HHo24
                    dsimp only at H
                    have HH := Lib.hid H
                    clear H
                    have H := Option.some.inj HH.out
                    clear HH
                    subst H
                    exact ⟨_, _, _, rfl, ⟨_, _, by first | rfl | simp, rfl, rfl⟩, (((RdR.nil 3 Hd_rd (HS97.out.drewN _)).front 0 rfl).front 4 rfl).keep 2⟩
              · have H := HH.out
                clear HH
                rw [if_neg c39] at H
                have HH := Lib.hid H
                clear H
                have b98 : (x35.err == 0) = false := beq_eq_false_iff_ne.2 c39
                have b99 : (x35.err != 0) = true := bne_iff_ne.2 c39
                clear c39
                go_wp2_with fail
                go_quiet (fail)
                go_wp2_with fail
                have HS1000 := (HS38.out).alloc #[.bool x35.blob.null, .string (bsOf x35.blob.data), .int .i64 x35.many, .int .i64 x35.err] 134
                try simp only [World.size_alloc, World.size_setCell, List.setIfInBounds_toArray, List.set_cons_zero, List.set_cons_succ] at HS1000
                have HS100 := Lib.hid HS1000
                clear HS1000
                go_ret3
                have H := HH.out
                clear HH
                have H := Option.some.inj H
                subst H
                have H := HHo24.out
                clear HHo24
                dsimp only at H
                have HH := Lib.hid H
                clear H
                have H := Option.some.inj HH.out
                clear HH
                subst H
                exact ⟨_, _, _, rfl, ⟨_, _, by first | rfl | simp, rfl, rfl⟩, (((RdR.nil 3 Hd_rd (HS100.out.drewN _)).front 0 rfl).front 3 rfl).keep 2⟩
            · have H := HH.out
              clear HH
              rw [if_neg c31] at H
              have HH := Lib.hid H
              clear H
              have b101 : decide ((k22 : Int) < x6) = false := decide_eq_false c31
              have H := Option.some.inj HH.out
              clear HH
              subst H
              have H := HHo24.out
              clear HHo24
              try dsimp only at H
              have HH := Lib.hid H
              clear H
              go_wp2_with fail
              go_ret3
              have H := Option.some.inj HH.out
              clear HH
              subst H
              exact ⟨_, _, _, rfl, ⟨_, _, by first | rfl | simp, rfl, rfl⟩, (((OwnR.shut (by decide) 0 HS30.out rfl).front 0 rfl).front 1 rfl).keep 2⟩
  · have H := HH.out
    clear HH
    rw [if_neg c5] at H
    have HH := Lib.hid H
    clear H
    have b108 : (x3 == 0) = false := beq_eq_false_iff_ne.2 c5
    have b109 : (x3 != 0) = true := bne_iff_ne.2 c5
    clear c5
    go_wp2_with fail
    go_ret3
    have H := Option.some.inj HH.out
    clear HH
    subst H
    exact ⟨_, _, _, rfl, ⟨_, _, by first | rfl | simp, rfl, rfl⟩, (((RdR.nil 3 Hd_rd HS0.out).front 0 rfl).front 1 rfl).keep 2⟩
end Go.Proofs.Ytdlpmcbglmgpiaa.Sl
