/- Printed by g.py: package cursitorlaw06. -/
import Derived.Test.YtdlpmcbglmgpiaaGb
import Derived.Test.YtdlpmcbglmgpiaaT
import Derived.Test.YtdlpmcbglmgpiaaPcursitorref06
import Derived.Test.YtdlpmcbglmgpiaaPheader
import Derived.Deep.LoopGhost
import Derived.WalkLawsBesides
import Derived.IntWalk
import Derived.Deep.RegionHeld3
namespace Go.Proofs.Ytdlpmcbglmgpiaa.Sl
open Go.RowKit
set_option linter.unusedVariables false
set_option linter.unusedSimpArgs false
attribute [local go_sem] bsOf_toList bsOf_size bsOf_app
def f_l06_speaks  : Option (Bool) := (f_header_Write ([], 0) [(⟨[97], (⟨true, []⟩ : Bl)⟩ : Hd)]).bind fun st1 => (gOText st1).bind fun (x6, x7, st8) => (gNew x6).bind fun st12 => if x7 = 0 then (if x6 = [2, 2, 97, 1] then ((f_header_Read st12).bind fun (x21, st24) => if (x21.length : Int) = 1 then ((x21[0]?).bind fun x31 => if x31.fValue.null = true then ((gClose st24).bind fun (x39, st40) => if x39 = 0 then some true else some false) else some false) else some false) else some false) else some false
set_option maxRecDepth 100000 in
set_option maxHeartbeats 6000000 in
theorem f_l06_speaks_spec  (r : Bool) (h : f_l06_speaks  = some r) : SpecX Try.prog 27 #[] .triv (EmpR) (fun v A' N => v = .bool r ∧ A' = EmpR ∧ N = []) := by
  intro F w hA hX
  clear hX
  have HS0 := Lib.hid (St.start F w (Sep.one hA))
  clear hA
  unfold f_l06_speaks at h
  have HH := Lib.hid h
  clear h
  go_enter Try.func27, Try.ntmps27
  go_wp2_with fail
  have H0 := HH.out
  clear HH
  obtain ⟨st1, hx2, H⟩ := Option.bind_eq_some_iff.1 H0
  clear H0
  try dsimp only at H
  have hx2H := Lib.hid hx2
  clear hx2
  have HH := Lib.hid H
  clear H
  have HS30 := OwnR.lit (T := 58) (size := 3) Hd_rd (OutR.new (HS0.out)) #[.string ⟨#[97]⟩, .bool true, .string ⟨#[]⟩] [(⟨[97], (⟨true, []⟩ : Bl)⟩ : Hd)] (Nat.le_of_ble_eq_true rfl) (⟨rfl, rfl, rfl⟩)
  try simp (disch := first | rfl | assumption | (simp only [World.size_setCell, World.size_alloc]; omega)) only [World.setCell_alloc_past, World.setCell_alloc_at, World.size_alloc, World.size_setCell, List.setIfInBounds_toArray, List.set_cons_zero, List.set_cons_succ] at HS30
  have HS3 := Lib.hid HS30
  clear HS30
  refine (St.callX 1 HS3.out rfl (f_header_Write_spec w.heap.size ([], 0) [(⟨[97], (⟨true, []⟩ : Bl)⟩ : Hd)] _ _ _ hx2H.out) (Src.res 0 rfl (own_reads (by decide)))).mono ?_
  rintro e w4 ⟨v, A', N, rfl, ⟨rfl, rfl, rfl⟩, H1⟩
  clear hx2H HS3
  try simp only [List.cons_append, List.nil_append, List.set_cons_zero, List.set_cons_succ] at H1
  have HS5 := Lib.hid H1
  clear H1
  go_wp2_with fail
  have H0 := HH.out
  clear HH
  obtain ⟨⟨x6, x7, st8⟩, hx9, H⟩ := Option.bind_eq_some_iff.1 H0
  clear H0
  try dsimp only at H
  have hx9H := Lib.hid hx9
  clear hx9
  have HH := Lib.hid H
  clear H
  refine (St.callX 1 HS5.out rfl (gOText_spec w.heap.size st1 _ hx9H.out) (Src.triv _)).mono ?_
  rintro e w10 ⟨v, A', N, rfl, ⟨rfl, rfl, rfl⟩, H1⟩
  clear hx9H HS5
  try simp only [List.cons_append, List.nil_append, List.set_cons_zero, List.set_cons_succ] at H1
  have HS11 := Lib.hid H1
  clear H1
  go_wp2_with fail
  have H0 := HH.out
  clear HH
  obtain ⟨st12, hx13, H⟩ := Option.bind_eq_some_iff.1 H0
  clear H0
  try dsimp only at H
  have hx13H := Lib.hid hx13
  clear hx13
  have HH := Lib.hid H
  clear H
  refine (St.callE HS11.out (gNew_spec x6 _ hx13H.out) (RX.reads_triv _ _)).mono ?_
  rintro e w14 ⟨v, A', N, rfl, ⟨g15, rfl, rfl, rfl⟩, H1⟩
  clear hx13H HS11
  try simp only [List.cons_append, List.nil_append, List.set_cons_zero, List.set_cons_succ] at H1
  have HS16 := Lib.hid H1
  clear H1
  by_cases c17 : x7 = 0
  · have H := HH.out
    clear HH
    rw [if_pos c17] at H
    have HH := Lib.hid H
    clear H
    subst c17
    by_cases c18 : x6 = [2, 2, 97, 1]
    · have H := HH.out
      clear HH
      rw [if_pos c18] at H
      have HH := Lib.hid H
      clear H
      have b19 : (x6 == [2, 2, 97, 1]) = true := beq_iff_eq.2 c18
      have b20 : (x6 != [2, 2, 97, 1]) = false := bne_eq_false_iff_eq.2 c18
      clear c18
      go_wp2_with fail
      have H0 := HH.out
      clear HH
      obtain ⟨⟨x21, st24⟩, hx25, H⟩ := Option.bind_eq_some_iff.1 H0
      clear H0
      try dsimp only at H
      have hx25H := Lib.hid hx25
      clear hx25
      have HH := Lib.hid H
      clear H
      refine (St.callX 0 HS16.out rfl (f_header_Read_spec g15 st12 _ hx25H.out) (Src.triv _)).mono ?_
      rintro e w26 ⟨v, A', N, rfl, ⟨A22, c23, rfl, rfl, rfl⟩, H1⟩
      clear hx25H HS16
      try simp only [List.cons_append, List.nil_append, List.set_cons_zero, List.set_cons_succ] at H1
      have HS27 := Lib.hid H1
      clear H1
      by_cases c28 : (x21.length : Int) = 1
      · have H := HH.out
        clear HH
        rw [if_pos c28] at H
        have HH := Lib.hid H
        clear H
        have b29 : ((x21.length : Int) == 1) = true := beq_iff_eq.2 c28
        have b30 : ((x21.length : Int) != 1) = false := bne_eq_false_iff_eq.2 c28
        have c28E := Lib.hid c28
        clear c28
        have H0 := HH.out
        clear HH
        obtain ⟨x31, hx32, H⟩ := Option.bind_eq_some_iff.1 H0
        clear H0
        try dsimp only at H
        have hx32L := (List.getElem?_eq_some_iff.1 hx32).1
        have hx32H := Lib.hid hx32
        clear hx32
        have HH := Lib.hid H
        clear H
        obtain ⟨gz33, oz33, rfl, z33cs, z33l, z33c, z33nf, z33r⟩ := RX.elem (by decide) (SrcE.res 0 HS27.out rfl rd_reads) hx32H.out
        obtain ⟨z33S, z33r, z33r2⟩ := z33r
        obtain rfl : z33cs = [.string (bsOf x31.fKey), .bool x31.fValue.null, .string (bsOf x31.fValue.data)] := z33r
        have d34 : w26.cell? ⟨gz33, oz33, none⟩ = some (.string (bsOf x31.fKey)) := by have := z33c 0 (by decide); simpa using this
        have d35 : w26.cell? ⟨gz33, oz33 + 1, none⟩ = some (.bool x31.fValue.null) := by have := z33c 1 (by decide); simpa using this
        have d36 : w26.cell? ⟨gz33, oz33 + 2, none⟩ = some (.string (bsOf x31.fValue.data)) := by have := z33c 2 (by decide); simpa using this
        clear z33c
        have z33lt : gz33 < w26.heap.size := z33nf.2
        by_cases c37 : x31.fValue.null = true
        · have H := HH.out
          clear HH
          rw [if_pos c37] at H
          have HH := Lib.hid H
          clear H
          have H1 := HS27.out
          try simp only [c37] at H1
          have HS38 := Lib.hid H1
          clear H1
          go_wp2_with fail
          have H0 := HH.out
          clear HH
          obtain ⟨⟨x39, st40⟩, hx41, H⟩ := Option.bind_eq_some_iff.1 H0
          clear H0
          try dsimp only at H
          have hx41H := Lib.hid hx41
          clear hx41
          have HH := Lib.hid H
          clear H
          refine (St.callX 1 HS38.out rfl (gClose_spec g15 st24 _ hx41H.out) (Src.triv _)).mono ?_
          rintro e w42 ⟨v, A', N, rfl, ⟨rfl, rfl, rfl⟩, H1⟩
          clear hx41H HS38
          try simp only [List.cons_append, List.nil_append, List.set_cons_zero, List.set_cons_succ] at H1
          clear d34 d35 d36 z33lt
          have HS43 := Lib.hid H1
          clear H1
          by_cases c44 : x39 = 0
          · have H := HH.out
            clear HH
            rw [if_pos c44] at H
            have HH := Lib.hid H
            clear H
            subst c44
            go_wp2_with fail
            go_ret
            have H := Option.some.inj HH.out
            clear HH
            subst H
            exact ⟨_, _, _, rfl, ⟨rfl, rfl, rfl⟩, (HS43.out.front 4 rfl).keep 1⟩
          · have H := HH.out
            clear HH
            rw [if_neg c44] at H
            have HH := Lib.hid H
            clear H
            have b45 : (x39 == 0) = false := beq_eq_false_iff_ne.2 c44
            have b46 : (x39 != 0) = true := bne_iff_ne.2 c44
            clear c44
            go_wp2_with fail
            go_ret
            have H := Option.some.inj HH.out
            clear HH
            subst H
            exact ⟨_, _, _, rfl, ⟨rfl, rfl, rfl⟩, (HS43.out.front 4 rfl).keep 1⟩
        · have H := HH.out
          clear HH
          rw [if_neg c37] at H
          have HH := Lib.hid H
          clear H
          have b47 : x31.fValue.null = false := by simpa using c37
          clear c37
          have H1 := HS27.out
          try simp only [b47] at H1
          have HS48 := Lib.hid H1
          clear H1
          go_wp2_with fail
          go_ret
          have H := Option.some.inj HH.out
          clear HH
          subst H
          exact ⟨_, _, _, rfl, ⟨rfl, rfl, rfl⟩, (HS48.out.front 4 rfl).keep 1⟩
      · have H := HH.out
        clear HH
        rw [if_neg c28] at H
        have HH := Lib.hid H
        clear H
        have b49 : ((x21.length : Int) == 1) = false := beq_eq_false_iff_ne.2 c28
        have b50 : ((x21.length : Int) != 1) = true := bne_iff_ne.2 c28
        clear c28
        go_wp2_with fail
        go_ret
        have H := Option.some.inj HH.out
        clear HH
        subst H
        exact ⟨_, _, _, rfl, ⟨rfl, rfl, rfl⟩, (HS27.out.front 4 rfl).keep 1⟩
    · have H := HH.out
      clear HH
      rw [if_neg c18] at H
      have HH := Lib.hid H
      clear H
      have b51 : (x6 == [2, 2, 97, 1]) = false := beq_eq_false_iff_ne.2 c18
      have b52 : (x6 != [2, 2, 97, 1]) = true := bne_iff_ne.2 c18
      clear c18
      go_wp2_with fail
      go_ret
      have H := Option.some.inj HH.out
      clear HH
      subst H
      exact ⟨_, _, _, rfl, ⟨rfl, rfl, rfl⟩, (HS16.out.front 3 rfl).keep 1⟩
  · have H := HH.out
    clear HH
    rw [if_neg c17] at H
    have HH := Lib.hid H
    clear H
    have b53 : (x7 == 0) = false := beq_eq_false_iff_ne.2 c17
    have b54 : (x7 != 0) = true := bne_iff_ne.2 c17
    clear c17
    go_wp2_with fail
    go_ret
    have H := Option.some.inj HH.out
    clear HH
    subst H
    exact ⟨_, _, _, rfl, ⟨rfl, rfl, rfl⟩, (HS16.out.front 3 rfl).keep 1⟩
def f_l06_Small_l1 : List Hd → Int → Option (Lp Int Int)
  | [], y4 => some (Lp.go y4)
  | x9 :: xs, y4 => if -9223372036854775808 ≤ ((x9.fKey.length : Int) + (x9.fValue.data.length : Int)) ∧ ((x9.fKey.length : Int) + (x9.fValue.data.length : Int)) ≤ 9223372036854775807 then (if -9223372036854775808 ≤ (((x9.fKey.length : Int) + (x9.fValue.data.length : Int)) + 1) ∧ (((x9.fKey.length : Int) + (x9.fValue.data.length : Int)) + 1) ≤ 9223372036854775807 then (if -9223372036854775808 ≤ (y4 + (((x9.fKey.length : Int) + (x9.fValue.data.length : Int)) + 1)) ∧ (y4 + (((x9.fKey.length : Int) + (x9.fValue.data.length : Int)) + 1)) ≤ 9223372036854775807 then (if (y4 + (((x9.fKey.length : Int) + (x9.fValue.data.length : Int)) + 1)) > 1000 then some (Lp.ret 0) else (f_l06_Small_l1 xs (y4 + (((x9.fKey.length : Int) + (x9.fValue.data.length : Int)) + 1)))) else none) else none) else none
def f_l06_Small (a0 : List Hd) : Option (Int) := (f_l06_Small_l1 a0 0).bind fun e => match e with | .ret r => some r | .go y28 => some 1
set_option maxRecDepth 100000 in
set_option maxHeartbeats 6000000 in
theorem f_l06_Small_spec (a0 : List Hd) (A1 : Option Addr) (c2 : Nat) (r : Int) (h : f_l06_Small a0 = some r) : SpecX Try.prog 28 #[.slice A1 a0.length c2] (RX.of (sliceRd 3 Hd_rd) [.slice A1 a0.length c2] a0) (EmpR) (fun v A' N => v = .int .i64 r ∧ A' = EmpR ∧ N = []) := by
  intro F w hA hX
  have HX1 := Lib.hid hX
  clear hX
  have HS0 := Lib.hid (St.start F w (Sep.one hA))
  clear hA
  unfold f_l06_Small at h
  have HH := Lib.hid h
  clear h
  go_enter Try.func28, Try.ntmps28
  go_wp2_with fail
  have H0 := HH.out
  clear HH
  obtain ⟨E6, hE, H⟩ := Option.bind_eq_some_iff.1 H0
  clear H0
  have HHo7 := Lib.hid H
  have HE := Lib.hid hE
  clear H hE
  have hm30 := RX.len_le HX1.out
  go_loopg [3, 8] (a0.length) (fun g8 s3 s8 w3 => ∃ (y4 : Int) (k5 : Nat), k5 + g8 = a0.length ∧ s3 = .int .i64 y4 ∧ s8 = .int .i64 (k5 : Int) ∧ Hid (St F w [EmpR] w3) ∧ Hid (f_l06_Small_l1 (a0.drop k5) y4 = some E6))
  case atStart => exact ⟨0, 0, by simp, rfl, rfl, HS0, Lib.hid (by rw [List.drop_zero]; exact HE.out)⟩
  case round =>
    obtain ⟨y4, k5, hkg12, rfl, rfl, HSr10, HL11⟩ := hrel
    obtain ⟨w3, rfl⟩ : ∃ w3 : World, w3 = wr := ⟨_, rfl⟩
    clear HE
    cases gk with
    | zero =>
      have H := HL11.out
      clear HL11
      rw [List.drop_of_length_le (by omega), f_l06_Small_l1] at H
      have HH := Lib.hid H
      clear H
      have hkg12ge : ¬ ((k5 : Int) < (a0.length : Int)) := by omega
      have H1 := HSr10.out
      clear HSr10
      have HS31 := Lib.hid H1
      clear H1
      have H := Option.some.inj HH.out
      clear HH
      subst H
      have H := HHo7.out
      clear HHo7
      try dsimp only at H
      have HH := Lib.hid H
      clear H
      go_wp2_with fail
      go_ret
      have H := Option.some.inj HH.out
      clear HH
      subst H
      exact ⟨_, _, _, rfl, ⟨rfl, rfl, rfl⟩, (HS31.out.front 0 rfl).keep 1⟩
    | succ g8 =>
      have H := HL11.out
      clear HL11
      obtain ⟨x9, hxx9⟩ : ∃ x, a0[k5]? = some x := ⟨_, List.getElem?_eq_getElem (by omega)⟩
      rw [drop_cons hxx9, f_l06_Small_l1] at H
      have hxx9H := Lib.hid hxx9
      clear hxx9
      have HH := Lib.hid H
      clear H
      have hkg12lt : (k5 : Int) < (a0.length : Int) := by omega
      have H1 := HSr10.out
      clear HSr10
      have HS13 := Lib.hid H1
      clear H1
      obtain ⟨gz14, oz14, rfl, z14cs, z14l, z14c, z14nf, z14r⟩ := RX.elem (by decide) HX1.out hxx9H.out
      obtain ⟨z14S, z14r, z14r2⟩ := z14r
      obtain rfl : z14cs = [.string (bsOf x9.fKey), .bool x9.fValue.null, .string (bsOf x9.fValue.data)] := z14r
      have z14B0 := Lib.hid (show w.cell? ⟨gz14, oz14 + k5 * 3, none⟩ = some (.string (bsOf x9.fKey)) from z14c 0 (by decide))
      have z14B1 := Lib.hid (show w.cell? ⟨gz14, oz14 + k5 * 3 + 1, none⟩ = some (.bool x9.fValue.null) from z14c 1 (by decide))
      have z14B2 := Lib.hid (show w.cell? ⟨gz14, oz14 + k5 * 3 + 2, none⟩ = some (.string (bsOf x9.fValue.data)) from z14c 2 (by decide))
      clear z14c
      have d15 : w3.cell? ⟨gz14, oz14 + k5 * 3, none⟩ = some (.string (bsOf x9.fKey)) := St.old2 HS13.out z14nf z14B0.out
      have d16 : w3.cell? ⟨gz14, oz14 + k5 * 3 + 1, none⟩ = some (.bool x9.fValue.null) := St.old2 HS13.out z14nf z14B1.out
      have d17 : w3.cell? ⟨gz14, oz14 + k5 * 3 + 2, none⟩ = some (.string (bsOf x9.fValue.data)) := St.old2 HS13.out z14nf z14B2.out
      have lt18 : gz14 < w3.heap.size := Nat.lt_of_lt_of_le z14nf.2 HS13.out.fr.size
      have H0 := HH.out
      clear HH
      obtain ⟨⟨c19_0, c19_1⟩, H⟩ := guard_some H0
      clear H0
      have HH := Lib.hid H
      clear H
      have H0 := HH.out
      clear HH
      obtain ⟨⟨c20_0, c20_1⟩, H⟩ := guard_some H0
      clear H0
      have HH := Lib.hid H
      clear H
      have H0 := HH.out
      clear HH
      obtain ⟨⟨c21_0, c21_1⟩, H⟩ := guard_some H0
      clear H0
      have HH := Lib.hid H
      clear H
      by_cases c22 : (y4 + (((x9.fKey.length : Int) + (x9.fValue.data.length : Int)) + 1)) > 1000
      · have H := HH.out
        clear HH
        rw [if_pos c22] at H
        have HH := Lib.hid H
        clear H
        have b23 : decide (1000 < (y4 + (((x9.fKey.length : Int) + (x9.fValue.data.length : Int)) + 1))) = true := decide_eq_true c22
        go_wp2_with fail
        have HS240 := (HS13.out).alloc #[.string (bsOf x9.fKey), .bool x9.fValue.null, .string (bsOf x9.fValue.data)] 58
        try simp (disch := first | rfl | assumption | (simp only [World.size_setCell, World.size_alloc]; omega)) only [World.setCell_alloc_past, World.setCell_alloc_at, World.size_alloc, World.size_setCell, List.setIfInBounds_toArray, List.set_cons_zero, List.set_cons_succ] at HS240
        have HS24 := Lib.hid HS240
        clear HS240
        go_ret
        have H := HH.out
        clear HH
        have H := Option.some.inj H
        subst H
        have H := HHo7.out
        clear HHo7
        dsimp only at H
        have HH := Lib.hid H
        clear H
        have H := Option.some.inj HH.out
        clear HH
        subst H
        exact ⟨_, _, _, rfl, ⟨rfl, rfl, rfl⟩, (HS24.out.front 1 rfl).keep 1⟩
      · have H := HH.out
        clear HH
        rw [if_neg c22] at H
        have HH := Lib.hid H
        clear H
        have b25 : decide (1000 < (y4 + (((x9.fKey.length : Int) + (x9.fValue.data.length : Int)) + 1))) = false := decide_eq_false c22
        go_wp2_with fail
        have HS260 := (HS13.out).alloc #[.string (bsOf x9.fKey), .bool x9.fValue.null, .string (bsOf x9.fValue.data)] 58
        try simp (disch := first | rfl | assumption | (simp only [World.size_setCell, World.size_alloc]; omega)) only [World.setCell_alloc_past, World.setCell_alloc_at, World.size_alloc, World.size_setCell, List.setIfInBounds_toArray, List.set_cons_zero, List.set_cons_succ] at HS260
        have HS26 := Lib.hid HS260
        clear HS260
        go_roundg g8
        case measure => omega
        case rel => exact ⟨(y4 + (((x9.fKey.length : Int) + (x9.fValue.data.length : Int)) + 1)), k5 + 1, by omega, rfl, by go_num, Lib.hid ((HS26.out.front 1 rfl).keep 1), HH⟩
def f_l06_HeaderWrites (a0 : List Hd) : Option (Bool) := (f_l06_speaks).bind fun x3 => if x3 = true then ((f_l06_Small a0).bind fun x8 => if x8 = 0 then some true else ((f_header_Write ([], 0) a0).bind fun st15 => (gOText st15).bind fun (x20, x21, st22) => (f_r06_Right a0).bind fun x26 => if x26 = true then ((gNew x20).bind fun st31 => if x21 = 0 then ((f_r06_Write a0).bind fun x37 => if x20 = x37 then ((f_header_Read st31).bind fun (x44, st47) => (f_r06_Same x44 a0).bind fun x51 => if x51 = true then ((gClose st47).bind fun (x56, st57) => if x56 = 0 then some true else some false) else some false) else some false) else some false) else (if x21 = 4 then (if x20 = [] then some true else some false) else some false))) else some false
set_option maxRecDepth 100000 in
set_option maxHeartbeats 6000000 in
theorem f_l06_HeaderWrites_spec (a0 : List Hd) (A1 : Option Addr) (c2 : Nat) (r : Bool) (h : f_l06_HeaderWrites a0 = some r) : SpecX Try.prog 5 #[.slice A1 a0.length c2] (RX.of (sliceRd 3 Hd_rd) [.slice A1 a0.length c2] a0) (EmpR) (fun v A' N => v = .bool r ∧ A' = EmpR ∧ N = []) := by
  intro F w hA hX
  have HX1 := Lib.hid hX
  clear hX
  have HS0 := Lib.hid (St.start F w (Sep.one hA))
  clear hA
  unfold f_l06_HeaderWrites at h
  have HH := Lib.hid h
  clear h
  go_enter Try.func5, Try.ntmps5
  go_wp2_with fail
  have H0 := HH.out
  clear HH
  obtain ⟨x3, hx4, H⟩ := Option.bind_eq_some_iff.1 H0
  clear H0
  try dsimp only at H
  have hx4H := Lib.hid hx4
  clear hx4
  have HH := Lib.hid H
  clear H
  refine (St.callE HS0.out (f_l06_speaks_spec _ hx4H.out) (RX.reads_triv _ _)).mono ?_
  rintro e w5 ⟨v, A', N, rfl, ⟨rfl, rfl, rfl⟩, H1⟩
  clear hx4H HS0
  try simp only [List.cons_append, List.nil_append, List.set_cons_zero, List.set_cons_succ] at H1
  have HS6 := Lib.hid H1
  clear H1
  by_cases c7 : x3 = true
  · have H := HH.out
    clear HH
    rw [if_pos c7] at H
    have HH := Lib.hid H
    clear H
    subst c7
    go_wp2_with fail
    have H0 := HH.out
    clear HH
    obtain ⟨x8, hx9, H⟩ := Option.bind_eq_some_iff.1 H0
    clear H0
    try dsimp only at H
    have hx9H := Lib.hid hx9
    clear hx9
    have HH := Lib.hid H
    clear H
    refine (St.callE HS6.out (f_l06_Small_spec a0 _ _ _ hx9H.out) (SrcE.old HS6.out HX1.out)).mono ?_
    rintro e w10 ⟨v, A', N, rfl, ⟨rfl, rfl, rfl⟩, H1⟩
    clear hx9H HS6
    try simp only [List.cons_append, List.nil_append, List.set_cons_zero, List.set_cons_succ] at H1
    have HS11 := Lib.hid H1
    clear H1
    by_cases c12 : x8 = 0
    · have H := HH.out
      clear HH
      rw [if_pos c12] at H
      have HH := Lib.hid H
      clear H
      subst c12
      go_wp2_with fail
      go_ret
      have H := Option.some.inj HH.out
      clear HH
      subst H
      exact ⟨_, _, _, rfl, ⟨rfl, rfl, rfl⟩, (HS11.out.front 0 rfl).keep 1⟩
    · have H := HH.out
      clear HH
      rw [if_neg c12] at H
      have HH := Lib.hid H
      clear H
      have b13 : (x8 == 0) = false := beq_eq_false_iff_ne.2 c12
      have b14 : (x8 != 0) = true := bne_iff_ne.2 c12
      clear c12
      go_wp2_with fail
      have H0 := HH.out
      clear HH
      obtain ⟨st15, hx16, H⟩ := Option.bind_eq_some_iff.1 H0
      clear H0
      try dsimp only at H
      have hx16H := Lib.hid hx16
      clear hx16
      have HH := Lib.hid H
      clear H
      have HS170 := OutR.new (HS11.out)
      try simp (disch := first | rfl | assumption | (simp only [World.size_setCell, World.size_alloc]; omega)) only [World.setCell_alloc_past, World.setCell_alloc_at, World.size_alloc, World.size_setCell, List.setIfInBounds_toArray, List.set_cons_zero, List.set_cons_succ] at HS170
      have HS17 := Lib.hid HS170
      clear HS170
      refine (St.callX 0 HS17.out rfl (f_header_Write_spec w10.heap.size ([], 0) a0 _ _ _ hx16H.out) (Src.old HS17.out HX1.out)).mono ?_
      rintro e w18 ⟨v, A', N, rfl, ⟨rfl, rfl, rfl⟩, H1⟩
      clear hx16H HS17
      try simp only [List.cons_append, List.nil_append, List.set_cons_zero, List.set_cons_succ] at H1
      have HS19 := Lib.hid H1
      clear H1
      go_wp2_with fail
      have H0 := HH.out
      clear HH
      obtain ⟨⟨x20, x21, st22⟩, hx23, H⟩ := Option.bind_eq_some_iff.1 H0
      clear H0
      try dsimp only at H
      have hx23H := Lib.hid hx23
      clear hx23
      have HH := Lib.hid H
      clear H
      refine (St.callX 0 HS19.out rfl (gOText_spec w10.heap.size st15 _ hx23H.out) (Src.triv _)).mono ?_
      rintro e w24 ⟨v, A', N, rfl, ⟨rfl, rfl, rfl⟩, H1⟩
      clear hx23H HS19
      try simp only [List.cons_append, List.nil_append, List.set_cons_zero, List.set_cons_succ] at H1
      have HS25 := Lib.hid H1
      clear H1
      go_wp2_with fail
      have H0 := HH.out
      clear HH
      obtain ⟨x26, hx27, H⟩ := Option.bind_eq_some_iff.1 H0
      clear H0
      try dsimp only at H
      have hx27H := Lib.hid hx27
      clear hx27
      have HH := Lib.hid H
      clear H
      refine (St.callE HS25.out (f_r06_Right_spec a0 _ _ _ hx27H.out) (SrcE.old HS25.out HX1.out)).mono ?_
      rintro e w28 ⟨v, A', N, rfl, ⟨rfl, rfl, rfl⟩, H1⟩
      clear hx27H HS25
      try simp only [List.cons_append, List.nil_append, List.set_cons_zero, List.set_cons_succ] at H1
      have HS29 := Lib.hid H1
      clear H1
      by_cases c30 : x26 = true
      · have H := HH.out
        clear HH
        rw [if_pos c30] at H
        have HH := Lib.hid H
        clear H
        subst c30
        go_wp2_with fail
        have H0 := HH.out
        clear HH
        obtain ⟨st31, hx32, H⟩ := Option.bind_eq_some_iff.1 H0
        clear H0
        try dsimp only at H
        have hx32H := Lib.hid hx32
        clear hx32
        have HH := Lib.hid H
        clear H
        refine (St.callE HS29.out (gNew_spec x20 _ hx32H.out) (RX.reads_triv _ _)).mono ?_
        rintro e w33 ⟨v, A', N, rfl, ⟨g34, rfl, rfl, rfl⟩, H1⟩
        clear hx32H HS29
        try simp only [List.cons_append, List.nil_append, List.set_cons_zero, List.set_cons_succ] at H1
        have HS35 := Lib.hid H1
        clear H1
        by_cases c36 : x21 = 0
        · have H := HH.out
          clear HH
          rw [if_pos c36] at H
          have HH := Lib.hid H
          clear H
          subst c36
          go_wp2_with fail
          have H0 := HH.out
          clear HH
          obtain ⟨x37, hx38, H⟩ := Option.bind_eq_some_iff.1 H0
          clear H0
          try dsimp only at H
          have hx38H := Lib.hid hx38
          clear hx38
          have HH := Lib.hid H
          clear H
          refine (St.callE HS35.out (f_r06_Write_spec a0 _ _ _ hx38H.out) (SrcE.old HS35.out HX1.out)).mono ?_
          rintro e w39 ⟨v, A', N, rfl, ⟨rfl, rfl, rfl⟩, H1⟩
          clear hx38H HS35
          try simp only [List.cons_append, List.nil_append, List.set_cons_zero, List.set_cons_succ] at H1
          have HS40 := Lib.hid H1
          clear H1
          by_cases c41 : x20 = x37
          · have H := HH.out
            clear HH
            rw [if_pos c41] at H
            have HH := Lib.hid H
            clear H
            have b42 : (x20 == x37) = true := beq_iff_eq.2 c41
            have b43 : (x20 != x37) = false := bne_eq_false_iff_eq.2 c41
            clear c41
            go_wp2_with fail
            have H0 := HH.out
            clear HH
            obtain ⟨⟨x44, st47⟩, hx48, H⟩ := Option.bind_eq_some_iff.1 H0
            clear H0
            try dsimp only at H
            have hx48H := Lib.hid hx48
            clear hx48
            have HH := Lib.hid H
            clear H
            refine (St.callX 0 HS40.out rfl (f_header_Read_spec g34 st31 _ hx48H.out) (Src.triv _)).mono ?_
            rintro e w49 ⟨v, A', N, rfl, ⟨A45, c46, rfl, rfl, rfl⟩, H1⟩
            clear hx48H HS40
            try simp only [List.cons_append, List.nil_append, List.set_cons_zero, List.set_cons_succ] at H1
            have HS50 := Lib.hid H1
            clear H1
            go_wp2_with fail
            have H0 := HH.out
            clear HH
            obtain ⟨x51, hx52, H⟩ := Option.bind_eq_some_iff.1 H0
            clear H0
            try dsimp only at H
            have hx52H := Lib.hid hx52
            clear hx52
            have HH := Lib.hid H
            clear H
            refine (St.callE HS50.out (f_r06_Same_spec x44 _ _ a0 _ _ _ hx52H.out) (RX.reads_and (SrcE.res 0 HS50.out rfl rd_reads) (SrcE.old HS50.out HX1.out))).mono ?_
            rintro e w53 ⟨v, A', N, rfl, ⟨rfl, rfl, rfl⟩, H1⟩
            clear hx52H HS50
            try simp only [List.cons_append, List.nil_append, List.set_cons_zero, List.set_cons_succ] at H1
            have HS54 := Lib.hid H1
            clear H1
            by_cases c55 : x51 = true
            · have H := HH.out
              clear HH
              rw [if_pos c55] at H
              have HH := Lib.hid H
              clear H
              subst c55
              go_wp2_with fail
              have H0 := HH.out
              clear HH
              obtain ⟨⟨x56, st57⟩, hx58, H⟩ := Option.bind_eq_some_iff.1 H0
              clear H0
              try dsimp only at H
              have hx58H := Lib.hid hx58
              clear hx58
              have HH := Lib.hid H
              clear H
              refine (St.callX 1 HS54.out rfl (gClose_spec g34 st47 _ hx58H.out) (Src.triv _)).mono ?_
              rintro e w59 ⟨v, A', N, rfl, ⟨rfl, rfl, rfl⟩, H1⟩
              clear hx58H HS54
              try simp only [List.cons_append, List.nil_append, List.set_cons_zero, List.set_cons_succ] at H1
              have HS60 := Lib.hid H1
              clear H1
              by_cases c61 : x56 = 0
              · have H := HH.out
                clear HH
                rw [if_pos c61] at H
                have HH := Lib.hid H
                clear H
                subst c61
                go_wp2_with fail
                go_ret
                have H := Option.some.inj HH.out
                clear HH
                subst H
                exact ⟨_, _, _, rfl, ⟨rfl, rfl, rfl⟩, (HS60.out.front 3 rfl).keep 1⟩
              · have H := HH.out
                clear HH
                rw [if_neg c61] at H
                have HH := Lib.hid H
                clear H
                have b62 : (x56 == 0) = false := beq_eq_false_iff_ne.2 c61
                have b63 : (x56 != 0) = true := bne_iff_ne.2 c61
                clear c61
                go_wp2_with fail
                go_ret
                have H := Option.some.inj HH.out
                clear HH
                subst H
                exact ⟨_, _, _, rfl, ⟨rfl, rfl, rfl⟩, (HS60.out.front 3 rfl).keep 1⟩
            · have H := HH.out
              clear HH
              rw [if_neg c55] at H
              have HH := Lib.hid H
              clear H
              have c55 : x51 = false := by simpa using c55
              subst c55
              go_wp2_with fail
              go_ret
              have H := Option.some.inj HH.out
              clear HH
              subst H
              exact ⟨_, _, _, rfl, ⟨rfl, rfl, rfl⟩, (HS54.out.front 3 rfl).keep 1⟩
          · have H := HH.out
            clear HH
            rw [if_neg c41] at H
            have HH := Lib.hid H
            clear H
            have b64 : (x20 == x37) = false := beq_eq_false_iff_ne.2 c41
            have b65 : (x20 != x37) = true := bne_iff_ne.2 c41
            clear c41
            go_wp2_with fail
            go_ret
            have H := Option.some.inj HH.out
            clear HH
            subst H
            exact ⟨_, _, _, rfl, ⟨rfl, rfl, rfl⟩, (HS40.out.front 2 rfl).keep 1⟩
        · have H := HH.out
          clear HH
          rw [if_neg c36] at H
          have HH := Lib.hid H
          clear H
          have b66 : (x21 == 0) = false := beq_eq_false_iff_ne.2 c36
          have b67 : (x21 != 0) = true := bne_iff_ne.2 c36
          clear c36
          go_wp2_with fail
          go_ret
          have H := Option.some.inj HH.out
          clear HH
          subst H
          exact ⟨_, _, _, rfl, ⟨rfl, rfl, rfl⟩, (HS35.out.front 2 rfl).keep 1⟩
      · have H := HH.out
        clear HH
        rw [if_neg c30] at H
        have HH := Lib.hid H
        clear H
        have c30 : x26 = false := by simpa using c30
        subst c30
        by_cases c68 : x21 = 4
        · have H := HH.out
          clear HH
          rw [if_pos c68] at H
          have HH := Lib.hid H
          clear H
          subst c68
          by_cases c69 : x20 = []
          · have H := HH.out
            clear HH
            rw [if_pos c69] at H
            have HH := Lib.hid H
            clear H
            subst c69
            go_wp2_with fail
            go_ret
            have H := Option.some.inj HH.out
            clear HH
            subst H
            exact ⟨_, _, _, rfl, ⟨rfl, rfl, rfl⟩, (HS29.out.front 1 rfl).keep 1⟩
          · have H := HH.out
            clear HH
            rw [if_neg c69] at H
            have HH := Lib.hid H
            clear H
            have b70 : 0 < x20.length := List.length_pos_iff.2 c69
            have b71 : x20.isEmpty = false := by simpa using c69
            have b72 : (x20 == []) = false := beq_eq_false_iff_ne.2 c69
            have b73 : (x20 != []) = true := bne_iff_ne.2 c69
            go_wp2_with fail
            go_ret
            have H := Option.some.inj HH.out
            clear HH
            subst H
            exact ⟨_, _, _, rfl, ⟨rfl, rfl, rfl⟩, (HS29.out.front 1 rfl).keep 1⟩
        · have H := HH.out
          clear HH
          rw [if_neg c68] at H
          have HH := Lib.hid H
          clear H
          have b74 : (x21 == 4) = false := beq_eq_false_iff_ne.2 c68
          have b75 : (x21 != 4) = true := bne_iff_ne.2 c68
          clear c68
          go_wp2_with fail
          go_ret
          have H := Option.some.inj HH.out
          clear HH
          subst H
          exact ⟨_, _, _, rfl, ⟨rfl, rfl, rfl⟩, (HS29.out.front 1 rfl).keep 1⟩
  · have H := HH.out
    clear HH
    rw [if_neg c7] at H
    have HH := Lib.hid H
    clear H
    have c7 : x3 = false := by simpa using c7
    subst c7
    go_wp2_with fail
    go_ret
    have H := Option.some.inj HH.out
    clear HH
    subst H
    exact ⟨_, _, _, rfl, ⟨rfl, rfl, rfl⟩, (HS6.out.front 0 rfl).keep 1⟩
def f_l06_HeaderReads (a0 : List UInt8) : Option (Bool) := (f_l06_speaks).bind fun x1 => if x1 = true then (if (a0.length : Int) > 1000 then some true else ((gNew a0).bind fun st9 => (f_header_Read st9).bind fun (x14, st17) => (f_r06_Read a0).bind fun (x21, x24, x25) => (f_r06_Same x14 x21).bind fun x29 => if x29 = true then ((gErr st17).bind fun (x34, st35) => if x34 = x25 then (if x25 = 0 then ((gAt st35).bind fun (x43, st44) => if x43 = x24 then ((f_r06_Write x14).bind fun x52 => if 0 ≤ x24 ∧ x24 ≤ (a0.length : Int) then (if x52 = (a0.take x24.toNat) then some true else some false) else none) else some false) else some true) else some false) else some false)) else some false
set_option maxRecDepth 100000 in
set_option maxHeartbeats 6000000 in
theorem f_l06_HeaderReads_spec (a0 : List UInt8) (r : Bool) (h : f_l06_HeaderReads a0 = some r) : SpecX Try.prog 6 #[.string (bsOf a0)] .triv (EmpR) (fun v A' N => v = .bool r ∧ A' = EmpR ∧ N = []) := by
  intro F w hA hX
  clear hX
  have HS0 := Lib.hid (St.start F w (Sep.one hA))
  clear hA
  unfold f_l06_HeaderReads at h
  have HH := Lib.hid h
  clear h
  go_enter Try.func6, Try.ntmps6
  go_wp2_with fail
  have H0 := HH.out
  clear HH
  obtain ⟨x1, hx2, H⟩ := Option.bind_eq_some_iff.1 H0
  clear H0
  try dsimp only at H
  have hx2H := Lib.hid hx2
  clear hx2
  have HH := Lib.hid H
  clear H
  refine (St.callE HS0.out (f_l06_speaks_spec _ hx2H.out) (RX.reads_triv _ _)).mono ?_
  rintro e w3 ⟨v, A', N, rfl, ⟨rfl, rfl, rfl⟩, H1⟩
  clear hx2H HS0
  try simp only [List.cons_append, List.nil_append, List.set_cons_zero, List.set_cons_succ] at H1
  have HS4 := Lib.hid H1
  clear H1
  by_cases c5 : x1 = true
  · have H := HH.out
    clear HH
    rw [if_pos c5] at H
    have HH := Lib.hid H
    clear H
    subst c5
    by_cases c6 : (a0.length : Int) > 1000
    · have H := HH.out
      clear HH
      rw [if_pos c6] at H
      have HH := Lib.hid H
      clear H
      have b7 : decide (1000 < (a0.length : Int)) = true := decide_eq_true c6
      go_wp2_with fail
      go_ret
      have H := Option.some.inj HH.out
      clear HH
      subst H
      exact ⟨_, _, _, rfl, ⟨rfl, rfl, rfl⟩, (HS4.out.front 0 rfl).keep 1⟩
    · have H := HH.out
      clear HH
      rw [if_neg c6] at H
      have HH := Lib.hid H
      clear H
      have b8 : decide (1000 < (a0.length : Int)) = false := decide_eq_false c6
      go_wp2_with fail
      have H0 := HH.out
      clear HH
      obtain ⟨st9, hx10, H⟩ := Option.bind_eq_some_iff.1 H0
      clear H0
      try dsimp only at H
      have hx10H := Lib.hid hx10
      clear hx10
      have HH := Lib.hid H
      clear H
      refine (St.callE HS4.out (gNew_spec a0 _ hx10H.out) (RX.reads_triv _ _)).mono ?_
      rintro e w11 ⟨v, A', N, rfl, ⟨g12, rfl, rfl, rfl⟩, H1⟩
      clear hx10H HS4
      try simp only [List.cons_append, List.nil_append, List.set_cons_zero, List.set_cons_succ] at H1
      have HS13 := Lib.hid H1
      clear H1
      go_wp2_with fail
      have H0 := HH.out
      clear HH
      obtain ⟨⟨x14, st17⟩, hx18, H⟩ := Option.bind_eq_some_iff.1 H0
      clear H0
      try dsimp only at H
      have hx18H := Lib.hid hx18
      clear hx18
      have HH := Lib.hid H
      clear H
      refine (St.callX 0 HS13.out rfl (f_header_Read_spec g12 st9 _ hx18H.out) (Src.triv _)).mono ?_
      rintro e w19 ⟨v, A', N, rfl, ⟨A15, c16, rfl, rfl, rfl⟩, H1⟩
      clear hx18H HS13
      try simp only [List.cons_append, List.nil_append, List.set_cons_zero, List.set_cons_succ] at H1
      have HS20 := Lib.hid H1
      clear H1
      go_wp2_with fail
      have H0 := HH.out
      clear HH
      obtain ⟨⟨x21, x24, x25⟩, hx26, H⟩ := Option.bind_eq_some_iff.1 H0
      clear H0
      try dsimp only at H
      have hx26H := Lib.hid hx26
      clear hx26
      have HH := Lib.hid H
      clear H
      refine (St.callE HS20.out (f_r06_Read_spec a0 _ hx26H.out) (RX.reads_triv _ _)).mono ?_
      rintro e w27 ⟨v, A', N, rfl, ⟨A22, c23, rfl, rfl, rfl⟩, H1⟩
      clear hx26H HS20
      try simp only [List.cons_append, List.nil_append, List.set_cons_zero, List.set_cons_succ] at H1
      have HS28 := Lib.hid H1
      clear H1
      go_wp2_with fail
      have H0 := HH.out
      clear HH
      obtain ⟨x29, hx30, H⟩ := Option.bind_eq_some_iff.1 H0
      clear H0
      try dsimp only at H
      have hx30H := Lib.hid hx30
      clear hx30
      have HH := Lib.hid H
      clear H
      refine (St.callE HS28.out (f_r06_Same_spec x14 _ _ x21 _ _ _ hx30H.out) (RX.reads_and (SrcE.res 1 HS28.out rfl rd_reads) (SrcE.res 0 HS28.out rfl rd_reads))).mono ?_
      rintro e w31 ⟨v, A', N, rfl, ⟨rfl, rfl, rfl⟩, H1⟩
      clear hx30H HS28
      try simp only [List.cons_append, List.nil_append, List.set_cons_zero, List.set_cons_succ] at H1
      have HS32 := Lib.hid H1
      clear H1
      by_cases c33 : x29 = true
      · have H := HH.out
        clear HH
        rw [if_pos c33] at H
        have HH := Lib.hid H
        clear H
        subst c33
        go_wp2_with fail
        have H0 := HH.out
        clear HH
        obtain ⟨⟨x34, st35⟩, hx36, H⟩ := Option.bind_eq_some_iff.1 H0
        clear H0
        try dsimp only at H
        have hx36H := Lib.hid hx36
        clear hx36
        have HH := Lib.hid H
        clear H
        refine (St.callX 2 HS32.out rfl (gErr_spec g12 st17 _ hx36H.out) (Src.triv _)).mono ?_
        rintro e w37 ⟨v, A', N, rfl, ⟨rfl, rfl, rfl⟩, H1⟩
        clear hx36H HS32
        try simp only [List.cons_append, List.nil_append, List.set_cons_zero, List.set_cons_succ] at H1
        have HS38 := Lib.hid H1
        clear H1
        by_cases c39 : x34 = x25
        · have H := HH.out
          clear HH
          rw [if_pos c39] at H
          have HH := Lib.hid H
          clear H
          have b40 : (x34 == x25) = true := beq_iff_eq.2 c39
          have b41 : (x34 != x25) = false := bne_eq_false_iff_eq.2 c39
          clear c39
          go_wp2_with fail
          by_cases c42 : x25 = 0
          · have H := HH.out
            clear HH
            rw [if_pos c42] at H
            have HH := Lib.hid H
            clear H
            subst c42
            have H0 := HH.out
            clear HH
            obtain ⟨⟨x43, st44⟩, hx45, H⟩ := Option.bind_eq_some_iff.1 H0
            clear H0
            try dsimp only at H
            have hx45H := Lib.hid hx45
            clear hx45
            have HH := Lib.hid H
            clear H
            by_cases c49 : x43 = x24
            · have H := HH.out
              clear HH
              rw [if_pos c49] at H
              have HH := Lib.hid H
              clear H
              have b50 : (x43 == x24) = true := beq_iff_eq.2 c49
              have b51 : (x43 != x24) = false := bne_eq_false_iff_eq.2 c49
              clear c49
              have H0 := HH.out
              clear HH
              obtain ⟨x52, hx53, H⟩ := Option.bind_eq_some_iff.1 H0
              clear H0
              try dsimp only at H
              have hx53H := Lib.hid hx53
              clear hx53
              have HH := Lib.hid H
              clear H
              have H0 := HH.out
              clear HH
              obtain ⟨⟨c57_0, c57_1⟩, H⟩ := guard_some H0
              clear H0
              have HH := Lib.hid H
              clear H
              have e56 : (bsOf a0).extract 0 x24.toNat = bsOf (a0.take x24.toNat) := bsOf_extract0 _ _
              by_cases c58 : x52 = (a0.take x24.toNat)
              · have H := HH.out
                clear HH
                rw [if_pos c58] at H
                have HH := Lib.hid H
                clear H
                have b59 : (x52 == (a0.take x24.toNat)) = true := beq_iff_eq.2 c58
                have b60 : (x52 != (a0.take x24.toNat)) = false := bne_eq_false_iff_eq.2 c58
                clear c58
                go_region_held3 (fun w' => True) (first | trivial | go_keep) (first | (go_at_call 20; have HS47 := Lib.hid HS38.out.drew; clear HS38; refine (St.callX 2 HS47.out rfl (gAt_spec g12 st35 _ hx45H.out) (Src.triv _)).mono ?_; rintro e w46 ⟨v, A', N, rfl, ⟨rfl, rfl, rfl⟩, H1⟩; clear hx45H HS47; (try simp only [List.cons_append, List.nil_append, List.set_cons_zero, List.set_cons_succ] at H1); have HS48 := Lib.hid H1; clear H1) | (go_at_call 31; refine (St.callE HS48.out (f_r06_Write_spec x14 _ _ _ hx53H.out) (SrcE.res 1 HS48.out rfl rd_reads)).mono ?_; rintro e w54 ⟨v, A', N, rfl, ⟨rfl, rfl, rfl⟩, H1⟩; clear hx53H HS48; (try simp only [List.cons_append, List.nil_append, List.set_cons_zero, List.set_cons_succ] at H1); have HS55 := Lib.hid H1; clear H1))
                have H1 := HS55.out
                clear HS55
                have HS61 := Lib.hid H1
                clear H1
                go_wp2_with fail
                go_ret
                have H := Option.some.inj HH.out
                clear HH
                subst H
                exact ⟨_, _, _, rfl, ⟨rfl, rfl, rfl⟩, (HS61.out.front 3 rfl).keep 1⟩
              · have H := HH.out
                clear HH
                rw [if_neg c58] at H
                have HH := Lib.hid H
                clear H
                have b62 : (x52 == (a0.take x24.toNat)) = false := beq_eq_false_iff_ne.2 c58
                have b63 : (x52 != (a0.take x24.toNat)) = true := bne_iff_ne.2 c58
                clear c58
                go_region_held3 (fun w' => True) (first | trivial | go_keep) (first | (go_at_call 20; have HS47 := Lib.hid HS38.out.drew; clear HS38; refine (St.callX 2 HS47.out rfl (gAt_spec g12 st35 _ hx45H.out) (Src.triv _)).mono ?_; rintro e w46 ⟨v, A', N, rfl, ⟨rfl, rfl, rfl⟩, H1⟩; clear hx45H HS47; (try simp only [List.cons_append, List.nil_append, List.set_cons_zero, List.set_cons_succ] at H1); have HS48 := Lib.hid H1; clear H1) | (go_at_call 31; refine (St.callE HS48.out (f_r06_Write_spec x14 _ _ _ hx53H.out) (SrcE.res 1 HS48.out rfl rd_reads)).mono ?_; rintro e w54 ⟨v, A', N, rfl, ⟨rfl, rfl, rfl⟩, H1⟩; clear hx53H HS48; (try simp only [List.cons_append, List.nil_append, List.set_cons_zero, List.set_cons_succ] at H1); have HS55 := Lib.hid H1; clear H1))
                have H1 := HS55.out
                clear HS55
                have HS64 := Lib.hid H1
                clear H1
                go_wp2_with fail
                go_ret
                have H := Option.some.inj HH.out
                clear HH
                subst H
                exact ⟨_, _, _, rfl, ⟨rfl, rfl, rfl⟩, (HS64.out.front 3 rfl).keep 1⟩
            · have H := HH.out
              clear HH
              rw [if_neg c49] at H
              have HH := Lib.hid H
              clear H
              have b65 : (x43 == x24) = false := beq_eq_false_iff_ne.2 c49
              have b66 : (x43 != x24) = true := bne_iff_ne.2 c49
              clear c49
              obtain rfl : st44 = st35 := (by have h0 := hx45H.out; cases h0; rfl)
              refine wp_region_st HS38.out (by kernel_rfl) (by kernel_rfl) ?_
              repeat (refine wpQuiet_step (fun K hK => ?_); go_simp; first | (refine hK _ ?_; clear hK K) | (apply Exists.intro; refine ⟨fun w1 hw1 => ?_, hK _ ?_⟩; (first | ((go_at_call 20); have HQ := Lib.hid hw1; clear hw1; exact (St.callX 2 HQ.out rfl (gAt_spec g12 _ _ hx45H.out) (Src.triv _)).mono (by rintro e w2 ⟨v, A', N, rfl, ⟨rfl, rfl, rfl⟩, H⟩; exact ⟨rfl, H⟩)) | rfl); clear hK K))
              refine wpQuiet_nil ?_
              intro w46 H1
              clear HS38
              skip
              have HS48 := Lib.hid H1
              clear H1
              have H1 := HS48.out
              clear HS48
              have HS67 := Lib.hid H1
              clear H1
              go_wp2_with fail
              go_ret
              have H := Option.some.inj HH.out
              clear HH
              subst H
              exact ⟨_, _, _, rfl, ⟨rfl, rfl, rfl⟩, (HS67.out.front 3 rfl).keep 1⟩
          · have H := HH.out
            clear HH
            rw [if_neg c42] at H
            have HH := Lib.hid H
            clear H
            have b68 : (x25 == 0) = false := beq_eq_false_iff_ne.2 c42
            have b69 : (x25 != 0) = true := bne_iff_ne.2 c42
            clear c42
            go_quiet (fail)
            go_wp2_with fail
            go_ret
            have H := Option.some.inj HH.out
            clear HH
            subst H
            exact ⟨_, _, _, rfl, ⟨rfl, rfl, rfl⟩, ((HS38.out.drewN _).front 3 rfl).keep 1⟩
        · have H := HH.out
          clear HH
          rw [if_neg c39] at H
          have HH := Lib.hid H
          clear H
          have b70 : (x34 == x25) = false := beq_eq_false_iff_ne.2 c39
          have b71 : (x34 != x25) = true := bne_iff_ne.2 c39
          clear c39
          go_wp2_with fail
          go_ret
          have H := Option.some.inj HH.out
          clear HH
          subst H
          exact ⟨_, _, _, rfl, ⟨rfl, rfl, rfl⟩, (HS38.out.front 3 rfl).keep 1⟩
      · have H := HH.out
        clear HH
        rw [if_neg c33] at H
        have HH := Lib.hid H
        clear H
        have c33 : x29 = false := by simpa using c33
        subst c33
        go_wp2_with fail
        go_ret
        have H := Option.some.inj HH.out
        clear HH
        subst H
        exact ⟨_, _, _, rfl, ⟨rfl, rfl, rfl⟩, (HS32.out.front 3 rfl).keep 1⟩
  · have H := HH.out
    clear HH
    rw [if_neg c5] at H
    have HH := Lib.hid H
    clear H
    have c5 : x1 = false := by simpa using c5
    subst c5
    go_wp2_with fail
    go_ret
    have H := Option.some.inj HH.out
    clear HH
    subst H
    exact ⟨_, _, _, rfl, ⟨rfl, rfl, rfl⟩, (HS4.out.front 0 rfl).keep 1⟩
def f_l06_HeaderFinds_l1 (a1 : List UInt8) : List Hd → Bool → Bool → List UInt8 → Option (Bool × Bool × List UInt8)
  | [], y105, y107, y108 => some (y105, y107, y108)
  | x112 :: xs, y105, y107, y108 => if x112.fKey = a1 then (f_l06_HeaderFinds_l1 a1 xs true x112.fValue.null x112.fValue.data) else (f_l06_HeaderFinds_l1 a1 xs y105 y107 y108)
def f_l06_HeaderFinds (a0 : List Hd) (a1 : List UInt8) : Option (Bool) := (f_l06_speaks).bind fun x88 => if x88 = true then ((f_l06_Small a0).bind fun x93 => if x93 = 0 then some true else (if (a1.length : Int) > 200 then some true else ((f_l06_HeaderFinds_l1 a1 a0 false false []).bind fun (y137, y139, y140) => (f_header_Find a0 a1).bind fun (x141, x142) => if x141.null = y139 then (if x141.data = y140 then (if x142 = true then (if y137 = true then some true else some false) else (if y137 = true then some false else some true)) else some false) else some false))) else some false
set_option maxRecDepth 100000 in
set_option maxHeartbeats 6000000 in
theorem f_l06_HeaderFinds_spec (a0 : List Hd) (A1 : Option Addr) (c2 : Nat) (a1 : List UInt8) (r : Bool) (h : f_l06_HeaderFinds a0 a1 = some r) : SpecX Try.prog 7 #[.slice A1 a0.length c2, .string (bsOf a1)] (RX.of (sliceRd 3 Hd_rd) [.slice A1 a0.length c2] a0) (EmpR) (fun v A' N => v = .bool r ∧ A' = EmpR ∧ N = []) := by
  intro F w hA hX
  have HX1 := Lib.hid hX
  clear hX
  have HS0 := Lib.hid (St.start F w (Sep.one hA))
  clear hA
  unfold f_l06_HeaderFinds at h
  have HH := Lib.hid h
  clear h
  go_enter Try.func7, Try.ntmps7
  go_wp2_with fail
  have H0 := HH.out
  clear HH
  obtain ⟨x88, hx89, H⟩ := Option.bind_eq_some_iff.1 H0
  clear H0
  try dsimp only at H
  have hx89H := Lib.hid hx89
  clear hx89
  have HH := Lib.hid H
  clear H
  refine (St.callE HS0.out (f_l06_speaks_spec _ hx89H.out) (RX.reads_triv _ _)).mono ?_
  rintro e w90 ⟨v, A', N, rfl, ⟨rfl, rfl, rfl⟩, H1⟩
  clear hx89H HS0
  try simp only [List.cons_append, List.nil_append, List.set_cons_zero, List.set_cons_succ] at H1
  have HS91 := Lib.hid H1
  clear H1
  by_cases c92 : x88 = true
  · have H := HH.out
    clear HH
    rw [if_pos c92] at H
    have HH := Lib.hid H
    clear H
    subst c92
    go_wp2_with fail
    have H0 := HH.out
    clear HH
    obtain ⟨x93, hx94, H⟩ := Option.bind_eq_some_iff.1 H0
    clear H0
    try dsimp only at H
    have hx94H := Lib.hid hx94
    clear hx94
    have HH := Lib.hid H
    clear H
    refine (St.callE HS91.out (f_l06_Small_spec a0 _ _ _ hx94H.out) (SrcE.old HS91.out HX1.out)).mono ?_
    rintro e w95 ⟨v, A', N, rfl, ⟨rfl, rfl, rfl⟩, H1⟩
    clear hx94H HS91
    try simp only [List.cons_append, List.nil_append, List.set_cons_zero, List.set_cons_succ] at H1
    have HS96 := Lib.hid H1
    clear H1
    by_cases c97 : x93 = 0
    · have H := HH.out
      clear HH
      rw [if_pos c97] at H
      have HH := Lib.hid H
      clear H
      subst c97
      go_wp2_with fail
      go_ret
      have H := Option.some.inj HH.out
      clear HH
      subst H
      exact ⟨_, _, _, rfl, ⟨rfl, rfl, rfl⟩, (HS96.out.front 0 rfl).keep 1⟩
    · have H := HH.out
      clear HH
      rw [if_neg c97] at H
      have HH := Lib.hid H
      clear H
      have b98 : (x93 == 0) = false := beq_eq_false_iff_ne.2 c97
      have b99 : (x93 != 0) = true := bne_iff_ne.2 c97
      clear c97
      by_cases c100 : (a1.length : Int) > 200
      · have H := HH.out
        clear HH
        rw [if_pos c100] at H
        have HH := Lib.hid H
        clear H
        have b101 : decide (200 < (a1.length : Int)) = true := decide_eq_true c100
        go_wp2_with fail
        go_ret
        have H := Option.some.inj HH.out
        clear HH
        subst H
        exact ⟨_, _, _, rfl, ⟨rfl, rfl, rfl⟩, (HS96.out.front 0 rfl).keep 1⟩
      · have H := HH.out
        clear HH
        rw [if_neg c100] at H
        have HH := Lib.hid H
        clear H
        have b102 : decide (200 < (a1.length : Int)) = false := decide_eq_false c100
        have HS1030 := (HS96.out).alloc #[.bool false, .string ⟨#[]⟩] 26
        try simp (disch := first | rfl | assumption | (simp only [World.size_setCell, World.size_alloc]; omega)) only [World.setCell_alloc_past, World.setCell_alloc_at, World.size_alloc, World.size_setCell, List.setIfInBounds_toArray, List.set_cons_zero, List.set_cons_succ] at HS1030
        have HS103 := Lib.hid HS1030
        clear HS1030
        go_wp2_with fail
        have H0 := HH.out
        clear HH
        obtain ⟨E109, hE, H⟩ := Option.bind_eq_some_iff.1 H0
        clear H0
        have HHo110 := Lib.hid H
        have HE := Lib.hid hE
        clear H hE
        have hm172 := RX.len_le HX1.out
        go_loopg [6, 24] (a0.length) (fun g111 s6 s24 w104 => ∃ (y105 : Bool) (k106 : Nat) (y107 : Bool) (y108 : List UInt8), k106 + g111 = a0.length ∧ s6 = .bool y105 ∧ s24 = .int .i64 (k106 : Int) ∧ Hid (St F w [BlkR w95.heap.size 26 #[.bool y107, .string (bsOf y108)], EmpR] w104) ∧ Hid (f_l06_HeaderFinds_l1 a1 (a0.drop k106) y105 y107 y108 = some E109))
        case atStart => exact ⟨false, 0, false, [], by simp, rfl, rfl, HS103, Lib.hid (by rw [List.drop_zero]; exact HE.out)⟩
        case round =>
          obtain ⟨y105, k106, y107, y108, hkg115, rfl, rfl, HSr113, HL114⟩ := hrel
          obtain ⟨w104, rfl⟩ : ∃ w104 : World, w104 = wr := ⟨_, rfl⟩
          clear HE
          cases gk with
          | zero =>
            have H := HL114.out
            clear HL114
            rw [List.drop_of_length_le (by omega), f_l06_HeaderFinds_l1] at H
            have HH := Lib.hid H
            clear H
            have hkg115ge : ¬ ((k106 : Int) < (a0.length : Int)) := by omega
            have H1 := HSr113.out
            clear HSr113
            have lt173 : w95.heap.size < w104.heap.size := heap_lt (St.blk 0 H1 rfl)
            have lt174 : w95.heap.size < w104.heap.size + 1 := Nat.lt_succ_of_lt lt173
            have lt175 : w95.heap.size < w104.heap.size + 1 + 1 := Nat.lt_succ_of_lt lt174
            have d176 : w104.cell? ⟨w95.heap.size, 0, none⟩ = some (.bool y107) := heap_at (St.blk 0 H1 rfl) 0
            have d177 : w104.cell? ⟨w95.heap.size, 1, none⟩ = some (.string (bsOf y108)) := heap_at (St.blk 0 H1 rfl) 1
            have z178 : w104.frozen? ⟨w95.heap.size, 0, none⟩ = false := heap_free (St.blk 0 H1 rfl) 0
            have z179 : w104.frozen? ⟨w95.heap.size, 1, none⟩ = false := heap_free (St.blk 0 H1 rfl) 1
            have HS180 := Lib.hid H1
            clear H1
            have H := Option.some.inj HH.out
            clear HH
            subst H
            have H := HHo110.out
            clear HHo110
            try dsimp only at H
            have HH := Lib.hid H
            clear H
            go_wp2_with fail
            have H0 := HH.out
            clear HH
            obtain ⟨⟨x181, x182⟩, hx183, H⟩ := Option.bind_eq_some_iff.1 H0
            clear H0
            try dsimp only at H
            have hx183H := Lib.hid hx183
            clear hx183
            have HH := Lib.hid H
            clear H
            refine (St.callE HS180.out (f_header_Find_spec a0 _ _ a1 _ hx183H.out) (SrcE.old HS180.out HX1.out)).mono ?_
            rintro e w184 ⟨v, A', N, rfl, ⟨rfl, rfl, rfl⟩, H1⟩
            clear hx183H HS180
            try simp only [List.cons_append, List.nil_append, List.set_cons_zero, List.set_cons_succ] at H1
            clear lt173 lt174 lt175 d176 d177 z178 z179
            have lt185 : w95.heap.size < w184.heap.size := heap_lt (St.blk 0 H1 rfl)
            have lt186 : w95.heap.size < w184.heap.size + 1 := Nat.lt_succ_of_lt lt185
            have lt187 : w95.heap.size < w184.heap.size + 1 + 1 := Nat.lt_succ_of_lt lt186
            have d188 : w184.cell? ⟨w95.heap.size, 0, none⟩ = some (.bool y107) := heap_at (St.blk 0 H1 rfl) 0
            have d189 : w184.cell? ⟨w95.heap.size, 1, none⟩ = some (.string (bsOf y108)) := heap_at (St.blk 0 H1 rfl) 1
            have z190 : w184.frozen? ⟨w95.heap.size, 0, none⟩ = false := heap_free (St.blk 0 H1 rfl) 0
            have z191 : w184.frozen? ⟨w95.heap.size, 1, none⟩ = false := heap_free (St.blk 0 H1 rfl) 1
            have HS192 := Lib.hid H1
            clear H1
            by_cases c193 : x181.null = y107
            · have H := HH.out
              clear HH
              rw [if_pos c193] at H
              have HH := Lib.hid H
              clear H
              have b194 : (x181.null == y107) = true := beq_iff_eq.2 c193
              have b195 : (x181.null != y107) = false := bne_eq_false_iff_eq.2 c193
              clear c193
              by_cases c196 : x181.data = y108
              · have H := HH.out
                clear HH
                rw [if_pos c196] at H
                have HH := Lib.hid H
                clear H
                have b197 : (x181.data == y108) = true := beq_iff_eq.2 c196
                have b198 : (x181.data != y108) = false := bne_eq_false_iff_eq.2 c196
                clear c196
                by_cases c199 : x182 = true
                · have H := HH.out
                  clear HH
                  rw [if_pos c199] at H
                  have HH := Lib.hid H
                  clear H
                  subst c199
                  by_cases c200 : y105 = true
                  · have H := HH.out
                    clear HH
                    rw [if_pos c200] at H
                    have HH := Lib.hid H
                    clear H
                    subst c200
                    go_wp2_with fail
                    have HS2010 := (HS192.out).alloc #[.bool x181.null, .string (bsOf x181.data)] 26
                    try simp (disch := first | rfl | assumption | (simp only [World.size_setCell, World.size_alloc]; omega)) only [World.setCell_alloc_past, World.setCell_alloc_at, World.size_alloc, World.size_setCell, List.setIfInBounds_toArray, List.set_cons_zero, List.set_cons_succ] at HS2010
                    have HS201 := Lib.hid HS2010
                    clear HS2010
                    go_ret
                    have H := Option.some.inj HH.out
                    clear HH
                    subst H
                    exact ⟨_, _, _, rfl, ⟨rfl, rfl, rfl⟩, (HS201.out.front 2 rfl).keep 1⟩
                  · have H := HH.out
                    clear HH
                    rw [if_neg c200] at H
                    have HH := Lib.hid H
                    clear H
                    have c200 : y105 = false := by simpa using c200
                    subst c200
                    go_wp2_with fail
                    have HS2020 := (HS192.out).alloc #[.bool x181.null, .string (bsOf x181.data)] 26
                    try simp (disch := first | rfl | assumption | (simp only [World.size_setCell, World.size_alloc]; omega)) only [World.setCell_alloc_past, World.setCell_alloc_at, World.size_alloc, World.size_setCell, List.setIfInBounds_toArray, List.set_cons_zero, List.set_cons_succ] at HS2020
                    have HS202 := Lib.hid HS2020
                    clear HS2020
                    go_ret
                    have H := Option.some.inj HH.out
                    clear HH
                    subst H
                    exact ⟨_, _, _, rfl, ⟨rfl, rfl, rfl⟩, (HS202.out.front 2 rfl).keep 1⟩
                · have H := HH.out
                  clear HH
                  rw [if_neg c199] at H
                  have HH := Lib.hid H
                  clear H
                  have c199 : x182 = false := by simpa using c199
                  subst c199
                  by_cases c203 : y105 = true
                  · have H := HH.out
                    clear HH
                    rw [if_pos c203] at H
                    have HH := Lib.hid H
                    clear H
                    subst c203
                    go_wp2_with fail
                    have HS2040 := (HS192.out).alloc #[.bool x181.null, .string (bsOf x181.data)] 26
                    try simp (disch := first | rfl | assumption | (simp only [World.size_setCell, World.size_alloc]; omega)) only [World.setCell_alloc_past, World.setCell_alloc_at, World.size_alloc, World.size_setCell, List.setIfInBounds_toArray, List.set_cons_zero, List.set_cons_succ] at HS2040
                    have HS204 := Lib.hid HS2040
                    clear HS2040
                    go_ret
                    have H := Option.some.inj HH.out
                    clear HH
                    subst H
                    exact ⟨_, _, _, rfl, ⟨rfl, rfl, rfl⟩, (HS204.out.front 2 rfl).keep 1⟩
                  · have H := HH.out
                    clear HH
                    rw [if_neg c203] at H
                    have HH := Lib.hid H
                    clear H
                    have c203 : y105 = false := by simpa using c203
                    subst c203
                    go_wp2_with fail
                    have HS2050 := (HS192.out).alloc #[.bool x181.null, .string (bsOf x181.data)] 26
                    try simp (disch := first | rfl | assumption | (simp only [World.size_setCell, World.size_alloc]; omega)) only [World.setCell_alloc_past, World.setCell_alloc_at, World.size_alloc, World.size_setCell, List.setIfInBounds_toArray, List.set_cons_zero, List.set_cons_succ] at HS2050
                    have HS205 := Lib.hid HS2050
                    clear HS2050
                    go_ret
                    have H := Option.some.inj HH.out
                    clear HH
                    subst H
                    exact ⟨_, _, _, rfl, ⟨rfl, rfl, rfl⟩, (HS205.out.front 2 rfl).keep 1⟩
              · have H := HH.out
                clear HH
                rw [if_neg c196] at H
                have HH := Lib.hid H
                clear H
                have b206 : (x181.data == y108) = false := beq_eq_false_iff_ne.2 c196
                have b207 : (x181.data != y108) = true := bne_iff_ne.2 c196
                clear c196
                go_wp2_with fail
                have HS2080 := (HS192.out).alloc #[.bool x181.null, .string (bsOf x181.data)] 26
                try simp (disch := first | rfl | assumption | (simp only [World.size_setCell, World.size_alloc]; omega)) only [World.setCell_alloc_past, World.setCell_alloc_at, World.size_alloc, World.size_setCell, List.setIfInBounds_toArray, List.set_cons_zero, List.set_cons_succ] at HS2080
                have HS208 := Lib.hid HS2080
                clear HS2080
                go_ret
                have H := Option.some.inj HH.out
                clear HH
                subst H
                exact ⟨_, _, _, rfl, ⟨rfl, rfl, rfl⟩, (HS208.out.front 2 rfl).keep 1⟩
            · have H := HH.out
              clear HH
              rw [if_neg c193] at H
              have HH := Lib.hid H
              clear H
              have b209 : (x181.null == y107) = false := beq_eq_false_iff_ne.2 c193
              have b210 : (x181.null != y107) = true := bne_iff_ne.2 c193
              clear c193
              go_wp2_with fail
              have HS2110 := (HS192.out).alloc #[.bool x181.null, .string (bsOf x181.data)] 26
              try simp (disch := first | rfl | assumption | (simp only [World.size_setCell, World.size_alloc]; omega)) only [World.setCell_alloc_past, World.setCell_alloc_at, World.size_alloc, World.size_setCell, List.setIfInBounds_toArray, List.set_cons_zero, List.set_cons_succ] at HS2110
              have HS211 := Lib.hid HS2110
              clear HS2110
              go_ret
              have H := Option.some.inj HH.out
              clear HH
              subst H
              exact ⟨_, _, _, rfl, ⟨rfl, rfl, rfl⟩, (HS211.out.front 2 rfl).keep 1⟩
          | succ g111 =>
            have H := HL114.out
            clear HL114
            obtain ⟨x112, hxx112⟩ : ∃ x, a0[k106]? = some x := ⟨_, List.getElem?_eq_getElem (by omega)⟩
            rw [drop_cons hxx112, f_l06_HeaderFinds_l1] at H
            have hxx112H := Lib.hid hxx112
            clear hxx112
            have HH := Lib.hid H
            clear H
            have hkg115lt : (k106 : Int) < (a0.length : Int) := by omega
            have H1 := HSr113.out
            clear HSr113
            have lt116 : w95.heap.size < w104.heap.size := heap_lt (St.blk 0 H1 rfl)
            have lt117 : w95.heap.size < w104.heap.size + 1 := Nat.lt_succ_of_lt lt116
            have lt118 : w95.heap.size < w104.heap.size + 1 + 1 := Nat.lt_succ_of_lt lt117
            have d119 : w104.cell? ⟨w95.heap.size, 0, none⟩ = some (.bool y107) := heap_at (St.blk 0 H1 rfl) 0
            have d120 : w104.cell? ⟨w95.heap.size, 1, none⟩ = some (.string (bsOf y108)) := heap_at (St.blk 0 H1 rfl) 1
            have z121 : w104.frozen? ⟨w95.heap.size, 0, none⟩ = false := heap_free (St.blk 0 H1 rfl) 0
            have z122 : w104.frozen? ⟨w95.heap.size, 1, none⟩ = false := heap_free (St.blk 0 H1 rfl) 1
            have HS123 := Lib.hid H1
            clear H1
            obtain ⟨gz124, oz124, rfl, z124cs, z124l, z124c, z124nf, z124r⟩ := RX.elem (by decide) HX1.out hxx112H.out
            obtain ⟨z124S, z124r, z124r2⟩ := z124r
            obtain rfl : z124cs = [.string (bsOf x112.fKey), .bool x112.fValue.null, .string (bsOf x112.fValue.data)] := z124r
            have z124B0 := Lib.hid (show w.cell? ⟨gz124, oz124 + k106 * 3, none⟩ = some (.string (bsOf x112.fKey)) from z124c 0 (by decide))
            have z124B1 := Lib.hid (show w.cell? ⟨gz124, oz124 + k106 * 3 + 1, none⟩ = some (.bool x112.fValue.null) from z124c 1 (by decide))
            have z124B2 := Lib.hid (show w.cell? ⟨gz124, oz124 + k106 * 3 + 2, none⟩ = some (.string (bsOf x112.fValue.data)) from z124c 2 (by decide))
            clear z124c
            have d125 : w104.cell? ⟨gz124, oz124 + k106 * 3, none⟩ = some (.string (bsOf x112.fKey)) := St.old2 HS123.out z124nf z124B0.out
            have d126 : w104.cell? ⟨gz124, oz124 + k106 * 3 + 1, none⟩ = some (.bool x112.fValue.null) := St.old2 HS123.out z124nf z124B1.out
            have d127 : w104.cell? ⟨gz124, oz124 + k106 * 3 + 2, none⟩ = some (.string (bsOf x112.fValue.data)) := St.old2 HS123.out z124nf z124B2.out
            have lt128 : gz124 < w104.heap.size := Nat.lt_of_lt_of_le z124nf.2 HS123.out.fr.size
            by_cases c129 : x112.fKey = a1
            · have H := HH.out
              clear HH
              rw [if_pos c129] at H
              have HH := Lib.hid H
              clear H
              have b130 : (x112.fKey == a1) = true := beq_iff_eq.2 c129
              have b131 : (x112.fKey != a1) = false := bne_eq_false_iff_eq.2 c129
              clear c129
              go_wp2_with fail
              have HS1320 := (((HS123.out).alloc #[.string (bsOf x112.fKey), .bool x112.fValue.null, .string (bsOf x112.fValue.data)] 58).set 1 rfl 0 (.bool x112.fValue.null)).set 1 rfl 1 (.string (bsOf x112.fValue.data))
              try simp (disch := first | rfl | assumption | (simp only [World.size_setCell, World.size_alloc]; omega)) only [World.setCell_alloc_past, World.setCell_alloc_at, World.size_alloc, World.size_setCell, List.setIfInBounds_toArray, List.set_cons_zero, List.set_cons_succ] at HS1320
              have HS132 := Lib.hid HS1320
              clear HS1320
              go_roundg g111
              case measure => omega
              case rel => exact ⟨true, k106 + 1, x112.fValue.null, x112.fValue.data, by omega, rfl, by go_num, Lib.hid (((HS132.out.front 2 rfl).front 2 rfl).keep 2), HH⟩
            · have H := HH.out
              clear HH
              rw [if_neg c129] at H
              have HH := Lib.hid H
              clear H
              have b133 : (x112.fKey == a1) = false := beq_eq_false_iff_ne.2 c129
              have b134 : (x112.fKey != a1) = true := bne_iff_ne.2 c129
              clear c129
              go_wp2_with fail
              have HS1350 := (HS123.out).alloc #[.string (bsOf x112.fKey), .bool x112.fValue.null, .string (bsOf x112.fValue.data)] 58
              try simp (disch := first | rfl | assumption | (simp only [World.size_setCell, World.size_alloc]; omega)) only [World.setCell_alloc_past, World.setCell_alloc_at, World.size_alloc, World.size_setCell, List.setIfInBounds_toArray, List.set_cons_zero, List.set_cons_succ] at HS1350
              have HS135 := Lib.hid HS1350
              clear HS1350
              go_roundg g111
              case measure => omega
              case rel => exact ⟨y105, k106 + 1, y107, y108, by omega, rfl, by go_num, Lib.hid (((HS135.out.front 2 rfl).front 2 rfl).keep 2), HH⟩
  · have H := HH.out
    clear HH
    rw [if_neg c92] at H
    have HH := Lib.hid H
    clear H
    have c92 : x88 = false := by simpa using c92
    subst c92
    go_wp2_with fail
    go_ret
    have H := Option.some.inj HH.out
    clear HH
    subst H
    exact ⟨_, _, _, rfl, ⟨rfl, rfl, rfl⟩, (HS91.out.front 0 rfl).keep 1⟩
end Go.Proofs.Ytdlpmcbglmgpiaa.Sl
