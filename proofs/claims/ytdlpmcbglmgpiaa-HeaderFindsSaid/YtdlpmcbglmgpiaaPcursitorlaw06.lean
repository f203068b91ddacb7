/- Printed by g.py: package cursitorlaw06. -/
import Derived.Test.YtdlpmcbglmgpiaaGb
import Derived.Test.YtdlpmcbglmgpiaaT
import Derived.Test.YtdlpmcbglmgpiaaPcursitorref06
import Derived.Test.YtdlpmcbglmgpiaaPheader
import Derived.Deep.LoopGhost
import Derived.WalkLawsBesides
import Derived.IntWalk
import Derived.Deep.RegionHeld3
namespace Go.Proofs.Ytdlpmcbglmgpiaa.Sl
open Go.RowKit
set_option linter.unusedVariables false
set_option linter.unusedSimpArgs false
attribute [local go_sem] bsOf_toList bsOf_size bsOf_app
def f_l06_speaks  : Option (Bool) := (f_header_Write ([], 0) [(⟨[97], (⟨true, []⟩ : Bl)⟩ : Hd)]).bind fun st1 => (gOText st1).bind fun (x6, x7, st8) => (gNew x6).bind fun st12 => if x7 = 0 then (if x6 = [2, 2, 97, 1] then ((f_header_Read st12).bind fun (x21, st24) => if (x21.length : Int) = 1 then ((x21[0]?).bind fun x31 => if x31.fValue.null = true then ((gClose st24).bind fun (x39, st40) => if x39 = 0 then some true else some false) else some false) else some false) else some false) else some false
set_option maxRecDepth 100000 in
set_option maxHeartbeats 1000000 in
theorem f_l06_speaks_spec  (r : Bool) (h : f_l06_speaks  = some r) : SpecX Try.prog 27 #[] .triv (EmpR) (fun v A' N => v = .bool r ∧ A' = EmpR ∧ N = []) := by
  intro F w hA hX
  clear hX
  have HS0 := Lib.hid (St.start F w (Sep.one hA))
  clear hA
  unfold f_l06_speaks at h
  have HH := Lib.hid h
  clear h
  go_enter Try.func27, Try.ntmps27
  go_wp2_with fail
  have H0 := HH.out
  clear HH
  obtain ⟨st1, hx2, H⟩ := Option.bind_eq_some_iff.1 H0
  clear H0
  try dsimp only at H
  have hx2H := Lib.hid hx2
  clear hx2
  have HH := Lib.hid H
  clear H
  have HS30 := OwnR.lit (T := 58) (size := 3) Hd_rd (OutR.new (HS0.out)) #[.string ⟨#[97]⟩, .bool true, .string ⟨#[]⟩] [(⟨[97], (⟨true, []⟩ : Bl)⟩ : Hd)] (Nat.le_of_ble_eq_true rfl) (⟨rfl, rfl, rfl⟩)
  try simp (disch := first | rfl | assumption | (simp only [World.size_setCell, World.size_alloc]; omega)) only [World.setCell_alloc_past, World.setCell_alloc_at, World.size_alloc, World.size_setCell, List.setIfInBounds_toArray, List.set_cons_zero, List.set_cons_succ] at HS30
  have HS3 := Lib.hid HS30
  clear HS30
  refine (St.callX 1 HS3.out rfl (f_header_Write_spec w.heap.size ([], 0) [(⟨[97], (⟨true, []⟩ : Bl)⟩ : Hd)] _ _ _ hx2H.out) (Src.res 0 rfl (own_reads (by decide)))).mono ?_
  rintro e w4 ⟨v, A', N, rfl, ⟨rfl, rfl, rfl⟩, H1⟩
  clear hx2H HS3
  try simp only [List.cons_append, List.nil_append, List.set_cons_zero, List.set_cons_succ] at H1
  have HS5 := Lib.hid H1
  clear H1
  go_wp2_with fail
  have H0 := HH.out
  clear HH
  obtain ⟨⟨x6, x7, st8⟩, hx9, H⟩ := Option.bind_eq_some_iff.1 H0
  clear H0
  try dsimp only at H
  have hx9H := Lib.hid hx9
  clear hx9
  have HH := Lib.hid H
  clear H
  refine (St.callX 1 HS5.out rfl (gOText_spec w.heap.size st1 _ hx9H.out) (Src.triv _)).mono ?_
  rintro e w10 ⟨v, A', N, rfl, ⟨rfl, rfl, rfl⟩, H1⟩
  clear hx9H HS5
  try simp only [List.cons_append, List.nil_append, List.set_cons_zero, List.set_cons_succ] at H1
  have HS11 := Lib.hid H1
  clear H1
  go_wp2_with fail
  have H0 := HH.out
  clear HH
  obtain ⟨st12, hx13, H⟩ := Option.bind_eq_some_iff.1 H0
  clear H0
  try dsimp only at H
  have hx13H := Lib.hid hx13
  clear hx13
  have HH := Lib.hid H
  clear H
  refine (St.callE HS11.out (gNew_spec x6 _ hx13H.out) (RX.reads_triv _ _)).mono ?_
  rintro e w14 ⟨v, A', N, rfl, ⟨g15, rfl, rfl, rfl⟩, H1⟩
  clear hx13H HS11
  try simp only [List.cons_append, List.nil_append, List.set_cons_zero, List.set_cons_succ] at H1
  have HS16 := Lib.hid H1
  clear H1
  by_cases c17 : x7 = 0
  · have H := HH.out
    clear HH
    rw [if_pos c17] at H
    have HH := Lib.hid H
    clear H
    subst c17
    by_cases c18 : x6 = [2, 2, 97, 1]
    · have H := HH.out
      clear HH
      rw [if_pos c18] at H
      have HH := Lib.hid H
      clear H
      have b19 : (x6 == [2, 2, 97, 1]) = true := beq_iff_eq.2 c18
      have b20 : (x6 != [2, 2, 97, 1]) = false := bne_eq_false_iff_eq.2 c18
      clear c18
      go_wp2_with fail
      have H0 := HH.out
      clear HH
      obtain ⟨⟨x21, st24⟩, hx25, H⟩ := Option.bind_eq_some_iff.1 H0
      clear H0
      try dsimp only at H
      have hx25H := Lib.hid hx25
      clear hx25
      have HH := Lib.hid H
      clear H
      refine (St.callX 0 HS16.out rfl (f_header_Read_spec g15 st12 _ hx25H.out) (Src.triv _)).mono ?_
      rintro e w26 ⟨v, A', N, rfl, ⟨A22, c23, rfl, rfl, rfl⟩, H1⟩
      clear hx25H HS16
      try simp only [List.cons_append, List.nil_append, List.set_cons_zero, List.set_cons_succ] at H1
      have HS27 := Lib.hid H1
      clear H1
      by_cases c28 : (x21.length : Int) = 1
      · have H := HH.out
        clear HH
        rw [if_pos c28] at H
        have HH := Lib.hid H
        clear H
        have b29 : ((x21.length : Int) == 1) = true := beq_iff_eq.2 c28
        have b30 : ((x21.length : Int) != 1) = false := bne_eq_false_iff_eq.2 c28
        have c28E := Lib.hid c28
        clear c28
        have H0 := HH.out
        clear HH
        obtain ⟨x31, hx32, H⟩ := Option.bind_eq_some_iff.1 H0
        clear H0
        try dsimp only at H
        have hx32L := (List.getElem?_eq_some_iff.1 hx32).1
        have hx32H := Lib.hid hx32
        clear hx32
        have HH := Lib.hid H
        clear H
        obtain ⟨gz33, oz33, rfl, z33cs, z33l, z33c, z33nf, z33r⟩ := RX.elem (by decide) (SrcE.res 0 HS27.out rfl rd_reads) hx32H.out
        obtain ⟨z33S, z33r, z33r2⟩ := z33r
        obtain rfl : z33cs = [.string (bsOf x31.fKey), .bool x31.fValue.null, .string (bsOf x31.fValue.data)] := z33r
        have d34 : w26.cell? ⟨gz33, oz33, none⟩ = some (.string (bsOf x31.fKey)) := by have := z33c 0 (by decide); simpa using this
        have d35 : w26.cell? ⟨gz33, oz33 + 1, none⟩ = some (.bool x31.fValue.null) := by have := z33c 1 (by decide); simpa using this
        have d36 : w26.cell? ⟨gz33, oz33 + 2, none⟩ = some (.string (bsOf x31.fValue.data)) := by have := z33c 2 (by decide); simpa using this
        clear z33c
        have z33lt : gz33 < w26.heap.size := z33nf.2
        by_cases c37 : x31.fValue.null = true
        · have H := HH.out
          clear HH
          rw [if_pos c37] at H
          have HH := Lib.hid H
          clear H
          have H1 := HS27.out
          try simp only [c37] at H1
          have HS38 := Lib.hid H1
          clear H1
          go_wp2_with fail
          have H0 := HH.out
          clear HH
          obtain ⟨⟨x39, st40⟩, hx41, H⟩ := Option.bind_eq_some_iff.1 H0
          clear H0
          try dsimp only at H
          have hx41H := Lib.hid hx41
          clear hx41
          have HH := Lib.hid H
          clear H
          refine (St.callX 1 HS38.out rfl (gClose_spec g15 st24 _ hx41H.out) (Src.triv _)).mono ?_
          rintro e w42 ⟨v, A', N, rfl, ⟨rfl, rfl, rfl⟩, H1⟩
          clear hx41H HS38
          try simp only [List.cons_append, List.nil_append, List.set_cons_zero, List.set_cons_succ] at H1
          clear d34 d35 d36 z33lt
          have HS43 := Lib.hid H1
          clear H1
          by_cases c44 : x39 = 0
          · have H := HH.out
            clear HH
            rw [if_pos c44] at H
            have HH := Lib.hid H
            clear H
            subst c44
            go_wp2_with fail
            go_ret
            have H := Option.some.inj HH.out
            clear HH
            subst H
            exact ⟨_, _, _, rfl, ⟨rfl, rfl, rfl⟩, (HS43.out.front 4 rfl).keep 1⟩
          · have H := HH.out
            clear HH
            rw [if_neg c44] at H
            have HH := Lib.hid H
            clear H
            have b45 : (x39 == 0) = false := beq_eq_false_iff_ne.2 c44
            have b46 : (x39 != 0) = true := bne_iff_ne.2 c44
            clear c44
            go_wp2_with fail
            go_ret
            have H := Option.some.inj HH.out
            clear HH
            subst H
            exact ⟨_, _, _, rfl, ⟨rfl, rfl, rfl⟩, (HS43.out.front 4 rfl).keep 1⟩
        · have H := HH.out
          clear HH
          rw [if_neg c37] at H
          have HH := Lib.hid H
          clear H
          have b47 : x31.fValue.null = false := by simpa using c37
          clear c37
          have H1 := HS27.out
          try simp only [b47] at H1
          have HS48 := Lib.hid H1
          clear H1
          go_wp2_with fail
          go_ret
          have H := Option.some.inj HH.out
          clear HH
          subst H
          exact ⟨_, _, _, rfl, ⟨rfl, rfl, rfl⟩, (HS48.out.front 4 rfl).keep 1⟩
      · have H := HH.out
        clear HH
        rw [if_neg c28] at H
        have HH := Lib.hid H
        clear H
        have b49 : ((x21.length : Int) == 1) = false := beq_eq_false_iff_ne.2 c28
        have b50 : ((x21.length : Int) != 1) = true := bne_iff_ne.2 c28
        clear c28
        go_wp2_with fail
        go_ret
        have H := Option.some.inj HH.out
        clear HH
        subst H
        exact ⟨_, _, _, rfl, ⟨rfl, rfl, rfl⟩, (HS27.out.front 4 rfl).keep 1⟩
    · have H := HH.out
      clear HH
      rw [if_neg c18] at H
      have HH := Lib.hid H
      clear H
      have b51 : (x6 == [2, 2, 97, 1]) = false := beq_eq_false_iff_ne.2 c18
      have b52 : (x6 != [2, 2, 97, 1]) = true := bne_iff_ne.2 c18
      clear c18
      go_wp2_with fail
      go_ret
      have H := Option.some.inj HH.out
      clear HH
      subst H
      exact ⟨_, _, _, rfl, ⟨rfl, rfl, rfl⟩, (HS16.out.front 3 rfl).keep 1⟩
  · have H := HH.out
    clear HH
    rw [if_neg c17] at H
    have HH := Lib.hid H
    clear H
    have b53 : (x7 == 0) = false := beq_eq_false_iff_ne.2 c17
    have b54 : (x7 != 0) = true := bne_iff_ne.2 c17
    clear c17
    go_wp2_with fail
    go_ret
    have H := Option.some.inj HH.out
    clear HH
    subst H
    exact ⟨_, _, _, rfl, ⟨rfl, rfl, rfl⟩, (HS16.out.front 3 rfl).keep 1⟩
def f_l06_Small_l1 : List Hd → Int → Option (Lp Int Int)
  | [], y4 => some (Lp.go y4)
  | x9 :: xs, y4 => if -9223372036854775808 ≤ ((x9.fKey.length : Int) + (x9.fValue.data.length : Int)) ∧ ((x9.fKey.length : Int) + (x9.fValue.data.length : Int)) ≤ 9223372036854775807 then (if -9223372036854775808 ≤ (((x9.fKey.length : Int) + (x9.fValue.data.length : Int)) + 1) ∧ (((x9.fKey.length : Int) + (x9.fValue.data.length : Int)) + 1) ≤ 9223372036854775807 then (if -9223372036854775808 ≤ (y4 + (((x9.fKey.length : Int) + (x9.fValue.data.length : Int)) + 1)) ∧ (y4 + (((x9.fKey.length : Int) + (x9.fValue.data.length : Int)) + 1)) ≤ 9223372036854775807 then (if (y4 + (((x9.fKey.length : Int) + (x9.fValue.data.length : Int)) + 1)) > 1000 then some (Lp.ret 0) else (f_l06_Small_l1 xs (y4 + (((x9.fKey.length : Int) + (x9.fValue.data.length : Int)) + 1)))) else none) else none) else none
def f_l06_Small (a0 : List Hd) : Option (Int) := (f_l06_Small_l1 a0 0).bind fun e => match e with | .ret r => some r | .go y28 => some 1
set_option maxRecDepth 100000 in
set_option maxHeartbeats 1000000 in
theorem f_l06_Small_spec (a0 : List Hd) (A1 : Option Addr) (c2 : Nat) (r : Int) (h : f_l06_Small a0 = some r) : SpecX Try.prog 28 #[.slice A1 a0.length c2] (RX.of (sliceRd 3 Hd_rd) [.slice A1 a0.length c2] a0) (EmpR) (fun v A' N => v = .int .i64 r ∧ A' = EmpR ∧ N = []) := by
  intro F w hA hX
  have HX1 := Lib.hid hX
  clear hX
  have HS0 := Lib.hid (St.start F w (Sep.one hA))
  clear hA
  unfold f_l06_Small at h
  have HH := Lib.hid h
  clear h
  go_enter Try.func28, Try.ntmps28
  go_wp2_with fail
  have H0 := HH.out
  clear HH
  obtain ⟨E6, hE, H⟩ := Option.bind_eq_some_iff.1 H0
  clear H0
  have HHo7 := Lib.hid H
  have HE := Lib.hid hE
  clear H hE
  have hm30 := RX.len_le HX1.out
  go_loopg [3, 8] (a0.length) (fun g8 s3 s8 w3 => ∃ (y4 : Int) (k5 : Nat), k5 + g8 = a0.length ∧ s3 = .int .i64 y4 ∧ s8 = .int .i64 (k5 : Int) ∧ Hid (St F w [EmpR] w3) ∧ Hid (f_l06_Small_l1 (a0.drop k5) y4 = some E6))
  case atStart => exact ⟨0, 0, by simp, rfl, rfl, HS0, Lib.hid (by rw [List.drop_zero]; exact HE.out)⟩
  case round =>
    obtain ⟨y4, k5, hkg12, rfl, rfl, HSr10, HL11⟩ := hrel
    obtain ⟨w3, rfl⟩ : ∃ w3 : World, w3 = wr := ⟨_, rfl⟩
    clear HE
    cases gk with
    | zero =>
      have H := HL11.out
      clear HL11
      rw [List.drop_of_length_le (by omega), f_l06_Small_l1] at H
      have HH := Lib.hid H
      clear H
      have hkg12ge : ¬ ((k5 : Int) < (a0.length : Int)) := by omega
      have H1 := HSr10.out
      clear HSr10
      have HS31 := Lib.hid H1
      clear H1
      have H := Option.some.inj HH.out
      clear HH
      subst H
      have H := HHo7.out
      clear HHo7
      try dsimp only at H
      have HH := Lib.hid H
      clear H
      go_wp2_with fail
      go_ret
      have H := Option.some.inj HH.out
      clear HH
      subst H
      exact ⟨_, _, _, rfl, ⟨rfl, rfl, rfl⟩, (HS31.out.front 0 rfl).keep 1⟩
    | succ g8 =>
      have H := HL11.out
      clear HL11
      obtain ⟨x9, hxx9⟩ : ∃ x, a0[k5]? = some x := ⟨_, List.getElem?_eq_getElem (by omega)⟩
      rw [drop_cons hxx9, f_l06_Small_l1] at H
      have hxx9H := Lib.hid hxx9
      clear hxx9
      have HH := Lib.hid H
      clear H
      have hkg12lt : (k5 : Int) < (a0.length : Int) := by omega
      have H1 := HSr10.out
      clear HSr10
      have HS13 := Lib.hid H1
      clear H1
      obtain ⟨gz14, oz14, rfl, z14cs, z14l, z14c, z14nf, z14r⟩ := RX.elem (by decide) HX1.out hxx9H.out
      obtain ⟨z14S, z14r, z14r2⟩ := z14r
      obtain rfl : z14cs = [.string (bsOf x9.fKey), .bool x9.fValue.null, .string (bsOf x9.fValue.data)] := z14r
      have z14B0 := Lib.hid (show w.cell? ⟨gz14, oz14 + k5 * 3, none⟩ = some (.string (bsOf x9.fKey)) from z14c 0 (by decide))
      have z14B1 := Lib.hid (show w.cell? ⟨gz14, oz14 + k5 * 3 + 1, none⟩ = some (.bool x9.fValue.null) from z14c 1 (by decide))
      have z14B2 := Lib.hid (show w.cell? ⟨gz14, oz14 + k5 * 3 + 2, none⟩ = some (.string (bsOf x9.fValue.data)) from z14c 2 (by decide))
      clear z14c
      have d15 : w3.cell? ⟨gz14, oz14 + k5 * 3, none⟩ = some (.string (bsOf x9.fKey)) := St.old2 HS13.out z14nf z14B0.out
      have d16 : w3.cell? ⟨gz14, oz14 + k5 * 3 + 1, none⟩ = some (.bool x9.fValue.null) := St.old2 HS13.out z14nf z14B1.out
      have d17 : w3.cell? ⟨gz14, oz14 + k5 * 3 + 2, none⟩ = some (.string (bsOf x9.fValue.data)) := St.old2 HS13.out z14nf z14B2.out
      have lt18 : gz14 < w3.heap.size := Nat.lt_of_lt_of_le z14nf.2 HS13.out.fr.size
      have H0 := HH.out
      clear HH
      obtain ⟨⟨c19_0, c19_1⟩, H⟩ := guard_some H0
      clear H0
      have HH := Lib.hid H
      clear H
      have H0 := HH.out
      clear HH
      obtain ⟨⟨c20_0, c20_1⟩, H⟩ := guard_some H0
      clear H0
      have HH := Lib.hid H
      clear H
      have H0 := HH.out
      clear HH
      obtain ⟨⟨c21_0, c21_1⟩, H⟩ := guard_some H0
      clear H0
      have HH := Lib.hid H
      clear H
      by_cases c22 : (y4 + (((x9.fKey.length : Int) + (x9.fValue.data.length : Int)) + 1)) > 1000
      · have H := HH.out
        clear HH
        rw [if_pos c22] at H
        have HH := Lib.hid H
        clear H
        have b23 : decide (1000 < (y4 + (((x9.fKey.length : Int) + (x9.fValue.data.length : Int)) + 1))) = true := decide_eq_true c22
        go_wp2_with fail
        have HS240 := (HS13.out).alloc #[.string (bsOf x9.fKey), .bool x9.fValue.null, .string (bsOf x9.fValue.data)] 58
        try simp (disch := first | rfl | assumption | (simp only [World.size_setCell, World.size_alloc]; omega)) only [World.setCell_alloc_past, World.setCell_alloc_at, World.size_alloc, World.size_setCell, List.setIfInBounds_toArray, List.set_cons_zero, List.set_cons_succ] at HS240
        have HS24 := Lib.hid HS240
        clear HS240
        go_ret
        have H := HH.out
        clear HH
        have H := Option.some.inj H
        subst H
        have H := HHo7.out
        clear HHo7
        dsimp only at H
        have HH := Lib.hid H
        clear H
        have H := Option.some.inj HH.out
        clear HH
        subst H
        exact ⟨_, _, _, rfl, ⟨rfl, rfl, rfl⟩, (HS24.out.front 1 rfl).keep 1⟩
      · have H := HH.out
        clear HH
        rw [if_neg c22] at H
        have HH := Lib.hid H
        clear H
        have b25 : decide (1000 < (y4 + (((x9.fKey.length : Int) + (x9.fValue.data.length : Int)) + 1))) = false := decide_eq_false c22
        go_wp2_with fail
        have HS260 := (HS13.out).alloc #[.string (bsOf x9.fKey), .bool x9.fValue.null, .string (bsOf x9.fValue.data)] 58
        try simp (disch := first | rfl | assumption | (simp only [World.size_setCell, World.size_alloc]; omega)) only [World.setCell_alloc_past, World.setCell_alloc_at, World.size_alloc, World.size_setCell, List.setIfInBounds_toArray, List.set_cons_zero, List.set_cons_succ] at HS260
        have HS26 := Lib.hid HS260
        clear HS260
        go_roundg g8
        case measure => omega
        case rel => exact ⟨(y4 + (((x9.fKey.length : Int) + (x9.fValue.data.length : Int)) + 1)), k5 + 1, by omega, rfl, by go_num, Lib.hid ((HS26.out.front 1 rfl).keep 1), HH⟩
def f_l06_HeaderWrites (a0 : List Hd) : Option (Bool) := (f_l06_speaks).bind fun x3 => if x3 = true then ((f_l06_Small a0).bind fun x8 => if x8 = 0 then some true else ((f_header_Write ([], 0) a0).bind fun st15 => (gOText st15).bind fun (x20, x21, st22) => (f_r06_Right a0).bind fun x26 => if x26 = true then ((gNew x20).bind fun st31 => if x21 = 0 then ((f_r06_Write a0).bind fun x37 => if x20 = x37 then ((f_header_Read st31).bind fun (x44, st47) => (f_r06_Same x44 a0).bind fun x51 => if x51 = true then ((gClose st47).bind fun (x56, st57) => if x56 = 0 then some true else some false) else some false) else some false) else some false) else (if x21 = 4 then (if x20 = [] then some true else some false) else some false))) else some false
set_option maxRecDepth 100000 in
set_option maxHeartbeats 1000000 in
theorem f_l06_HeaderWrites_spec (a0 : List Hd) (A1 : Option Addr) (c2 : Nat) (r : Bool) (h : f_l06_HeaderWrites a0 = some r) : SpecX Try.prog 5 #[.slice A1 a0.length c2] (RX.of (sliceRd 3 Hd_rd) [.slice A1 a0.length c2] a0) (EmpR) (fun v A' N => v = .bool r ∧ A' = EmpR ∧ N = []) := by
  intro F w hA hX
  have HX1 := Lib.hid hX
  clear hX
  have HS0 := Lib.hid (St.start F w (Sep.one hA))
  clear hA
  unfold f_l06_HeaderWrites at h
  have HH := Lib.hid h
  clear h
  go_enter Try.func5, Try.ntmps5
  go_wp2_with fail
  have H0 := HH.out
  clear HH
  obtain ⟨x3, hx4, H⟩ := Option.bind_eq_some_iff.1 H0
  clear H0
  try dsimp only at H
  have hx4H := Lib.hid hx4
  clear hx4
  have HH := Lib.hid H
  clear H
  refine (St.callE HS0.out (f_l06_speaks_spec _ hx4H.out) (RX.reads_triv _ _)).mono ?_
  rintro e w5 ⟨v, A', N, rfl, ⟨rfl, rfl, rfl⟩, H1⟩
  clear hx4H HS0
  try simp only [List.cons_append, List.nil_append, List.set_cons_zero, List.set_cons_succ] at H1
  have HS6 := Lib.hid H1
  clear H1
  by_cases c7 : x3 = true
  · have H := HH.out
    clear HH
    rw [if_pos c7] at H
    have HH := Lib.hid H
    clear H
    subst c7
    go_wp2_with fail
    have H0 := HH.out
    clear HH
    obtain ⟨x8, hx9, H⟩ := Option.bind_eq_some_iff.1 H0
    clear H0
    try dsimp only at H
    have hx9H := Lib.hid hx9
    clear hx9
    have HH := Lib.hid H
    clear H
    refine (St.callE HS6.out (f_l06_Small_spec a0 _ _ _ hx9H.out) (SrcE.old HS6.out HX1.out)).mono ?_
    rintro e w10 ⟨v, A', N, rfl, ⟨rfl, rfl, rfl⟩, H1⟩
    clear hx9H HS6
    try simp only [List.cons_append, List.nil_append, List.set_cons_zero, List.set_cons_succ] at H1
    have HS11 := Lib.hid H1
    clear H1
    by_cases c12 : x8 = 0
    · have H := HH.out
      clear HH
      rw [if_pos c12] at H
      have HH := Lib.hid H
      clear H
      subst c12
      go_wp2_with fail
      go_ret
      have H := Option.some.inj HH.out
      clear HH
      subst H
      exact ⟨_, _, _, rfl, ⟨rfl, rfl, rfl⟩, (HS11.out.front 0 rfl).keep 1⟩
    · have H := HH.out
      clear HH
      rw [if_neg c12] at H
      have HH := Lib.hid H
      clear H
      have b13 : (x8 == 0) = false := beq_eq_false_iff_ne.2 c12
      have b14 : (x8 != 0) = true := bne_iff_ne.2 c12
      clear c12
      go_wp2_with fail
      have H0 := HH.out
      clear HH
      obtain ⟨st15, hx16, H⟩ := Option.bind_eq_some_iff.1 H0
      clear H0
      try dsimp only at H
      have hx16H := Lib.hid hx16
      clear hx16
      have HH := Lib.hid H
      clear H
      have HS170 := OutR.new (HS11.out)
      try simp (disch := first | rfl | assumption | (simp only [World.size_setCell, World.size_alloc]; omega)) only [World.setCell_alloc_past, World.setCell_alloc_at, World.size_alloc, World.size_setCell, List.setIfInBounds_toArray, List.set_cons_zero, List.set_cons_succ] at HS170
      have HS17 := Lib.hid HS170
      clear HS170
      refine (St.callX 0 HS17.out rfl (f_header_Write_spec w10.heap.size ([], 0) a0 _ _ _ hx16H.out) (Src.old HS17.out HX1.out)).mono ?_
      rintro e w18 ⟨v, A', N, rfl, ⟨rfl, rfl, rfl⟩, H1⟩
      clear hx16H HS17
      try simp only [List.cons_append, List.nil_append, List.set_cons_zero, List.set_cons_succ] at H1
      have HS19 := Lib.hid H1
      clear H1
      go_wp2_with fail
      have H0 := HH.out
      clear HH
      obtain ⟨⟨x20, x21, st22⟩, hx23, H⟩ := Option.bind_eq_some_iff.1 H0
      clear H0
      try dsimp only at H
      have hx23H := Lib.hid hx23
      clear hx23
      have HH := Lib.hid H
      clear H
      refine (St.callX 0 HS19.out rfl (gOText_spec w10.heap.size st15 _ hx23H.out) (Src.triv _)).mono ?_
      rintro e w24 ⟨v, A', N, rfl, ⟨rfl, rfl, rfl⟩, H1⟩
      clear hx23H HS19
      try simp only [List.cons_append, List.nil_append, List.set_cons_zero, List.set_cons_succ] at H1
      have HS25 := Lib.hid H1
      clear H1
      go_wp2_with fail
      have H0 := HH.out
      clear HH
      obtain ⟨x26, hx27, H⟩ := Option.bind_eq_some_iff.1 H0
      clear H0
      try dsimp only at H
      have hx27H := Lib.hid hx27
      clear hx27
      have HH := Lib.hid H
      clear H
      refine (St.callE HS25.out (f_r06_Right_spec a0 _ _ _ hx27H.out) (SrcE.old HS25.out HX1.out)).mono ?_
      rintro e w28 ⟨v, A', N, rfl, ⟨rfl, rfl, rfl⟩, H1⟩
      clear hx27H HS25
      try simp only [List.cons_append, List.nil_append, List.set_cons_zero, List.set_cons_succ] at H1
      have HS29 := Lib.hid H1
      clear H1
      by_cases c30 : x26 = true
      · have H := HH.out
        clear HH
        rw [if_pos c30] at H
        have HH := Lib.hid H
        clear H
        subst c30
        go_wp2_with fail
        have H0 := HH.out
        clear HH
        obtain ⟨st31, hx32, H⟩ := Option.bind_eq_some_iff.1 H0
        clear H0
        try dsimp only at H
        have hx32H := Lib.hid hx32
        clear hx32
        have HH := Lib.hid H
        clear H
        refine (St.callE HS29.out (gNew_spec x20 _ hx32H.out) (RX.reads_triv _ _)).mono ?_
        rintro e w33 ⟨v, A', N, rfl, ⟨g34, rfl, rfl, rfl⟩, H1⟩
        clear hx32H HS29
        try simp only [List.cons_append, List.nil_append, List.set_cons_zero, List.set_cons_succ] at H1
        have HS35 := Lib.hid H1
        clear H1
        by_cases c36 : x21 = 0
        · have H := HH.out
          clear HH
          rw [if_pos c36] at H
          have HH := Lib.hid H
          clear H
          subst c36
          go_wp2_with fail
          have H0 := HH.out
          clear HH
          obtain ⟨x37, hx38, H⟩ := Option.bind_eq_some_iff.1 H0
          clear H0
          try dsimp only at H
          have hx38H := Lib.hid hx38
          clear hx38
          have HH := Lib.hid H
          clear H
          refine (St.callE HS35.out (f_r06_Write_spec a0 _ _ _ hx38H.out) (SrcE.old HS35.out HX1.out)).mono ?_
          rintro e w39 ⟨v, A', N, rfl, ⟨rfl, rfl, rfl⟩, H1⟩
          clear hx38H HS35
          try simp only [List.cons_append, List.nil_append, List.set_cons_zero, List.set_cons_succ] at H1
          have HS40 := Lib.hid H1
          clear H1
          by_cases c41 : x20 = x37
          · have H := HH.out
            clear HH
            rw [if_pos c41] at H
            have HH := Lib.hid H
            clear H
            have b42 : (x20 == x37) = true := beq_iff_eq.2 c41
            have b43 : (x20 != x37) = false := bne_eq_false_iff_eq.2 c41
            clear c41
            go_wp2_with fail
            have H0 := HH.out
            clear HH
            obtain ⟨⟨x44, st47⟩, hx48, H⟩ := Option.bind_eq_some_iff.1 H0
            clear H0
            try dsimp only at H
            have hx48H := Lib.hid hx48
            clear hx48
            have HH := Lib.hid H
            clear H
            refine (St.callX 0 HS40.out rfl (f_header_Read_spec g34 st31 _ hx48H.out) (Src.triv _)).mono ?_
            rintro e w49 ⟨v, A', N, rfl, ⟨A45, c46, rfl, rfl, rfl⟩, H1⟩
            clear hx48H HS40
            try simp only [List.cons_append, List.nil_append, List.set_cons_zero, List.set_cons_succ] at H1
            have HS50 := Lib.hid H1
            clear H1
            go_wp2_with fail
            have H0 := HH.out
            clear HH
            obtain ⟨x51, hx52, H⟩ := Option.bind_eq_some_iff.1 H0
            clear H0
            try dsimp only at H
            have hx52H := Lib.hid hx52
            clear hx52
            have HH := Lib.hid H
            clear H
            refine (St.callE HS50.out (f_r06_Same_spec x44 _ _ a0 _ _ _ hx52H.out) (RX.reads_and (SrcE.res 0 HS50.out rfl rd_reads) (SrcE.old HS50.out HX1.out))).mono ?_
            rintro e w53 ⟨v, A', N, rfl, ⟨rfl, rfl, rfl⟩, H1⟩
            clear hx52H HS50
            try simp only [List.cons_append, List.nil_append, List.set_cons_zero, List.set_cons_succ] at H1
            have HS54 := Lib.hid H1
            clear H1
            by_cases c55 : x51 = true
            · have H := HH.out
              clear HH
              rw [if_pos c55] at H
              have HH := Lib.hid H
              clear H
              subst c55
              go_wp2_with fail
              have H0 := HH.out
              clear HH
              obtain ⟨⟨x56, st57⟩, hx58, H⟩ := Option.bind_eq_some_iff.1 H0
              clear H0
              try dsimp only at H
              have hx58H := Lib.hid hx58
              clear hx58
              have HH := Lib.hid H
              clear H
              refine (St.callX 1 HS54.out rfl (gClose_spec g34 st47 _ hx58H.out) (Src.triv _)).mono ?_
              rintro e w59 ⟨v, A', N, rfl, ⟨rfl, rfl, rfl⟩, H1⟩
              clear hx58H HS54
              try simp only [List.cons_append, List.nil_append, List.set_cons_zero, List.set_cons_succ] at H1
              have HS60 := Lib.hid H1
              clear H1
              by_cases c61 : x56 = 0
              · have H := HH.out
                clear HH
                rw [if_pos c61] at H
                have HH := Lib.hid H
                clear H
                subst c61
                go_wp2_with fail
                go_ret
                have H := Option.some.inj HH.out
                clear HH
                subst H
                exact ⟨_, _, _, rfl, ⟨rfl, rfl, rfl⟩, (HS60.out.front 3 rfl).keep 1⟩
              · have H := HH.out
                clear HH
                rw [if_neg c61] at H
                have HH := Lib.hid H
                clear H
                have b62 : (x56 == 0) = false := beq_eq_false_iff_ne.2 c61
                have b63 : (x56 != 0) = true := bne_iff_ne.2 c61
                clear c61
                go_wp2_with fail
                go_ret
                have H := Option.some.inj HH.out
                clear HH
                subst H
                exact ⟨_, _, _, rfl, ⟨rfl, rfl, rfl⟩, (HS60.out.front 3 rfl).keep 1⟩
            · have H := HH.out
              clear HH
              rw [if_neg c55] at H
              have HH := Lib.hid H
              clear H
              have c55 : x51 = false := by simpa using c55
              subst c55
              go_wp2_with fail
              go_ret
              have H := Option.some.inj HH.out
              clear HH
              subst H
              exact ⟨_, _, _, rfl, ⟨rfl, rfl, rfl⟩, (HS54.out.front 3 rfl).keep 1⟩
          · have H := HH.out
            clear HH
            rw [if_neg c41] at H
            have HH := Lib.hid H
            clear H
            have b64 : (x20 == x37) = false := beq_eq_false_iff_ne.2 c41
            have b65 : (x20 != x37) = true := bne_iff_ne.2 c41
            clear c41
            go_wp2_with fail
            go_ret
            have H := Option.some.inj HH.out
            clear HH
            subst H
            exact ⟨_, _, _, rfl, ⟨rfl, rfl, rfl⟩, (HS40.out.front 2 rfl).keep 1⟩
        · have H := HH.out
          clear HH
          rw [if_neg c36] at H
          have HH := Lib.hid H
          clear H
          have b66 : (x21 == 0) = false := beq_eq_false_iff_ne.2 c36
          have b67 : (x21 != 0) = true := bne_iff_ne.2 c36
          clear c36
          go_wp2_with fail
          go_ret
          have H := Option.some.inj HH.out
          clear HH
          subst H
          exact ⟨_, _, _, rfl, ⟨rfl, rfl, rfl⟩, (HS35.out.front 2 rfl).keep 1⟩
      · have H := HH.out
        clear HH
        rw [if_neg c30] at H
        have HH := Lib.hid H
        clear H
        have c30 : x26 = false := by simpa using c30
        subst c30
        by_cases c68 : x21 = 4
        · have H := HH.out
          clear HH
          rw [if_pos c68] at H
          have HH := Lib.hid H
          clear H
          subst c68
          by_cases c69 : x20 = []
          · have H := HH.out
            clear HH
            rw [if_pos c69] at H
            have HH := Lib.hid H
            clear H
            subst c69
            go_wp2_with fail
            go_ret
            have H := Option.some.inj HH.out
            clear HH
            subst H
            exact ⟨_, _, _, rfl, ⟨rfl, rfl, rfl⟩, (HS29.out.front 1 rfl).keep 1⟩
          · have H := HH.out
            clear HH
            rw [if_neg c69] at H
            have HH := Lib.hid H
            clear H
            have b70 : 0 < x20.length := List.length_pos_iff.2 c69
            have b71 : x20.isEmpty = false := by simpa using c69
            have b72 : (x20 == []) = false := beq_eq_false_iff_ne.2 c69
            have b73 : (x20 != []) = true := bne_iff_ne.2 c69
            go_wp2_with fail
            go_ret
            have H := Option.some.inj HH.out
            clear HH
            subst H
            exact ⟨_, _, _, rfl, ⟨rfl, rfl, rfl⟩, (HS29.out.front 1 rfl).keep 1⟩
        · have H := HH.out
          clear HH
          rw [if_neg c68] at H
          have HH := Lib.hid H
          clear H
          have b74 : (x21 == 4) = false := beq_eq_false_iff_ne.2 c68
          have b75 : (x21 != 4) = true := bne_iff_ne.2 c68
          clear c68
          go_wp2_with fail
          go_ret
          have H := Option.some.inj HH.out
          clear HH
          subst H
          exact ⟨_, _, _, rfl, ⟨rfl, rfl, rfl⟩, (HS29.out.front 1 rfl).keep 1⟩
  · have H := HH.out
    clear HH
    rw [if_neg c7] at H
    have HH := Lib.hid H
    clear H
    have c7 : x3 = false := by simpa using c7
    subst c7
    go_wp2_with fail
    go_ret
    have H := Option.some.inj HH.out
    clear HH
    subst H
    exact ⟨_, _, _, rfl, ⟨rfl, rfl, rfl⟩, (HS6.out.front 0 rfl).keep 1⟩
def f_l06_HeaderFinds_l1 (a1 : List UInt8) : List Hd → Bool → Bool → List UInt8 → Option (Bool × Bool × List UInt8)
  | [], y101, y103, y104 => some (y101, y103, y104)
  | x108 :: xs, y101, y103, y104 => if x108.fKey = a1 then (f_l06_HeaderFinds_l1 a1 xs true x108.fValue.null x108.fValue.data) else (f_l06_HeaderFinds_l1 a1 xs y101 y103 y104)
def f_l06_HeaderFinds (a0 : List Hd) (a1 : List UInt8) : Option (Bool) := (f_l06_speaks).bind fun x84 => if x84 = true then ((f_l06_Small a0).bind fun x89 => if x89 = 0 then some true else (if (a1.length : Int) > 200 then some true else ((f_l06_HeaderFinds_l1 a1 a0 false false []).bind fun (y131, y133, y134) => (f_header_Find a0 a1).bind fun (x135, x136) => if x135.null = y133 then (if x135.data = y134 then (if x136 = true then (if y131 = true then some true else some false) else (if y131 = true then some false else some true)) else some false) else some false))) else some false
set_option maxRecDepth 100000 in
set_option maxHeartbeats 1000000 in
theorem f_l06_HeaderFinds_spec (a0 : List Hd) (A1 : Option Addr) (c2 : Nat) (a1 : List UInt8) (r : Bool) (h : f_l06_HeaderFinds a0 a1 = some r) : SpecX Try.prog 7 #[.slice A1 a0.length c2, .string (bsOf a1)] (RX.of (sliceRd 3 Hd_rd) [.slice A1 a0.length c2] a0) (EmpR) (fun v A' N => v = .bool r ∧ A' = EmpR ∧ N = []) := by
  intro F w hA hX
  have HX1 := Lib.hid hX
  clear hX
  have HS0 := Lib.hid (St.start F w (Sep.one hA))
  clear hA
  unfold f_l06_HeaderFinds at h
  have HH := Lib.hid h
  clear h
  go_enter Try.func7, Try.ntmps7
  go_wp2_with fail
  have H0 := HH.out
  clear HH
  obtain ⟨x84, hx85, H⟩ := Option.bind_eq_some_iff.1 H0
  clear H0
  try dsimp only at H
  have hx85H := Lib.hid hx85
  clear hx85
  have HH := Lib.hid H
  clear H
  refine (St.callE HS0.out (f_l06_speaks_spec _ hx85H.out) (RX.reads_triv _ _)).mono ?_
  rintro e w86 ⟨v, A', N, rfl, ⟨rfl, rfl, rfl⟩, H1⟩
  clear hx85H HS0
  try simp only [List.cons_append, List.nil_append, List.set_cons_zero, List.set_cons_succ] at H1
  have HS87 := Lib.hid H1
  clear H1
  by_cases c88 : x84 = true
  · have H := HH.out
    clear HH
    rw [if_pos c88] at H
    have HH := Lib.hid H
    clear H
    subst c88
    go_wp2_with fail
    have H0 := HH.out
    clear HH
    obtain ⟨x89, hx90, H⟩ := Option.bind_eq_some_iff.1 H0
    clear H0
    try dsimp only at H
    have hx90H := Lib.hid hx90
    clear hx90
    have HH := Lib.hid H
    clear H
    refine (St.callE HS87.out (f_l06_Small_spec a0 _ _ _ hx90H.out) (SrcE.old HS87.out HX1.out)).mono ?_
    rintro e w91 ⟨v, A', N, rfl, ⟨rfl, rfl, rfl⟩, H1⟩
    clear hx90H HS87
    try simp only [List.cons_append, List.nil_append, List.set_cons_zero, List.set_cons_succ] at H1
    have HS92 := Lib.hid H1
    clear H1
    by_cases c93 : x89 = 0
    · have H := HH.out
      clear HH
      rw [if_pos c93] at H
      have HH := Lib.hid H
      clear H
      subst c93
      go_wp2_with fail
      go_ret
      have H := Option.some.inj HH.out
      clear HH
      subst H
      exact ⟨_, _, _, rfl, ⟨rfl, rfl, rfl⟩, (HS92.out.front 0 rfl).keep 1⟩
    · have H := HH.out
      clear HH
      rw [if_neg c93] at H
      have HH := Lib.hid H
      clear H
      have b94 : (x89 == 0) = false := beq_eq_false_iff_ne.2 c93
      have b95 : (x89 != 0) = true := bne_iff_ne.2 c93
      clear c93
      by_cases c96 : (a1.length : Int) > 200
      · have H := HH.out
        clear HH
        rw [if_pos c96] at H
        have HH := Lib.hid H
        clear H
        have b97 : decide (200 < (a1.length : Int)) = true := decide_eq_true c96
        go_wp2_with fail
        go_ret
        have H := Option.some.inj HH.out
        clear HH
        subst H
        exact ⟨_, _, _, rfl, ⟨rfl, rfl, rfl⟩, (HS92.out.front 0 rfl).keep 1⟩
      · have H := HH.out
        clear HH
        rw [if_neg c96] at H
        have HH := Lib.hid H
        clear H
        have b98 : decide (200 < (a1.length : Int)) = false := decide_eq_false c96
        have HS990 := (HS92.out).alloc #[.bool false, .string ⟨#[]⟩] 26
        try simp (disch := first | rfl | assumption | (simp only [World.size_setCell, World.size_alloc]; omega)) only [World.setCell_alloc_past, World.setCell_alloc_at, World.size_alloc, World.size_setCell, List.setIfInBounds_toArray, List.set_cons_zero, List.set_cons_succ] at HS990
        have HS99 := Lib.hid HS990
        clear HS990
        go_wp2_with fail
        have H0 := HH.out
        clear HH
        obtain ⟨E105, hE, H⟩ := Option.bind_eq_some_iff.1 H0
        clear H0
        have HHo106 := Lib.hid H
        have HE := Lib.hid hE
        clear H hE
        have hm164 := RX.len_le HX1.out
        go_loopg [6, 24] (a0.length) (fun g107 s6 s24 w100 => ∃ (y101 : Bool) (k102 : Nat) (y103 : Bool) (y104 : List UInt8), k102 + g107 = a0.length ∧ s6 = .bool y101 ∧ s24 = .int .i64 (k102 : Int) ∧ Hid (St F w [BlkR w91.heap.size 26 #[.bool y103, .string (bsOf y104)], EmpR] w100) ∧ Hid (f_l06_HeaderFinds_l1 a1 (a0.drop k102) y101 y103 y104 = some E105))
        case atStart => exact ⟨false, 0, false, [], by simp, rfl, rfl, HS99, Lib.hid (by rw [List.drop_zero]; exact HE.out)⟩
        case round =>
          obtain ⟨y101, k102, y103, y104, hkg111, rfl, rfl, HSr109, HL110⟩ := hrel
          obtain ⟨w100, rfl⟩ : ∃ w100 : World, w100 = wr := ⟨_, rfl⟩
          clear HE
          cases gk with
          | zero =>
            have H := HL110.out
            clear HL110
            rw [List.drop_of_length_le (by omega), f_l06_HeaderFinds_l1] at H
            have HH := Lib.hid H
            clear H
            have hkg111ge : ¬ ((k102 : Int) < (a0.length : Int)) := by omega
            have H1 := HSr109.out
            clear HSr109
            have lt165 : w91.heap.size < w100.heap.size := heap_lt (St.blk 0 H1 rfl)
            have d166 : w100.cell? ⟨w91.heap.size, 0, none⟩ = some (.bool y103) := heap_at (St.blk 0 H1 rfl) 0
            have d167 : w100.cell? ⟨w91.heap.size, 1, none⟩ = some (.string (bsOf y104)) := heap_at (St.blk 0 H1 rfl) 1
            have z168 : w100.frozen? ⟨w91.heap.size, 0, none⟩ = false := heap_free (St.blk 0 H1 rfl) 0
            have z169 : w100.frozen? ⟨w91.heap.size, 1, none⟩ = false := heap_free (St.blk 0 H1 rfl) 1
            have HS170 := Lib.hid H1
            clear H1
            have H := Option.some.inj HH.out
            clear HH
            subst H
            have H := HHo106.out
            clear HHo106
            try dsimp only at H
            have HH := Lib.hid H
            clear H
            go_wp2_with fail
            have H0 := HH.out
            clear HH
            obtain ⟨⟨x171, x172⟩, hx173, H⟩ := Option.bind_eq_some_iff.1 H0
            clear H0
            try dsimp only at H
            have hx173H := Lib.hid hx173
            clear hx173
            have HH := Lib.hid H
            clear H
            refine (St.callE HS170.out (f_header_Find_spec a0 _ _ a1 _ hx173H.out) (SrcE.old HS170.out HX1.out)).mono ?_
            rintro e w174 ⟨v, A', N, rfl, ⟨rfl, rfl, rfl⟩, H1⟩
            clear hx173H HS170
            try simp only [List.cons_append, List.nil_append, List.set_cons_zero, List.set_cons_succ] at H1
            clear lt165 d166 d167 z168 z169
            have lt175 : w91.heap.size < w174.heap.size := heap_lt (St.blk 0 H1 rfl)
            have d176 : w174.cell? ⟨w91.heap.size, 0, none⟩ = some (.bool y103) := heap_at (St.blk 0 H1 rfl) 0
            have d177 : w174.cell? ⟨w91.heap.size, 1, none⟩ = some (.string (bsOf y104)) := heap_at (St.blk 0 H1 rfl) 1
            have z178 : w174.frozen? ⟨w91.heap.size, 0, none⟩ = false := heap_free (St.blk 0 H1 rfl) 0
            have z179 : w174.frozen? ⟨w91.heap.size, 1, none⟩ = false := heap_free (St.blk 0 H1 rfl) 1
            have HS180 := Lib.hid H1
            clear H1
            by_cases c181 : x171.null = y103
            · have H := HH.out
              clear HH
              rw [if_pos c181] at H
              have HH := Lib.hid H
              clear H
              have b182 : (x171.null == y103) = true := beq_iff_eq.2 c181
              have b183 : (x171.null != y103) = false := bne_eq_false_iff_eq.2 c181
              clear c181
              by_cases c184 : x171.data = y104
              · have H := HH.out
                clear HH
                rw [if_pos c184] at H
                have HH := Lib.hid H
                clear H
                have b185 : (x171.data == y104) = true := beq_iff_eq.2 c184
                have b186 : (x171.data != y104) = false := bne_eq_false_iff_eq.2 c184
                clear c184
                by_cases c187 : x172 = true
                · have H := HH.out
                  clear HH
                  rw [if_pos c187] at H
                  have HH := Lib.hid H
                  clear H
                  subst c187
                  by_cases c188 : y101 = true
                  · have H := HH.out
                    clear HH
                    rw [if_pos c188] at H
                    have HH := Lib.hid H
                    clear H
                    subst c188
                    go_wp2_with fail
                    have HS1890 := (HS180.out).alloc #[.bool x171.null, .string (bsOf x171.data)] 26
                    try simp (disch := first | rfl | assumption | (simp only [World.size_setCell, World.size_alloc]; omega)) only [World.setCell_alloc_past, World.setCell_alloc_at, World.size_alloc, World.size_setCell, List.setIfInBounds_toArray, List.set_cons_zero, List.set_cons_succ] at HS1890
                    have HS189 := Lib.hid HS1890
                    clear HS1890
                    go_ret
                    have H := Option.some.inj HH.out
                    clear HH
                    subst H
                    exact ⟨_, _, _, rfl, ⟨rfl, rfl, rfl⟩, (HS189.out.front 2 rfl).keep 1⟩
                  · have H := HH.out
                    clear HH
                    rw [if_neg c188] at H
                    have HH := Lib.hid H
                    clear H
                    have c188 : y101 = false := by simpa using c188
                    subst c188
                    go_wp2_with fail
                    have HS1900 := (HS180.out).alloc #[.bool x171.null, .string (bsOf x171.data)] 26
                    try simp (disch := first | rfl | assumption | (simp only [World.size_setCell, World.size_alloc]; omega)) only [World.setCell_alloc_past, World.setCell_alloc_at, World.size_alloc, World.size_setCell, List.setIfInBounds_toArray, List.set_cons_zero, List.set_cons_succ] at HS1900
                    have HS190 := Lib.hid HS1900
                    clear HS1900
                    go_ret
                    have H := Option.some.inj HH.out
                    clear HH
                    subst H
                    exact ⟨_, _, _, rfl, ⟨rfl, rfl, rfl⟩, (HS190.out.front 2 rfl).keep 1⟩
                · have H := HH.out
                  clear HH
                  rw [if_neg c187] at H
                  have HH := Lib.hid H
                  clear H
                  have c187 : x172 = false := by simpa using c187
                  subst c187
                  by_cases c191 : y101 = true
                  · have H := HH.out
                    clear HH
                    rw [if_pos c191] at H
                    have HH := Lib.hid H
                    clear H
                    subst c191
                    go_wp2_with fail
                    have HS1920 := (HS180.out).alloc #[.bool x171.null, .string (bsOf x171.data)] 26
                    try simp (disch := first | rfl | assumption | (simp only [World.size_setCell, World.size_alloc]; omega)) only [World.setCell_alloc_past, World.setCell_alloc_at, World.size_alloc, World.size_setCell, List.setIfInBounds_toArray, List.set_cons_zero, List.set_cons_succ] at HS1920
                    have HS192 := Lib.hid HS1920
                    clear HS1920
                    go_ret
                    have H := Option.some.inj HH.out
                    clear HH
                    subst H
                    exact ⟨_, _, _, rfl, ⟨rfl, rfl, rfl⟩, (HS192.out.front 2 rfl).keep 1⟩
                  · have H := HH.out
                    clear HH
                    rw [if_neg c191] at H
                    have HH := Lib.hid H
                    clear H
                    have c191 : y101 = false := by simpa using c191
                    subst c191
                    go_wp2_with fail
                    have HS1930 := (HS180.out).alloc #[.bool x171.null, .string (bsOf x171.data)] 26
                    try simp (disch := first | rfl | assumption | (simp only [World.size_setCell, World.size_alloc]; omega)) only [World.setCell_alloc_past, World.setCell_alloc_at, World.size_alloc, World.size_setCell, List.setIfInBounds_toArray, List.set_cons_zero, List.set_cons_succ] at HS1930
                    have HS193 := Lib.hid HS1930
                    clear HS1930
                    go_ret
                    have H := Option.some.inj HH.out
                    clear HH
                    subst H
                    exact ⟨_, _, _, rfl, ⟨rfl, rfl, rfl⟩, (HS193.out.front 2 rfl).keep 1⟩
              · have H := HH.out
                clear HH
                rw [if_neg c184] at H
                have HH := Lib.hid H
                clear H
                have b194 : (x171.data == y104) = false := beq_eq_false_iff_ne.2 c184
                have b195 : (x171.data != y104) = true := bne_iff_ne.2 c184
                clear c184
                go_wp2_with fail
                have HS1960 := (HS180.out).alloc #[.bool x171.null, .string (bsOf x171.data)] 26
                try simp (disch := first | rfl | assumption | (simp only [World.size_setCell, World.size_alloc]; omega)) only [World.setCell_alloc_past, World.setCell_alloc_at, World.size_alloc, World.size_setCell, List.setIfInBounds_toArray, List.set_cons_zero, List.set_cons_succ] at HS1960
                have HS196 := Lib.hid HS1960
                clear HS1960
                go_ret
                have H := Option.some.inj HH.out
                clear HH
                subst H
                exact ⟨_, _, _, rfl, ⟨rfl, rfl, rfl⟩, (HS196.out.front 2 rfl).keep 1⟩
            · have H := HH.out
              clear HH
              rw [if_neg c181] at H
              have HH := Lib.hid H
              clear H
              have b197 : (x171.null == y103) = false := beq_eq_false_iff_ne.2 c181
              have b198 : (x171.null != y103) = true := bne_iff_ne.2 c181
              clear c181
              go_wp2_with fail
              have HS1990 := (HS180.out).alloc #[.bool x171.null, .string (bsOf x171.data)] 26
              try simp (disch := first | rfl | assumption | (simp only [World.size_setCell, World.size_alloc]; omega)) only [World.setCell_alloc_past, World.setCell_alloc_at, World.size_alloc, World.size_setCell, List.setIfInBounds_toArray, List.set_cons_zero, List.set_cons_succ] at HS1990
              have HS199 := Lib.hid HS1990
              clear HS1990
              go_ret
              have H := Option.some.inj HH.out
              clear HH
              subst H
              exact ⟨_, _, _, rfl, ⟨rfl, rfl, rfl⟩, (HS199.out.front 2 rfl).keep 1⟩
          | succ g107 =>
            have H := HL110.out
            clear HL110
            obtain ⟨x108, hxx108⟩ : ∃ x, a0[k102]? = some x := ⟨_, List.getElem?_eq_getElem (by omega)⟩
            rw [drop_cons hxx108, f_l06_HeaderFinds_l1] at H
            have hxx108H := Lib.hid hxx108
            clear hxx108
            have HH := Lib.hid H
            clear H
            have hkg111lt : (k102 : Int) < (a0.length : Int) := by omega
            have H1 := HSr109.out
            clear HSr109
            have lt112 : w91.heap.size < w100.heap.size := heap_lt (St.blk 0 H1 rfl)
            have d113 : w100.cell? ⟨w91.heap.size, 0, none⟩ = some (.bool y103) := heap_at (St.blk 0 H1 rfl) 0
            have d114 : w100.cell? ⟨w91.heap.size, 1, none⟩ = some (.string (bsOf y104)) := heap_at (St.blk 0 H1 rfl) 1
            have z115 : w100.frozen? ⟨w91.heap.size, 0, none⟩ = false := heap_free (St.blk 0 H1 rfl) 0
            have z116 : w100.frozen? ⟨w91.heap.size, 1, none⟩ = false := heap_free (St.blk 0 H1 rfl) 1
            have HS117 := Lib.hid H1
            clear H1
            obtain ⟨gz118, oz118, rfl, z118cs, z118l, z118c, z118nf, z118r⟩ := RX.elem (by decide) HX1.out hxx108H.out
            obtain ⟨z118S, z118r, z118r2⟩ := z118r
            obtain rfl : z118cs = [.string (bsOf x108.fKey), .bool x108.fValue.null, .string (bsOf x108.fValue.data)] := z118r
            have z118B0 := Lib.hid (show w.cell? ⟨gz118, oz118 + k102 * 3, none⟩ = some (.string (bsOf x108.fKey)) from z118c 0 (by decide))
            have z118B1 := Lib.hid (show w.cell? ⟨gz118, oz118 + k102 * 3 + 1, none⟩ = some (.bool x108.fValue.null) from z118c 1 (by decide))
            have z118B2 := Lib.hid (show w.cell? ⟨gz118, oz118 + k102 * 3 + 2, none⟩ = some (.string (bsOf x108.fValue.data)) from z118c 2 (by decide))
            clear z118c
            have d119 : w100.cell? ⟨gz118, oz118 + k102 * 3, none⟩ = some (.string (bsOf x108.fKey)) := St.old2 HS117.out z118nf z118B0.out
            have d120 : w100.cell? ⟨gz118, oz118 + k102 * 3 + 1, none⟩ = some (.bool x108.fValue.null) := St.old2 HS117.out z118nf z118B1.out
            have d121 : w100.cell? ⟨gz118, oz118 + k102 * 3 + 2, none⟩ = some (.string (bsOf x108.fValue.data)) := St.old2 HS117.out z118nf z118B2.out
            have lt122 : gz118 < w100.heap.size := Nat.lt_of_lt_of_le z118nf.2 HS117.out.fr.size
            by_cases c123 : x108.fKey = a1
            · have H := HH.out
              clear HH
              rw [if_pos c123] at H
              have HH := Lib.hid H
              clear H
              have b124 : (x108.fKey == a1) = true := beq_iff_eq.2 c123
              have b125 : (x108.fKey != a1) = false := bne_eq_false_iff_eq.2 c123
              clear c123
              go_wp2_with fail
              have HS1260 := (((HS117.out).alloc #[.string (bsOf x108.fKey), .bool x108.fValue.null, .string (bsOf x108.fValue.data)] 58).set 1 rfl 0 (.bool x108.fValue.null)).set 1 rfl 1 (.string (bsOf x108.fValue.data))
              try simp (disch := first | rfl | assumption | (simp only [World.size_setCell, World.size_alloc]; omega)) only [World.setCell_alloc_past, World.setCell_alloc_at, World.size_alloc, World.size_setCell, List.setIfInBounds_toArray, List.set_cons_zero, List.set_cons_succ] at HS1260
              have HS126 := Lib.hid HS1260
              clear HS1260
              go_roundg g107
              case measure => omega
              case rel => exact ⟨true, k102 + 1, x108.fValue.null, x108.fValue.data, by omega, rfl, by go_num, Lib.hid (((HS126.out.front 2 rfl).front 2 rfl).keep 2), HH⟩
            · have H := HH.out
              clear HH
              rw [if_neg c123] at H
              have HH := Lib.hid H
              clear H
              have b127 : (x108.fKey == a1) = false := beq_eq_false_iff_ne.2 c123
              have b128 : (x108.fKey != a1) = true := bne_iff_ne.2 c123
              clear c123
              go_wp2_with fail
              have HS1290 := (HS117.out).alloc #[.string (bsOf x108.fKey), .bool x108.fValue.null, .string (bsOf x108.fValue.data)] 58
              try simp (disch := first | rfl | assumption | (simp only [World.size_setCell, World.size_alloc]; omega)) only [World.setCell_alloc_past, World.setCell_alloc_at, World.size_alloc, World.size_setCell, List.setIfInBounds_toArray, List.set_cons_zero, List.set_cons_succ] at HS1290
              have HS129 := Lib.hid HS1290
              clear HS1290
              go_roundg g107
              case measure => omega
              case rel => exact ⟨y101, k102 + 1, y103, y104, by omega, rfl, by go_num, Lib.hid (((HS129.out.front 2 rfl).front 2 rfl).keep 2), HH⟩
  · have H := HH.out
    clear HH
    rw [if_neg c88] at H
    have HH := Lib.hid H
    clear H
    have c88 : x84 = false := by simpa using c88
    subst c88
    go_wp2_with fail
    go_ret
    have H := Option.some.inj HH.out
    clear HH
    subst H
    exact ⟨_, _, _, rfl, ⟨rfl, rfl, rfl⟩, (HS87.out.front 0 rfl).keep 1⟩
end Go.Proofs.Ytdlpmcbglmgpiaa.Sl
