/- Printed by g.py: package header. -/
import Derived.Test.YtdlpmcbglmgpiaaGb
import Derived.Test.YtdlpmcbglmgpiaaT
import Derived.Deep.LoopGhost
import Derived.WalkLawsBesides
import Derived.IntWalk
import Derived.Deep.RegionHeld3
namespace Go.Proofs.Ytdlpmcbglmgpiaa.Sl
open Go.RowKit
set_option linter.unusedVariables false
set_option linter.unusedSimpArgs false
attribute [local go_sem] bsOf_toList bsOf_size bsOf_app
theorem infoE_cursitor_api_Header : (Try.prog.info? 58).map (fun i => (i.zero, i.size, i.bytes)) = some (some (.agg #[.string ⟨#[]⟩, .bool false, .string ⟨#[]⟩]), 3, 40) := by kernel_rfl
theorem infoG_cursitor_api_Blob : (Try.prog.info? 26).map (·.size) = some 2 := by kernel_rfl
def f_header_Write_l1 : List Hd → (List UInt8 × Int) → Option (List UInt8 × Int)
  | [], st9 => some st9
  | x13 :: xs, st9 => (gPutName st9 x13.fKey).bind fun st23 => (gPutVaried st23 x13.fValue).bind fun st35 => f_header_Write_l1 xs st35
def f_header_Write (st : List UInt8 × Int) (a1 : List Hd) : Option (List UInt8 × Int) := (gPutInt st (a1.length : Int)).bind fun st3 => (f_header_Write_l1 a1 st3).bind fun st48 => some st48
set_option maxRecDepth 100000 in
set_option maxHeartbeats 1000000 in
theorem f_header_Write_spec (g : Nat) (st : List UInt8 × Int) (a1 : List Hd) (A1 : Option Addr) (c2 : Nat) (r : List UInt8 × Int) (h : f_header_Write st a1 = some r) : SpecX Try.prog 29 #[.pointer (some ⟨g, 0, none⟩), .slice A1 a1.length c2] (RX.of (sliceRd 3 Hd_rd) [.slice A1 a1.length c2] a1) (OutR g st) (fun v A' N => v = .tuple #[] ∧ A' = OutR g r ∧ N = []) := by
  intro F w hA hX
  have HX1 := Lib.hid hX
  clear hX
  have HS0 := Lib.hid (St.start F w (Sep.one hA))
  clear hA
  unfold f_header_Write at h
  have HH := Lib.hid h
  clear h
  go_enter Try.func29, Try.ntmps29
  go_wp2_with fail
  have H0 := HH.out
  clear HH
  obtain ⟨st3, hx4, H⟩ := Option.bind_eq_some_iff.1 H0
  clear H0
  try dsimp only at H
  have hx4H := Lib.hid hx4
  clear hx4
  have HH := Lib.hid H
  clear H
  refine (St.callX 0 HS0.out rfl (gPutInt_spec g st (a1.length : Int) _ hx4H.out) (Src.triv _)).mono ?_
  rintro e w5 ⟨v, A', N, rfl, ⟨rfl, rfl, rfl⟩, H1⟩
  clear hx4H HS0
  try simp only [List.cons_append, List.nil_append, List.set_cons_zero, List.set_cons_succ] at H1
  have HS6 := Lib.hid H1
  clear H1
  go_wp2_with fail
  have H0 := HH.out
  clear HH
  obtain ⟨E10, hE, H⟩ := Option.bind_eq_some_iff.1 H0
  clear H0
  have HHo11 := Lib.hid H
  have HE := Lib.hid hE
  clear H hE
  have hm49 := RX.len_le HX1.out
  go_loopg [12] (a1.length) (fun g12 s12 w7 => ∃ (k8 : Nat) (st9 : List UInt8 × Int), k8 + g12 = a1.length ∧ s12 = .int .i64 (k8 : Int) ∧ Hid (St F w [OutR g st9] w7) ∧ Hid (f_header_Write_l1 (a1.drop k8) st9 = some E10))
  case atStart => exact ⟨0, st3, by simp, rfl, HS6, Lib.hid (by rw [List.drop_zero]; exact HE.out)⟩
  case round =>
    obtain ⟨k8, st9, hkg16, rfl, HSr14, HL15⟩ := hrel
    obtain ⟨w7, rfl⟩ : ∃ w7 : World, w7 = wr := ⟨_, rfl⟩
    clear HE
    cases gk with
    | zero =>
      have H := HL15.out
      clear HL15
      rw [List.drop_of_length_le (by omega), f_header_Write_l1] at H
      have HH := Lib.hid H
      clear H
      have hkg16ge : ¬ ((k8 : Int) < (a1.length : Int)) := by omega
      have H1 := HSr14.out
      clear HSr14
      have HS50 := Lib.hid H1
      clear H1
      have H := Option.some.inj HH.out
      clear HH
      subst H
      have H := HHo11.out
      clear HHo11
      try dsimp only at H
      have HH := Lib.hid H
      clear H
      go_wp2_with fail
      go_end0
      have H := Option.some.inj HH.out
      clear HH
      subst H
      exact ⟨_, _, _, rfl, ⟨rfl, rfl, rfl⟩, (HS50.out.front 0 rfl).keep 1⟩
    | succ g12 =>
      have H := HL15.out
      clear HL15
      obtain ⟨x13, hxx13⟩ : ∃ x, a1[k8]? = some x := ⟨_, List.getElem?_eq_getElem (by omega)⟩
      rw [drop_cons hxx13, f_header_Write_l1] at H
      have hxx13H := Lib.hid hxx13
      clear hxx13
      have HH := Lib.hid H
      clear H
      have hkg16lt : (k8 : Int) < (a1.length : Int) := by omega
      have H1 := HSr14.out
      clear HSr14
      have HS17 := Lib.hid H1
      clear H1
      obtain ⟨gz18, oz18, rfl, z18cs, z18l, z18c, z18nf, z18r⟩ := RX.elem (by decide) HX1.out hxx13H.out
      obtain ⟨z18S, z18r, z18r2⟩ := z18r
      obtain rfl : z18cs = [.string (bsOf x13.fKey), .bool x13.fValue.null, .string (bsOf x13.fValue.data)] := z18r
      have z18B0 := Lib.hid (show w.cell? ⟨gz18, oz18 + k8 * 3, none⟩ = some (.string (bsOf x13.fKey)) from z18c 0 (by decide))
      have z18B1 := Lib.hid (show w.cell? ⟨gz18, oz18 + k8 * 3 + 1, none⟩ = some (.bool x13.fValue.null) from z18c 1 (by decide))
      have z18B2 := Lib.hid (show w.cell? ⟨gz18, oz18 + k8 * 3 + 2, none⟩ = some (.string (bsOf x13.fValue.data)) from z18c 2 (by decide))
      clear z18c
      have d19 : w7.cell? ⟨gz18, oz18 + k8 * 3, none⟩ = some (.string (bsOf x13.fKey)) := St.old2 HS17.out z18nf z18B0.out
      have d20 : w7.cell? ⟨gz18, oz18 + k8 * 3 + 1, none⟩ = some (.bool x13.fValue.null) := St.old2 HS17.out z18nf z18B1.out
      have d21 : w7.cell? ⟨gz18, oz18 + k8 * 3 + 2, none⟩ = some (.string (bsOf x13.fValue.data)) := St.old2 HS17.out z18nf z18B2.out
      have lt22 : gz18 < w7.heap.size := Nat.lt_of_lt_of_le z18nf.2 HS17.out.fr.size
      go_wp2_with fail
      have H0 := HH.out
      clear HH
      obtain ⟨st23, hx24, H⟩ := Option.bind_eq_some_iff.1 H0
      clear H0
      try dsimp only at H
      have hx24H := Lib.hid hx24
      clear hx24
      have HH := Lib.hid H
      clear H
      have HS250 := (HS17.out).alloc #[.string (bsOf x13.fKey), .bool x13.fValue.null, .string (bsOf x13.fValue.data)] 58
      try simp only [World.size_alloc, World.size_setCell, List.setIfInBounds_toArray, List.set_cons_zero, List.set_cons_succ] at HS250
      have HS25 := Lib.hid HS250
      clear HS250
      refine (St.callX 1 HS25.out rfl (gPutName_spec g st9 x13.fKey _ hx24H.out) (Src.triv _)).mono ?_
      rintro e w26 ⟨v, A', N, rfl, ⟨rfl, rfl, rfl⟩, H1⟩
      clear hx24H HS25
      try simp only [List.cons_append, List.nil_append, List.set_cons_zero, List.set_cons_succ] at H1
      clear d19 d20 d21 lt22
      have lt27 : w7.heap.size < w26.heap.size := heap_lt (St.blk 0 H1 rfl)
      have d28 : w26.cell? ⟨w7.heap.size, 0, none⟩ = some (.string (bsOf x13.fKey)) := heap_at (St.blk 0 H1 rfl) 0
      have d29 : w26.cell? ⟨w7.heap.size, 1, none⟩ = some (.bool x13.fValue.null) := heap_at (St.blk 0 H1 rfl) 1
      have d30 : w26.cell? ⟨w7.heap.size, 2, none⟩ = some (.string (bsOf x13.fValue.data)) := heap_at (St.blk 0 H1 rfl) 2
      have z31 : w26.frozen? ⟨w7.heap.size, 0, none⟩ = false := heap_free (St.blk 0 H1 rfl) 0
      have z32 : w26.frozen? ⟨w7.heap.size, 1, none⟩ = false := heap_free (St.blk 0 H1 rfl) 1
      have z33 : w26.frozen? ⟨w7.heap.size, 2, none⟩ = false := heap_free (St.blk 0 H1 rfl) 2
      have HS34 := Lib.hid H1
      clear H1
      go_wp2_with fail
      have H0 := HH.out
      clear HH
      obtain ⟨st35, hx36, H⟩ := Option.bind_eq_some_iff.1 H0
      clear H0
      try dsimp only at H
      have hx36H := Lib.hid hx36
      clear hx36
      have HH := Lib.hid H
      clear H
      refine (St.callX 1 HS34.out rfl (gPutVaried_spec g st23 x13.fValue _ hx36H.out) (Src.triv _)).mono ?_
      rintro e w37 ⟨v, A', N, rfl, ⟨rfl, rfl, rfl⟩, H1⟩
      clear hx36H HS34
      try simp only [List.cons_append, List.nil_append, List.set_cons_zero, List.set_cons_succ] at H1
      clear lt27 d28 d29 d30 z31 z32 z33
      have lt38 : w7.heap.size < w37.heap.size := heap_lt (St.blk 0 H1 rfl)
      have d39 : w37.cell? ⟨w7.heap.size, 0, none⟩ = some (.string (bsOf x13.fKey)) := heap_at (St.blk 0 H1 rfl) 0
      have d40 : w37.cell? ⟨w7.heap.size, 1, none⟩ = some (.bool x13.fValue.null) := heap_at (St.blk 0 H1 rfl) 1
      have d41 : w37.cell? ⟨w7.heap.size, 2, none⟩ = some (.string (bsOf x13.fValue.data)) := heap_at (St.blk 0 H1 rfl) 2
      have z42 : w37.frozen? ⟨w7.heap.size, 0, none⟩ = false := heap_free (St.blk 0 H1 rfl) 0
      have z43 : w37.frozen? ⟨w7.heap.size, 1, none⟩ = false := heap_free (St.blk 0 H1 rfl) 1
      have z44 : w37.frozen? ⟨w7.heap.size, 2, none⟩ = false := heap_free (St.blk 0 H1 rfl) 2
      have HS45 := Lib.hid H1
      clear H1
      go_wp2_with fail
      go_roundg g12
      case measure => omega
      case rel => exact ⟨k8 + 1, st35, by omega, by go_num, Lib.hid ((HS45.out.front 1 rfl).keep 1), HH⟩
def f_header_Read_l1 (x1 : Int) : Nat → List Hd → Nat → I → Option (Lp (List Hd × I) (List Hd × Nat × I))
  | 0, _, _, _ => none
  | g41 + 1, y34, k37, st38 => if (k37 : Int) < x1 then ((gName st38).bind fun (x49, st50) => (gVaried st50).bind fun (x54, st55) => if (y34.length + 1) * 40 ≤ 140737488355328 then ((gErr st55).bind fun (x65, st66) => if x65 = 0 then (if -9223372036854775808 ≤ ((k37 : Int) + 1) ∧ ((k37 : Int) + 1) ≤ 9223372036854775807 then (f_header_Read_l1 x1 g41 (y34 ++ [(⟨x49, x54⟩ : Hd)]) (k37 + 1) st66) else none) else (some (Lp.ret ([], st66)))) else none) else (some (Lp.go (y34, k37, st38)))
def f_header_Read (st : I)  : Option (List Hd × I) := (gVInt st).bind fun (x1, st2) => (gErr st2).bind fun (x6, st7) => if x6 = 0 then (if x1 < 0 then ((gIFail st7 4).bind fun st14 => some ([], st14)) else ((gLeft st7).bind fun (x19, st20) => if 0 ≤ x19 ∧ x19 ≤ 9223372036854775807 then (if x1 > (x19 / 2) then ((gIFail st20 1).bind fun st27 => some ([], st27)) else ((f_header_Read_l1 x1 ((x1).toNat + 1) [] 0 st20).bind fun e => match e with | .ret r => some r | .go (y76, k79, st80) => some (y76, st80))) else none)) else some ([], st7)
set_option maxRecDepth 100000 in
set_option maxHeartbeats 1000000 in
theorem f_header_Read_spec (g : Nat) (st : I)  (r : List Hd × I) (h : f_header_Read st  = some r) : SpecX Try.prog 33 #[.pointer (some ⟨g, 0, none⟩)] .triv (InR g st) (fun v A' N => ∃ (A83 : Option Addr) (c84 : Nat), v = .slice A83 r.1.length c84 ∧ A' = InR g r.2 ∧ N = [RdR (sliceRd 3 Hd_rd) [.slice A83 r.1.length c84] r.1]) := by
  intro F w hA hX
  clear hX
  have HS0 := Lib.hid (St.start F w (Sep.one hA))
  clear hA
  unfold f_header_Read at h
  have HH := Lib.hid h
  clear h
  go_enter Try.func33, Try.ntmps33
  go_wp2_with fail
  have H0 := HH.out
  clear HH
  obtain ⟨⟨x1, st2⟩, hx3, H⟩ := Option.bind_eq_some_iff.1 H0
  clear H0
  try dsimp only at H
  have hx3H := Lib.hid hx3
  clear hx3
  have HH := Lib.hid H
  clear H
  refine (St.callX 0 HS0.out rfl (gVInt_spec g st _ hx3H.out) (Src.triv _)).mono ?_
  rintro e w4 ⟨v, A', N, rfl, ⟨rfl, rfl, rfl⟩, H1⟩
  clear hx3H HS0
  try simp only [List.cons_append, List.nil_append, List.set_cons_zero, List.set_cons_succ] at H1
  have HS5 := Lib.hid H1
  clear H1
  go_wp2_with fail
  have H0 := HH.out
  clear HH
  obtain ⟨⟨x6, st7⟩, hx8, H⟩ := Option.bind_eq_some_iff.1 H0
  clear H0
  try dsimp only at H
  have hx8H := Lib.hid hx8
  clear hx8
  have HH := Lib.hid H
  clear H
  refine (St.callX 0 HS5.out rfl (gErr_spec g st2 _ hx8H.out) (Src.triv _)).mono ?_
  rintro e w9 ⟨v, A', N, rfl, ⟨rfl, rfl, rfl⟩, H1⟩
  clear hx8H HS5
  try simp only [List.cons_append, List.nil_append, List.set_cons_zero, List.set_cons_succ] at H1
  have HS10 := Lib.hid H1
  clear H1
  by_cases c11 : x6 = 0
  · have H := HH.out
    clear HH
    rw [if_pos c11] at H
    have HH := Lib.hid H
    clear H
    subst c11
    by_cases c12 : x1 < 0
    · have H := HH.out
      clear HH
      rw [if_pos c12] at H
      have HH := Lib.hid H
      clear H
      have b13 : decide (x1 < 0) = true := decide_eq_true c12
      go_wp2_with fail
      have H0 := HH.out
      clear HH
      obtain ⟨st14, hx15, H⟩ := Option.bind_eq_some_iff.1 H0
      clear H0
      try dsimp only at H
      have hx15H := Lib.hid hx15
      clear hx15
      have HH := Lib.hid H
      clear H
      refine (St.callX 0 HS10.out rfl (gIFail_spec g st7 4 _ hx15H.out) (Src.triv _)).mono ?_
      rintro e w16 ⟨v, A', N, rfl, ⟨rfl, rfl, rfl⟩, H1⟩
      clear hx15H HS10
      try simp only [List.cons_append, List.nil_append, List.set_cons_zero, List.set_cons_succ] at H1
      have HS17 := Lib.hid H1
      clear H1
      go_wp2_with fail
      go_ret
      have H := Option.some.inj HH.out
      clear HH
      subst H
      exact ⟨_, _, _, rfl, ⟨_, _, by first | rfl | simp, rfl, rfl⟩, (((RdR.nil 3 Hd_rd HS17.out).front 0 rfl).front 1 rfl).keep 2⟩
    · have H := HH.out
      clear HH
      rw [if_neg c12] at H
      have HH := Lib.hid H
      clear H
      have b18 : decide (x1 < 0) = false := decide_eq_false c12
      go_wp2_with fail
      have H0 := HH.out
      clear HH
      obtain ⟨⟨x19, st20⟩, hx21, H⟩ := Option.bind_eq_some_iff.1 H0
      clear H0
      try dsimp only at H
      have hx21H := Lib.hid hx21
      clear hx21
      have HH := Lib.hid H
      clear H
      refine (St.callX 0 HS10.out rfl (gLeft_spec g st7 _ hx21H.out) (Src.triv _)).mono ?_
      rintro e w22 ⟨v, A', N, rfl, ⟨rfl, rfl, rfl⟩, H1⟩
      clear hx21H HS10
      try simp only [List.cons_append, List.nil_append, List.set_cons_zero, List.set_cons_succ] at H1
      have HS23 := Lib.hid H1
      clear H1
      have H0 := HH.out
      clear HH
      obtain ⟨⟨c24_0, c24_1⟩, H⟩ := guard_some H0
      clear H0
      have HH := Lib.hid H
      clear H
      by_cases c25 : x1 > (x19 / 2)
      · have H := HH.out
        clear HH
        rw [if_pos c25] at H
        have HH := Lib.hid H
        clear H
        have b26 : decide ((x19 / 2) < x1) = true := decide_eq_true c25
        go_wp2_with fail
        have H0 := HH.out
        clear HH
        obtain ⟨st27, hx28, H⟩ := Option.bind_eq_some_iff.1 H0
        clear H0
        try dsimp only at H
        have hx28H := Lib.hid hx28
        clear hx28
        have HH := Lib.hid H
        clear H
        refine (St.callX 0 HS23.out rfl (gIFail_spec g st20 1 _ hx28H.out) (Src.triv _)).mono ?_
        rintro e w29 ⟨v, A', N, rfl, ⟨rfl, rfl, rfl⟩, H1⟩
        clear hx28H HS23
        try simp only [List.cons_append, List.nil_append, List.set_cons_zero, List.set_cons_succ] at H1
        have HS30 := Lib.hid H1
        clear H1
        go_wp2_with fail
        go_ret
        have H := Option.some.inj HH.out
        clear HH
        subst H
        exact ⟨_, _, _, rfl, ⟨_, _, by first | rfl | simp, rfl, rfl⟩, (((RdR.nil 3 Hd_rd HS30.out).front 0 rfl).front 1 rfl).keep 2⟩
      · have H := HH.out
        clear HH
        rw [if_neg c25] at H
        have HH := Lib.hid H
        clear H
        have b31 : decide ((x19 / 2) < x1) = false := decide_eq_false c25
        have HS320 := OwnR.nil 58 3 Hd_rd (HS23.out)
        try simp only [World.size_alloc, World.size_setCell, List.setIfInBounds_toArray, List.set_cons_zero, List.set_cons_succ] at HS320
        have HS32 := Lib.hid HS320
        clear HS320
        go_wp2_with fail
        have H0 := HH.out
        clear HH
        obtain ⟨E39, hE, H⟩ := Option.bind_eq_some_iff.1 H0
        clear H0
        have HHo40 := Lib.hid H
        have HE := Lib.hid hE
        clear H hE
        go_loopg [4, 26] ((x1).toNat + 1) (fun g41 s4 s26 w33 => ∃ (y34 : List Hd) (A35 : Option Addr) (c36 : Nat) (k37 : Nat) (st38 : I), s4 = .slice A35 y34.length c36 ∧ s26 = .int .i64 (k37 : Int) ∧ Hid (St F w [OwnR 58 3 Hd_rd (.slice A35 y34.length c36) y34, InR g st38] w33) ∧ Hid (f_header_Read_l1 x1 g41 y34 k37 st38 = some E39))
        case atStart => exact ⟨[], none, 0, 0, st20, rfl, rfl, HS32, HE⟩
        case round =>
          obtain ⟨y34, A35, c36, k37, st38, rfl, rfl, HSr43, HL44⟩ := hrel
          obtain ⟨w33, rfl⟩ : ∃ w33 : World, w33 = wr := ⟨_, rfl⟩
          clear HE
          cases gk with
          | zero =>
            have H := HL44.out
            rw [f_header_Read_l1] at H
            cases H
          | succ g41 =>
            have H := HL44.out
            clear HL44
            rw [f_header_Read_l1] at H
            have HH := Lib.hid H
            clear H
            have H1 := HSr43.out
            clear HSr43
            have HS46 := Lib.hid H1
            clear H1
            by_cases c47 : (k37 : Int) < x1
            · have H := HH.out
              clear HH
              rw [if_pos c47] at H
              have HH := Lib.hid H
              clear H
              have b48 : decide ((k37 : Int) < x1) = true := decide_eq_true c47
              go_wp2_with fail
              have H0 := HH.out
              clear HH
              obtain ⟨⟨x49, st50⟩, hx51, H⟩ := Option.bind_eq_some_iff.1 H0
              clear H0
              try dsimp only at H
              have hx51H := Lib.hid hx51
              clear hx51
              have HH := Lib.hid H
              clear H
              refine (St.callX 1 HS46.out rfl (gName_spec g st38 _ hx51H.out) (Src.triv _)).mono ?_
              rintro e w52 ⟨v, A', N, rfl, ⟨rfl, rfl, rfl⟩, H1⟩
              clear hx51H HS46
              try simp only [List.cons_append, List.nil_append, List.set_cons_zero, List.set_cons_succ] at H1
              have HS53 := Lib.hid H1
              clear H1
              go_wp2_with fail
              have H0 := HH.out
              clear HH
              obtain ⟨⟨x54, st55⟩, hx56, H⟩ := Option.bind_eq_some_iff.1 H0
              clear H0
              try dsimp only at H
              have hx56H := Lib.hid hx56
              clear hx56
              have HH := Lib.hid H
              clear H
              refine (St.callX 1 HS53.out rfl (gVaried_spec g st50 _ hx56H.out) (Src.triv _)).mono ?_
              rintro e w57 ⟨v, A', N, rfl, ⟨rfl, rfl, rfl⟩, H1⟩
              clear hx56H HS53
              try simp only [List.cons_append, List.nil_append, List.set_cons_zero, List.set_cons_succ] at H1
              have HS58 := Lib.hid H1
              clear H1
              have H0 := HH.out
              clear HH
              obtain ⟨c59_0, H⟩ := guard_some H0
              clear H0
              have HH := Lib.hid H
              clear H
              obtain ⟨z60cs, z60o, z60p⟩ := OwnR.open_ 0 HS58.out rfl
              have z60hb : (y34.length + 1) * 40 ≤ 140737488355328 := c59_0
              have z60hm : y34.length + 1 ≤ 140737488355328 := by omega
              go_wp2_with (at_builtin; refine wp_append_elem_at _ rfl (.tmp 30) (.tmp 35) 48 rfl 58 (.agg #[.string ⟨#[]⟩, .bool false, .string ⟨#[]⟩]) 3 40 (by decide) Try.underlying48 infoE_cursitor_api_Header rfl (.slice A35 y34.length c36) _ z60cs rfl z60o #[.string (bsOf x49), .bool x54.null, .string (bsOf x54.data)] rfl (by simp [Value.oneCell']) w57.heap.size (by first | rfl | simp) rfl z60hb z60hm ?_; intro v1 w63 ho1 hg hat; have H1 := z60p _ _ _ (⟨x49, x54⟩ : Hd) ho1 hg hat rfl (fun _ _ => rfl); rw [show y34.length + 1 = (y34 ++ [(⟨x49, x54⟩ : Hd)]).length by simp] at ho1; obtain ⟨A61, c62, rfl⟩ := row_slice ho1; clear ho1 hg hat z60p z60o z60hb z60hm HS58; (try simp only [List.cons_append, List.nil_append, List.set_cons_zero, List.set_cons_succ] at H1); have HS64 := Lib.hid H1; clear H1)
              have H0 := HH.out
              clear HH
              obtain ⟨⟨x65, st66⟩, hx67, H⟩ := Option.bind_eq_some_iff.1 H0
              clear H0
              try dsimp only at H
              have hx67H := Lib.hid hx67
              clear hx67
              have HH := Lib.hid H
              clear H
              refine (St.callX 1 HS64.out rfl (gErr_spec g st55 _ hx67H.out) (Src.triv _)).mono ?_
              rintro e w68 ⟨v, A', N, rfl, ⟨rfl, rfl, rfl⟩, H1⟩
              clear hx67H HS64
              try simp only [List.cons_append, List.nil_append, List.set_cons_zero, List.set_cons_succ] at H1
              have HS69 := Lib.hid H1
              clear H1
              by_cases c70 : x65 = 0
              · have H := HH.out
                clear HH
                rw [if_pos c70] at H
                have HH := Lib.hid H
                clear H
                subst c70
                have H0 := HH.out
                clear HH
                obtain ⟨⟨c71_0, c71_1⟩, H⟩ := guard_some H0
                clear H0
                have HH := Lib.hid H
                clear H
                go_wp2_with fail
                go_roundg g41
                case measure => omega
                case rel => exact ⟨(y34 ++ [(⟨x49, x54⟩ : Hd)]), A61, c62, k37 + 1, st66, by first | rfl | simp, by go_num, Lib.hid (((HS69.out.front 1 rfl).front 1 rfl).keep 2), HH⟩
              · have H := HH.out
                clear HH
                rw [if_neg c70] at H
                have HH := Lib.hid H
                clear H
                have b72 : (x65 == 0) = false := beq_eq_false_iff_ne.2 c70
                have b73 : (x65 != 0) = true := bne_iff_ne.2 c70
                clear c70
                go_wp2_with fail
                go_ret
                have H := HH.out
                clear HH
                have H := Option.some.inj H
                subst H
                have H := HHo40.out
                clear HHo40
                dsimp only at H
                have HH := Lib.hid H
                clear H
                have H := Option.some.inj HH.out
                clear HH
                subst H
                exact ⟨_, _, _, rfl, ⟨_, _, by first | rfl | simp, rfl, rfl⟩, (((RdR.nil 3 Hd_rd HS69.out).front 0 rfl).front 2 rfl).keep 2⟩
            · have H := HH.out
              clear HH
              rw [if_neg c47] at H
              have HH := Lib.hid H
              clear H
              have b74 : decide ((k37 : Int) < x1) = false := decide_eq_false c47
              have H := Option.some.inj HH.out
              clear HH
              subst H
              have H := HHo40.out
              clear HHo40
              try dsimp only at H
              have HH := Lib.hid H
              clear H
              go_wp2_with fail
              go_ret
              have H := Option.some.inj HH.out
              clear HH
              subst H
              exact ⟨_, _, _, rfl, ⟨_, _, by first | rfl | simp, rfl, rfl⟩, (((OwnR.shut (by decide) 0 HS46.out rfl).front 0 rfl).front 1 rfl).keep 2⟩
  · have H := HH.out
    clear HH
    rw [if_neg c11] at H
    have HH := Lib.hid H
    clear H
    have b81 : (x6 == 0) = false := beq_eq_false_iff_ne.2 c11
    have b82 : (x6 != 0) = true := bne_iff_ne.2 c11
    clear c11
    go_wp2_with fail
    go_ret
    have H := Option.some.inj HH.out
    clear HH
    subst H
    exact ⟨_, _, _, rfl, ⟨_, _, by first | rfl | simp, rfl, rfl⟩, (((RdR.nil 3 Hd_rd HS10.out).front 0 rfl).front 1 rfl).keep 2⟩
def f_header_Find_l1 (a0 : List Hd) (a1 : List UInt8) : Nat → Int → Option (Lp (Bl × Bool) Int)
  | 0, _ => none
  | g9 + 1, y6 => if y6 ≥ 0 then (if 0 ≤ y6 then ((a0[y6.toNat]?).bind fun x22 => if x22.fKey = a1 then (some (Lp.ret (x22.fValue, true))) else (if -9223372036854775808 ≤ (y6 - 1) ∧ (y6 - 1) ≤ 9223372036854775807 then (f_header_Find_l1 a0 a1 g9 (y6 - 1)) else none)) else none) else some (Lp.go y6)
def f_header_Find (a0 : List Hd) (a1 : List UInt8) : Option (Bl × Bool) := if -9223372036854775808 ≤ ((a0.length : Int) - 1) ∧ ((a0.length : Int) - 1) ≤ 9223372036854775807 then ((f_header_Find_l1 a0 a1 (((((a0.length : Int) - 1)) - (-1)).toNat + 1) ((a0.length : Int) - 1)).bind fun e => match e with | .ret r => some r | .go y40 => (some ((⟨false, []⟩ : Bl), false))) else none
set_option maxRecDepth 100000 in
set_option maxHeartbeats 1000000 in
theorem f_header_Find_spec (a0 : List Hd) (A1 : Option Addr) (c2 : Nat) (a1 : List UInt8) (r : Bl × Bool) (h : f_header_Find a0 a1 = some r) : SpecX Try.prog 35 #[.slice A1 a0.length c2, .string (bsOf a1)] (RX.of (sliceRd 3 Hd_rd) [.slice A1 a0.length c2] a0) (EmpR) (fun v A' N => v = .tuple #[.agg #[.bool r.1.null, .string (bsOf r.1.data)], .bool r.2] ∧ A' = EmpR ∧ N = []) := by
  intro F w hA hX
  have HX1 := Lib.hid hX
  clear hX
  have HS0 := Lib.hid (St.start F w (Sep.one hA))
  clear hA
  unfold f_header_Find at h
  have HH := Lib.hid h
  clear h
  go_enter Try.func35, Try.ntmps35
  have H0 := HH.out
  clear HH
  obtain ⟨⟨c3_0, c3_1⟩, H⟩ := guard_some H0
  clear H0
  have HH := Lib.hid H
  clear H
  have HS40 := (HS0.out).alloc #[.bool false, .string ⟨#[]⟩] 26
  try simp only [World.size_alloc, World.size_setCell, List.setIfInBounds_toArray, List.set_cons_zero, List.set_cons_succ] at HS40
  have HS4 := Lib.hid HS40
  clear HS40
  go_wp2_with fail
  have H0 := HH.out
  clear HH
  obtain ⟨E7, hE, H⟩ := Option.bind_eq_some_iff.1 H0
  clear H0
  have HHo8 := Lib.hid H
  have HE := Lib.hid hE
  clear H hE
  go_loopg [6] (((((a0.length : Int) - 1)) - (-1)).toNat + 1) (fun g9 s6 w5 => ∃ (y6 : Int), s6 = .int .i64 y6 ∧ Hid (St F w [BlkR w.heap.size 26 #[.bool false, .string ⟨#[]⟩], EmpR] w5) ∧ Hid (f_header_Find_l1 a0 a1 g9 y6 = some E7))
  case atStart => exact ⟨((a0.length : Int) - 1), rfl, HS4, HE⟩
  case round =>
    obtain ⟨y6, rfl, HSr11, HL12⟩ := hrel
    obtain ⟨w5, rfl⟩ : ∃ w5 : World, w5 = wr := ⟨_, rfl⟩
    clear HE
    cases gk with
    | zero =>
      have H := HL12.out
      rw [f_header_Find_l1] at H
      cases H
    | succ g9 =>
      have H := HL12.out
      clear HL12
      rw [f_header_Find_l1] at H
      have HH := Lib.hid H
      clear H
      have H1 := HSr11.out
      clear HSr11
      have lt14 : w.heap.size < w5.heap.size := heap_lt (St.blk 0 H1 rfl)
      have d15 : w5.cell? ⟨w.heap.size, 0, none⟩ = some (.bool false) := heap_at (St.blk 0 H1 rfl) 0
      have d16 : w5.cell? ⟨w.heap.size, 1, none⟩ = some (.string ⟨#[]⟩) := heap_at (St.blk 0 H1 rfl) 1
      have z17 : w5.frozen? ⟨w.heap.size, 0, none⟩ = false := heap_free (St.blk 0 H1 rfl) 0
      have z18 : w5.frozen? ⟨w.heap.size, 1, none⟩ = false := heap_free (St.blk 0 H1 rfl) 1
      have HS19 := Lib.hid H1
      clear H1
      by_cases c20 : y6 ≥ 0
      · have H := HH.out
        clear HH
        rw [if_pos c20] at H
        have HH := Lib.hid H
        clear H
        have b21 : decide (0 ≤ y6) = true := decide_eq_true c20
        have H0 := HH.out
        clear HH
        obtain ⟨c24_0, H⟩ := guard_some H0
        clear H0
        have HH := Lib.hid H
        clear H
        have H0 := HH.out
        clear HH
        obtain ⟨x22, hx23, H⟩ := Option.bind_eq_some_iff.1 H0
        clear H0
        try dsimp only at H
        have hx23L := (List.getElem?_eq_some_iff.1 hx23).1
        have hx23H := Lib.hid hx23
        clear hx23
        have HH := Lib.hid H
        clear H
        have hx23b : y6 < (a0.length : Int) := by omega
        obtain ⟨gz25, oz25, rfl, z25cs, z25l, z25c, z25nf, z25r⟩ := RX.elem (by decide) HX1.out hx23H.out
        obtain ⟨z25S, z25r, z25r2⟩ := z25r
        obtain rfl : z25cs = [.string (bsOf x22.fKey), .bool x22.fValue.null, .string (bsOf x22.fValue.data)] := z25r
        have z25B0 := Lib.hid (show w.cell? ⟨gz25, oz25 + y6.toNat * 3, none⟩ = some (.string (bsOf x22.fKey)) from z25c 0 (by decide))
        have z25B1 := Lib.hid (show w.cell? ⟨gz25, oz25 + y6.toNat * 3 + 1, none⟩ = some (.bool x22.fValue.null) from z25c 1 (by decide))
        have z25B2 := Lib.hid (show w.cell? ⟨gz25, oz25 + y6.toNat * 3 + 2, none⟩ = some (.string (bsOf x22.fValue.data)) from z25c 2 (by decide))
        clear z25c
        have d26 : w5.cell? ⟨gz25, oz25 + y6.toNat * 3, none⟩ = some (.string (bsOf x22.fKey)) := St.old2 HS19.out z25nf z25B0.out
        have d27 : w5.cell? ⟨gz25, oz25 + y6.toNat * 3 + 1, none⟩ = some (.bool x22.fValue.null) := St.old2 HS19.out z25nf z25B1.out
        have d28 : w5.cell? ⟨gz25, oz25 + y6.toNat * 3 + 2, none⟩ = some (.string (bsOf x22.fValue.data)) := St.old2 HS19.out z25nf z25B2.out
        have lt29 : gz25 < w5.heap.size := Nat.lt_of_lt_of_le z25nf.2 HS19.out.fr.size
        by_cases c30 : x22.fKey = a1
        · have H := HH.out
          clear HH
          rw [if_pos c30] at H
          have HH := Lib.hid H
          clear H
          have b31 : (x22.fKey == a1) = true := beq_iff_eq.2 c30
          have b32 : (x22.fKey != a1) = false := bne_eq_false_iff_eq.2 c30
          clear c30
          go_wp2_with fail
          have HS330 := ((HS19.out).set 0 rfl 0 (.bool x22.fValue.null)).set 0 rfl 1 (.string (bsOf x22.fValue.data))
          try simp only [World.size_alloc, World.size_setCell, List.setIfInBounds_toArray, List.set_cons_zero, List.set_cons_succ] at HS330
          have HS33 := Lib.hid HS330
          clear HS330
          refine bodyPost_ret (v := .tuple #[.agg #[.bool x22.fValue.null, .string (bsOf x22.fValue.data)], .bool true]) (results2 (by rfl) (resc w.heap.size 26 #[.bool x22.fValue.null, .string (bsOf x22.fValue.data)] (0, 0) _ rfl (St.blk 0 HS33.out rfl) Try.underlying26 rfl infoG_cursitor_api_Blob) (rest_ _ _ rfl)) rfl ?_
          have H := HH.out
          clear HH
          have H := Option.some.inj H
          subst H
          have H := HHo8.out
          clear HHo8
          dsimp only at H
          have HH := Lib.hid H
          clear H
          have H := Option.some.inj HH.out
          clear HH
          subst H
          exact ⟨_, _, _, rfl, ⟨rfl, rfl, rfl⟩, (HS33.out.front 1 rfl).keep 1⟩
        · have H := HH.out
          clear HH
          rw [if_neg c30] at H
          have HH := Lib.hid H
          clear H
          have b34 : (x22.fKey == a1) = false := beq_eq_false_iff_ne.2 c30
          have b35 : (x22.fKey != a1) = true := bne_iff_ne.2 c30
          clear c30
          have H0 := HH.out
          clear HH
          obtain ⟨⟨c36_0, c36_1⟩, H⟩ := guard_some H0
          clear H0
          have HH := Lib.hid H
          clear H
          go_wp2_with fail
          go_roundg g9
          case measure => omega
          case rel => exact ⟨(y6 - 1), rfl, Lib.hid (((HS19.out.front 1 rfl).front 1 rfl).keep 2), HH⟩
      · have H := HH.out
        clear HH
        rw [if_neg c20] at H
        have HH := Lib.hid H
        clear H
        have b37 : decide (0 ≤ y6) = false := decide_eq_false c20
        have H := Option.some.inj HH.out
        clear HH
        subst H
        have H := HHo8.out
        clear HHo8
        try dsimp only at H
        have HH := Lib.hid H
        clear H
        go_wp2_with fail
        have HS380 := ((HS19.out).set 0 rfl 0 (.bool false)).set 0 rfl 1 (.string ⟨#[]⟩)
        try simp only [World.size_alloc, World.size_setCell, List.setIfInBounds_toArray, List.set_cons_zero, List.set_cons_succ] at HS380
        have HS38 := Lib.hid HS380
        clear HS380
        refine bodyPost_ret (v := .tuple #[.agg #[.bool false, .string ⟨#[]⟩], .bool false]) (results2 (by rfl) (resc w.heap.size 26 #[.bool false, .string ⟨#[]⟩] (0, 0) _ rfl (St.blk 0 HS38.out rfl) Try.underlying26 rfl infoG_cursitor_api_Blob) (rest_ _ _ rfl)) rfl ?_
        have H := Option.some.inj HH.out
        clear HH
        subst H
        exact ⟨_, _, _, rfl, ⟨rfl, rfl, rfl⟩, (HS38.out.front 1 rfl).keep 1⟩
end Go.Proofs.Ytdlpmcbglmgpiaa.Sl
