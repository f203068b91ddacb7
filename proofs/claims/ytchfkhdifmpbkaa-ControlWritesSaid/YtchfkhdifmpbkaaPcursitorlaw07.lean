/- Printed by g.py: package cursitorlaw07. -/
import Derived.Test.YtchfkhdifmpbkaaGb
import Derived.Test.YtchfkhdifmpbkaaT
import Derived.Test.YtchfkhdifmpbkaaPcursitorlaw06
import Derived.Deep.LoopGhost
import Derived.WalkLawsBesides
import Derived.IntWalk
import Derived.Deep.RegionHeld3
namespace Go.Proofs.Ytchfkhdifmpbkaa.Sl
open Go.RowKit
set_option linter.unusedVariables false
set_option linter.unusedSimpArgs false
attribute [local go_sem] bsOf_toList bsOf_size bsOf_app
def f_l07_Small (a0 : Rec) : Option (Int) := if (a0.fKey.data.length : Int) > 500 then some 0 else (if (a0.fValue.data.length : Int) > 500 then some 0 else ((f_l06_Small a0.fHeaders).bind fun x11 => some x11))
set_option maxRecDepth 100000 in
set_option maxHeartbeats 1000000 in
theorem f_l07_Small_spec (a0 : Rec) (A1 : Option Addr) (c2 : Nat) (r : Int) (h : f_l07_Small a0 = some r) : SpecX Try.prog 35 #[.agg #[.int .i64 a0.fTime, .int .i64 a0.fOffset, .bool a0.fKey.null, .string (bsOf a0.fKey.data), .bool a0.fValue.null, .string (bsOf a0.fValue.data), .slice A1 a0.fHeaders.length c2]] (RX.of (sliceRd 3 Hd_rd) [.slice A1 a0.fHeaders.length c2] a0.fHeaders) (EmpR) (fun v A' N => v = .int .i64 r ∧ A' = EmpR ∧ N = []) := by
  intro F w hA hX
  have HX1 := Lib.hid hX
  clear hX
  have HS0 := Lib.hid (St.start F w (Sep.one hA))
  clear hA
  unfold f_l07_Small at h
  have HH := Lib.hid h
  clear h
  go_enter Try.func35, Try.ntmps35
  by_cases c3 : (a0.fKey.data.length : Int) > 500
  · have H := HH.out
    clear HH
    rw [if_pos c3] at H
    have HH := Lib.hid H
    clear H
    have b4 : decide (500 < (a0.fKey.data.length : Int)) = true := decide_eq_true c3
    go_wp2_with fail
    have HS50 := (HS0.out).alloc #[.int .i64 a0.fTime, .int .i64 a0.fOffset, .bool a0.fKey.null, .string (bsOf a0.fKey.data), .bool a0.fValue.null, .string (bsOf a0.fValue.data), .slice A1 a0.fHeaders.length c2] 65
    try simp only [World.size_alloc, World.size_setCell] at HS50
    have HS5 := Lib.hid HS50
    clear HS50
    go_ret
    have H := Option.some.inj HH.out
    clear HH
    subst H
    exact ⟨_, _, _, rfl, ⟨rfl, rfl, rfl⟩, (HS5.out.front 1 rfl).keep 1⟩
  · have H := HH.out
    clear HH
    rw [if_neg c3] at H
    have HH := Lib.hid H
    clear H
    have b6 : decide (500 < (a0.fKey.data.length : Int)) = false := decide_eq_false c3
    by_cases c7 : (a0.fValue.data.length : Int) > 500
    · have H := HH.out
      clear HH
      rw [if_pos c7] at H
      have HH := Lib.hid H
      clear H
      have b8 : decide (500 < (a0.fValue.data.length : Int)) = true := decide_eq_true c7
      go_wp2_with fail
      have HS90 := (HS0.out).alloc #[.int .i64 a0.fTime, .int .i64 a0.fOffset, .bool a0.fKey.null, .string (bsOf a0.fKey.data), .bool a0.fValue.null, .string (bsOf a0.fValue.data), .slice A1 a0.fHeaders.length c2] 65
      try simp only [World.size_alloc, World.size_setCell] at HS90
      have HS9 := Lib.hid HS90
      clear HS90
      go_ret
      have H := Option.some.inj HH.out
      clear HH
      subst H
      exact ⟨_, _, _, rfl, ⟨rfl, rfl, rfl⟩, (HS9.out.front 1 rfl).keep 1⟩
    · have H := HH.out
      clear HH
      rw [if_neg c7] at H
      have HH := Lib.hid H
      clear H
      have b10 : decide (500 < (a0.fValue.data.length : Int)) = false := decide_eq_false c7
      go_wp2_with fail
      have H0 := HH.out
      clear HH
      obtain ⟨x11, hx12, H⟩ := Option.bind_eq_some_iff.1 H0
      clear H0
      try dsimp only at H
      have hx12H := Lib.hid hx12
      clear hx12
      have HH := Lib.hid H
      clear H
      have HS130 := (HS0.out).alloc #[.int .i64 a0.fTime, .int .i64 a0.fOffset, .bool a0.fKey.null, .string (bsOf a0.fKey.data), .bool a0.fValue.null, .string (bsOf a0.fValue.data), .slice A1 a0.fHeaders.length c2] 65
      try simp only [World.size_alloc, World.size_setCell] at HS130
      have HS13 := Lib.hid HS130
      clear HS130
      refine (St.callE HS13.out (f_l06_Small_spec a0.fHeaders _ _ _ hx12H.out) (SrcE.old HS13.out HX1.out)).mono ?_
      rintro e w14 ⟨v, A', N, rfl, ⟨rfl, rfl, rfl⟩, H1⟩
      clear hx12H HS13
      try simp only [List.cons_append, List.nil_append, List.set_cons_zero, List.set_cons_succ] at H1
      have HS15 := Lib.hid H1
      clear H1
      go_wp2_with fail
      go_ret
      have H := Option.some.inj HH.out
      clear HH
      subst H
      exact ⟨_, _, _, rfl, ⟨rfl, rfl, rfl⟩, (HS15.out.front 1 rfl).keep 1⟩
end Go.Proofs.Ytchfkhdifmpbkaa.Sl
