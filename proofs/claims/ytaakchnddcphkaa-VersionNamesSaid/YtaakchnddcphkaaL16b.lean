/- the statement VersionNames. -/
import Derived.Test.YtaakchnddcphkaaL16
import Derived.Test.YtaakchnddcphkaaR01
namespace Go.Proofs.Ytaakchnddcphkaa.Sl
open Go.RowKit
set_option linter.unusedVariables false
set_option linter.unusedSimpArgs false
attribute [local go_sem] bsOf_toList bsOf_size

def vof (l : List UInt8) : Int × Bool :=
  if l = [112, 114, 111, 100, 117, 99, 101] then (0, true) else if l = [98, 101, 103, 105, 110] then (22, true) else if l = [97, 100, 100] then (24, true)
  else if l = [101, 110, 100] then (26, true) else if l = [109, 97, 114, 107] then (27, true) else (0, false)
theorem beq_false_of {l m : List UInt8} (h : ¬ l = m) : (m == l) = false := by
  rw [beq_eq_false_iff_ne]
  exact fun e => h e.symm
theorem vof_ways (l : List UInt8) : (l = [112, 114, 111, 100, 117, 99, 101] ∨ l = [98, 101, 103, 105, 110] ∨ l = [97, 100, 100] ∨ l = [101, 110, 100] ∨ l = [109, 97, 114, 107]) ∨
    (([112, 114, 111, 100, 117, 99, 101] == l) = false ∧ ([98, 101, 103, 105, 110] == l) = false ∧ ([97, 100, 100] == l) = false ∧ ([101, 110, 100] == l) = false ∧ ([109, 97, 114, 107] == l) = false ∧ vof l = (0, false)) := by
  by_cases h0 : l = [112, 114, 111, 100, 117, 99, 101]
  · simp [h0]
  by_cases h1 : l = [98, 101, 103, 105, 110]
  · simp [h1]
  by_cases h2 : l = [97, 100, 100]
  · simp [h2]
  by_cases h3 : l = [101, 110, 100]
  · simp [h3]
  by_cases h4 : l = [109, 97, 114, 107]
  · simp [h4]
  exact .inr ⟨beq_false_of h0, beq_false_of h1, beq_false_of h2, beq_false_of h3, beq_false_of h4, by simp [vof, h0, h1, h2, h3, h4]⟩
set_option maxRecDepth 100000 in
set_option maxHeartbeats 4000000 in
theorem VOf_any (l : List UInt8) (w : World) :
    Calls Try.prog 30 #[.string (bsOf l)] w fun e w' => e = .returned (.tuple #[.int .i64 (vof l).1, .bool (vof l).2]) ∧ Below w.heap.size w w' := by
  have i0 : ∀ w : World, (Instr.index 97 (.agg vTable) (.int .i64 0)).run Try.prog w = .ok (.agg #[.int .i64 0, .string ⟨#[112, 114, 111, 100, 117, 99, 101]⟩, .int .i64 3, .int .i64 4]) w := fun _ => by kernel_rfl
  have i1 : ∀ w : World, (Instr.index 97 (.agg vTable) (.int .i64 1)).run Try.prog w = .ok (.agg #[.int .i64 22, .string ⟨#[98, 101, 103, 105, 110]⟩, .int .i64 0, .int .i64 1]) w := fun _ => by kernel_rfl
  have i2 : ∀ w : World, (Instr.index 97 (.agg vTable) (.int .i64 2)).run Try.prog w = .ok (.agg #[.int .i64 24, .string ⟨#[97, 100, 100]⟩, .int .i64 0, .int .i64 0]) w := fun _ => by kernel_rfl
  have i3 : ∀ w : World, (Instr.index 97 (.agg vTable) (.int .i64 3)).run Try.prog w = .ok (.agg #[.int .i64 26, .string ⟨#[101, 110, 100]⟩, .int .i64 0, .int .i64 0]) w := fun _ => by kernel_rfl
  have i4 : ∀ w : World, (Instr.index 97 (.agg vTable) (.int .i64 4)).run Try.prog w = .ok (.agg #[.int .i64 27, .string ⟨#[109, 97, 114, 107]⟩, .int .i64 0, .int .i64 1]) w := fun _ => by kernel_rfl
  rcases vof_ways l with (rfl | rfl | rfl | rfl | rfl) | ⟨h0, h1, h2, h3, h4, hv⟩
  · go_enter Try.func30, Try.ntmps30
    go_wp2_with (go_at_call 67; refine (table_any _).mono ?_; rintro e w1 ⟨rfl, hb⟩; have HB := Lib.hid hb; clear hb)
    refine wp_loop_rounds 6 ?_
    repeat (rw [rounds_succ]; go_wp2_with fail)
    go_ret2
    exact ⟨rfl, by repeat (first | (with_reducible exact HB.out) | (with_reducible refine vbelow ?_ _))⟩
  · go_enter Try.func30, Try.ntmps30
    go_wp2_with (go_at_call 67; refine (table_any _).mono ?_; rintro e w1 ⟨rfl, hb⟩; have HB := Lib.hid hb; clear hb)
    refine wp_loop_rounds 6 ?_
    repeat (rw [rounds_succ]; go_wp2_with fail)
    go_ret2
    exact ⟨rfl, by repeat (first | (with_reducible exact HB.out) | (with_reducible refine vbelow ?_ _))⟩
  · go_enter Try.func30, Try.ntmps30
    go_wp2_with (go_at_call 67; refine (table_any _).mono ?_; rintro e w1 ⟨rfl, hb⟩; have HB := Lib.hid hb; clear hb)
    refine wp_loop_rounds 6 ?_
    repeat (rw [rounds_succ]; go_wp2_with fail)
    go_ret2
    exact ⟨rfl, by repeat (first | (with_reducible exact HB.out) | (with_reducible refine vbelow ?_ _))⟩
  · go_enter Try.func30, Try.ntmps30
    go_wp2_with (go_at_call 67; refine (table_any _).mono ?_; rintro e w1 ⟨rfl, hb⟩; have HB := Lib.hid hb; clear hb)
    refine wp_loop_rounds 6 ?_
    repeat (rw [rounds_succ]; go_wp2_with fail)
    go_ret2
    exact ⟨rfl, by repeat (first | (with_reducible exact HB.out) | (with_reducible refine vbelow ?_ _))⟩
  · go_enter Try.func30, Try.ntmps30
    go_wp2_with (go_at_call 67; refine (table_any _).mono ?_; rintro e w1 ⟨rfl, hb⟩; have HB := Lib.hid hb; clear hb)
    refine wp_loop_rounds 6 ?_
    repeat (rw [rounds_succ]; go_wp2_with fail)
    go_ret2
    exact ⟨rfl, by repeat (first | (with_reducible exact HB.out) | (with_reducible refine vbelow ?_ _))⟩
  · have HV := Lib.hid hv
    clear hv
    go_enter Try.func30, Try.ntmps30
    go_wp2_with (go_at_call 67; refine (table_any _).mono ?_; rintro e w1 ⟨rfl, hb⟩; have HB := Lib.hid hb; clear hb)
    refine wp_loop_rounds 6 ?_
    repeat (rw [rounds_succ]; go_wp2_with fail)
    go_ret2
    exact ⟨by rw [HV.out]; rfl, by repeat (first | (with_reducible exact HB.out) | (with_reducible refine vbelow ?_ _))⟩
theorem VOf_spec (l : List UInt8) : Spec0 Try.prog 30 #[.string (bsOf l)] (fun v N => v = .tuple #[.int .i64 (vof l).1, .bool (vof l).2] ∧ N = []) := by
  intro w
  refine (VOf_any l w).mono ?_
  rintro e w' ⟨rfl, hb⟩
  exact ⟨_, _, rfl, ⟨rfl, rfl⟩, Fr.of_below hb, trivial⟩
theorem known_0 (w : World) : Calls Try.prog 26 #[.int .i64 0] w fun e w' => e = .returned (.tuple #[.int .i64 3, .int .i64 4, .string ⟨#[112, 114, 111, 100, 117, 99, 101]⟩]) ∧ w = w' := LKnown_any 0 w
theorem known_22 (w : World) : Calls Try.prog 26 #[.int .i64 22] w fun e w' => e = .returned (.tuple #[.int .i64 0, .int .i64 1, .string ⟨#[98, 101, 103, 105, 110]⟩]) ∧ w = w' := LKnown_any 22 w
theorem known_24 (w : World) : Calls Try.prog 26 #[.int .i64 24] w fun e w' => e = .returned (.tuple #[.int .i64 0, .int .i64 0, .string ⟨#[97, 100, 100]⟩]) ∧ w = w' := LKnown_any 24 w
theorem known_26 (w : World) : Calls Try.prog 26 #[.int .i64 26] w fun e w' => e = .returned (.tuple #[.int .i64 0, .int .i64 0, .string ⟨#[101, 110, 100]⟩]) ∧ w = w' := LKnown_any 26 w
theorem known_27 (w : World) : Calls Try.prog 26 #[.int .i64 27] w fun e w' => e = .returned (.tuple #[.int .i64 0, .int .i64 1, .string ⟨#[109, 97, 114, 107]⟩]) ∧ w = w' := LKnown_any 27 w
set_option maxRecDepth 100000 in
set_option maxHeartbeats 4000000 in
theorem VersionNames_walk (s : ByteArray) (_ : s.size ≤ 140737488351232) (w : World) :
    Calls Try.prog 8 #[.string s] w fun e w' => e = .returned (.bool true) ∧ Below w.heap.size w w' := by
  obtain ⟨l, rfl⟩ := bsOf_of s
  have HS := Lib.hid (St.nil_ w)
  have HO := Lib.hid (VOf_spec l)
  rcases vof_ways l with (rfl | rfl | rfl | rfl | rfl) | ⟨h0, h1, h2, h3, h4, hv⟩
  · go_enter Try.func8, Try.ntmps8
    go_wp2_with fail
    refine (HS.out.call0 speaks16).mono ?_
    rintro e w1 ⟨v, N, rfl, ⟨rfl, rfl⟩, H1⟩
    have HS1 := Lib.hid H1
    clear H1
    go_wp2_with fail
    refine (HS1.out.call0 HO.out).mono ?_
    rintro e w2 ⟨v, N, rfl, ⟨hv, rfl⟩, H2⟩
    have hv2 := hv.trans (show _ = .tuple #[.int .i64 0, .bool true] from rfl)
    clear hv
    subst hv2
    have HS2 := Lib.hid H2
    clear H2
    go_wp2_with fail
    refine wp_loop_rounds 6 ?_
    repeat (rw [rounds_succ]; go_wp2_with (go_at_call 26; first | ((with_reducible refine (known_0 _).mono ?_); rintro e w' ⟨rfl, rfl⟩) | ((with_reducible refine (known_22 _).mono ?_); rintro e w' ⟨rfl, rfl⟩) | ((with_reducible refine (known_24 _).mono ?_); rintro e w' ⟨rfl, rfl⟩) | ((with_reducible refine (known_26 _).mono ?_); rintro e w' ⟨rfl, rfl⟩) | ((with_reducible refine (known_27 _).mono ?_); rintro e w' ⟨rfl, rfl⟩)))
    go_ret
    exact ⟨rfl, by repeat (first | (with_reducible exact HS2.out.below) | (with_reducible refine vbelow ?_ _))⟩
  · go_enter Try.func8, Try.ntmps8
    go_wp2_with fail
    refine (HS.out.call0 speaks16).mono ?_
    rintro e w1 ⟨v, N, rfl, ⟨rfl, rfl⟩, H1⟩
    have HS1 := Lib.hid H1
    clear H1
    go_wp2_with fail
    refine (HS1.out.call0 HO.out).mono ?_
    rintro e w2 ⟨v, N, rfl, ⟨hv, rfl⟩, H2⟩
    have hv2 := hv.trans (show _ = .tuple #[.int .i64 22, .bool true] from rfl)
    clear hv
    subst hv2
    have HS2 := Lib.hid H2
    clear H2
    go_wp2_with fail
    refine wp_loop_rounds 6 ?_
    repeat (rw [rounds_succ]; go_wp2_with (go_at_call 26; first | ((with_reducible refine (known_0 _).mono ?_); rintro e w' ⟨rfl, rfl⟩) | ((with_reducible refine (known_22 _).mono ?_); rintro e w' ⟨rfl, rfl⟩) | ((with_reducible refine (known_24 _).mono ?_); rintro e w' ⟨rfl, rfl⟩) | ((with_reducible refine (known_26 _).mono ?_); rintro e w' ⟨rfl, rfl⟩) | ((with_reducible refine (known_27 _).mono ?_); rintro e w' ⟨rfl, rfl⟩)))
    go_ret
    exact ⟨rfl, by repeat (first | (with_reducible exact HS2.out.below) | (with_reducible refine vbelow ?_ _))⟩
  · go_enter Try.func8, Try.ntmps8
    go_wp2_with fail
    refine (HS.out.call0 speaks16).mono ?_
    rintro e w1 ⟨v, N, rfl, ⟨rfl, rfl⟩, H1⟩
    have HS1 := Lib.hid H1
    clear H1
    go_wp2_with fail
    refine (HS1.out.call0 HO.out).mono ?_
    rintro e w2 ⟨v, N, rfl, ⟨hv, rfl⟩, H2⟩
    have hv2 := hv.trans (show _ = .tuple #[.int .i64 24, .bool true] from rfl)
    clear hv
    subst hv2
    have HS2 := Lib.hid H2
    clear H2
    go_wp2_with fail
    refine wp_loop_rounds 6 ?_
    repeat (rw [rounds_succ]; go_wp2_with (go_at_call 26; first | ((with_reducible refine (known_0 _).mono ?_); rintro e w' ⟨rfl, rfl⟩) | ((with_reducible refine (known_22 _).mono ?_); rintro e w' ⟨rfl, rfl⟩) | ((with_reducible refine (known_24 _).mono ?_); rintro e w' ⟨rfl, rfl⟩) | ((with_reducible refine (known_26 _).mono ?_); rintro e w' ⟨rfl, rfl⟩) | ((with_reducible refine (known_27 _).mono ?_); rintro e w' ⟨rfl, rfl⟩)))
    go_ret
    exact ⟨rfl, by repeat (first | (with_reducible exact HS2.out.below) | (with_reducible refine vbelow ?_ _))⟩
  · go_enter Try.func8, Try.ntmps8
    go_wp2_with fail
    refine (HS.out.call0 speaks16).mono ?_
    rintro e w1 ⟨v, N, rfl, ⟨rfl, rfl⟩, H1⟩
    have HS1 := Lib.hid H1
    clear H1
    go_wp2_with fail
    refine (HS1.out.call0 HO.out).mono ?_
    rintro e w2 ⟨v, N, rfl, ⟨hv, rfl⟩, H2⟩
    have hv2 := hv.trans (show _ = .tuple #[.int .i64 26, .bool true] from rfl)
    clear hv
    subst hv2
    have HS2 := Lib.hid H2
    clear H2
    go_wp2_with fail
    refine wp_loop_rounds 6 ?_
    repeat (rw [rounds_succ]; go_wp2_with (go_at_call 26; first | ((with_reducible refine (known_0 _).mono ?_); rintro e w' ⟨rfl, rfl⟩) | ((with_reducible refine (known_22 _).mono ?_); rintro e w' ⟨rfl, rfl⟩) | ((with_reducible refine (known_24 _).mono ?_); rintro e w' ⟨rfl, rfl⟩) | ((with_reducible refine (known_26 _).mono ?_); rintro e w' ⟨rfl, rfl⟩) | ((with_reducible refine (known_27 _).mono ?_); rintro e w' ⟨rfl, rfl⟩)))
    go_ret
    exact ⟨rfl, by repeat (first | (with_reducible exact HS2.out.below) | (with_reducible refine vbelow ?_ _))⟩
  · go_enter Try.func8, Try.ntmps8
    go_wp2_with fail
    refine (HS.out.call0 speaks16).mono ?_
    rintro e w1 ⟨v, N, rfl, ⟨rfl, rfl⟩, H1⟩
    have HS1 := Lib.hid H1
    clear H1
    go_wp2_with fail
    refine (HS1.out.call0 HO.out).mono ?_
    rintro e w2 ⟨v, N, rfl, ⟨hv, rfl⟩, H2⟩
    have hv2 := hv.trans (show _ = .tuple #[.int .i64 27, .bool true] from rfl)
    clear hv
    subst hv2
    have HS2 := Lib.hid H2
    clear H2
    go_wp2_with fail
    refine wp_loop_rounds 6 ?_
    repeat (rw [rounds_succ]; go_wp2_with (go_at_call 26; first | ((with_reducible refine (known_0 _).mono ?_); rintro e w' ⟨rfl, rfl⟩) | ((with_reducible refine (known_22 _).mono ?_); rintro e w' ⟨rfl, rfl⟩) | ((with_reducible refine (known_24 _).mono ?_); rintro e w' ⟨rfl, rfl⟩) | ((with_reducible refine (known_26 _).mono ?_); rintro e w' ⟨rfl, rfl⟩) | ((with_reducible refine (known_27 _).mono ?_); rintro e w' ⟨rfl, rfl⟩)))
    go_ret
    exact ⟨rfl, by repeat (first | (with_reducible exact HS2.out.below) | (with_reducible refine vbelow ?_ _))⟩
  · rw [hv] at HO
    clear hv
    go_enter Try.func8, Try.ntmps8
    go_wp2_with fail
    refine (HS.out.call0 speaks16).mono ?_
    rintro e w1 ⟨v, N, rfl, ⟨rfl, rfl⟩, H1⟩
    have HS1 := Lib.hid H1
    clear H1
    go_wp2_with fail
    refine (HS1.out.call0 HO.out).mono ?_
    rintro e w2 ⟨v, N, rfl, ⟨hv, rfl⟩, H2⟩
    have hv2 := hv.trans (show _ = .tuple #[.int .i64 0, .bool false] from rfl)
    clear hv
    subst hv2
    have HS2 := Lib.hid H2
    clear H2
    go_wp2_with fail
    refine wp_loop_rounds 6 ?_
    repeat (rw [rounds_succ]; go_wp2_with (go_at_call 26; first | ((with_reducible refine (known_0 _).mono ?_); rintro e w' ⟨rfl, rfl⟩) | ((with_reducible refine (known_22 _).mono ?_); rintro e w' ⟨rfl, rfl⟩) | ((with_reducible refine (known_24 _).mono ?_); rintro e w' ⟨rfl, rfl⟩) | ((with_reducible refine (known_26 _).mono ?_); rintro e w' ⟨rfl, rfl⟩) | ((with_reducible refine (known_27 _).mono ?_); rintro e w' ⟨rfl, rfl⟩)))
    go_ret
    exact ⟨rfl, by repeat (first | (with_reducible exact HS2.out.below) | (with_reducible refine vbelow ?_ _))⟩
end Go.Proofs.Ytaakchnddcphkaa.Sl
