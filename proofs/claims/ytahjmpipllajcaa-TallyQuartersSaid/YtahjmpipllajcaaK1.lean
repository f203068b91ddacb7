/- TallyQuarters: for every input the law returns true, and its arguments read behind the call as they did before. -/
import Derived.OpenShut
import Derived.Test.YtahjmpipllajcaaRows
import Derived.WalkKit
import Derived.ProofKit
import Derived.ShutString
import Derived.ChangeOld
import Derived.Below
import Derived.SizedLaws
import Derived.Test.YtahjmpipllajcaaK0
namespace Go.Proofs.Ytahjmpipllajcaa.Sl
open Go.RowKit
set_option linter.unusedVariables false
set_option linter.unusedSimpArgs false
theorem turn_eq {z : Nat × Nat} {p : Int × Int} (q : Int) (h : isC z p) (sp : sm p) : ∃ w, f_tally_Turn z q = some w ∧ isC w (rot (q % 4) p) := by
  unfold f_tally_Turn rot
  rw [and_3]
  have hq : q % 4 = 0 ∨ q % 4 = 1 ∨ q % 4 = 2 ∨ q % 4 = 3 := by omega
  rcases hq with hq | hq | hq | hq
  · rw [hq, if_neg (by decide), if_neg (by decide), if_neg (by decide), if_pos rfl]
    exact ⟨_, rfl, h⟩
  · rw [hq, if_pos rfl, if_neg (by decide), if_pos rfl]
    exact ⟨_, rfl, neg_isW h.2 sp.2, h.1⟩
  · rw [hq, if_neg (by decide), if_pos rfl, if_neg (by decide), if_neg (by decide), if_pos rfl]
    exact ⟨_, rfl, neg_isW h.1 sp.1, neg_isW h.2 sp.2⟩
  · rw [hq, if_neg (by decide), if_neg (by decide), if_pos rfl, if_neg (by decide), if_neg (by decide), if_neg (by decide)]
    exact ⟨_, rfl, h.2, neg_isW h.1 sp.1⟩
abbrev S4 := Int × Int × Int × Int
def addc (j : Nat) (x : Int) (S : S4) : S4 := if j % 4 = 0 then (S.1 + x, S.2.1, S.2.2.1, S.2.2.2) else if j % 4 = 1 then (S.1, S.2.1 + x, S.2.2.1, S.2.2.2) else if j % 4 = 2 then (S.1, S.2.1, S.2.2.1 + x, S.2.2.2) else (S.1, S.2.1, S.2.2.1, S.2.2.2 + x)
def clsS : Nat → List Int → S4 → S4
  | _, [], S => S
  | k, x :: l, S => clsS (k + 1) l (addc k x S)
def qf (k : Nat) (S : S4) : Int × Int := if k = 0 then (S.1 + S.2.1 + S.2.2.1 + S.2.2.2, 0) else if k = 1 then (S.1 - S.2.2.1, S.2.1 - S.2.2.2) else if k = 2 then (S.1 - S.2.1 + S.2.2.1 - S.2.2.2, 0) else (S.1 - S.2.2.1, S.2.2.2 - S.2.1)
def bd (B : Int) (S : S4) : Prop := (-B ≤ S.1 ∧ S.1 ≤ B) ∧ (-B ≤ S.2.1 ∧ S.2.1 ≤ B) ∧ (-B ≤ S.2.2.1 ∧ S.2.2.1 ≤ B) ∧ (-B ≤ S.2.2.2 ∧ S.2.2.2 ≤ B)
theorem cases4 {k : Nat} (h : k < 4) : k = 0 ∨ k = 1 ∨ k = 2 ∨ k = 3 := by omega
theorem sm_of {p : Int × Int} (h1 : -4503599627370496 ≤ p.1 ∧ p.1 ≤ 4503599627370496) (h2 : -4503599627370496 ≤ p.2 ∧ p.2 ≤ 4503599627370496) : sm p := ⟨by omega, by omega⟩
theorem qf_bd {k : Nat} {S : S4} {B : Int} (h : bd B S) (hB : 0 ≤ B) : (-(4 * B) ≤ (qf k S).1 ∧ (qf k S).1 ≤ 4 * B) ∧ (-(4 * B) ≤ (qf k S).2 ∧ (qf k S).2 ≤ 4 * B) := by
  obtain ⟨h1, h2, h3, h4⟩ := h
  unfold qf
  by_cases c0 : k = 0
  · rw [if_pos c0]; dsimp only; omega
  by_cases c1 : k = 1
  · rw [if_neg c0, if_pos c1]; dsimp only; omega
  by_cases c2 : k = 2
  · rw [if_neg c0, if_neg c1, if_pos c2]; dsimp only; omega
  · rw [if_neg c0, if_neg c1, if_neg c2]; dsimp only; omega
theorem qf_add {k : Nat} (hk : k < 4) (j : Nat) (x : Int) (S : S4) : qf k (addc j x S) = ((qf k S).1 + (rot (((k * (j % 4) : Nat) : Int) % 4) (x, 0)).1, (qf k S).2 + (rot (((k * (j % 4) : Nat) : Int) % 4) (x, 0)).2) := by
  obtain ⟨s0, s1, s2, s3⟩ := S
  have hj := cases4 (Nat.mod_lt j (show 0 < 4 by decide))
  unfold qf addc rot
  rcases cases4 hk with rfl | rfl | rfl | rfl <;> rcases hj with hj | hj | hj | hj <;> rw [hj] <;> simp <;> omega
theorem addc_bd {j : Nat} {x B C : Int} {S : S4} (h : bd B S) (hx : -C ≤ x ∧ x ≤ C) (hC : 0 ≤ C) : bd (B + C) (addc j x S) := by
  obtain ⟨h1, h2, h3, h4⟩ := h
  unfold addc bd
  by_cases c0 : j % 4 = 0
  · rw [if_pos c0]; dsimp only; omega
  by_cases c1 : j % 4 = 1
  · rw [if_neg c0, if_pos c1]; dsimp only; omega
  by_cases c2 : j % 4 = 2
  · rw [if_neg c0, if_neg c1, if_pos c2]; dsimp only; omega
  · rw [if_neg c0, if_neg c1, if_neg c2]; dsimp only; omega
theorem clsS_bd : ∀ (l : List Int) (j : Nat) (S : S4) (B : Int), bd B S → (∀ x, x ∈ l → -1073741824 ≤ x ∧ x ≤ 1073741824) → bd (B + 1073741824 * (l.length : Int)) (clsS j l S)
  | [], j, S, B, h, _ => by
    rw [show B + 1073741824 * (([] : List Int).length : Int) = B by simp]
    exact h
  | x :: l, j, S, B, h, hl => by
    have h1 := clsS_bd l (j + 1) (addc j x S) (B + 1073741824) (addc_bd h (hl x (.head _)) (by decide)) (fun y hy => hl y (.tail _ hy))
    rw [clsS, List.length_cons]
    have e : B + 1073741824 + 1073741824 * (l.length : Int) = B + 1073741824 * ((l.length + 1 : Nat) : Int) := by omega
    rwa [← e]
theorem rot_bd {q : Int} {p : Int × Int} {B : Int} (h : (-B ≤ p.1 ∧ p.1 ≤ B) ∧ (-B ≤ p.2 ∧ p.2 ≤ B)) : (-B ≤ (rot q p).1 ∧ (rot q p).1 ≤ B) ∧ (-B ≤ (rot q p).2 ∧ (rot q p).2 ≤ B) := by
  obtain ⟨h1, h2⟩ := h
  unfold rot
  by_cases c0 : q = 0
  · rw [if_pos c0]; omega
  by_cases c1 : q = 1
  · rw [if_neg c0, if_pos c1]; dsimp only; omega
  by_cases c2 : q = 2
  · rw [if_neg c0, if_neg c1, if_pos c2]; dsimp only; omega
  · rw [if_neg c0, if_neg c1, if_neg c2]; dsimp only; omega
theorem mod_mul4 (k j : Nat) : (((k * (j % 4) : Nat) : Int)) % 4 = (((k * j : Nat) : Int)) % 4 := by
  have : (k * (j % 4)) % 4 = (k * j) % 4 := by rw [Nat.mul_mod, Nat.mod_mod, ← Nat.mul_mod]
  omega
theorem quarter_l1 {k : Nat} (hk : k < 4) : ∀ (l : List Int) (z : Nat × Nat) (S : S4) (j : Nat) (B : Int), isC z (qf k S) → bd B S → 0 ≤ B → (∀ x, x ∈ l → -1073741824 ≤ x ∧ x ≤ 1073741824) → B + 1073741824 * (l.length : Int) ≤ 1000000000000 →
    ∃ w, f_tally_Quarter_l1 (k : Int) l z j = some w ∧ isC w (qf k (clsS j l S))
  | [], z, S, j, B, h, _, _, _, _ => ⟨z, rfl, h⟩
  | x :: l, z, S, j, B, h, hb, hB, hl, hlen => by
    have hx := hl x (.head _)
    rw [List.length_cons] at hlen
    have ek : Go.bits .and .i64 (k : Int) 3 = (k : Int) := by rw [and_3]; omega
    have ej : Go.bits .and .i64 (j : Int) 3 = ((j % 4 : Nat) : Int) := by rw [and_3]; omega
    have em : ((k : Int) * ((j % 4 : Nat) : Int)) = ((k * (j % 4) : Nat) : Int) := by simp
    have hkj : k * (j % 4) ≤ 9 := by
      have h1 : j % 4 ≤ 3 := by omega
      have h2 : k ≤ 3 := by omega
      exact Nat.le_trans (Nat.mul_le_mul h2 h1) (by decide)
    have sx : sm (x, (0 : Int)) := sm_of (by dsimp only; omega) (by dsimp only; omega)
    obtain ⟨w, w1, w2⟩ := turn_eq (((k * (j % 4) : Nat) : Int)) (show isC (FloatKind.f64.nearest x, 0) (x, 0) from ⟨isW_fw x, .inl fw_zero.symm⟩) sx
    have hq := qf_bd (k := k) hb hB
    have hr := rot_bd (q := (((k * (j % 4) : Nat) : Int)) % 4) (p := (x, (0 : Int))) (B := 1073741824) ⟨hx, (by decide : (-1073741824 : Int) ≤ 0 ∧ (0 : Int) ≤ 1073741824)⟩
    have hadd := qf_add hk j x S
    obtain ⟨v, v1, v2⟩ := cadd_isC h w2 (sm_of (by omega) (by omega)) (sm_of (by omega) (by omega)) (sm_of (by dsimp only; omega) (by dsimp only; omega))
    rw [← hadd] at v2
    obtain ⟨u, u1, u2⟩ := quarter_l1 hk l v (addc j x S) (j + 1) (B + 1073741824) v2 (addc_bd hb hx (by decide)) (by omega) (fun y hy => hl y (.tail _ hy)) (by omega)
    refine ⟨u, ?_, u2⟩
    rw [f_tally_Quarter_l1, ek, ej, em, if_pos (by omega), w1, Option.bind_some, v1, Option.bind_some, u1]
def z4 : S4 := (0, 0, 0, 0)
theorem qf_z (k : Nat) : qf k z4 = (0, 0) := by unfold qf z4; split; rfl; split; rfl; split <;> rfl
theorem quarter_eq {k : Nat} (hk : k < 4) {l : List Int} (hl : ∀ x, x ∈ l → -1073741824 ≤ x ∧ x ≤ 1073741824) (hn : l.length ≤ 900) : ∃ w, f_tally_Quarter (k : Int) l = some w ∧ isC w (qf k (clsS 0 l z4)) := by
  obtain ⟨w, w1, w2⟩ := quarter_l1 hk l (0, 0) z4 0 0 (by rw [qf_z]; exact isC_zero) ⟨by decide, by decide, by decide, by decide⟩ (by decide) hl (by omega)
  refine ⟨w, ?_, w2⟩
  unfold f_tally_Quarter
  rw [w1, Option.bind_some]
abbrev F4 := (Nat × Nat) × (Nat × Nat) × (Nat × Nat) × (Nat × Nat)
def isF (f : F4) (S : S4) : Prop := isC f.1 (qf 0 S) ∧ isC f.2.1 (qf 1 S) ∧ isC f.2.2.1 (qf 2 S) ∧ isC f.2.2.2 (qf 3 S)
theorem quarters_eq {l : List Int} (hl : ∀ x, x ∈ l → -1073741824 ≤ x ∧ x ≤ 1073741824) (hn : l.length ≤ 900) : ∃ f, f_tally_Quarters l = some f ∧ isF f (clsS 0 l z4) := by
  obtain ⟨a, a1, a2⟩ := quarter_eq (k := 0) (by decide) hl hn
  obtain ⟨b, b1, b2⟩ := quarter_eq (k := 1) (by decide) hl hn
  obtain ⟨c, c1, c2⟩ := quarter_eq (k := 2) (by decide) hl hn
  obtain ⟨d, d1, d2⟩ := quarter_eq (k := 3) (by decide) hl hn
  refine ⟨(a, b, c, d), ?_, a2, b2, c2, d2⟩
  unfold f_tally_Quarters
  rw [show (0 : Int) = ((0 : Nat) : Int) from rfl, a1, Option.bind_some, show (1 : Int) = ((1 : Nat) : Int) from rfl, b1, Option.bind_some, show (2 : Int) = ((2 : Nat) : Int) from rfl, c1, Option.bind_some, show (3 : Int) = ((3 : Nat) : Int) from rfl, d1, Option.bind_some]
def comp (n : Nat) (S : S4) : Int := if n = 0 then S.1 else if n = 1 then S.2.1 else if n = 2 then S.2.2.1 else S.2.2.2
theorem qsum {n : Nat} (hn : n < 4) (S : S4) : (rot ((0 * (n : Int)) % 4) (qf 0 S)).1 + (rot (((-1) * (n : Int)) % 4) (qf 1 S)).1 + (rot (((-2) * (n : Int)) % 4) (qf 2 S)).1 + (rot (((-3) * (n : Int)) % 4) (qf 3 S)).1 = 4 * comp n S := by
  obtain ⟨s0, s1, s2, s3⟩ := S
  unfold rot qf comp
  rcases cases4 hn with rfl | rfl | rfl | rfl <;> simp <;> omega
theorem back_step {f : F4} {S : S4} (hf : isF f S) (hb : bd 1000000000000 S) {n : Nat} (hn : n < 4) (m : Nat) (y5 y6 y7 y8 : Int) :
    f_tally_Back_l1 f (m + 1) n y5 y6 y7 y8 = f_tally_Back_l1 f m (n + 1) (if n = 0 then S.1 else y5) (if n = 1 then S.2.1 else y6) (if n = 2 then S.2.2.1 else y7) (if n = 3 then S.2.2.2 else y8) := by
  obtain ⟨f0, f1, f2, f3⟩ := hf
  have q0 := qf_bd (k := 0) hb (by decide)
  have q1 := qf_bd (k := 1) hb (by decide)
  have q2 := qf_bd (k := 2) hb (by decide)
  have q3 := qf_bd (k := 3) hb (by decide)
  obtain ⟨a, a1, a2⟩ := turn_eq (0 * (n : Int)) f0 (sm_of (by omega) (by omega))
  obtain ⟨b, b1, b2⟩ := turn_eq ((-1) * (n : Int)) f1 (sm_of (by omega) (by omega))
  obtain ⟨c, c1, c2⟩ := turn_eq ((-2) * (n : Int)) f2 (sm_of (by omega) (by omega))
  obtain ⟨d, d1, d2⟩ := turn_eq ((-3) * (n : Int)) f3 (sm_of (by omega) (by omega))
  have r0 := rot_bd (q := (0 * (n : Int)) % 4) q0
  have r1 := rot_bd (q := ((-1) * (n : Int)) % 4) q1
  have r2 := rot_bd (q := ((-2) * (n : Int)) % 4) q2
  have r3 := rot_bd (q := ((-3) * (n : Int)) % 4) q3
  have hs := qsum hn S
  generalize rot ((0 * (n : Int)) % 4) (qf 0 S) = A at a2 r0 hs
  generalize rot (((-1) * (n : Int)) % 4) (qf 1 S) = B at b2 r1 hs
  generalize rot (((-2) * (n : Int)) % 4) (qf 2 S) = C at c2 r2 hs
  generalize rot (((-3) * (n : Int)) % 4) (qf 3 S) = D at d2 r3 hs
  obtain ⟨u, u1, u2⟩ := cadd_isC isC_zero a2 (sm_of (by decide) (by decide)) (sm_of (by omega) (by omega)) (sm_of (by dsimp only; omega) (by dsimp only; omega))
  obtain ⟨v, v1, v2⟩ := cadd_isC u2 b2 (sm_of (by dsimp only; omega) (by dsimp only; omega)) (sm_of (by omega) (by omega)) (sm_of (by dsimp only; omega) (by dsimp only; omega))
  obtain ⟨w, w1, w2⟩ := cadd_isC v2 c2 (sm_of (by dsimp only; omega) (by dsimp only; omega)) (sm_of (by omega) (by omega)) (sm_of (by dsimp only; omega) (by dsimp only; omega))
  obtain ⟨x, x1, x2⟩ := cadd_isC w2 d2 (sm_of (by dsimp only; omega) (by dsimp only; omega)) (sm_of (by omega) (by omega)) (sm_of (by dsimp only; omega) (by dsimp only; omega))
  have hx := x2.1
  dsimp only at hx
  rw [show (0 : Int) + A.1 + B.1 + C.1 + D.1 = 4 * comp n S by omega] at hx
  have ht := toInt_isW hx (by omega)
  have hd : Int.tdiv (4 * comp n S) 4 = comp n S := Int.mul_tdiv_cancel_left _ (by decide)
  rw [f_tally_Back_l1, if_pos (by omega), if_pos (by omega), a1, Option.bind_some, u1, Option.bind_some, if_pos (by omega), b1, Option.bind_some, v1, Option.bind_some, if_pos (by omega), c1, Option.bind_some, w1, Option.bind_some, if_pos (by omega), d1, Option.bind_some, x1, Option.bind_some, ht, Option.bind_some, if_pos (by omega), hd]
  rcases cases4 hn with rfl | rfl | rfl | rfl <;> rfl
theorem tback_eq {f : F4} {S : S4} (hf : isF f S) (hb : bd 1000000000000 S) : f_tally_Back f = some S := by
  unfold f_tally_Back
  rw [show (4 : Int).toNat + 1 = 0 + 1 + 1 + 1 + 1 + 1 from rfl, back_step hf hb (by decide), back_step hf hb (by decide), back_step hf hb (by decide), back_step hf hb (by decide), f_tally_Back_l1]
  rfl
end Go.Proofs.Ytahjmpipllajcaa.Sl
namespace Go.Proofs.Ytahjmpipllajcaa.Sl
open Go.RowKit
set_option linter.unusedVariables false
set_option linter.unusedSimpArgs false
set_option maxRecDepth 100000
def ft_cursitorlaw24 : FTab := [(36, 11, 11)]
theorem ft_cursitorlaw24_ok : (ft_cursitorlaw24).OK Try.prog := ⟨FOK.mk Try.runUnderlying36 rfl Try.sizeOf34 rfl, trivial⟩
theorem mix_cursitorlaw24 : Try.prog.follows .mixedOrders = true := by kernel_rfl
theorem bok_cursitorlaw24_45 : BOK Try.prog 45 #[.int .i64 0, .int .i64 0, .int .i64 0, .int .i64 0] [(0, 1), (1, 1), (2, 1), (3, 1)] := BOK.mkA Try.zeroValue45 Try.runUnderlying45 Try.sizeOf3 (by decide)
theorem sok_cursitorlaw24_44_1 : SOK Try.prog 44 3 1 1 #[.int .i64 0] := SOK.mk Try.runUnderlying44 Try.sizeOf3 Try.zeroValue3 (by decide) (by kernel_rfl)
theorem sok_cursitorlaw24_44_3 : SOK Try.prog 44 3 3 1 #[.int .i64 0, .int .i64 0, .int .i64 0] := SOK.mk Try.runUnderlying44 Try.sizeOf3 Try.zeroValue3 (by decide) (by kernel_rfl)
theorem sok_cursitorlaw24_44_5 : SOK Try.prog 44 3 5 1 #[.int .i64 0, .int .i64 0, .int .i64 0, .int .i64 0, .int .i64 0] := SOK.mk Try.runUnderlying44 Try.sizeOf3 Try.zeroValue3 (by decide) (by kernel_rfl)
theorem inf_cursitorlaw24_3 : (Try.prog.info? 3).map (fun i => (i.zero, i.size, i.bytes)) = some (some (.int .i64 0), 1, 8) := by kernel_rfl
theorem flat_cursitorlaw24_45 : Flat Try.prog 2 45 [.int .i64, .int .i64, .int .i64, .int .i64] true := (Flat.array1 Try.isAgg45 Try.sizeOf45 rfl Try.underlying45 rfl inf_cursitorlaw24_3 (Flat.one_ Try.isAgg3 Try.sizeOf3 Try.underlying3))
def f_l24_speaks  : Option (Bool) := ((f_tally_Quarter 1 [5, 3, 2]).bind fun x20 => if (fEq x20.1 4613937818241073152 && fEq x20.2 4613937818241073152) = true then ((f_tally_Turn (4607182418800017408, 0) (-1)).bind fun x23 => if (fEq x23.1 0 && fEq x23.2 13830554455654793216) = true then ((f_tally_Quarters [5, 3, 2, 0, 4]).bind fun x27 => (f_tally_Back x27).bind fun x29 => if x29.1 = 9 then (if x29.2.1 = 3 then (if x29.2.2.1 = 2 then (if x29.2.2.2 = 0 then some true else some false) else some false) else some false) else some false) else some false) else some false).bind fun y17 => some y17
set_option maxRecDepth 100000 in
set_option maxHeartbeats 4000000 in
theorem f_l24_speaks_spec  (r : Bool) (h : f_l24_speaks  = some r) : SpecX Try.prog 14 #[] .triv (EmpR) (fun v A' N => v = .bool r ∧ A' = EmpR ∧ N = []) := by
  refine enterA Try.func14 rfl Try.ntmps14 rfl ?_
  intro F w hX
  unfold f_l24_speaks at h
  refine T.seq (T.region rfl ?_)
  refine TL.run ft_cursitorlaw24_ok [0] rfl rfl ?_
  refine TL.nil (X.seq (T.seq ?_))
  obtain ⟨y17, h, hk18⟩ := Option.bind_eq_some_iff.1 h
  refine T.jq (fun e Rs => e = [(0, .bool y17)] ∧ Rs = [EmpR]) ?_ ?_
  · clear hk18
    refine T.region rfl ?_
    refine TL.lit (cells := #[.int .i64 5, .int .i64 3, .int .i64 2]) rfl .u sok_cursitorlaw24_44_3 rfl (by kernel_rfl) rfl (fun b19 => ?_)
    refine TL.rowOf (us := [.int .i64 5, .int .i64 3, .int .i64 2]) (xs := [5, 3, 2]) (E := intE) (z := 1) rfl (Nat.le_of_ble_eq_true rfl) (fun _ => ⟨rfl, rfl, ⟨rfl, rfl, ⟨rfl, rfl, rfl⟩⟩⟩) ?_
    obtain ⟨x20, hx21, h⟩ := Option.bind_eq_some_iff.1 h
    refine TL.ce rfl .u (.fn Try.call18 rfl) (f_tally_Quarter_spec 1 [5, 3, 2] _ _ _ hx21) (fun _ hs => (SrcE.res 0 hs rfl (fun w G h => own_reads (by decide) w G h))) rfl ?_
    refine TL.q rfl .u (Ex.ceq rfl rfl Try.runUnderlying46) rfl ?_
    by_cases c22 : (fEq x20.1 4613937818241073152 && fEq x20.2 4613937818241073152) = true
    · replace h := ifT c22 h
      obtain ⟨x23, hx24, h⟩ := Option.bind_eq_some_iff.1 h
      refine TL.run ft_cursitorlaw24_ok [3] rfl rfl ?_
      refine TL.ce rfl (.g rfl rfl c22) (.fn Try.call20 rfl) (f_tally_Turn_spec (4607182418800017408, 0) (-1) _ hx24) (fun _ hs => (RX.reads_triv _ _)) rfl ?_
      refine TL.q rfl (.g rfl rfl c22) (Ex.ceq rfl rfl Try.runUnderlying46) rfl ?_
      refine TL.q rfl .u (Ex.py rfl c22 rfl) rfl ?_
      by_cases c25 : (fEq x23.1 0 && fEq x23.2 13830554455654793216) = true
      · replace h := ifT c25 h
        refine TL.run ft_cursitorlaw24_ok [7] rfl rfl ?_
        refine TL.lit (cells := #[.int .i64 5, .int .i64 3, .int .i64 2, .int .i64 0, .int .i64 4]) rfl (.g rfl rfl c25) sok_cursitorlaw24_44_5 rfl (by kernel_rfl) rfl (fun b26 => ?_)
        refine TL.rowOf (us := [.int .i64 5, .int .i64 3, .int .i64 2, .int .i64 0, .int .i64 4]) (xs := [5, 3, 2, 0, 4]) (E := intE) (z := 1) rfl (Nat.le_of_ble_eq_true rfl) (fun _ => ⟨rfl, rfl, ⟨rfl, rfl, ⟨rfl, rfl, ⟨rfl, rfl, ⟨rfl, rfl, rfl⟩⟩⟩⟩⟩) ?_
        obtain ⟨x27, hx28, h⟩ := Option.bind_eq_some_iff.1 h
        refine TL.ce rfl (.g rfl rfl c25) (.fn Try.call15 rfl) (f_tally_Quarters_spec [5, 3, 2, 0, 4] _ _ _ hx28) (fun _ hs => (SrcE.res 0 hs rfl (fun w G h => own_reads (by decide) w G h))) rfl ?_
        obtain ⟨x29, hx30, h⟩ := Option.bind_eq_some_iff.1 h
        refine TL.ce rfl (.g rfl rfl c25) (.fn Try.call19 rfl) (f_tally_Back_spec x27 _ hx30) (fun _ hs => (RX.reads_triv _ _)) rfl ?_
        refine TL.q rfl (.g rfl rfl c25) (Ex.bld (cells := #[.int .i64 9, .int .i64 3, .int .i64 2, .int .i64 0]) bok_cursitorlaw24_45 rfl (by kernel_rfl)) rfl ?_
        by_cases c31 : x29.1 = 9
        · replace h := ifT c31 h
          by_cases c32 : x29.2.1 = 3
          · replace h := ifT c32 h
            by_cases c33 : x29.2.2.1 = 2
            · replace h := ifT c33 h
              by_cases c34 : x29.2.2.2 = 0
              · replace h := ifT c34 h
                refine TL.q rfl (.g rfl rfl c25) (Ex.aEq (us := [.int .i64 x29.1, .int .i64 x29.2.1, .int .i64 x29.2.2.1, .int .i64 x29.2.2.2]) (vs := [.int .i64 9, .int .i64 3, .int .i64 2, .int .i64 0]) flat_cursitorlaw24_45 rfl Try.eqGuardType45 rfl rfl rfl rfl (eqL_t (eqV_i c31) (eqL_t (eqV_i c32) (eqL_t (eqV_i c33) (eqL_t (eqV_i c34) rfl))))) rfl ?_
                refine TL.q rfl .u (Ex.py rfl c25 rfl) rfl ?_
                refine TL.run ft_cursitorlaw24_ok [14] rfl rfl ?_
                cases h
                exact TL.nil (X.jq [2] ⟨rfl, rfl⟩ (by rfl) (by rfl))
              · replace h := ifF c34 h
                refine TL.q rfl (.g rfl rfl c25) (Ex.aEq (us := [.int .i64 x29.1, .int .i64 x29.2.1, .int .i64 x29.2.2.1, .int .i64 x29.2.2.2]) (vs := [.int .i64 9, .int .i64 3, .int .i64 2, .int .i64 0]) flat_cursitorlaw24_45 rfl Try.eqGuardType45 rfl rfl rfl rfl (eqL_t (eqV_i c31) (eqL_t (eqV_i c32) (eqL_t (eqV_i c33) (eqL_f (eqV_in c34)))))) rfl ?_
                refine TL.q rfl .u (Ex.py rfl c25 rfl) rfl ?_
                refine TL.run ft_cursitorlaw24_ok [14] rfl rfl ?_
                cases h
                exact TL.nil (X.jq [2] ⟨rfl, rfl⟩ (by rfl) (by rfl))
            · replace h := ifF c33 h
              refine TL.q rfl (.g rfl rfl c25) (Ex.aEq (us := [.int .i64 x29.1, .int .i64 x29.2.1, .int .i64 x29.2.2.1, .int .i64 x29.2.2.2]) (vs := [.int .i64 9, .int .i64 3, .int .i64 2, .int .i64 0]) flat_cursitorlaw24_45 rfl Try.eqGuardType45 rfl rfl rfl rfl (eqL_t (eqV_i c31) (eqL_t (eqV_i c32) (eqL_f (eqV_in c33))))) rfl ?_
              refine TL.q rfl .u (Ex.py rfl c25 rfl) rfl ?_
              refine TL.run ft_cursitorlaw24_ok [14] rfl rfl ?_
              cases h
              exact TL.nil (X.jq [2] ⟨rfl, rfl⟩ (by rfl) (by rfl))
          · replace h := ifF c32 h
            refine TL.q rfl (.g rfl rfl c25) (Ex.aEq (us := [.int .i64 x29.1, .int .i64 x29.2.1, .int .i64 x29.2.2.1, .int .i64 x29.2.2.2]) (vs := [.int .i64 9, .int .i64 3, .int .i64 2, .int .i64 0]) flat_cursitorlaw24_45 rfl Try.eqGuardType45 rfl rfl rfl rfl (eqL_t (eqV_i c31) (eqL_f (eqV_in c32)))) rfl ?_
            refine TL.q rfl .u (Ex.py rfl c25 rfl) rfl ?_
            refine TL.run ft_cursitorlaw24_ok [14] rfl rfl ?_
            cases h
            exact TL.nil (X.jq [2] ⟨rfl, rfl⟩ (by rfl) (by rfl))
        · replace h := ifF c31 h
          refine TL.q rfl (.g rfl rfl c25) (Ex.aEq (us := [.int .i64 x29.1, .int .i64 x29.2.1, .int .i64 x29.2.2.1, .int .i64 x29.2.2.2]) (vs := [.int .i64 9, .int .i64 3, .int .i64 2, .int .i64 0]) flat_cursitorlaw24_45 rfl Try.eqGuardType45 rfl rfl rfl rfl (eqL_f (eqV_in c31))) rfl ?_
          refine TL.q rfl .u (Ex.py rfl c25 rfl) rfl ?_
          refine TL.run ft_cursitorlaw24_ok [14] rfl rfl ?_
          cases h
          exact TL.nil (X.jq [2] ⟨rfl, rfl⟩ (by rfl) (by rfl))
      · replace h := ifF c25 h
        replace c25 := eq_false_of_ne_true c25
        refine TL.run ft_cursitorlaw24_ok [7] rfl rfl ?_
        refine TL.no rfl (.gn rfl rfl c25) rfl ?_
        refine TL.no rfl (.gn rfl rfl c25) rfl ?_
        refine TL.no rfl (.gn rfl rfl c25) rfl ?_
        refine TL.no rfl (.gn rfl rfl c25) rfl ?_
        refine TL.no rfl (.gn rfl rfl c25) rfl ?_
        refine TL.q rfl .u (Ex.pn rfl c25 rfl) rfl ?_
        refine TL.run ft_cursitorlaw24_ok [14] rfl rfl ?_
        cases h
        exact TL.nil (X.jq [1] ⟨rfl, rfl⟩ (by rfl) (by rfl))
    · replace h := ifF c22 h
      replace c22 := eq_false_of_ne_true c22
      refine TL.run ft_cursitorlaw24_ok [3] rfl rfl ?_
      refine TL.no rfl (.gn rfl rfl c22) rfl ?_
      refine TL.no rfl (.gn rfl rfl c22) rfl ?_
      refine TL.q rfl .u (Ex.pn rfl c22 rfl) rfl ?_
      refine TL.run ft_cursitorlaw24_ok [7] rfl rfl ?_
      refine TL.no rfl (.gn rfl rfl rfl) rfl ?_
      refine TL.no rfl (.gn rfl rfl rfl) rfl ?_
      refine TL.no rfl (.gn rfl rfl rfl) rfl ?_
      refine TL.no rfl (.gn rfl rfl rfl) rfl ?_
      refine TL.no rfl (.gn rfl rfl rfl) rfl ?_
      refine TL.q rfl .u (Ex.pn rfl rfl rfl) rfl ?_
      refine TL.run ft_cursitorlaw24_ok [14] rfl rfl ?_
      cases h
      exact TL.nil (X.jq [1] ⟨rfl, rfl⟩ (by rfl) (by rfl))
  · rintro _ _ ⟨rfl, rfl⟩
    clear h
    have h := hk18
    clear hk18
    try dsimp only at h
    obtain rfl := Option.some.inj h
    exact X.seq (T.ret (X.done1 [0] Try.results14 (RV.tm rfl) ⟨rfl, rfl, rfl⟩ (by rfl) (.inl rfl)))
def f_l24_turned_l1 (a2 : Int) : Nat → Int → Int → Nat → Option (Int × Int × Nat)
  | 0, _, _, _ => none
  | m10 + 1, y4, y5, k6 => if (k6 : Int) < (Int.tmod ((Int.tmod a2 4) + 4) 4) then (if -9223372036854775808 ≤ (-y5) ∧ (-y5) ≤ 9223372036854775807 then (if -9223372036854775808 ≤ ((k6 : Int) + 1) ∧ ((k6 : Int) + 1) ≤ 9223372036854775807 then (f_l24_turned_l1 a2 m10 (-y5) y4 (k6 + 1)) else none) else none) else some (y4, y5, k6)
def f_l24_turned (a0 : Int) (a1 : Int) (a2 : Int) : Option (Int × Int) := if -9223372036854775808 ≤ a2 ∧ a2 ≤ 9223372036854775807 then (if -9223372036854775808 ≤ ((Int.tmod a2 4) + 4) ∧ ((Int.tmod a2 4) + 4) ≤ 9223372036854775807 then (if -9223372036854775808 ≤ ((Int.tmod a2 4) + 4) ∧ ((Int.tmod a2 4) + 4) ≤ 9223372036854775807 then ((f_l24_turned_l1 a2 (((Int.tmod ((Int.tmod a2 4) + 4) 4)).toNat + 1) a0 a1 0).bind fun (y17, y18, k19) => some (y17, y18)) else none) else none) else none
set_option maxRecDepth 100000 in
set_option maxHeartbeats 4000000 in
theorem f_l24_turned_spec (a0 : Int) (a1 : Int) (a2 : Int) (r : Int × Int) (h : f_l24_turned a0 a1 a2 = some r) : SpecX Try.prog 16 #[.int .i64 a0, .int .i64 a1, .int .i64 a2] .triv (EmpR) (fun v A' N => v = .tuple #[.int .i64 r.1, .int .i64 r.2] ∧ A' = EmpR ∧ N = []) := by
  refine enterA Try.func16 rfl Try.ntmps16 rfl ?_
  intro F w hX
  unfold f_l24_turned at h
  refine T.seq (T.region rfl ?_)
  refine TL.run ft_cursitorlaw24_ok [0, 1] rfl rfl ?_
  refine TL.nil (X.seq (T.seq (T.seq (T.region rfl ?_))))
  replace h := guard_some h
  obtain ⟨c1, h⟩ := h
  refine TL.run ft_cursitorlaw24_ok [0] rfl rfl ?_
  refine TL.q rfl .u (Ex.remT rfl rfl (by omega) c1) rfl ?_
  replace h := guard_some h
  obtain ⟨c2, h⟩ := h
  refine TL.q rfl .u (Ex.add rfl rfl c2) rfl ?_
  replace h := guard_some h
  obtain ⟨c3, h⟩ := h
  refine TL.q rfl .u (Ex.remT rfl rfl (by omega) c3) rfl ?_
  refine TL.run ft_cursitorlaw24_ok [4] rfl rfl ?_
  refine TL.nil (X.seq (T.block ?_))
  obtain ⟨E7, hE8, hO9⟩ := Option.bind_eq_some_iff.1 h
  refine T.lp (fun m e Rs => ∃ (y4 : Int) (y5 : Int) (k6 : Nat), e = [(0, .int .i64 y4), (1, .int .i64 y5), (6, .int .i64 0), (7, .int .i64 0), (11, .int .i64 (Int.tmod ((Int.tmod a2 4) + 4) 4)), (12, .int .i64 (k6 : Int))] ∧ Rs = [EmpR] ∧ f_l24_turned_l1 a2 m y4 y5 k6 = some E7) (((Int.tmod ((Int.tmod a2 4) + 4) 4)).toNat + 1) [0] ⟨a0, a1, 0, rfl, rfl, by exact hE8⟩ (by rfl) (by rfl) ?_
  rintro m10 _ _ ⟨y4, y5, k6, rfl, rfl, hl12⟩
  clear hE8 h
  cases m10 with
  | zero =>
    rw [f_l24_turned_l1] at hl12
    cases hl12
  | succ m10 =>
    have h := hl12
    clear hl12
    rw [f_l24_turned_l1] at h
    refine T.seq (T.region rfl ?_)
    refine TL.run ft_cursitorlaw24_ok [0] rfl rfl ?_
    by_cases c14 : (k6 : Int) < (Int.tmod ((Int.tmod a2 4) + 4) 4)
    · replace h := ifT c14 h
      refine TL.nil (X.seq (T.seq ?_))
      refine T.yes rfl (decide_eq_true c14) ?_
      refine T.skip (X.seq (T.seq (T.block (T.region rfl ?_))))
      replace h := guard_some h
      obtain ⟨c15, h⟩ := h
      refine TL.run ft_cursitorlaw24_ok [0] rfl rfl ?_
      refine TL.q rfl .u (Ex.neg rfl c15) rfl ?_
      refine TL.run ft_cursitorlaw24_ok [2, 3, 4] rfl rfl ?_
      replace h := guard_some h
      obtain ⟨c16, h⟩ := h
      refine TL.nil (X.blk (X.seq (T.region rfl ?_)))
      refine TL.q rfl .u (Ex.add rfl rfl c16) rfl ?_
      refine TL.run ft_cursitorlaw24_ok [1] rfl rfl ?_
      exact TL.nil (X.back (m' := m10) [0] (by omega) ⟨(-y5), y4, k6 + 1, rfl, rfl, h⟩ (by rfl) (by rfl))
    · replace h := ifF c14 h
      refine TL.nil (X.seq (T.seq ?_))
      refine T.no rfl (decide_eq_false c14) ?_
      obtain rfl := Option.some.inj h
      replace h := hO9
      clear hO9
      try dsimp only at h
      refine T.exit (X.exs (X.exs (X.ex (X.seq (T.seq (T.region rfl ?_))))))
      refine TL.run ft_cursitorlaw24_ok [0, 1, 2, 3] rfl rfl ?_
      obtain rfl := Option.some.inj h
      exact TL.nil (X.seq (T.ret (X.done2 [0] Try.results16 (RV.tm rfl) (RV.tm rfl) ⟨rfl, rfl, rfl⟩ (by rfl) (.inl rfl))))
def f_l24_whole (a0 : Int) (a1 : Int) : Option (Nat × Nat) := some ((FloatKind.f64.nearest a0), (FloatKind.f64.nearest a1))
set_option maxRecDepth 100000 in
set_option maxHeartbeats 4000000 in
theorem f_l24_whole_spec (a0 : Int) (a1 : Int) (r : Nat × Nat) (h : f_l24_whole a0 a1 = some r) : SpecX Try.prog 17 #[.int .i64 a0, .int .i64 a1] .triv (EmpR) (fun v A' N => v = .complex .f64 r.1 r.2 ∧ A' = EmpR ∧ N = []) := by
  refine enterA Try.func17 rfl Try.ntmps17 rfl ?_
  intro F w hX
  unfold f_l24_whole at h
  refine T.seq (T.region rfl ?_)
  refine TL.run ft_cursitorlaw24_ok [0] rfl rfl ?_
  refine TL.nil (X.seq (T.seq (T.region rfl ?_)))
  refine TL.run ft_cursitorlaw24_ok [0] rfl rfl ?_
  refine TL.q rfl .u (Ex.i2f rfl Try.underlying3 Try.underlying63) rfl ?_
  refine TL.run ft_cursitorlaw24_ok [2] rfl rfl ?_
  refine TL.q rfl .u (Ex.i2f rfl Try.underlying3 Try.underlying63) rfl ?_
  refine TL.q rfl .u (Ex.cx rfl rfl) rfl ?_
  refine TL.run ft_cursitorlaw24_ok [5] rfl rfl ?_
  obtain rfl := Option.some.inj h
  exact TL.nil (X.seq (T.ret (X.done1 [0] Try.results17 (RV.tm rfl) ⟨rfl, rfl, rfl⟩ (by rfl) (.inl rfl))))
def f_l24_TallyQuarters_l1 : List Int → List Int → Nat → Int → Int → Int → Int → Option (List Int × Int × Int × Int × Int)
  | [], y9, k12, y13, y14, y15, y16 => some (y9, y13, y14, y15, y16)
  | x21 :: xs, y9, k12, y13, y14, y15, y16 => if -9223372036854775808 ≤ x21 ∧ x21 ≤ 9223372036854775807 then (if -9223372036854775808 ≤ x21 ∧ x21 ≤ 9223372036854775807 then (if (y9.length + 1) * 8 ≤ 140737488355328 then (if -9223372036854775808 ≤ (k12 : Int) ∧ (k12 : Int) ≤ 9223372036854775807 then (if (Int.tmod (k12 : Int) 4) = 0 then (if -9223372036854775808 ≤ x21 ∧ x21 ≤ 9223372036854775807 then (if -9223372036854775808 ≤ x21 ∧ x21 ≤ 9223372036854775807 then (if -9223372036854775808 ≤ (y13 + (Int.tmod x21 1073741824)) ∧ (y13 + (Int.tmod x21 1073741824)) ≤ 9223372036854775807 then (f_l24_TallyQuarters_l1 xs (y9 ++ [(Int.tmod x21 1073741824)]) (k12 + 1) (y13 + (Int.tmod x21 1073741824)) y14 y15 y16) else none) else none) else none) else (if (Int.tmod (k12 : Int) 4) = 1 then (if -9223372036854775808 ≤ x21 ∧ x21 ≤ 9223372036854775807 then (if -9223372036854775808 ≤ x21 ∧ x21 ≤ 9223372036854775807 then (if -9223372036854775808 ≤ (y14 + (Int.tmod x21 1073741824)) ∧ (y14 + (Int.tmod x21 1073741824)) ≤ 9223372036854775807 then (f_l24_TallyQuarters_l1 xs (y9 ++ [(Int.tmod x21 1073741824)]) (k12 + 1) y13 (y14 + (Int.tmod x21 1073741824)) y15 y16) else none) else none) else none) else (if (Int.tmod (k12 : Int) 4) = 2 then (if -9223372036854775808 ≤ x21 ∧ x21 ≤ 9223372036854775807 then (if -9223372036854775808 ≤ x21 ∧ x21 ≤ 9223372036854775807 then (if -9223372036854775808 ≤ (y15 + (Int.tmod x21 1073741824)) ∧ (y15 + (Int.tmod x21 1073741824)) ≤ 9223372036854775807 then (f_l24_TallyQuarters_l1 xs (y9 ++ [(Int.tmod x21 1073741824)]) (k12 + 1) y13 y14 (y15 + (Int.tmod x21 1073741824)) y16) else none) else none) else none) else (if (Int.tmod (k12 : Int) 4) = 3 then (if -9223372036854775808 ≤ x21 ∧ x21 ≤ 9223372036854775807 then (if -9223372036854775808 ≤ x21 ∧ x21 ≤ 9223372036854775807 then (if -9223372036854775808 ≤ (y16 + (Int.tmod x21 1073741824)) ∧ (y16 + (Int.tmod x21 1073741824)) ≤ 9223372036854775807 then (if (Int.tmod (k12 : Int) 4) = 3 then (f_l24_TallyQuarters_l1 xs (y9 ++ [(Int.tmod x21 1073741824)]) (k12 + 1) y13 y14 y15 (y16 + (Int.tmod x21 1073741824))) else none) else none) else none) else none) else none)))) else none) else none) else none) else none
def f_l24_TallyQuarters_l3 (k378 : Nat) : List Int → Int → Int → Nat → Option (Int × Int)
  | [], y387, y388, k389 => some (y387, y388)
  | x394 :: xs, y387, y388, k389 => if -9223372036854775808 ≤ ((k378 : Int) * (k389 : Int)) ∧ ((k378 : Int) * (k389 : Int)) ≤ 9223372036854775807 then ((f_l24_turned x394 0 ((k378 : Int) * (k389 : Int))).bind fun (x406, x407) => if -9223372036854775808 ≤ (y387 + x406) ∧ (y387 + x406) ≤ 9223372036854775807 then (if -9223372036854775808 ≤ (y388 + x407) ∧ (y388 + x407) ≤ 9223372036854775807 then (f_l24_TallyQuarters_l3 k378 xs (y387 + x406) (y388 + x407) (k389 + 1)) else none) else none) else none
def f_l24_TallyQuarters_l2 (y9 : List Int) (x374 : (Nat × Nat) × (Nat × Nat) × (Nat × Nat) × (Nat × Nat)) : Nat → Bool → Nat → Option (Lp Bool (Bool × Nat))
  | 0, _, _ => none
  | m382 + 1, y377, k378 => if (k378 : Int) < 4 then ((f_l24_TallyQuarters_l3 k378 y9 0 0 0).bind fun (y411, y412) => (if (k378 : Int) = 0 then ((f_l24_whole y411 y412).bind fun x442 => if (fEq x374.1.1 x442.1 && fEq x374.1.2 x442.2) = true then ((f_tally_Quarter (k378 : Int) y9).bind fun x445 => if (fEq x445.1 x374.1.1 && fEq x445.2 x374.1.2) = true then some false else some true) else some true) else (if (k378 : Int) = 1 then ((f_l24_whole y411 y412).bind fun x449 => if (fEq x374.2.1.1 x449.1 && fEq x374.2.1.2 x449.2) = true then ((f_tally_Quarter (k378 : Int) y9).bind fun x452 => if (fEq x452.1 x374.2.1.1 && fEq x452.2 x374.2.1.2) = true then some false else some true) else some true) else (if (k378 : Int) = 2 then ((f_l24_whole y411 y412).bind fun x456 => if (fEq x374.2.2.1.1 x456.1 && fEq x374.2.2.1.2 x456.2) = true then ((f_tally_Quarter (k378 : Int) y9).bind fun x459 => if (fEq x459.1 x374.2.2.1.1 && fEq x459.2 x374.2.2.1.2) = true then some false else some true) else some true) else (if (k378 : Int) = 3 then ((f_l24_whole y411 y412).bind fun x463 => if (fEq x374.2.2.2.1 x463.1 && fEq x374.2.2.2.2 x463.2) = true then (if (k378 : Int) = 3 then ((f_tally_Quarter (k378 : Int) y9).bind fun x467 => if (fEq x467.1 x374.2.2.2.1 && fEq x467.2 x374.2.2.2.2) = true then some false else some true) else none) else some true) else none)))).bind fun y439 => if y439 = true then none else (if -9223372036854775808 ≤ ((k378 : Int) + 1) ∧ ((k378 : Int) + 1) ≤ 9223372036854775807 then (f_l24_TallyQuarters_l2 y9 x374 m382 y377 (k378 + 1)) else none)) else (some (Lp.go (y377, k378)))
def f_l24_TallyQuarters (a0 : List Int) (a1 : Int) (a2 : Int × Int) : Option (Bool) := (f_l24_speaks).bind fun x4 => if x4 = true then (if (a0.length : Int) > 200 then some true else ((f_l24_TallyQuarters_l1 a0 [] 0 0 0 0 0).bind fun (y74, y78, y79, y80, y81) => (f_tally_Quarters y74).bind fun x82 => (f_l24_TallyQuarters_l2 y74 x82 ((4 : Int).toNat + 1) false 0).bind fun e => match e with | .ret r => some r | .go (y305, k306) => (if -9223372036854775808 ≤ a2.1 ∧ a2.1 ≤ 9223372036854775807 then (if -9223372036854775808 ≤ a2.2 ∧ a2.2 ≤ 9223372036854775807 then (if -9223372036854775808 ≤ a1 ∧ a1 ≤ 9223372036854775807 then ((f_l24_turned a2.1 a2.2 (Int.tmod a1 4)).bind fun (x310, x311) => if -9223372036854775808 ≤ a2.1 ∧ a2.1 ≤ 9223372036854775807 then (if -9223372036854775808 ≤ a2.2 ∧ a2.2 ≤ 9223372036854775807 then ((f_l24_turned a2.1 a2.2 3).bind fun (x315, x316) => ((f_tally_Back x82).bind fun x347 => if x347.1 = y78 then (if x347.2.1 = y79 then (if x347.2.2.1 = y80 then (if x347.2.2.2 = y81 then (if -9223372036854775808 ≤ a2.1 ∧ a2.1 ≤ 9223372036854775807 then (if -9223372036854775808 ≤ a2.2 ∧ a2.2 ≤ 9223372036854775807 then ((f_l24_whole a2.1 a2.2).bind fun x355 => (f_tally_Turn x355 a1).bind fun x357 => (f_l24_whole x310 x311).bind fun x359 => if (fEq x357.1 x359.1 && fEq x357.2 x359.2) = true then (if -9223372036854775808 ≤ a2.1 ∧ a2.1 ≤ 9223372036854775807 then (if -9223372036854775808 ≤ a2.2 ∧ a2.2 ≤ 9223372036854775807 then ((f_l24_whole a2.1 a2.2).bind fun x364 => (f_tally_Turn x364 3).bind fun x366 => (f_tally_Turn x366 (-3)).bind fun x368 => (f_l24_whole x315 x316).bind fun x370 => (f_tally_Turn x370 1).bind fun x372 => some (fEq x368.1 x372.1 && fEq x368.2 x372.2)) else none) else none) else some false) else none) else none) else some false) else some false) else some false) else some false).bind fun y345 => some y345) else none) else none) else none) else none) else none))) else none
set_option maxRecDepth 100000 in
set_option maxHeartbeats 4000000 in
theorem f_l24_TallyQuarters_spec (a0 : List Int) (A1 : Option Addr) (c2 : Nat) (a1 : Int) (a2 : Int × Int) (r : Bool) (h : f_l24_TallyQuarters a0 a1 a2 = some r) : SpecX Try.prog 5 #[.slice A1 a0.length c2, .int .i64 a1, .agg #[.int .i32 a2.1, .int .i32 a2.2]] (RX.of (sliceRd 1 i32E) [.slice A1 a0.length c2] a0) (EmpR) (fun v A' N => v = .bool r ∧ A' = EmpR ∧ N = []) := by
  refine enterA Try.func5 rfl Try.ntmps5 rfl ?_
  intro F w hX
  unfold f_l24_TallyQuarters at h
  refine T.seq (T.region rfl ?_)
  refine TL.box rfl .u rfl rfl (fun b3 => ?_)
  refine TL.run ft_cursitorlaw24_ok [1] rfl rfl ?_
  obtain ⟨x4, hx5, h⟩ := Option.bind_eq_some_iff.1 h
  refine TL.nil (X.seq (T.seq (T.seq (T.region rfl ?_))))
  refine TL.ce rfl .u (.fn Try.call14 rfl) (f_l24_speaks_spec _ hx5) (fun _ hs => (RX.reads_triv _ _)) rfl ?_
  refine TL.run ft_cursitorlaw24_ok [1] rfl rfl ?_
  by_cases c6 : x4 = true
  · replace h := ifT c6 h
    refine TL.nil (X.seq ?_)
    refine T.no rfl (bn_f c6) ?_
    refine T.skip (X.seq (T.seq (T.seq (T.region rfl ?_))))
    refine TL.run ft_cursitorlaw24_ok [0] rfl rfl ?_
    refine TL.q rfl .u (Ex.lenS rfl Try.runUnderlying42) rfl ?_
    refine TL.run ft_cursitorlaw24_ok [2] rfl rfl ?_
    by_cases c7 : (a0.length : Int) > 200
    · replace h := ifT c7 h
      refine TL.nil (X.seq ?_)
      refine T.yes rfl (decide_eq_true c7) ?_
      refine T.seq (T.region rfl ?_)
      refine TL.run ft_cursitorlaw24_ok [0] rfl rfl ?_
      obtain rfl := Option.some.inj h
      exact TL.nil (X.seq (T.ret (X.rs (X.done1 [1] Try.results5 (RV.tm rfl) ⟨rfl, rfl, rfl⟩ (by rfl) (.inl rfl)))))
    · replace h := ifF c7 h
      refine TL.nil (X.seq ?_)
      refine T.no rfl (decide_eq_false c7) ?_
      refine T.skip (X.seq (T.seq (T.region rfl ?_)))
      refine TL.run ft_cursitorlaw24_ok [0] rfl rfl ?_
      refine TL.nil (X.seq (T.seq (T.region rfl ?_)))
      refine TL.alloc rfl .u Try.zeroValue45 rfl (fun b8 => ?_)
      refine TL.nil (X.seq (T.seq (T.seq (T.region rfl ?_))))
      refine TL.run ft_cursitorlaw24_ok [0] rfl rfl ?_
      refine TL.q rfl .u (Ex.lenS rfl Try.runUnderlying42) rfl ?_
      refine TL.run ft_cursitorlaw24_ok [2] rfl rfl ?_
      refine TL.nil (X.seq (T.block ?_))
      refine T.nilrow 3 1 intE ?_
      obtain ⟨E17, hE18, hO19⟩ := Option.bind_eq_some_iff.1 h
      have hk23len := RX.len_le hX
      refine T.lp (fun m e Rs => ∃ (y9 : List Int) (A10 : Option Addr) (c11 : Nat) (k12 : Nat) (y13 : Int) (y14 : Int) (y15 : Int) (y16 : Int), k12 + m = a0.length ∧ e = [(1, .int .i64 a1), (5, .pointer (some ⟨b3, 0, none⟩)), (6, .bool false), (7, .slice A10 y9.length c11), (8, .pointer (some ⟨b8, 0, none⟩)), (28, .slice A1 a0.length c2), (29, .int .i64 (a0.length : Int)), (30, .int .i64 (k12 : Int))] ∧ Rs = [OwnR 3 1 intE (.slice A10 y9.length c11) y9, BlkR b8 45 #[.int .i64 y13, .int .i64 y14, .int .i64 y15, .int .i64 y16], BlkR b3 43 #[.int .i32 a2.1, .int .i32 a2.2], EmpR] ∧ f_l24_TallyQuarters_l1 (a0.drop k12) y9 k12 y13 y14 y15 y16 = some E17) (a0.length) [0, 0, 0, 0] ⟨[], none, 0, 0, 0, 0, 0, 0, by simp, rfl, rfl, by rw [List.drop_zero]; exact hE18⟩ (by rfl) (by rfl) ?_
      rintro m20 _ _ ⟨y9, A10, c11, k12, y13, y14, y15, y16, hk23, rfl, rfl, hl22⟩
      clear hE18 h
      cases m20 with
      | zero =>
        have h := hl22
        clear hl22
        rw [List.drop_of_length_le (by omega), f_l24_TallyQuarters_l1] at h
        have hk23ge : ¬ ((k12 : Int) < (a0.length : Int)) := by omega
        refine T.seq (T.region rfl ?_)
        refine TL.run ft_cursitorlaw24_ok [0] rfl rfl ?_
        refine TL.nil (X.seq (T.seq ?_))
        refine T.no rfl (decide_eq_false hk23ge) ?_
        obtain rfl := Option.some.inj h
        replace h := hO19
        clear hO19
        try dsimp only at h
        refine T.exit (X.exs (X.exs (X.ex (X.seq (T.seq (T.region rfl ?_))))))
        obtain ⟨x374, hx375, h⟩ := Option.bind_eq_some_iff.1 h
        refine TL.run ft_cursitorlaw24_ok [0] rfl rfl ?_
        refine TL.ce rfl .u (.fn Try.call15 rfl) (f_tally_Quarters_spec y9 _ _ _ hx375) (fun _ hs => (SrcE.res 0 hs rfl (fun w G h => own_reads (by decide) w G h))) rfl ?_
        refine TL.alloc rfl .u Try.zeroValue47 rfl (fun b376 => ?_)
        refine TL.st0 (cs' := #[.complex .f64 x374.1.1 x374.1.2, .complex .f64 x374.2.1.1 x374.2.1.2, .complex .f64 x374.2.2.1.1 x374.2.2.1.2, .complex .f64 x374.2.2.2.1 x374.2.2.2.2]) rfl .u rfl rfl Try.sizeOf47 rfl rfl rfl rfl ?_
        refine TL.nil (X.seq (T.seq (T.seq (T.region rfl ?_))))
        refine TL.run ft_cursitorlaw24_ok [0] rfl rfl ?_
        refine TL.nil (X.seq (T.block ?_))
        obtain ⟨E379, hE380, hO381⟩ := Option.bind_eq_some_iff.1 h
        refine T.lp (fun m e Rs => ∃ (y377 : Bool) (k378 : Nat), e = [(1, .int .i64 a1), (5, .pointer (some ⟨b3, 0, none⟩)), (6, .bool y377), (7, .slice A10 y9.length c11), (8, .pointer (some ⟨b8, 0, none⟩)), (11, .pointer (some ⟨b376, 0, none⟩)), (53, .int .i64 (k378 : Int))] ∧ Rs = [BlkR b376 47 #[.complex .f64 x374.1.1 x374.1.2, .complex .f64 x374.2.1.1 x374.2.1.2, .complex .f64 x374.2.2.1.1 x374.2.2.1.2, .complex .f64 x374.2.2.2.1 x374.2.2.2.2], OwnR 3 1 intE (.slice A10 y9.length c11) y9, BlkR b8 45 #[.int .i64 y13, .int .i64 y14, .int .i64 y15, .int .i64 y16], BlkR b3 43 #[.int .i32 a2.1, .int .i32 a2.2], EmpR] ∧ f_l24_TallyQuarters_l2 y9 x374 m y377 k378 = some E379) ((4 : Int).toNat + 1) [0, 0, 0, 0, 0] ⟨false, 0, rfl, rfl, by exact hE380⟩ (by rfl) (by rfl) ?_
        rintro m382 _ _ ⟨y377, k378, rfl, rfl, hl384⟩
        clear hE380 h
        cases m382 with
        | zero =>
          rw [f_l24_TallyQuarters_l2] at hl384
          cases hl384
        | succ m382 =>
          have h := hl384
          clear hl384
          rw [f_l24_TallyQuarters_l2] at h
          refine T.seq (T.region rfl ?_)
          refine TL.run ft_cursitorlaw24_ok [0] rfl rfl ?_
          by_cases c386 : (k378 : Int) < 4
          · replace h := ifT c386 h
            refine TL.nil (X.seq (T.seq ?_))
            refine T.yes rfl (decide_eq_true c386) ?_
            refine T.skip (X.seq (T.seq (T.block (T.seq (T.region rfl ?_)))))
            refine TL.run ft_cursitorlaw24_ok [0, 1] rfl rfl ?_
            refine TL.nil (X.seq (T.seq (T.region rfl ?_)))
            refine TL.run ft_cursitorlaw24_ok [0, 1] rfl rfl ?_
            refine TL.nil (X.seq (T.seq (T.seq (T.region rfl ?_))))
            refine TL.run ft_cursitorlaw24_ok [0] rfl rfl ?_
            refine TL.q rfl .u (Ex.lenS rfl Try.runUnderlying44) rfl ?_
            refine TL.run ft_cursitorlaw24_ok [2] rfl rfl ?_
            refine TL.nil (X.seq (T.block ?_))
            obtain ⟨E390, hE391, hO392⟩ := Option.bind_eq_some_iff.1 h
            refine T.blen 1 rfl (fun w G h => own_reads (by decide) w G h) (fun hk396len => ?_)
            try dsimp only at hk396len
            refine T.lp (fun m e Rs => ∃ (y387 : Int) (y388 : Int) (k389 : Nat), k389 + m = y9.length ∧ e = [(1, .int .i64 a1), (5, .pointer (some ⟨b3, 0, none⟩)), (6, .bool y377), (7, .slice A10 y9.length c11), (8, .pointer (some ⟨b8, 0, none⟩)), (11, .pointer (some ⟨b376, 0, none⟩)), (12, .int .i64 (k378 : Int)), (13, .int .i64 y387), (14, .int .i64 y388), (53, .int .i64 (k378 : Int)), (56, .slice A10 y9.length c11), (57, .int .i64 (y9.length : Int)), (58, .int .i64 (k389 : Int))] ∧ Rs = [BlkR b376 47 #[.complex .f64 x374.1.1 x374.1.2, .complex .f64 x374.2.1.1 x374.2.1.2, .complex .f64 x374.2.2.1.1 x374.2.2.1.2, .complex .f64 x374.2.2.2.1 x374.2.2.2.2], OwnR 3 1 intE (.slice A10 y9.length c11) y9, BlkR b8 45 #[.int .i64 y13, .int .i64 y14, .int .i64 y15, .int .i64 y16], BlkR b3 43 #[.int .i32 a2.1, .int .i32 a2.2], EmpR] ∧ f_l24_TallyQuarters_l3 k378 (y9.drop k389) y387 y388 k389 = some E390) (y9.length) [0, 0, 0, 0, 0] ⟨0, 0, 0, by simp, rfl, rfl, by rw [List.drop_zero]; exact hE391⟩ (by rfl) (by rfl) ?_
            rintro m393 _ _ ⟨y387, y388, k389, hk396, rfl, rfl, hl395⟩
            clear hE391 h
            cases m393 with
            | zero =>
              have h := hl395
              clear hl395
              rw [List.drop_of_length_le (by omega), f_l24_TallyQuarters_l3] at h
              have hk396ge : ¬ ((k389 : Int) < (y9.length : Int)) := by omega
              refine T.seq (T.region rfl ?_)
              refine TL.run ft_cursitorlaw24_ok [0] rfl rfl ?_
              refine TL.nil (X.seq (T.seq ?_))
              refine T.no rfl (decide_eq_false hk396ge) ?_
              obtain rfl := Option.some.inj h
              replace h := hO392
              clear hO392
              try dsimp only at h
              refine T.exit (X.exs (X.exs (X.ex (X.seq (T.seq ?_)))))
              obtain ⟨y497, h, hk498⟩ := Option.bind_eq_some_iff.1 h
              refine T.jq (fun e Rs => e = [(1, .int .i64 a1), (5, .pointer (some ⟨b3, 0, none⟩)), (6, .bool y377), (7, .slice A10 y9.length c11), (8, .pointer (some ⟨b8, 0, none⟩)), (11, .pointer (some ⟨b376, 0, none⟩)), (53, .int .i64 (k378 : Int)), (93, .bool y497)] ∧ Rs = [BlkR b376 47 #[.complex .f64 x374.1.1 x374.1.2, .complex .f64 x374.2.1.1 x374.2.1.2, .complex .f64 x374.2.2.1.1 x374.2.2.1.2, .complex .f64 x374.2.2.2.1 x374.2.2.2.2], OwnR 3 1 intE (.slice A10 y9.length c11) y9, BlkR b8 45 #[.int .i64 y13, .int .i64 y14, .int .i64 y15, .int .i64 y16], BlkR b3 43 #[.int .i32 a2.1, .int .i32 a2.2], EmpR]) ?_ ?_
              · clear hk498
                refine T.draw (.q 0 (.q 1 (.q 2 (.q 3 (.q 4 (.e 5 (.q 6 (.q 7 (.q 8 (.q 9 (.q 11 (.q 12 (.q 13 (.e 10 (.q 14 (.q 15 .nil)))))))))))))))) [0, 0, 0, 0, 0] rfl mix_cursitorlaw24 (NoP.seq (NoP.seq (NoP.blk (NoP.seq (NoP.seq (NoP.blk (NoP.seq np_post))))))) (by kernel_rfl) ?_
                by_cases c499 : (k378 : Int) = 0
                · replace h := ifT c499 h
                  refine TD.run ft_cursitorlaw24_ok [0] rfl rfl ?_
                  refine TD.q rfl .u (Ex.ixP (k := 0) rfl rfl c499 Try.runUnderlying47 Try.sizeOf46 (by decide)) rfl ?_
                  refine TD.q rfl .u (Ex.b1 0 rfl Try.isAgg46 rfl rfl) rfl ?_
                  obtain ⟨x500, hx501, h⟩ := Option.bind_eq_some_iff.1 h
                  refine TD.run ft_cursitorlaw24_ok [3, 4] rfl rfl ?_
                  refine TD.ce rfl .u (.fn Try.call17 rfl) (f_l24_whole_spec y387 y388 _ hx501) (fun _ hs => (RX.reads_triv _ _)) rfl [0, 0, 0, 0, 0] (rfl) ?_
                  refine TD.q rfl .u (Ex.cne rfl rfl Try.runUnderlying46) rfl ?_
                  by_cases c502 : (fEq x374.1.1 x500.1 && fEq x374.1.2 x500.2) = true
                  · replace h := ifT c502 h
                    refine TD.run ft_cursitorlaw24_ok [7] rfl rfl ?_
                    refine TD.q rfl (.g rfl rfl (bn_f c502)) (Ex.ft ft_cursitorlaw24_ok rfl) rfl ?_
                    refine TD.q rfl (.g rfl rfl (bn_f c502)) (Ex.ft ft_cursitorlaw24_ok rfl) rfl ?_
                    refine TD.q rfl (.g rfl rfl (bn_f c502)) (Ex.ft ft_cursitorlaw24_ok rfl) rfl ?_
                    refine TD.q rfl (.g rfl rfl (bn_f c502)) (Ex.ixP (k := 0) rfl rfl c499 Try.runUnderlying47 Try.sizeOf46 (by decide)) rfl ?_
                    refine TD.q rfl (.g rfl rfl (bn_f c502)) (Ex.b1 0 rfl Try.isAgg46 rfl rfl) rfl ?_
                    obtain ⟨x503, hx504, h⟩ := Option.bind_eq_some_iff.1 h
                    refine TD.ce rfl (.g rfl rfl (bn_f c502)) (.fn Try.call18 rfl) (f_tally_Quarter_spec (k378 : Int) y9 _ _ _ hx504) (fun _ hs => (SrcE.res 1 hs rfl (fun w G h => own_reads (by decide) w G h))) rfl [0, 0, 0, 0, 0] (rfl) ?_
                    refine TD.q rfl (.g rfl rfl (bn_f c502)) (Ex.cne rfl rfl Try.runUnderlying46) rfl ?_
                    refine TD.q rfl .u (Ex.pn rfl (bn_f c502) rfl) rfl ?_
                    by_cases c505 : (fEq x503.1 x374.1.1 && fEq x503.2 x374.1.2) = true
                    · replace h := ifT c505 h
                      cases h
                      exact TD.nil (X.as (d := 93) (v' := .bool false) rfl (congrArg Value.bool (bn_f c505)) (X.jq [0, 0, 0, 0, 0] ⟨rfl, rfl⟩ (by rfl) (by rfl)))
                    · replace h := ifF c505 h
                      replace c505 := eq_false_of_ne_true c505
                      cases h
                      exact TD.nil (X.as (d := 93) (v' := .bool true) rfl (congrArg Value.bool (bn_t c505)) (X.jq [0, 0, 0, 0, 0] ⟨rfl, rfl⟩ (by rfl) (by rfl)))
                  · replace h := ifF c502 h
                    replace c502 := eq_false_of_ne_true c502
                    refine TD.run ft_cursitorlaw24_ok [7] rfl rfl ?_
                    refine TD.no rfl (.gn rfl rfl (bn_t c502)) rfl ?_
                    refine TD.no rfl (.gn rfl rfl (bn_t c502)) rfl ?_
                    refine TD.no rfl (.gn rfl rfl (bn_t c502)) rfl ?_
                    refine TD.no rfl (.gn rfl rfl (bn_t c502)) rfl ?_
                    refine TD.no rfl (.gn rfl rfl (bn_t c502)) rfl ?_
                    refine TD.noe rfl (.gn rfl rfl (bn_t c502)) rfl [0, 0, 0, 0, 0] rfl ?_
                    refine TD.no rfl (.gn rfl rfl (bn_t c502)) rfl ?_
                    refine TD.q rfl .u (Ex.py rfl (bn_t c502) rfl) rfl ?_
                    cases h
                    exact TD.nil (X.jq [0, 0, 0, 0, 0] ⟨rfl, rfl⟩ (by rfl) (by rfl))
                · replace h := ifF c499 h
                  by_cases c506 : (k378 : Int) = 1
                  · replace h := ifT c506 h
                    refine TD.run ft_cursitorlaw24_ok [0] rfl rfl ?_
                    refine TD.q rfl .u (Ex.ixP (k := 1) rfl rfl c506 Try.runUnderlying47 Try.sizeOf46 (by decide)) rfl ?_
                    refine TD.q rfl .u (Ex.b1 0 rfl Try.isAgg46 rfl rfl) rfl ?_
                    obtain ⟨x507, hx508, h⟩ := Option.bind_eq_some_iff.1 h
                    refine TD.run ft_cursitorlaw24_ok [3, 4] rfl rfl ?_
                    refine TD.ce rfl .u (.fn Try.call17 rfl) (f_l24_whole_spec y387 y388 _ hx508) (fun _ hs => (RX.reads_triv _ _)) rfl [0, 0, 0, 0, 0] (rfl) ?_
                    refine TD.q rfl .u (Ex.cne rfl rfl Try.runUnderlying46) rfl ?_
                    by_cases c509 : (fEq x374.2.1.1 x507.1 && fEq x374.2.1.2 x507.2) = true
                    · replace h := ifT c509 h
                      refine TD.run ft_cursitorlaw24_ok [7] rfl rfl ?_
                      refine TD.q rfl (.g rfl rfl (bn_f c509)) (Ex.ft ft_cursitorlaw24_ok rfl) rfl ?_
                      refine TD.q rfl (.g rfl rfl (bn_f c509)) (Ex.ft ft_cursitorlaw24_ok rfl) rfl ?_
                      refine TD.q rfl (.g rfl rfl (bn_f c509)) (Ex.ft ft_cursitorlaw24_ok rfl) rfl ?_
                      refine TD.q rfl (.g rfl rfl (bn_f c509)) (Ex.ixP (k := 1) rfl rfl c506 Try.runUnderlying47 Try.sizeOf46 (by decide)) rfl ?_
                      refine TD.q rfl (.g rfl rfl (bn_f c509)) (Ex.b1 0 rfl Try.isAgg46 rfl rfl) rfl ?_
                      obtain ⟨x510, hx511, h⟩ := Option.bind_eq_some_iff.1 h
                      refine TD.ce rfl (.g rfl rfl (bn_f c509)) (.fn Try.call18 rfl) (f_tally_Quarter_spec (k378 : Int) y9 _ _ _ hx511) (fun _ hs => (SrcE.res 1 hs rfl (fun w G h => own_reads (by decide) w G h))) rfl [0, 0, 0, 0, 0] (rfl) ?_
                      refine TD.q rfl (.g rfl rfl (bn_f c509)) (Ex.cne rfl rfl Try.runUnderlying46) rfl ?_
                      refine TD.q rfl .u (Ex.pn rfl (bn_f c509) rfl) rfl ?_
                      by_cases c512 : (fEq x510.1 x374.2.1.1 && fEq x510.2 x374.2.1.2) = true
                      · replace h := ifT c512 h
                        cases h
                        exact TD.nil (X.as (d := 93) (v' := .bool false) rfl (congrArg Value.bool (bn_f c512)) (X.jq [0, 0, 0, 0, 0] ⟨rfl, rfl⟩ (by rfl) (by rfl)))
                      · replace h := ifF c512 h
                        replace c512 := eq_false_of_ne_true c512
                        cases h
                        exact TD.nil (X.as (d := 93) (v' := .bool true) rfl (congrArg Value.bool (bn_t c512)) (X.jq [0, 0, 0, 0, 0] ⟨rfl, rfl⟩ (by rfl) (by rfl)))
                    · replace h := ifF c509 h
                      replace c509 := eq_false_of_ne_true c509
                      refine TD.run ft_cursitorlaw24_ok [7] rfl rfl ?_
                      refine TD.no rfl (.gn rfl rfl (bn_t c509)) rfl ?_
                      refine TD.no rfl (.gn rfl rfl (bn_t c509)) rfl ?_
                      refine TD.no rfl (.gn rfl rfl (bn_t c509)) rfl ?_
                      refine TD.no rfl (.gn rfl rfl (bn_t c509)) rfl ?_
                      refine TD.no rfl (.gn rfl rfl (bn_t c509)) rfl ?_
                      refine TD.noe rfl (.gn rfl rfl (bn_t c509)) rfl [0, 0, 0, 0, 0] rfl ?_
                      refine TD.no rfl (.gn rfl rfl (bn_t c509)) rfl ?_
                      refine TD.q rfl .u (Ex.py rfl (bn_t c509) rfl) rfl ?_
                      cases h
                      exact TD.nil (X.jq [0, 0, 0, 0, 0] ⟨rfl, rfl⟩ (by rfl) (by rfl))
                  · replace h := ifF c506 h
                    by_cases c513 : (k378 : Int) = 2
                    · replace h := ifT c513 h
                      refine TD.run ft_cursitorlaw24_ok [0] rfl rfl ?_
                      refine TD.q rfl .u (Ex.ixP (k := 2) rfl rfl c513 Try.runUnderlying47 Try.sizeOf46 (by decide)) rfl ?_
                      refine TD.q rfl .u (Ex.b1 0 rfl Try.isAgg46 rfl rfl) rfl ?_
                      obtain ⟨x514, hx515, h⟩ := Option.bind_eq_some_iff.1 h
                      refine TD.run ft_cursitorlaw24_ok [3, 4] rfl rfl ?_
                      refine TD.ce rfl .u (.fn Try.call17 rfl) (f_l24_whole_spec y387 y388 _ hx515) (fun _ hs => (RX.reads_triv _ _)) rfl [0, 0, 0, 0, 0] (rfl) ?_
                      refine TD.q rfl .u (Ex.cne rfl rfl Try.runUnderlying46) rfl ?_
                      by_cases c516 : (fEq x374.2.2.1.1 x514.1 && fEq x374.2.2.1.2 x514.2) = true
                      · replace h := ifT c516 h
                        refine TD.run ft_cursitorlaw24_ok [7] rfl rfl ?_
                        refine TD.q rfl (.g rfl rfl (bn_f c516)) (Ex.ft ft_cursitorlaw24_ok rfl) rfl ?_
                        refine TD.q rfl (.g rfl rfl (bn_f c516)) (Ex.ft ft_cursitorlaw24_ok rfl) rfl ?_
                        refine TD.q rfl (.g rfl rfl (bn_f c516)) (Ex.ft ft_cursitorlaw24_ok rfl) rfl ?_
                        refine TD.q rfl (.g rfl rfl (bn_f c516)) (Ex.ixP (k := 2) rfl rfl c513 Try.runUnderlying47 Try.sizeOf46 (by decide)) rfl ?_
                        refine TD.q rfl (.g rfl rfl (bn_f c516)) (Ex.b1 0 rfl Try.isAgg46 rfl rfl) rfl ?_
                        obtain ⟨x517, hx518, h⟩ := Option.bind_eq_some_iff.1 h
                        refine TD.ce rfl (.g rfl rfl (bn_f c516)) (.fn Try.call18 rfl) (f_tally_Quarter_spec (k378 : Int) y9 _ _ _ hx518) (fun _ hs => (SrcE.res 1 hs rfl (fun w G h => own_reads (by decide) w G h))) rfl [0, 0, 0, 0, 0] (rfl) ?_
                        refine TD.q rfl (.g rfl rfl (bn_f c516)) (Ex.cne rfl rfl Try.runUnderlying46) rfl ?_
                        refine TD.q rfl .u (Ex.pn rfl (bn_f c516) rfl) rfl ?_
                        by_cases c519 : (fEq x517.1 x374.2.2.1.1 && fEq x517.2 x374.2.2.1.2) = true
                        · replace h := ifT c519 h
                          cases h
                          exact TD.nil (X.as (d := 93) (v' := .bool false) rfl (congrArg Value.bool (bn_f c519)) (X.jq [0, 0, 0, 0, 0] ⟨rfl, rfl⟩ (by rfl) (by rfl)))
                        · replace h := ifF c519 h
                          replace c519 := eq_false_of_ne_true c519
                          cases h
                          exact TD.nil (X.as (d := 93) (v' := .bool true) rfl (congrArg Value.bool (bn_t c519)) (X.jq [0, 0, 0, 0, 0] ⟨rfl, rfl⟩ (by rfl) (by rfl)))
                      · replace h := ifF c516 h
                        replace c516 := eq_false_of_ne_true c516
                        refine TD.run ft_cursitorlaw24_ok [7] rfl rfl ?_
                        refine TD.no rfl (.gn rfl rfl (bn_t c516)) rfl ?_
                        refine TD.no rfl (.gn rfl rfl (bn_t c516)) rfl ?_
                        refine TD.no rfl (.gn rfl rfl (bn_t c516)) rfl ?_
                        refine TD.no rfl (.gn rfl rfl (bn_t c516)) rfl ?_
                        refine TD.no rfl (.gn rfl rfl (bn_t c516)) rfl ?_
                        refine TD.noe rfl (.gn rfl rfl (bn_t c516)) rfl [0, 0, 0, 0, 0] rfl ?_
                        refine TD.no rfl (.gn rfl rfl (bn_t c516)) rfl ?_
                        refine TD.q rfl .u (Ex.py rfl (bn_t c516) rfl) rfl ?_
                        cases h
                        exact TD.nil (X.jq [0, 0, 0, 0, 0] ⟨rfl, rfl⟩ (by rfl) (by rfl))
                    · replace h := ifF c513 h
                      replace h := guard_some h
                      obtain ⟨c520, h⟩ := h
                      refine TD.run ft_cursitorlaw24_ok [0] rfl rfl ?_
                      refine TD.q rfl .u (Ex.ixP (k := 3) rfl rfl c520 Try.runUnderlying47 Try.sizeOf46 (by decide)) rfl ?_
                      refine TD.q rfl .u (Ex.b1 0 rfl Try.isAgg46 rfl rfl) rfl ?_
                      obtain ⟨x521, hx522, h⟩ := Option.bind_eq_some_iff.1 h
                      refine TD.run ft_cursitorlaw24_ok [3, 4] rfl rfl ?_
                      refine TD.ce rfl .u (.fn Try.call17 rfl) (f_l24_whole_spec y387 y388 _ hx522) (fun _ hs => (RX.reads_triv _ _)) rfl [0, 0, 0, 0, 0] (rfl) ?_
                      refine TD.q rfl .u (Ex.cne rfl rfl Try.runUnderlying46) rfl ?_
                      by_cases c523 : (fEq x374.2.2.2.1 x521.1 && fEq x374.2.2.2.2 x521.2) = true
                      · replace h := ifT c523 h
                        refine TD.run ft_cursitorlaw24_ok [7] rfl rfl ?_
                        refine TD.q rfl (.g rfl rfl (bn_f c523)) (Ex.ft ft_cursitorlaw24_ok rfl) rfl ?_
                        refine TD.q rfl (.g rfl rfl (bn_f c523)) (Ex.ft ft_cursitorlaw24_ok rfl) rfl ?_
                        refine TD.q rfl (.g rfl rfl (bn_f c523)) (Ex.ft ft_cursitorlaw24_ok rfl) rfl ?_
                        replace h := guard_some h
                        obtain ⟨c524, h⟩ := h
                        refine TD.q rfl (.g rfl rfl (bn_f c523)) (Ex.ixP (k := 3) rfl rfl c524 Try.runUnderlying47 Try.sizeOf46 (by decide)) rfl ?_
                        refine TD.q rfl (.g rfl rfl (bn_f c523)) (Ex.b1 0 rfl Try.isAgg46 rfl rfl) rfl ?_
                        obtain ⟨x525, hx526, h⟩ := Option.bind_eq_some_iff.1 h
                        refine TD.ce rfl (.g rfl rfl (bn_f c523)) (.fn Try.call18 rfl) (f_tally_Quarter_spec (k378 : Int) y9 _ _ _ hx526) (fun _ hs => (SrcE.res 1 hs rfl (fun w G h => own_reads (by decide) w G h))) rfl [0, 0, 0, 0, 0] (rfl) ?_
                        refine TD.q rfl (.g rfl rfl (bn_f c523)) (Ex.cne rfl rfl Try.runUnderlying46) rfl ?_
                        refine TD.q rfl .u (Ex.pn rfl (bn_f c523) rfl) rfl ?_
                        by_cases c527 : (fEq x525.1 x374.2.2.2.1 && fEq x525.2 x374.2.2.2.2) = true
                        · replace h := ifT c527 h
                          cases h
                          exact TD.nil (X.as (d := 93) (v' := .bool false) rfl (congrArg Value.bool (bn_f c527)) (X.jq [0, 0, 0, 0, 0] ⟨rfl, rfl⟩ (by rfl) (by rfl)))
                        · replace h := ifF c527 h
                          replace c527 := eq_false_of_ne_true c527
                          cases h
                          exact TD.nil (X.as (d := 93) (v' := .bool true) rfl (congrArg Value.bool (bn_t c527)) (X.jq [0, 0, 0, 0, 0] ⟨rfl, rfl⟩ (by rfl) (by rfl)))
                      · replace h := ifF c523 h
                        replace c523 := eq_false_of_ne_true c523
                        refine TD.run ft_cursitorlaw24_ok [7] rfl rfl ?_
                        refine TD.no rfl (.gn rfl rfl (bn_t c523)) rfl ?_
                        refine TD.no rfl (.gn rfl rfl (bn_t c523)) rfl ?_
                        refine TD.no rfl (.gn rfl rfl (bn_t c523)) rfl ?_
                        refine TD.no rfl (.gn rfl rfl (bn_t c523)) rfl ?_
                        refine TD.no rfl (.gn rfl rfl (bn_t c523)) rfl ?_
                        refine TD.noe rfl (.gn rfl rfl (bn_t c523)) rfl [0, 0, 0, 0, 0] rfl ?_
                        refine TD.no rfl (.gn rfl rfl (bn_t c523)) rfl ?_
                        refine TD.q rfl .u (Ex.py rfl (bn_t c523) rfl) rfl ?_
                        cases h
                        exact TD.nil (X.jq [0, 0, 0, 0, 0] ⟨rfl, rfl⟩ (by rfl) (by rfl))
              · rintro _ _ ⟨rfl, rfl⟩
                clear h
                have h := hk498
                clear hk498
                try dsimp only at h
                by_cases c528 : y497 = true
                · replace h := ifT c528 h
                  refine X.seq ?_
                  refine T.yes rfl c528 ?_
                  exact nomatch h
                · replace h := ifF c528 h
                  replace c528 := eq_false_of_ne_true c528
                  refine X.seq ?_
                  refine T.no rfl c528 ?_
                  replace h := guard_some h
                  obtain ⟨c529, h⟩ := h
                  refine T.skip (X.blk (X.seq (T.region rfl ?_)))
                  refine TL.q rfl .u (Ex.add rfl rfl c529) rfl ?_
                  refine TL.run ft_cursitorlaw24_ok [1] rfl rfl ?_
                  exact TL.nil (X.back (m' := m382) [0, 0, 0, 0, 0] (by omega) ⟨y377, k378 + 1, rfl, rfl, h⟩ (by rfl) (by rfl))
            | succ m393 =>
              have h := hl395
              clear hl395
              obtain ⟨x394, hxx394⟩ : ∃ x, y9[k389]? = some x := ⟨_, List.getElem?_eq_getElem (by omega)⟩
              rw [drop_cons hxx394, f_l24_TallyQuarters_l3] at h
              have hk396lt : (k389 : Int) < (y9.length : Int) := by omega
              refine T.seq (T.region rfl ?_)
              refine TL.run ft_cursitorlaw24_ok [0] rfl rfl ?_
              refine TL.nil (X.seq (T.seq ?_))
              refine T.yes rfl (decide_eq_true hk396lt) ?_
              refine T.skip (X.seq (T.seq (T.block (T.seq (T.region rfl ?_)))))
              refine TL.run ft_cursitorlaw24_ok [0] rfl rfl ?_
              refine TL.foc (E := intE) (k := k389) 1 rfl (fun w G h => own_reads (by decide) w G h) (by decide) hxx394 ?_
              rintro gz404 oz404 z404cs hA z404cl ⟨_, _, z404r⟩
              cases hA
              obtain rfl : z404cs = [.int .i64 x394] := z404r
              clear z404cl
              refine TL.sel [0, 0, 0, 0, 0] rfl ?_
              refine TL.q rfl .u (Ex.ixS (k := k389) rfl rfl rfl Try.runUnderlying44 Try.sizeOf3 (List.getElem?_eq_some_iff.1 hxx394).1) rfl ?_
              refine TL.q rfl .u (Ex.k1 (cs := [.int .i64 x394]) 1 0 rfl Try.isAgg3 rfl (fun _ _ h => h.2.2.1) rfl) rfl ?_
              refine TL.run ft_cursitorlaw24_ok [3, 4] rfl rfl ?_
              refine TL.nil (X.seq (T.seq (T.region rfl ?_)))
              replace h := guard_some h
              obtain ⟨c405, h⟩ := h
              refine TL.run ft_cursitorlaw24_ok [0, 1, 2] rfl rfl ?_
              refine TL.q rfl .u (Ex.mul rfl rfl c405) rfl ?_
              obtain ⟨⟨x406, x407⟩, hx408, h⟩ := Option.bind_eq_some_iff.1 h
              try dsimp only at h
              refine TL.ce rfl .u (.fn Try.call16 rfl) (f_l24_turned_spec x394 0 ((k378 : Int) * (k389 : Int)) _ hx408) (fun _ hs => (RX.reads_triv _ _)) rfl ?_
              refine TL.run ft_cursitorlaw24_ok [5, 6, 7, 8, 9] rfl rfl ?_
              refine TL.nil (X.seq (T.region rfl ?_))
              replace h := guard_some h
              obtain ⟨c409, h⟩ := h
              refine TL.run ft_cursitorlaw24_ok [0, 1] rfl rfl ?_
              refine TL.q rfl .u (Ex.add rfl rfl c409) rfl ?_
              replace h := guard_some h
              obtain ⟨c410, h⟩ := h
              refine TL.run ft_cursitorlaw24_ok [3, 4] rfl rfl ?_
              refine TL.q rfl .u (Ex.add rfl rfl c410) rfl ?_
              refine TL.run ft_cursitorlaw24_ok [6, 7] rfl rfl ?_
              refine TL.nil (X.blk (X.seq (T.region rfl ?_)))
              refine TL.q rfl .u (Ex.add rfl rfl (by omega)) rfl ?_
              refine TL.run ft_cursitorlaw24_ok [1] rfl rfl ?_
              refine TL.nil ?_
              refine X.unf 1 rfl ?_
              refine X.sel [0, 0, 0, 0, 0] rfl ?_
              exact X.back (m' := m393) [0, 0, 0, 0, 0] (by omega) ⟨(y387 + x406), (y388 + x407), k389 + 1, by omega, rfl, rfl, h⟩ (by rfl) (by rfl)
          · replace h := ifF c386 h
            refine TL.nil (X.seq (T.seq ?_))
            refine T.no rfl (decide_eq_false c386) ?_
            obtain rfl := Option.some.inj h
            replace h := hO381
            clear hO381
            try dsimp only at h
            refine T.exit (X.exs (X.exs (X.ex (X.seq (T.seq (T.region rfl ?_))))))
            refine TL.q rfl .u (Ex.ixP (k := 0) rfl rfl rfl Try.runUnderlying43 Try.sizeOf21 (by decide)) rfl ?_
            refine TL.q rfl .u (Ex.b1 3 rfl Try.isAgg21 rfl rfl) rfl ?_
            replace h := guard_some h
            obtain ⟨c530, h⟩ := h
            refine TL.q rfl .u (Ex.conv64 rfl Try.runUnderlying21 Try.runUnderlying3 c530) rfl ?_
            refine TL.q rfl .u (Ex.ixP (k := 1) rfl rfl rfl Try.runUnderlying43 Try.sizeOf21 (by decide)) rfl ?_
            refine TL.q rfl .u (Ex.b1 3 rfl Try.isAgg21 rfl rfl) rfl ?_
            replace h := guard_some h
            obtain ⟨c531, h⟩ := h
            refine TL.q rfl .u (Ex.conv64 rfl Try.runUnderlying21 Try.runUnderlying3 c531) rfl ?_
            replace h := guard_some h
            obtain ⟨c532, h⟩ := h
            refine TL.run ft_cursitorlaw24_ok [6] rfl rfl ?_
            refine TL.q rfl .u (Ex.remT rfl rfl (by omega) c532) rfl ?_
            obtain ⟨⟨x533, x534⟩, hx535, h⟩ := Option.bind_eq_some_iff.1 h
            try dsimp only at h
            refine TL.ce rfl .u (.fn Try.call16 rfl) (f_l24_turned_spec a2.1 a2.2 (Int.tmod a1 4) _ hx535) (fun _ hs => (RX.reads_triv _ _)) rfl ?_
            refine TL.run ft_cursitorlaw24_ok [9, 10, 11, 12, 13] rfl rfl ?_
            refine TL.nil (X.seq (T.seq (T.region rfl ?_)))
            refine TL.q rfl .u (Ex.ixP (k := 0) rfl rfl rfl Try.runUnderlying43 Try.sizeOf21 (by decide)) rfl ?_
            refine TL.q rfl .u (Ex.b1 3 rfl Try.isAgg21 rfl rfl) rfl ?_
            replace h := guard_some h
            obtain ⟨c536, h⟩ := h
            refine TL.q rfl .u (Ex.conv64 rfl Try.runUnderlying21 Try.runUnderlying3 c536) rfl ?_
            refine TL.q rfl .u (Ex.ixP (k := 1) rfl rfl rfl Try.runUnderlying43 Try.sizeOf21 (by decide)) rfl ?_
            refine TL.q rfl .u (Ex.b1 3 rfl Try.isAgg21 rfl rfl) rfl ?_
            replace h := guard_some h
            obtain ⟨c537, h⟩ := h
            refine TL.q rfl .u (Ex.conv64 rfl Try.runUnderlying21 Try.runUnderlying3 c537) rfl ?_
            obtain ⟨⟨x538, x539⟩, hx540, h⟩ := Option.bind_eq_some_iff.1 h
            try dsimp only at h
            refine TL.ce rfl .u (.fn Try.call16 rfl) (f_l24_turned_spec a2.1 a2.2 3 _ hx540) (fun _ hs => (RX.reads_triv _ _)) rfl ?_
            refine TL.run ft_cursitorlaw24_ok [7, 8, 9, 10, 11] rfl rfl ?_
            refine TL.nil (X.seq (T.seq ?_))
            obtain ⟨y568, h, hk569⟩ := Option.bind_eq_some_iff.1 h
            refine T.jq (fun e Rs => e = [(6, .bool y568)] ∧ Rs = [BlkR b376 47 #[.complex .f64 x374.1.1 x374.1.2, .complex .f64 x374.2.1.1 x374.2.1.2, .complex .f64 x374.2.2.1.1 x374.2.2.1.2, .complex .f64 x374.2.2.2.1 x374.2.2.2.2], OwnR 3 1 intE (.slice A10 y9.length c11) y9, BlkR b8 45 #[.int .i64 y13, .int .i64 y14, .int .i64 y15, .int .i64 y16], BlkR b3 43 #[.int .i32 a2.1, .int .i32 a2.2], EmpR]) ?_ ?_
            · clear hk569
              refine T.draw (.q 0 (.q 2 (.e 1 (.q 3 (.q 4 (.q 5 (.q 6 (.q 7 (.q 8 (.q 9 (.q 10 (.q 12 (.q 14 (.q 15 (.e 11 (.e 13 (.e 16 (.q 17 (.q 18 (.q 19 (.q 20 (.q 21 (.q 22 (.q 23 (.q 24 (.q 25 (.q 29 (.q 30 (.e 26 (.e 27 (.e 28 (.e 31 (.e 32 (.q 33 (.q 34 (.q 35 .nil)))))))))))))))))))))))))))))))))))) [0, 0, 0, 0, 0] rfl mix_cursitorlaw24 (NoP.seq (NoP.seq np_post)) (by kernel_rfl) ?_
              refine TD.q rfl .u (Ex.bS (us := [.complex .f64 x374.1.1 x374.1.2, .complex .f64 x374.2.1.1 x374.2.1.2, .complex .f64 x374.2.2.1.1 x374.2.2.1.2, .complex .f64 x374.2.2.2.1 x374.2.2.2.2]) 0 rfl Try.isAgg47 Try.sizeOf47 rfl rfl rfl) rfl ?_
              refine TD.q rfl .u (Ex.bS (us := [.int .i64 y13, .int .i64 y14, .int .i64 y15, .int .i64 y16]) 2 rfl Try.isAgg45 Try.sizeOf45 rfl rfl rfl) rfl ?_
              obtain ⟨x570, hx571, h⟩ := Option.bind_eq_some_iff.1 h
              refine TD.ce rfl .u (.fn Try.call19 rfl) (f_tally_Back_spec x374 _ hx571) (fun _ hs => (RX.reads_triv _ _)) rfl [0, 0, 0, 0, 0] (rfl) ?_
              by_cases c572 : x570.1 = y13
              · replace h := ifT c572 h
                by_cases c573 : x570.2.1 = y14
                · replace h := ifT c573 h
                  by_cases c574 : x570.2.2.1 = y15
                  · replace h := ifT c574 h
                    by_cases c575 : x570.2.2.2 = y16
                    · replace h := ifT c575 h
                      refine TD.q rfl .u (Ex.aEq (us := [.int .i64 x570.1, .int .i64 x570.2.1, .int .i64 x570.2.2.1, .int .i64 x570.2.2.2]) (vs := [.int .i64 y13, .int .i64 y14, .int .i64 y15, .int .i64 y16]) flat_cursitorlaw24_45 rfl Try.eqGuardType45 rfl rfl rfl rfl (eqL_t (eqV_i c572) (eqL_t (eqV_i c573) (eqL_t (eqV_i c574) (eqL_t (eqV_i c575) rfl))))) rfl ?_
                      refine TD.run ft_cursitorlaw24_ok [4] rfl rfl ?_
                      refine TD.q rfl (.g rfl rfl rfl) (Ex.ixP (k := 0) rfl rfl rfl Try.runUnderlying43 Try.sizeOf21 (by decide)) rfl ?_
                      refine TD.q rfl (.g rfl rfl rfl) (Ex.b1 3 rfl Try.isAgg21 rfl rfl) rfl ?_
                      replace h := guard_some h
                      obtain ⟨c576, h⟩ := h
                      refine TD.q rfl (.g rfl rfl rfl) (Ex.conv64 rfl Try.runUnderlying21 Try.runUnderlying3 c576) rfl ?_
                      refine TD.q rfl (.g rfl rfl rfl) (Ex.ixP (k := 1) rfl rfl rfl Try.runUnderlying43 Try.sizeOf21 (by decide)) rfl ?_
                      refine TD.q rfl (.g rfl rfl rfl) (Ex.b1 3 rfl Try.isAgg21 rfl rfl) rfl ?_
                      replace h := guard_some h
                      obtain ⟨c577, h⟩ := h
                      refine TD.q rfl (.g rfl rfl rfl) (Ex.conv64 rfl Try.runUnderlying21 Try.runUnderlying3 c577) rfl ?_
                      refine TD.q rfl (.g rfl rfl rfl) (Ex.ft ft_cursitorlaw24_ok rfl) rfl ?_
                      refine TD.q rfl (.g rfl rfl rfl) (Ex.ft ft_cursitorlaw24_ok rfl) rfl ?_
                      refine TD.q rfl (.g rfl rfl rfl) (Ex.ft ft_cursitorlaw24_ok rfl) rfl ?_
                      obtain ⟨x578, hx579, h⟩ := Option.bind_eq_some_iff.1 h
                      refine TD.ce rfl (.g rfl rfl rfl) (.fn Try.call17 rfl) (f_l24_whole_spec a2.1 a2.2 _ hx579) (fun _ hs => (RX.reads_triv _ _)) rfl [0, 0, 0, 0, 0] (rfl) ?_
                      obtain ⟨x580, hx581, h⟩ := Option.bind_eq_some_iff.1 h
                      refine TD.ce rfl (.g rfl rfl rfl) (.fn Try.call20 rfl) (f_tally_Turn_spec x578 a1 _ hx581) (fun _ hs => (RX.reads_triv _ _)) rfl [0, 0, 0, 0, 0] (rfl) ?_
                      obtain ⟨x582, hx583, h⟩ := Option.bind_eq_some_iff.1 h
                      refine TD.ce rfl (.g rfl rfl rfl) (.fn Try.call17 rfl) (f_l24_whole_spec x533 x534 _ hx583) (fun _ hs => (RX.reads_triv _ _)) rfl [0, 0, 0, 0, 0] (rfl) ?_
                      refine TD.q rfl (.g rfl rfl rfl) (Ex.ceq rfl rfl Try.runUnderlying46) rfl ?_
                      refine TD.q rfl .u (Ex.py rfl rfl rfl) rfl ?_
                      by_cases c584 : (fEq x580.1 x582.1 && fEq x580.2 x582.2) = true
                      · replace h := ifT c584 h
                        refine TD.run ft_cursitorlaw24_ok [19] rfl rfl ?_
                        refine TD.q rfl (.g rfl rfl c584) (Ex.ixP (k := 0) rfl rfl rfl Try.runUnderlying43 Try.sizeOf21 (by decide)) rfl ?_
                        refine TD.q rfl (.g rfl rfl c584) (Ex.b1 3 rfl Try.isAgg21 rfl rfl) rfl ?_
                        replace h := guard_some h
                        obtain ⟨c585, h⟩ := h
                        refine TD.q rfl (.g rfl rfl c584) (Ex.conv64 rfl Try.runUnderlying21 Try.runUnderlying3 c585) rfl ?_
                        refine TD.q rfl (.g rfl rfl c584) (Ex.ixP (k := 1) rfl rfl rfl Try.runUnderlying43 Try.sizeOf21 (by decide)) rfl ?_
                        refine TD.q rfl (.g rfl rfl c584) (Ex.b1 3 rfl Try.isAgg21 rfl rfl) rfl ?_
                        replace h := guard_some h
                        obtain ⟨c586, h⟩ := h
                        refine TD.q rfl (.g rfl rfl c584) (Ex.conv64 rfl Try.runUnderlying21 Try.runUnderlying3 c586) rfl ?_
                        refine TD.q rfl (.g rfl rfl c584) (Ex.ft ft_cursitorlaw24_ok rfl) rfl ?_
                        refine TD.q rfl (.g rfl rfl c584) (Ex.ft ft_cursitorlaw24_ok rfl) rfl ?_
                        obtain ⟨x587, hx588, h⟩ := Option.bind_eq_some_iff.1 h
                        refine TD.ce rfl (.g rfl rfl c584) (.fn Try.call17 rfl) (f_l24_whole_spec a2.1 a2.2 _ hx588) (fun _ hs => (RX.reads_triv _ _)) rfl [0, 0, 0, 0, 0] (rfl) ?_
                        obtain ⟨x589, hx590, h⟩ := Option.bind_eq_some_iff.1 h
                        refine TD.ce rfl (.g rfl rfl c584) (.fn Try.call20 rfl) (f_tally_Turn_spec x587 3 _ hx590) (fun _ hs => (RX.reads_triv _ _)) rfl [0, 0, 0, 0, 0] (rfl) ?_
                        obtain ⟨x591, hx592, h⟩ := Option.bind_eq_some_iff.1 h
                        refine TD.ce rfl (.g rfl rfl c584) (.fn Try.call20 rfl) (f_tally_Turn_spec x589 (-3) _ hx592) (fun _ hs => (RX.reads_triv _ _)) rfl [0, 0, 0, 0, 0] (rfl) ?_
                        obtain ⟨x593, hx594, h⟩ := Option.bind_eq_some_iff.1 h
                        refine TD.ce rfl (.g rfl rfl c584) (.fn Try.call17 rfl) (f_l24_whole_spec x538 x539 _ hx594) (fun _ hs => (RX.reads_triv _ _)) rfl [0, 0, 0, 0, 0] (rfl) ?_
                        obtain ⟨x595, hx596, h⟩ := Option.bind_eq_some_iff.1 h
                        refine TD.ce rfl (.g rfl rfl c584) (.fn Try.call20 rfl) (f_tally_Turn_spec x593 1 _ hx596) (fun _ hs => (RX.reads_triv _ _)) rfl [0, 0, 0, 0, 0] (rfl) ?_
                        refine TD.q rfl (.g rfl rfl c584) (Ex.ceq rfl rfl Try.runUnderlying46) rfl ?_
                        refine TD.q rfl .u (Ex.py rfl c584 rfl) rfl ?_
                        refine TD.run ft_cursitorlaw24_ok [35] rfl rfl ?_
                        cases h
                        exact TD.nil (X.jq [0, 0, 0, 0, 0] ⟨rfl, rfl⟩ (by rfl) (by rfl))
                      · replace h := ifF c584 h
                        replace c584 := eq_false_of_ne_true c584
                        refine TD.run ft_cursitorlaw24_ok [19] rfl rfl ?_
                        refine TD.no rfl (.gn rfl rfl c584) rfl ?_
                        refine TD.no rfl (.gn rfl rfl c584) rfl ?_
                        refine TD.no rfl (.gn rfl rfl c584) rfl ?_
                        refine TD.no rfl (.gn rfl rfl c584) rfl ?_
                        refine TD.no rfl (.gn rfl rfl c584) rfl ?_
                        refine TD.no rfl (.gn rfl rfl c584) rfl ?_
                        refine TD.no rfl (.gn rfl rfl c584) rfl ?_
                        refine TD.no rfl (.gn rfl rfl c584) rfl ?_
                        refine TD.noe rfl (.gn rfl rfl c584) rfl [0, 0, 0, 0, 0] rfl ?_
                        refine TD.noe rfl (.gn rfl rfl c584) rfl [0, 0, 0, 0, 0] rfl ?_
                        refine TD.noe rfl (.gn rfl rfl c584) rfl [0, 0, 0, 0, 0] rfl ?_
                        refine TD.noe rfl (.gn rfl rfl c584) rfl [0, 0, 0, 0, 0] rfl ?_
                        refine TD.noe rfl (.gn rfl rfl c584) rfl [0, 0, 0, 0, 0] rfl ?_
                        refine TD.no rfl (.gn rfl rfl c584) rfl ?_
                        refine TD.q rfl .u (Ex.pn rfl c584 rfl) rfl ?_
                        refine TD.run ft_cursitorlaw24_ok [35] rfl rfl ?_
                        cases h
                        exact TD.nil (X.jq [0, 0, 0, 0, 0] ⟨rfl, rfl⟩ (by rfl) (by rfl))
                    · replace h := ifF c575 h
                      refine TD.q rfl .u (Ex.aEq (us := [.int .i64 x570.1, .int .i64 x570.2.1, .int .i64 x570.2.2.1, .int .i64 x570.2.2.2]) (vs := [.int .i64 y13, .int .i64 y14, .int .i64 y15, .int .i64 y16]) flat_cursitorlaw24_45 rfl Try.eqGuardType45 rfl rfl rfl rfl (eqL_t (eqV_i c572) (eqL_t (eqV_i c573) (eqL_t (eqV_i c574) (eqL_f (eqV_in c575)))))) rfl ?_
                      refine TD.run ft_cursitorlaw24_ok [4] rfl rfl ?_
                      refine TD.no rfl (.gn rfl rfl rfl) rfl ?_
                      refine TD.no rfl (.gn rfl rfl rfl) rfl ?_
                      refine TD.no rfl (.gn rfl rfl rfl) rfl ?_
                      refine TD.no rfl (.gn rfl rfl rfl) rfl ?_
                      refine TD.no rfl (.gn rfl rfl rfl) rfl ?_
                      refine TD.no rfl (.gn rfl rfl rfl) rfl ?_
                      refine TD.no rfl (.gn rfl rfl rfl) rfl ?_
                      refine TD.no rfl (.gn rfl rfl rfl) rfl ?_
                      refine TD.no rfl (.gn rfl rfl rfl) rfl ?_
                      refine TD.noe rfl (.gn rfl rfl rfl) rfl [0, 0, 0, 0, 0] rfl ?_
                      refine TD.noe rfl (.gn rfl rfl rfl) rfl [0, 0, 0, 0, 0] rfl ?_
                      refine TD.noe rfl (.gn rfl rfl rfl) rfl [0, 0, 0, 0, 0] rfl ?_
                      refine TD.no rfl (.gn rfl rfl rfl) rfl ?_
                      refine TD.q rfl .u (Ex.pn rfl rfl rfl) rfl ?_
                      refine TD.run ft_cursitorlaw24_ok [19] rfl rfl ?_
                      refine TD.no rfl (.gn rfl rfl rfl) rfl ?_
                      refine TD.no rfl (.gn rfl rfl rfl) rfl ?_
                      refine TD.no rfl (.gn rfl rfl rfl) rfl ?_
                      refine TD.no rfl (.gn rfl rfl rfl) rfl ?_
                      refine TD.no rfl (.gn rfl rfl rfl) rfl ?_
                      refine TD.no rfl (.gn rfl rfl rfl) rfl ?_
                      refine TD.no rfl (.gn rfl rfl rfl) rfl ?_
                      refine TD.no rfl (.gn rfl rfl rfl) rfl ?_
                      refine TD.noe rfl (.gn rfl rfl rfl) rfl [0, 0, 0, 0, 0] rfl ?_
                      refine TD.noe rfl (.gn rfl rfl rfl) rfl [0, 0, 0, 0, 0] rfl ?_
                      refine TD.noe rfl (.gn rfl rfl rfl) rfl [0, 0, 0, 0, 0] rfl ?_
                      refine TD.noe rfl (.gn rfl rfl rfl) rfl [0, 0, 0, 0, 0] rfl ?_
                      refine TD.noe rfl (.gn rfl rfl rfl) rfl [0, 0, 0, 0, 0] rfl ?_
                      refine TD.no rfl (.gn rfl rfl rfl) rfl ?_
                      refine TD.q rfl .u (Ex.pn rfl rfl rfl) rfl ?_
                      refine TD.run ft_cursitorlaw24_ok [35] rfl rfl ?_
                      cases h
                      exact TD.nil (X.jq [0, 0, 0, 0, 0] ⟨rfl, rfl⟩ (by rfl) (by rfl))
                  · replace h := ifF c574 h
                    refine TD.q rfl .u (Ex.aEq (us := [.int .i64 x570.1, .int .i64 x570.2.1, .int .i64 x570.2.2.1, .int .i64 x570.2.2.2]) (vs := [.int .i64 y13, .int .i64 y14, .int .i64 y15, .int .i64 y16]) flat_cursitorlaw24_45 rfl Try.eqGuardType45 rfl rfl rfl rfl (eqL_t (eqV_i c572) (eqL_t (eqV_i c573) (eqL_f (eqV_in c574))))) rfl ?_
                    refine TD.run ft_cursitorlaw24_ok [4] rfl rfl ?_
                    refine TD.no rfl (.gn rfl rfl rfl) rfl ?_
                    refine TD.no rfl (.gn rfl rfl rfl) rfl ?_
                    refine TD.no rfl (.gn rfl rfl rfl) rfl ?_
                    refine TD.no rfl (.gn rfl rfl rfl) rfl ?_
                    refine TD.no rfl (.gn rfl rfl rfl) rfl ?_
                    refine TD.no rfl (.gn rfl rfl rfl) rfl ?_
                    refine TD.no rfl (.gn rfl rfl rfl) rfl ?_
                    refine TD.no rfl (.gn rfl rfl rfl) rfl ?_
                    refine TD.no rfl (.gn rfl rfl rfl) rfl ?_
                    refine TD.noe rfl (.gn rfl rfl rfl) rfl [0, 0, 0, 0, 0] rfl ?_
                    refine TD.noe rfl (.gn rfl rfl rfl) rfl [0, 0, 0, 0, 0] rfl ?_
                    refine TD.noe rfl (.gn rfl rfl rfl) rfl [0, 0, 0, 0, 0] rfl ?_
                    refine TD.no rfl (.gn rfl rfl rfl) rfl ?_
                    refine TD.q rfl .u (Ex.pn rfl rfl rfl) rfl ?_
                    refine TD.run ft_cursitorlaw24_ok [19] rfl rfl ?_
                    refine TD.no rfl (.gn rfl rfl rfl) rfl ?_
                    refine TD.no rfl (.gn rfl rfl rfl) rfl ?_
                    refine TD.no rfl (.gn rfl rfl rfl) rfl ?_
                    refine TD.no rfl (.gn rfl rfl rfl) rfl ?_
                    refine TD.no rfl (.gn rfl rfl rfl) rfl ?_
                    refine TD.no rfl (.gn rfl rfl rfl) rfl ?_
                    refine TD.no rfl (.gn rfl rfl rfl) rfl ?_
                    refine TD.no rfl (.gn rfl rfl rfl) rfl ?_
                    refine TD.noe rfl (.gn rfl rfl rfl) rfl [0, 0, 0, 0, 0] rfl ?_
                    refine TD.noe rfl (.gn rfl rfl rfl) rfl [0, 0, 0, 0, 0] rfl ?_
                    refine TD.noe rfl (.gn rfl rfl rfl) rfl [0, 0, 0, 0, 0] rfl ?_
                    refine TD.noe rfl (.gn rfl rfl rfl) rfl [0, 0, 0, 0, 0] rfl ?_
                    refine TD.noe rfl (.gn rfl rfl rfl) rfl [0, 0, 0, 0, 0] rfl ?_
                    refine TD.no rfl (.gn rfl rfl rfl) rfl ?_
                    refine TD.q rfl .u (Ex.pn rfl rfl rfl) rfl ?_
                    refine TD.run ft_cursitorlaw24_ok [35] rfl rfl ?_
                    cases h
                    exact TD.nil (X.jq [0, 0, 0, 0, 0] ⟨rfl, rfl⟩ (by rfl) (by rfl))
                · replace h := ifF c573 h
                  refine TD.q rfl .u (Ex.aEq (us := [.int .i64 x570.1, .int .i64 x570.2.1, .int .i64 x570.2.2.1, .int .i64 x570.2.2.2]) (vs := [.int .i64 y13, .int .i64 y14, .int .i64 y15, .int .i64 y16]) flat_cursitorlaw24_45 rfl Try.eqGuardType45 rfl rfl rfl rfl (eqL_t (eqV_i c572) (eqL_f (eqV_in c573)))) rfl ?_
                  refine TD.run ft_cursitorlaw24_ok [4] rfl rfl ?_
                  refine TD.no rfl (.gn rfl rfl rfl) rfl ?_
                  refine TD.no rfl (.gn rfl rfl rfl) rfl ?_
                  refine TD.no rfl (.gn rfl rfl rfl) rfl ?_
                  refine TD.no rfl (.gn rfl rfl rfl) rfl ?_
                  refine TD.no rfl (.gn rfl rfl rfl) rfl ?_
                  refine TD.no rfl (.gn rfl rfl rfl) rfl ?_
                  refine TD.no rfl (.gn rfl rfl rfl) rfl ?_
                  refine TD.no rfl (.gn rfl rfl rfl) rfl ?_
                  refine TD.no rfl (.gn rfl rfl rfl) rfl ?_
                  refine TD.noe rfl (.gn rfl rfl rfl) rfl [0, 0, 0, 0, 0] rfl ?_
                  refine TD.noe rfl (.gn rfl rfl rfl) rfl [0, 0, 0, 0, 0] rfl ?_
                  refine TD.noe rfl (.gn rfl rfl rfl) rfl [0, 0, 0, 0, 0] rfl ?_
                  refine TD.no rfl (.gn rfl rfl rfl) rfl ?_
                  refine TD.q rfl .u (Ex.pn rfl rfl rfl) rfl ?_
                  refine TD.run ft_cursitorlaw24_ok [19] rfl rfl ?_
                  refine TD.no rfl (.gn rfl rfl rfl) rfl ?_
                  refine TD.no rfl (.gn rfl rfl rfl) rfl ?_
                  refine TD.no rfl (.gn rfl rfl rfl) rfl ?_
                  refine TD.no rfl (.gn rfl rfl rfl) rfl ?_
                  refine TD.no rfl (.gn rfl rfl rfl) rfl ?_
                  refine TD.no rfl (.gn rfl rfl rfl) rfl ?_
                  refine TD.no rfl (.gn rfl rfl rfl) rfl ?_
                  refine TD.no rfl (.gn rfl rfl rfl) rfl ?_
                  refine TD.noe rfl (.gn rfl rfl rfl) rfl [0, 0, 0, 0, 0] rfl ?_
                  refine TD.noe rfl (.gn rfl rfl rfl) rfl [0, 0, 0, 0, 0] rfl ?_
                  refine TD.noe rfl (.gn rfl rfl rfl) rfl [0, 0, 0, 0, 0] rfl ?_
                  refine TD.noe rfl (.gn rfl rfl rfl) rfl [0, 0, 0, 0, 0] rfl ?_
                  refine TD.noe rfl (.gn rfl rfl rfl) rfl [0, 0, 0, 0, 0] rfl ?_
                  refine TD.no rfl (.gn rfl rfl rfl) rfl ?_
                  refine TD.q rfl .u (Ex.pn rfl rfl rfl) rfl ?_
                  refine TD.run ft_cursitorlaw24_ok [35] rfl rfl ?_
                  cases h
                  exact TD.nil (X.jq [0, 0, 0, 0, 0] ⟨rfl, rfl⟩ (by rfl) (by rfl))
              · replace h := ifF c572 h
                refine TD.q rfl .u (Ex.aEq (us := [.int .i64 x570.1, .int .i64 x570.2.1, .int .i64 x570.2.2.1, .int .i64 x570.2.2.2]) (vs := [.int .i64 y13, .int .i64 y14, .int .i64 y15, .int .i64 y16]) flat_cursitorlaw24_45 rfl Try.eqGuardType45 rfl rfl rfl rfl (eqL_f (eqV_in c572))) rfl ?_
                refine TD.run ft_cursitorlaw24_ok [4] rfl rfl ?_
                refine TD.no rfl (.gn rfl rfl rfl) rfl ?_
                refine TD.no rfl (.gn rfl rfl rfl) rfl ?_
                refine TD.no rfl (.gn rfl rfl rfl) rfl ?_
                refine TD.no rfl (.gn rfl rfl rfl) rfl ?_
                refine TD.no rfl (.gn rfl rfl rfl) rfl ?_
                refine TD.no rfl (.gn rfl rfl rfl) rfl ?_
                refine TD.no rfl (.gn rfl rfl rfl) rfl ?_
                refine TD.no rfl (.gn rfl rfl rfl) rfl ?_
                refine TD.no rfl (.gn rfl rfl rfl) rfl ?_
                refine TD.noe rfl (.gn rfl rfl rfl) rfl [0, 0, 0, 0, 0] rfl ?_
                refine TD.noe rfl (.gn rfl rfl rfl) rfl [0, 0, 0, 0, 0] rfl ?_
                refine TD.noe rfl (.gn rfl rfl rfl) rfl [0, 0, 0, 0, 0] rfl ?_
                refine TD.no rfl (.gn rfl rfl rfl) rfl ?_
                refine TD.q rfl .u (Ex.pn rfl rfl rfl) rfl ?_
                refine TD.run ft_cursitorlaw24_ok [19] rfl rfl ?_
                refine TD.no rfl (.gn rfl rfl rfl) rfl ?_
                refine TD.no rfl (.gn rfl rfl rfl) rfl ?_
                refine TD.no rfl (.gn rfl rfl rfl) rfl ?_
                refine TD.no rfl (.gn rfl rfl rfl) rfl ?_
                refine TD.no rfl (.gn rfl rfl rfl) rfl ?_
                refine TD.no rfl (.gn rfl rfl rfl) rfl ?_
                refine TD.no rfl (.gn rfl rfl rfl) rfl ?_
                refine TD.no rfl (.gn rfl rfl rfl) rfl ?_
                refine TD.noe rfl (.gn rfl rfl rfl) rfl [0, 0, 0, 0, 0] rfl ?_
                refine TD.noe rfl (.gn rfl rfl rfl) rfl [0, 0, 0, 0, 0] rfl ?_
                refine TD.noe rfl (.gn rfl rfl rfl) rfl [0, 0, 0, 0, 0] rfl ?_
                refine TD.noe rfl (.gn rfl rfl rfl) rfl [0, 0, 0, 0, 0] rfl ?_
                refine TD.noe rfl (.gn rfl rfl rfl) rfl [0, 0, 0, 0, 0] rfl ?_
                refine TD.no rfl (.gn rfl rfl rfl) rfl ?_
                refine TD.q rfl .u (Ex.pn rfl rfl rfl) rfl ?_
                refine TD.run ft_cursitorlaw24_ok [35] rfl rfl ?_
                cases h
                exact TD.nil (X.jq [0, 0, 0, 0, 0] ⟨rfl, rfl⟩ (by rfl) (by rfl))
            · rintro _ _ ⟨rfl, rfl⟩
              clear h
              have h := hk569
              clear hk569
              try dsimp only at h
              obtain rfl := Option.some.inj h
              exact X.seq (T.ret (X.done1 [4] Try.results5 (RV.tm rfl) ⟨rfl, rfl, rfl⟩ (by rfl) (.inl rfl)))
      | succ m20 =>
        have h := hl22
        clear hl22
        obtain ⟨x21, hxx21⟩ : ∃ x, a0[k12]? = some x := ⟨_, List.getElem?_eq_getElem (by omega)⟩
        rw [drop_cons hxx21, f_l24_TallyQuarters_l1] at h
        have hk23lt : (k12 : Int) < (a0.length : Int) := by omega
        refine T.seq (T.region rfl ?_)
        refine TL.run ft_cursitorlaw24_ok [0] rfl rfl ?_
        refine TL.nil (X.seq (T.seq ?_))
        refine T.yes rfl (decide_eq_true hk23lt) ?_
        refine T.skip (X.seq (T.seq (T.block (T.seq (T.region rfl ?_)))))
        obtain ⟨gz49, oz49, rfl, z49cs, z49cl, z49cc, z49nf, z49r⟩ := RX.elem (by decide) hX hxx21
        obtain ⟨z49S, z49r, z49rr⟩ := z49r
        obtain rfl : z49cs = [.int .i32 x21] := z49r
        refine TL.run ft_cursitorlaw24_ok [0] rfl rfl ?_
        refine TL.q rfl .u (Ex.ixS (k := k12) rfl rfl rfl Try.runUnderlying42 Try.sizeOf21 (List.getElem?_eq_some_iff.1 hxx21).1) rfl ?_
        refine TL.q rfl .u (Ex.o1 0 rfl Try.isAgg21 z49nf z49cc rfl rfl) rfl ?_
        refine TL.run ft_cursitorlaw24_ok [3, 4] rfl rfl ?_
        refine TL.nil (X.seq (T.seq (T.region rfl ?_)))
        replace h := guard_some h
        obtain ⟨c50, h⟩ := h
        refine TL.run ft_cursitorlaw24_ok [0, 1] rfl rfl ?_
        refine TL.q rfl .u (Ex.conv64 rfl Try.runUnderlying21 Try.runUnderlying3 c50) rfl ?_
        replace h := guard_some h
        obtain ⟨c51, h⟩ := h
        refine TL.q rfl .u (Ex.remT rfl rfl (by omega) c51) rfl ?_
        refine TL.lit (cells := #[.int .i64 (Int.tmod x21 1073741824)]) rfl .u sok_cursitorlaw24_44_1 rfl (by rfl) rfl (fun b52 => ?_)
        replace h := guard_some h
        obtain ⟨c53, h⟩ := h
        refine TL.app1 0 rfl .u (us := [.int .i64 (Int.tmod x21 1073741824)]) (u := (Int.tmod x21 1073741824)) (l := y9) (E := intE) Try.underlying44 inf_cursitorlaw24_3 rfl (by decide) rfl rfl rfl rfl rfl rfl (fun _ _ => rfl) (by have hq := c53; omega) (by have hq := c53; omega) rfl (fun A54 c55 => ?_)
        refine TL.sel [0, 0, 0, 0] rfl ?_
        refine TL.run ft_cursitorlaw24_ok [6] rfl rfl ?_
        refine TL.nil (X.seq (T.region rfl ?_))
        replace h := guard_some h
        obtain ⟨c56, h⟩ := h
        refine TL.run ft_cursitorlaw24_ok [0] rfl rfl ?_
        refine TL.q rfl .u (Ex.remT rfl rfl (by omega) c56) rfl ?_
        by_cases c57 : (Int.tmod (k12 : Int) 4) = 0
        · replace h := ifT c57 h
          refine TL.q rfl .u (Ex.ixP (k := 0) rfl rfl c57 Try.runUnderlying45 Try.sizeOf3 (by decide)) rfl ?_
          refine TL.q rfl .u (Ex.b1 1 rfl Try.isAgg3 rfl rfl) rfl ?_
          replace h := guard_some h
          obtain ⟨c58, h⟩ := h
          refine TL.run ft_cursitorlaw24_ok [4] rfl rfl ?_
          refine TL.q rfl .u (Ex.conv64 rfl Try.runUnderlying21 Try.runUnderlying3 c58) rfl ?_
          replace h := guard_some h
          obtain ⟨c59, h⟩ := h
          refine TL.q rfl .u (Ex.remT rfl rfl (by omega) c59) rfl ?_
          replace h := guard_some h
          obtain ⟨c60, h⟩ := h
          refine TL.q rfl .u (Ex.add rfl rfl c60) rfl ?_
          refine TL.q rfl .u (Ex.ixP (k := 0) rfl rfl c57 Try.runUnderlying45 Try.sizeOf3 (by decide)) rfl ?_
          refine TL.st1 (cs' := #[.int .i64 (y13 + (Int.tmod x21 1073741824)), .int .i64 y14, .int .i64 y15, .int .i64 y16]) rfl .u rfl rfl Try.sizeOf3 rfl rfl rfl rfl ?_
          refine TL.nil (X.blk (X.seq (T.region rfl ?_)))
          refine TL.q rfl .u (Ex.add rfl rfl (by omega)) rfl ?_
          refine TL.run ft_cursitorlaw24_ok [1] rfl rfl ?_
          exact TL.nil (X.back (m' := m20) [0, 0, 0, 0] (by omega) ⟨(y9 ++ [(Int.tmod x21 1073741824)]), A54, c55, k12 + 1, (y13 + (Int.tmod x21 1073741824)), y14, y15, y16, by omega, rfl, rfl, h⟩ (by rfl) (by rfl))
        · replace h := ifF c57 h
          by_cases c61 : (Int.tmod (k12 : Int) 4) = 1
          · replace h := ifT c61 h
            refine TL.q rfl .u (Ex.ixP (k := 1) rfl rfl c61 Try.runUnderlying45 Try.sizeOf3 (by decide)) rfl ?_
            refine TL.q rfl .u (Ex.b1 1 rfl Try.isAgg3 rfl rfl) rfl ?_
            replace h := guard_some h
            obtain ⟨c62, h⟩ := h
            refine TL.run ft_cursitorlaw24_ok [4] rfl rfl ?_
            refine TL.q rfl .u (Ex.conv64 rfl Try.runUnderlying21 Try.runUnderlying3 c62) rfl ?_
            replace h := guard_some h
            obtain ⟨c63, h⟩ := h
            refine TL.q rfl .u (Ex.remT rfl rfl (by omega) c63) rfl ?_
            replace h := guard_some h
            obtain ⟨c64, h⟩ := h
            refine TL.q rfl .u (Ex.add rfl rfl c64) rfl ?_
            refine TL.q rfl .u (Ex.ixP (k := 1) rfl rfl c61 Try.runUnderlying45 Try.sizeOf3 (by decide)) rfl ?_
            refine TL.st1 (cs' := #[.int .i64 y13, .int .i64 (y14 + (Int.tmod x21 1073741824)), .int .i64 y15, .int .i64 y16]) rfl .u rfl rfl Try.sizeOf3 rfl rfl rfl rfl ?_
            refine TL.nil (X.blk (X.seq (T.region rfl ?_)))
            refine TL.q rfl .u (Ex.add rfl rfl (by omega)) rfl ?_
            refine TL.run ft_cursitorlaw24_ok [1] rfl rfl ?_
            exact TL.nil (X.back (m' := m20) [0, 0, 0, 0] (by omega) ⟨(y9 ++ [(Int.tmod x21 1073741824)]), A54, c55, k12 + 1, y13, (y14 + (Int.tmod x21 1073741824)), y15, y16, by omega, rfl, rfl, h⟩ (by rfl) (by rfl))
          · replace h := ifF c61 h
            by_cases c65 : (Int.tmod (k12 : Int) 4) = 2
            · replace h := ifT c65 h
              refine TL.q rfl .u (Ex.ixP (k := 2) rfl rfl c65 Try.runUnderlying45 Try.sizeOf3 (by decide)) rfl ?_
              refine TL.q rfl .u (Ex.b1 1 rfl Try.isAgg3 rfl rfl) rfl ?_
              replace h := guard_some h
              obtain ⟨c66, h⟩ := h
              refine TL.run ft_cursitorlaw24_ok [4] rfl rfl ?_
              refine TL.q rfl .u (Ex.conv64 rfl Try.runUnderlying21 Try.runUnderlying3 c66) rfl ?_
              replace h := guard_some h
              obtain ⟨c67, h⟩ := h
              refine TL.q rfl .u (Ex.remT rfl rfl (by omega) c67) rfl ?_
              replace h := guard_some h
              obtain ⟨c68, h⟩ := h
              refine TL.q rfl .u (Ex.add rfl rfl c68) rfl ?_
              refine TL.q rfl .u (Ex.ixP (k := 2) rfl rfl c65 Try.runUnderlying45 Try.sizeOf3 (by decide)) rfl ?_
              refine TL.st1 (cs' := #[.int .i64 y13, .int .i64 y14, .int .i64 (y15 + (Int.tmod x21 1073741824)), .int .i64 y16]) rfl .u rfl rfl Try.sizeOf3 rfl rfl rfl rfl ?_
              refine TL.nil (X.blk (X.seq (T.region rfl ?_)))
              refine TL.q rfl .u (Ex.add rfl rfl (by omega)) rfl ?_
              refine TL.run ft_cursitorlaw24_ok [1] rfl rfl ?_
              exact TL.nil (X.back (m' := m20) [0, 0, 0, 0] (by omega) ⟨(y9 ++ [(Int.tmod x21 1073741824)]), A54, c55, k12 + 1, y13, y14, (y15 + (Int.tmod x21 1073741824)), y16, by omega, rfl, rfl, h⟩ (by rfl) (by rfl))
            · replace h := ifF c65 h
              replace h := guard_some h
              obtain ⟨c69, h⟩ := h
              refine TL.q rfl .u (Ex.ixP (k := 3) rfl rfl c69 Try.runUnderlying45 Try.sizeOf3 (by decide)) rfl ?_
              refine TL.q rfl .u (Ex.b1 1 rfl Try.isAgg3 rfl rfl) rfl ?_
              replace h := guard_some h
              obtain ⟨c70, h⟩ := h
              refine TL.run ft_cursitorlaw24_ok [4] rfl rfl ?_
              refine TL.q rfl .u (Ex.conv64 rfl Try.runUnderlying21 Try.runUnderlying3 c70) rfl ?_
              replace h := guard_some h
              obtain ⟨c71, h⟩ := h
              refine TL.q rfl .u (Ex.remT rfl rfl (by omega) c71) rfl ?_
              replace h := guard_some h
              obtain ⟨c72, h⟩ := h
              refine TL.q rfl .u (Ex.add rfl rfl c72) rfl ?_
              replace h := guard_some h
              obtain ⟨c73, h⟩ := h
              refine TL.q rfl .u (Ex.ixP (k := 3) rfl rfl c73 Try.runUnderlying45 Try.sizeOf3 (by decide)) rfl ?_
              refine TL.st1 (cs' := #[.int .i64 y13, .int .i64 y14, .int .i64 y15, .int .i64 (y16 + (Int.tmod x21 1073741824))]) rfl .u rfl rfl Try.sizeOf3 rfl rfl rfl rfl ?_
              refine TL.nil (X.blk (X.seq (T.region rfl ?_)))
              refine TL.q rfl .u (Ex.add rfl rfl (by omega)) rfl ?_
              refine TL.run ft_cursitorlaw24_ok [1] rfl rfl ?_
              exact TL.nil (X.back (m' := m20) [0, 0, 0, 0] (by omega) ⟨(y9 ++ [(Int.tmod x21 1073741824)]), A54, c55, k12 + 1, y13, y14, y15, (y16 + (Int.tmod x21 1073741824)), by omega, rfl, rfl, h⟩ (by rfl) (by rfl))
  · replace h := ifF c6 h
    replace c6 := eq_false_of_ne_true c6
    refine TL.nil (X.seq ?_)
    refine T.yes rfl (bn_t c6) ?_
    exact nomatch h
end Go.Proofs.Ytahjmpipllajcaa.Sl
namespace Go.Proofs.Ytahjmpipllajcaa.Sl
open Go.RowKit Go.Deep Go.ChangeShapes
set_option linter.unusedVariables false
def andRd {α : Type} (E : Rd α) (W : α → Prop) : Rd α := ⟨fun w S cs a => E.P w S cs a ∧ W a, fun h k => ⟨E.mono h.1 k, h.2⟩, fun h k => ⟨E.move h.1 k, h.2⟩⟩
section
variable {H : Type} (enc : TypeId × Value → H) (P : Program) {α β : Type}
def OpensW (t : TypeId) (E : Rd α) : Prop :=
  ∀ (w : World) (fuel : Nat) (cs : List Value) (x : DataW H × List MemPlace), DataW.trod enc P w 0 (fun _ => true) true fuel t cs = some x → (∀ m, m ∈ x.1.weights P t → m ≤ reachBytes) → ∃ a, E.P w (fun k => k < w.heap.size) cs a
variable {enc P}
theorem opensW_of {t : TypeId} {E : Rd α} {E' : Rd β} (f : α → β) (h : Opens enc P t E) (hf : ∀ w S cs a, E.P w S cs a → E'.P w S cs (f a)) : OpensW enc P t E' := by
  intro w fuel cs x hx hw
  obtain ⟨a, ha⟩ := h w fuel cs x hx
  exact ⟨f a, hf _ _ _ _ ha⟩
def wI (n : Int) : Prop := -9223372036854775808 ≤ n ∧ n ≤ 9223372036854775807
def wI32 (n : Int) : Prop := -2147483648 ≤ n ∧ n ≤ 2147483647
def wL (W : α → Prop) (l : List α) : Prop := l.length ≤ 140737488351232 ∧ ∀ x, x ∈ l → W x
theorem op_i32 {t : TypeId} (ht : P.underlying t = some (.int .i32)) : OpensW enc P t (andRd i32E wI32) := opensW_of id (opens_int ht) (fun w S cs a h => ⟨h.1, Go.bounds_i32 h.2⟩)
theorem slice_and {size : Nat} {E : Rd α} {W : α → Prop} {w : World} {S : Nat → Prop} {cs : List Value} {l : List α} (h : (sliceRd size (andRd E W)).P w S cs l) : (sliceRd size E).P w S cs l ∧ ∀ x, x ∈ l → W x := by
  rcases h with ⟨h, rfl⟩ | ⟨a, cap, h1, h2, h3, h4, h5⟩
  · exact ⟨.inl ⟨h, rfl⟩, fun x hx => by simp at hx⟩
  · refine ⟨.inr ⟨a, cap, h1, h2, h3, h4, fun i x hx => ?_⟩, fun x hx => ?_⟩
    · obtain ⟨cs, k1, k2, k3⟩ := h5 i x hx
      exact ⟨cs, k1, k2, k3.1⟩
    · obtain ⟨i, hi⟩ := List.getElem?_of_mem hx
      obtain ⟨cs, k1, k2, k3⟩ := h5 i x hi
      exact k3.2
theorem weightsAll_mem {e : TypeId} {l : List (DataW H)} {d : DataW H} {m : Nat} (hd : d ∈ l) (hm : m ∈ d.weights P e) : m ∈ DataW.weightsAll P e l := by
  induction l with
  | nil => simp at hd
  | cons x l ih =>
    simp only [DataW.weightsAll, List.mem_append]
    rcases List.mem_cons.1 hd with rfl | h
    · exact .inl hm
    · exact .inr (ih h)
theorem op_slice {t e : TypeId} {E : Rd α} {W : α → Prop} (size bytes : Nat) (ht : P.underlying t = some (.slice e)) (hc : P.cellsOf e = size) (hb : P.bytesOf e = bytes) (hp : 0 < size) (hpb : 0 < bytes) (he : OpensW enc P e (andRd E W)) : OpensW enc P t (andRd (sliceRd size E) (wL W)) := by
  intro w fuel cs x h hw
  rcases open_slice ht h with ⟨rfl, _⟩ | ⟨a, len, cap, m, n, D, Pl, rfl, _, hl, hm, hmm, rfl, hx⟩
  · exact ⟨[], .inl ⟨rfl, rfl⟩, by simp, fun x hx => by simp at hx⟩
  have hlm : len ≤ m := by rw [hmm]; split <;> omega
  have hlen : len ≤ 140737488351232 := by
    have h1 := hw ((((List.range len).map D).length + ((List.range (m - len)).map fun j => D (len + j)).length) * P.bytesOf e) (by simp only [DataW.weights, ht]; exact List.mem_cons_self)
    rw [hb] at h1
    simp only [List.length_map, List.length_range] at h1
    have h2 : (len + (m - len)) * 1 ≤ (len + (m - len)) * bytes := Nat.mul_le_mul_left _ hpb
    have h3 : reachBytes = 140737488351232 := rfl
    omega
  have hwe : ∀ i, i < len → ∀ z, z ∈ (D i).weights P e → z ≤ reachBytes := by
    intro i hi z hz
    apply hw
    simp only [DataW.weights, ht]
    exact List.mem_cons_of_mem _ (List.mem_append.2 (.inl (weightsAll_mem (d := D i) (List.mem_map.2 ⟨i, List.mem_range.2 hi, rfl⟩) hz)))
  rw [hc] at hx
  have each : ∀ i : Fin len, ∃ y : α, ∃ cs, cs.length = size ∧ (∀ j, j < size → w.cell? (a.add (i.val * size + j)) = cs[j]?) ∧ (andRd E W).P w (fun k => k < w.heap.size) cs y := by
    intro i
    obtain ⟨cs', h1, h2⟩ := hx i.val (by have := i.isLt; omega)
    obtain ⟨_, h3, h4⟩ := World.cells?_some h1
    obtain ⟨y, hy⟩ := he _ _ _ _ h2 (hwe i.val i.isLt)
    refine ⟨y, cs', h3, fun j hj => ?_, hy⟩
    rw [← h4 j hj, add_add]
  obtain ⟨f, hf⟩ := Classical.axiomOfChoice each
  have hs : (sliceRd size (andRd E W)).P w (fun k => k < w.heap.size) [.slice (some a) len cap] ((List.finRange len).map f) := by
    refine .inr ⟨a, cap, by simp, by simpa using hl, hm, fun hz => ?_, ?_⟩
    · simp at hz
      obtain ⟨cs', k1, k2, k3⟩ := hf ⟨0, by omega⟩
      have := k2 0 hp
      rw [List.getElem?_eq_getElem (by omega)] at this
      simp only [World.cell?] at this
      rw [block_add] at this
      rcases Nat.lt_or_ge a.block w.heap.size with h | h
      · exact h
      · rw [Array.getElem?_eq_none h] at this
        simp at this
    · intro i x hx
      rw [List.getElem?_map, Option.map_eq_some_iff] at hx
      obtain ⟨j, hj, rfl⟩ := hx
      have e : j.val = i := by
        obtain ⟨h1, h2⟩ := List.getElem?_eq_some_iff.1 hj
        rw [← h2]
        simp
      rw [← e]
      exact hf j
  obtain ⟨k1, k2⟩ := slice_and hs
  exact ⟨_, k1, by simpa using hlen, k2⟩
theorem weights_in : ∀ {ts : List TypeId} {ds : List (DataW H)} (j : Nat) {t : TypeId} {d : DataW H} {m : Nat}, ts[j]? = some t → ds[j]? = some d → m ∈ d.weights P t → m ∈ DataW.weightsEach P ts ds
  | [], _, j, _, _, _, ht, _, _ => by simp at ht
  | _ :: _, [], j, _, _, _, _, hd, _ => by simp at hd
  | t :: ts, d :: ds, 0, _, _, _, ht, hd, hm => by
    obtain rfl : t = _ := by simpa using ht
    obtain rfl : d = _ := by simpa using hd
    simp only [DataW.weightsEach, List.mem_append]
    exact .inl hm
  | t :: ts, d :: ds, j + 1, _, _, _, ht, hd, hm => by
    simp only [DataW.weightsEach, List.mem_append]
    exact .inr (weights_in j (by simpa using ht) (by simpa using hd) hm)
theorem slice_cells {size : Nat} {E : Rd α} {w : World} {S : Nat → Prop} {cs : List Value} {l : List α} (h : (sliceRd size E).P w S cs l) : ∃ A c, cs = [.slice A l.length c] := by
  rcases h with ⟨h, rfl⟩ | ⟨a, cap, h, _⟩
  · exact ⟨none, 0, h⟩
  · exact ⟨_, _, h⟩
theorem opens_arg1 {t e : TypeId} {E : Rd α} {r : Reach} {b0 : Nat} {w : World} {v : Value} {d : DataW H} {p : List MemPlace} (ht : P.underlying t = some (.slice e)) (hval : Value.okWide P w r b0 t v) (h : OpensW enc P t E)
    (hv : DataW.Trod enc P w 0 (fun _ => true) true t v d p) (hw : ∀ m, m ∈ d.weights P t → m ≤ reachBytes) : ∃ a, E.P w (fun k => k < w.heap.size) [v] a := by
  obtain ⟨a0, len, cap, rfl⟩ := Go.WideShapes.okWide_slice ht hval
  obtain ⟨fuel, hf⟩ := hv
  exact h _ _ _ _ hf hw
theorem RX.reads_all {E : Rd α} {w : World} {cs : List Value} {a : α} (h : E.P w (fun k => k < w.heap.size) cs a) : (RX.of E cs a).reads w (fun _ => False) := ⟨_, h, fun k hk => ⟨fun h => h, hk⟩⟩
end
end Go.Proofs.Ytahjmpipllajcaa.Sl
namespace Go.Proofs.Ytahjmpipllajcaa.Sl
open Go.RowKit
set_option linter.unusedVariables false
set_option linter.unusedSimpArgs false
theorem speaks24 : f_l24_speaks = some true := by kernel_rfl
theorem tmod4 (n : Int) : Int.tmod (Int.tmod n 4 + 4) 4 = n % 4 := by
  have h1 : Int.tmod n 4 = n % 4 ∨ Int.tmod n 4 = n % 4 - 4 := by
    rw [Int.tmod_eq_emod]
    split
    · left; omega
    · right; rfl
  rcases h1 with h | h
  · rw [h, Int.tmod_eq_emod_of_nonneg (by omega)]; omega
  · rw [h, Int.tmod_eq_emod_of_nonneg (by omega)]; omega
theorem turned_step (q : Int) (m : Nat) (a b : Int) (k : Nat) (hk : (k : Int) < q % 4) (hb : -1000000000000000 ≤ b ∧ b ≤ 1000000000000000) : f_l24_turned_l1 q (m + 1) a b k = f_l24_turned_l1 q m (-b) a (k + 1) := by
  rw [f_l24_turned_l1, tmod4, if_pos hk, if_pos (by omega), if_pos (by omega)]
theorem turned_end (q : Int) (m : Nat) (a b : Int) (k : Nat) (hk : (k : Int) = q % 4) : f_l24_turned_l1 q (m + 1) a b k = some (a, b, k) := by
  rw [f_l24_turned_l1, tmod4, if_neg (by omega)]
theorem turned_eq (a b q : Int) (hq : -9223372036854775808 ≤ q ∧ q ≤ 9223372036854775807) (ha : -1000000000000000 ≤ a ∧ a ≤ 1000000000000000) (hb : -1000000000000000 ≤ b ∧ b ≤ 1000000000000000) : f_l24_turned a b q = some (rot (q % 4) (a, b)) := by
  have h0 : -4 ≤ Int.tmod q 4 ∧ Int.tmod q 4 < 4 := by
    have := tmod4 q
    have h1 : Int.tmod q 4 = q % 4 ∨ Int.tmod q 4 = q % 4 - 4 := by
      rw [Int.tmod_eq_emod]
      split
      · left; omega
      · right; rfl
    omega
  unfold f_l24_turned rot
  rw [if_pos hq, if_pos (by omega), if_pos (by omega), tmod4]
  have h4 : q % 4 = 0 ∨ q % 4 = 1 ∨ q % 4 = 2 ∨ q % 4 = 3 := by omega
  rcases h4 with h | h | h | h
  · rw [h, show (0 : Int).toNat + 1 = 0 + 1 from rfl, turned_end q 0 a b 0 (by omega)]
    rfl
  · rw [h, show (1 : Int).toNat + 1 = 1 + 1 from rfl, turned_step q _ a b 0 (by omega) hb, turned_end q _ _ _ _ (by omega)]
    rfl
  · rw [h, show (2 : Int).toNat + 1 = 2 + 1 from rfl, turned_step q _ a b 0 (by omega) hb, turned_step q _ _ _ _ (by omega) ha, turned_end q _ _ _ _ (by omega)]
    rfl
  · rw [h, show (3 : Int).toNat + 1 = 3 + 1 from rfl, turned_step q _ a b 0 (by omega) hb, turned_step q _ _ _ _ (by omega) ha, turned_step q _ _ _ _ (by omega) (by omega), turned_end q _ _ _ _ (by omega)]
    show some (- -b, -a) = some (b, -a)
    rw [Int.neg_neg]
def cut30 (x : Int) : Int := Int.tmod x 1073741824
theorem cut30_bd (x : Int) : -1073741824 ≤ cut30 x ∧ cut30 x ≤ 1073741824 := by
  unfold cut30
  rw [Int.tmod_eq_emod]
  split <;> omega
theorem tq_l1 : ∀ (l : List Int) (acc : List Int) (k : Nat) (S : S4) (B : Int), bd B S → 0 ≤ B → B + 1073741824 * (l.length : Int) ≤ 1000000000000 → (∀ x, x ∈ l → -2147483648 ≤ x ∧ x ≤ 2147483647) → acc.length + l.length ≤ 1000 → k + l.length ≤ 1000 →
    f_l24_TallyQuarters_l1 l acc k S.1 S.2.1 S.2.2.1 S.2.2.2 = some (acc ++ l.map cut30, clsS k (l.map cut30) S)
  | [], acc, k, S, B, _, _, _, _, _, _ => by rw [List.map_nil, List.append_nil]; rfl
  | x :: l, acc, k, S, B, hb, hB, hl, hx, h1, h2 => by
    have hx0 := hx x (.head _)
    have hc := cut30_bd x
    have ec : Int.tmod x 1073741824 = cut30 x := rfl
    rw [List.length_cons] at hl h1 h2
    have ih := tq_l1 l (acc ++ [cut30 x]) (k + 1) (addc k (cut30 x) S) (B + 1073741824) (addc_bd hb hc (by decide)) (by omega) (by omega) (fun y hy => hx y (.tail _ hy)) (by rw [List.length_append, List.length_singleton]; omega) (by omega)
    rw [List.append_assoc] at ih
    have ek : Int.tmod (k : Int) 4 = ((k % 4 : Nat) : Int) := by rw [Int.tmod_eq_emod_of_nonneg (by omega)]; omega
    obtain ⟨b1, b2, b3, b4⟩ := hb
    rw [f_l24_TallyQuarters_l1, ec, ek, if_pos (by omega), if_pos (by omega), if_pos (by omega), if_pos (by omega), List.map_cons, clsS]
    unfold addc at ih ⊢
    by_cases c0 : k % 4 = 0
    · rw [if_pos c0] at ih ⊢
      rw [if_pos (by omega), if_pos (by omega), if_pos (by omega), if_pos (by omega), ih]
      rfl
    by_cases c1 : k % 4 = 1
    · rw [if_neg c0, if_pos c1] at ih ⊢
      rw [if_neg (by omega), if_pos (by omega), if_pos (by omega), if_pos (by omega), if_pos (by omega), ih]
      rfl
    by_cases c2 : k % 4 = 2
    · rw [if_neg c0, if_neg c1, if_pos c2] at ih ⊢
      rw [if_neg (by omega), if_neg (by omega), if_pos (by omega), if_pos (by omega), if_pos (by omega), if_pos (by omega), ih]
      rfl
    · rw [if_neg c0, if_neg c1, if_neg c2] at ih ⊢
      rw [if_neg (by omega), if_neg (by omega), if_neg (by omega), if_pos (by omega), if_pos (by omega), if_pos (by omega), if_pos (by omega), if_pos (by omega), ih]
      rfl
theorem tq_l3 {k : Nat} (hk : k < 4) : ∀ (l : List Int) (S : S4) (j : Nat) (B : Int), bd B S → 0 ≤ B → (∀ x, x ∈ l → -1073741824 ≤ x ∧ x ≤ 1073741824) → B + 1073741824 * (l.length : Int) ≤ 1000000000000 → j + l.length ≤ 1000 →
    f_l24_TallyQuarters_l3 k l (qf k S).1 (qf k S).2 j = some (qf k (clsS j l S))
  | [], S, j, B, _, _, _, _, _ => rfl
  | x :: l, S, j, B, hb, hB, hl, hlen, hj => by
    have hx := hl x (.head _)
    rw [List.length_cons] at hlen hj
    have hq := qf_bd (k := k) hb hB
    have hadd := qf_add hk j x S
    have hr := rot_bd (q := (((k * j : Nat) : Int)) % 4) (p := (x, (0 : Int))) (B := 1073741824) ⟨hx, (by decide : (-1073741824 : Int) ≤ 0 ∧ (0 : Int) ≤ 1073741824)⟩
    rw [mod_mul4] at hadd
    have ih := tq_l3 hk l (addc j x S) (j + 1) (B + 1073741824) (addc_bd hb hx (by decide)) (by omega) (fun y hy => hl y (.tail _ hy)) (by omega) (by omega)
    rw [hadd] at ih
    have em : ((k : Int) * (j : Int)) = ((k * j : Nat) : Int) := by simp
    have hkj : k * j ≤ 3000 := Nat.le_trans (Nat.mul_le_mul (show k ≤ 3 by omega) (show j ≤ 1000 by omega)) (by decide)
    rw [f_l24_TallyQuarters_l3, em, if_pos (by omega), turned_eq x 0 _ (by omega) (by omega) (by decide), Option.bind_some]
    dsimp only at ih ⊢
    rw [if_pos (by omega), if_pos (by omega), ih, clsS]
theorem whole_eq (a b : Int) : f_l24_whole a b = some (fw a, fw b) := rfl
theorem tq_l2 {l : List Int} {f : F4} (hf : isF f (clsS 0 l z4)) (hl : ∀ x, x ∈ l → -1073741824 ≤ x ∧ x ≤ 1073741824) (hn : l.length ≤ 900) (y : Bool) {i : Nat} (hi : i < 4) (m : Nat) : f_l24_TallyQuarters_l2 l f (m + 1) y i = f_l24_TallyQuarters_l2 l f m y (i + 1) := by
  have hb := clsS_bd l 0 z4 0 ⟨by decide, by decide, by decide, by decide⟩ hl
  have hq := qf_bd (k := i) hb (by omega)
  have h3 := tq_l3 hi l z4 0 0 ⟨by decide, by decide, by decide, by decide⟩ (by decide) hl (by omega) (by omega)
  rw [qf_z] at h3
  obtain ⟨w, w1, w2⟩ := quarter_eq hi hl hn
  have hs : sm (qf i (clsS 0 l z4)) := sm_of (by omega) (by omega)
  have hW := isC_fw (qf i (clsS 0 l z4)).1 (qf i (clsS 0 l z4)).2
  rw [f_l24_TallyQuarters_l2, if_pos (by omega), h3, Option.bind_some]
  obtain ⟨f0, f1, f2, f3⟩ := hf
  dsimp only
  have key : ∀ z : Nat × Nat, isC z (qf i (clsS 0 l z4)) → ((fEq z.1 (fw (qf i (clsS 0 l z4)).1) && fEq z.2 (fw (qf i (clsS 0 l z4)).2)) = true) ∧ ((fEq w.1 z.1 && fEq w.2 z.2) = true) := by
    intro z hz
    constructor
    · have := fEq_C hz hW hs hs
      rw [decide_eq_true rfl] at this
      exact this
    · have := fEq_C w2 hz hs hs
      rw [decide_eq_true rfl] at this
      exact this
  rcases cases4 hi with rfl | rfl | rfl | rfl
  · obtain ⟨k1, k2⟩ := key _ f0
    rw [if_pos (show ((0 : Nat) : Int) = 0 from rfl), whole_eq, Option.bind_some, if_pos k1, w1, Option.bind_some, if_pos k2, Option.bind_some, if_neg (by decide), if_pos (by omega)]
  · obtain ⟨k1, k2⟩ := key _ f1
    rw [if_neg (by decide), if_pos (show ((1 : Nat) : Int) = 1 from rfl), whole_eq, Option.bind_some, if_pos k1, w1, Option.bind_some, if_pos k2, Option.bind_some, if_neg (by decide), if_pos (by omega)]
  · obtain ⟨k1, k2⟩ := key _ f2
    rw [if_neg (by decide), if_neg (by decide), if_pos (show ((2 : Nat) : Int) = 2 from rfl), whole_eq, Option.bind_some, if_pos k1, w1, Option.bind_some, if_pos k2, Option.bind_some, if_neg (by decide), if_pos (by omega)]
  · obtain ⟨k1, k2⟩ := key _ f3
    rw [if_neg (by decide), if_neg (by decide), if_neg (by decide), if_pos (show ((3 : Nat) : Int) = 3 from rfl), whole_eq, Option.bind_some, if_pos k1, if_pos (show ((3 : Nat) : Int) = 3 from rfl), w1, Option.bind_some, if_pos k2, Option.bind_some, if_neg (by decide), if_pos (by omega)]
theorem tmod_mod (n : Int) : (Int.tmod n 4) % 4 = n % 4 := by
  rw [Int.tmod_eq_emod]
  split <;> omega
theorem pure_TallyQuarters (a0 : List Int) (a1 : Int) (a2 : Int × Int) (w0 : wL wI32 a0) (w1 : wI a1) (w2 : wI32 a2.1 ∧ wI32 a2.2) : f_l24_TallyQuarters a0 a1 a2 = some true := by
  unfold f_l24_TallyQuarters
  rw [speaks24, Option.bind_some, if_pos rfl]
  by_cases hn : (a0.length : Int) > 200
  · rw [if_pos hn]
  have hl : ∀ x, x ∈ a0.map cut30 → -1073741824 ≤ x ∧ x ≤ 1073741824 := fun x hx => by
    obtain ⟨y, _, rfl⟩ := List.mem_map.1 hx
    exact cut30_bd y
  have hlen : (a0.map cut30).length ≤ 900 := by rw [List.length_map]; omega
  obtain ⟨f, f1, f2⟩ := quarters_eq hl hlen
  have h1 := tq_l1 a0 [] 0 z4 0 ⟨by decide, by decide, by decide, by decide⟩ (by decide) (by omega) (fun x hx => w0.2 x hx) (by rw [List.length_nil]; omega) (by omega)
  have hb := clsS_bd (a0.map cut30) 0 z4 0 ⟨by decide, by decide, by decide, by decide⟩ hl
  rw [List.length_map] at hb
  have hb2 : bd 1000000000000 (clsS 0 (a0.map cut30) z4) := by
    obtain ⟨b1, b2, b3, b4⟩ := hb
    exact ⟨by omega, by omega, by omega, by omega⟩
  rw [List.nil_append] at h1
  rw [if_neg hn, show f_l24_TallyQuarters_l1 a0 [] 0 0 0 0 0 = some (a0.map cut30, clsS 0 (a0.map cut30) z4) from h1, Option.bind_some]
  obtain ⟨r1, r2⟩ := w2
  have s1 : -2147483648 ≤ a2.1 ∧ a2.1 ≤ 2147483647 := r1
  have s2 : -2147483648 ≤ a2.2 ∧ a2.2 ≤ 2147483647 := r2
  have s3 : -9223372036854775808 ≤ a1 ∧ a1 ≤ 9223372036854775807 := w1
  have sm2 : sm a2 := sm_of (by omega) (by omega)
  try dsimp only
  rw [f1, Option.bind_some, show (4 : Int).toNat + 1 = 0 + 1 + 1 + 1 + 1 + 1 from rfl, tq_l2 f2 hl hlen false (by decide), tq_l2 f2 hl hlen false (by decide), tq_l2 f2 hl hlen false (by decide), tq_l2 f2 hl hlen false (by decide), f_l24_TallyQuarters_l2, if_neg (by decide), Option.bind_some]
  try dsimp only
  have ht : -9223372036854775808 ≤ Int.tmod a1 4 ∧ Int.tmod a1 4 ≤ 9223372036854775807 := by
    rw [Int.tmod_eq_emod]
    split <;> omega
  rw [if_pos (by omega), if_pos (by omega), if_pos s3, turned_eq a2.1 a2.2 _ ht (by omega) (by omega), Option.bind_some, tmod_mod]
  try dsimp only
  rw [if_pos (by omega), if_pos (by omega), turned_eq a2.1 a2.2 3 (by decide) (by omega) (by omega), Option.bind_some, tback_eq f2 hb2, Option.bind_some]
  try dsimp only
  rw [if_pos rfl, if_pos rfl, if_pos rfl, if_pos rfl, if_pos (by omega), if_pos (by omega), whole_eq, Option.bind_some]
  obtain ⟨u, u1, u2⟩ := turn_eq a1 (isC_fw a2.1 a2.2) sm2
  have hW := isC_fw (rot (a1 % 4) (a2.1, a2.2)).1 (rot (a1 % 4) (a2.1, a2.2)).2
  have k1 := fEq_C u2 hW (rot_sm sm2) (rot_sm sm2)
  rw [decide_eq_true rfl] at k1
  obtain ⟨v, v1, v2⟩ := turn_eq 3 (isC_fw a2.1 a2.2) sm2
  obtain ⟨w, w1', w2'⟩ := turn_eq (-3) v2 (rot_sm sm2)
  obtain ⟨x, x1, x2⟩ := turn_eq 1 (isC_fw (rot (3 % 4) (a2.1, a2.2)).1 (rot (3 % 4) (a2.1, a2.2)).2) (rot_sm sm2)
  have k2 := fEq_C w2' x2 (rot_sm (rot_sm sm2)) (rot_sm (rot_sm sm2))
  rw [show ((-3 : Int) % 4) = 1 from rfl, show ((1 : Int) % 4) = 1 from rfl, decide_eq_true rfl] at k2
  rw [u1, Option.bind_some, whole_eq, Option.bind_some, if_pos k1, if_pos (by omega), if_pos (by omega), whole_eq, Option.bind_some, v1, Option.bind_some, w1', Option.bind_some, Option.bind_some, x1, Option.bind_some, k2, Option.bind_some]
end Go.Proofs.Ytahjmpipllajcaa.Sl
namespace Go.Proofs.Ytahjmpipllajcaa.Sl
open Go.RowKit Go.Deep Go.ChangeShapes
set_option linter.unusedVariables false
def eqRd {α : Type} (f : α → List Value) : Rd α := ⟨fun _ _ cs a => cs = f a, fun h _ => h, fun h _ => h⟩
section
variable {H : Type} {enc : TypeId × Value → H} {P : Program} {α β : Type}
theorem op_arr {t e : TypeId} {E : Rd α} {W : α → Prop} (n : Nat) (g : α → Value) (mk : (Nat → α) → β) (cells : β → List Value) (Wb : β → Prop) (hn : 0 < n) (ht : P.underlying t = some (.array n e)) (hc : P.cellsOf e = 1) (hct : P.cellsOf t = n) (he : OpensW enc P e (andRd E W))
    (hE : ∀ w S cs x, E.P w S cs x → cs = [g x]) (hm : ∀ f, cells (mk f) = (List.range n).map (fun i => g (f i))) (hw : ∀ f, (∀ i, i < n → W (f i)) → Wb (mk f)) : OpensW enc P t (andRd (eqRd cells) Wb) := by
  intro w fuel cs x hx hwt
  obtain ⟨xs, m, rfl, rfl, hl, hxl, hf⟩ := DataW.trod_array ht hx
  have each : ∀ i : Fin n, ∃ y : α, (andRd E W).P w (fun k => k < w.heap.size) ((cs.drop i.val).take 1) y := by
    intro i
    have h1 := hf i.val i.isLt
    rw [hc, Nat.mul_one, List.getElem?_eq_getElem (by omega)] at h1
    refine he _ _ _ _ h1 (fun z hz => hwt z ?_)
    simp only [DataW.weights, ht]
    exact weightsAll_mem (d := xs[i.val].1) (List.mem_map.2 ⟨_, List.getElem_mem _, rfl⟩) hz
  obtain ⟨f, hff⟩ := Classical.axiomOfChoice each
  let f' : Nat → α := fun i => if h : i < n then f ⟨i, h⟩ else f ⟨0, hn⟩
  have hf' : ∀ i, i < n → (andRd E W).P w (fun k => k < w.heap.size) ((cs.drop i).take 1) (f' i) := by
    intro i hi
    have := hff ⟨i, hi⟩
    show (andRd E W).P _ _ _ (if h : i < n then f ⟨i, h⟩ else f ⟨0, hn⟩)
    rw [dif_pos hi]
    exact this
  refine ⟨mk f', ?_, hw f' (fun i hi => (hf' i hi).2)⟩
  show cs = cells (mk f')
  rw [hm]
  apply List.ext_getElem?
  intro i
  by_cases hi : i < n
  · have h1 := hE _ _ _ _ (hf' i hi).1
    have h2 : cs[i]? = ((cs.drop i).take 1)[0]? := by simp
    rw [h2, h1]
    simp [hi]
  · rw [List.getElem?_eq_none (by omega), List.getElem?_eq_none (by simp; omega)]
theorem opens_arg3 {t e : TypeId} {n : Nat} {E : Rd α} {r : Reach} {b0 : Nat} {w : World} {v : Value} {d : DataW H} {p : List MemPlace} (ht : P.underlying t = some (.array n e)) (hval : Value.okWide P w r b0 t v) (h : OpensW enc P t E)
    (hv : DataW.Trod enc P w 0 (fun _ => true) true t v d p) (hw : ∀ m, m ∈ d.weights P t → m ≤ reachBytes) : ∃ a cs, v = .agg cs ∧ E.P w (fun k => k < w.heap.size) cs.toList a := by
  have hv0 : ∃ cs, v = .agg cs := by
    simp only [Value.okWide, ht] at hval
    obtain ⟨cs, h1, _⟩ := hval
    exact ⟨cs, h1⟩
  obtain ⟨cs, rfl⟩ := hv0
  obtain ⟨fuel, hf⟩ := hv
  obtain ⟨a, ha⟩ := h _ _ _ _ hf hw
  exact ⟨a, cs, rfl, ha⟩
end
end Go.Proofs.Ytahjmpipllajcaa.Sl
namespace Go.Proofs.Ytahjmpipllajcaa.Sl
open Go.RowKit Go.Deep Go.ChangeShapes
set_option linter.unusedVariables false
theorem op_ar43 {H : Type} {enc : TypeId × Value → H} : OpensW enc Try.prog 43 (andRd (eqRd (fun a : Int × Int => [.int .i32 a.1, .int .i32 a.2])) (fun a : Int × Int => wI32 a.1 ∧ wI32 a.2)) :=
  op_arr 2 (fun x => .int .i32 x) (fun f => (f 0, f 1)) _ _ (by decide) Try.underlying43 (by kernel_rfl) (by kernel_rfl) (op_i32 Try.underlying21) (fun _ _ _ _ h => h) (fun f => rfl) (fun f h => ⟨h 0 (by decide), h 1 (by decide)⟩)
end Go.Proofs.Ytahjmpipllajcaa.Sl
namespace Go.Proofs.Ytahjmpipllajcaa.tallyQuarters
open Go.ChangeShapes Go.WideShapes Go.ChangeAt Go.RowKit
open Go.ChangeMaps (open_string shut_string)
set_option linter.unusedVariables false
theorem own : ownKnob Try.prog.godebug = none := by kernel_rfl
theorem laidOut : laidOutB Try.prog = true := by kernel_rfl
set_option maxRecDepth 100000 in
set_option maxHeartbeats 1000000 in
theorem lifted (os : Os) (started : os.Started) (H : Type) (enc : TypeId × Value → H) :
    ReturnsInHanded {} Try.checked os 5 .any (Rows.tallyQuartersSpec.pre6 enc Try.prog Try.f5 Rows.tallyQuartersRow.domain false) (Rows.tallyQuartersSpec.post enc Try.prog Try.f5 false true false false) := by
  refine returnsInHanded_of_change_sized (C := Try.checked) own started (by kernel_rfl) Try.func5
    (ChangeSpec.witness6 (enc := enc) (C := Try.checked) false ⟨#[], #[.slice none 0 0, .int .i64 0, .agg #[.int .i32 0, .int .i32 0]], []⟩ 8 (by kernel_rfl) (by kernel_rfl) (by kernel_rfl) (by kernel_rfl)) ?_
  intro W base args ds gs before hval0 hW hcnd hsz0 _
  have hsz : (DataW.weightsEach Try.prog (Try.f5.params.toList ++ Rows.tallyQuartersSpec.plain.varTypes Try.prog) (ds ++ gs)).all (· ≤ reachBytes) = true := hsz0
  have hval : ∀ (j : Nat) t v, Try.f5.params[j]? = some t → args[j]? = some v → Value.okWide Try.prog W .any base t v := hval0
  have hW' := hW
  obtain ⟨p, q, hA0, hV, rfl, hfz, hnd⟩ := hW
  have hA : DataW.TrodAll enc Try.prog W 0 (fun _ => true) true Try.f5.params.toList args.toList ds p := hA0
  rw [Try.params5] at hA hval hsz
  obtain ⟨v0, vs0, d0, ds0, p0, q0, hargs, rfl, rfl, h0, r0⟩ := trodAll_cons hA
  obtain ⟨v1, vs1, d1, ds1, p1, q1, rfl, rfl, rfl, h1, r1⟩ := trodAll_cons r0
  obtain ⟨v2, vs2, d2, ds2, p2, q2, rfl, rfl, rfl, h2, r2⟩ := trodAll_cons r1
  obtain ⟨rfl, rfl, rfl⟩ := trodAll_nil r2
  obtain rfl : args = #[v0, v1, v2] := by cases args; simp_all
  obtain ⟨rfl, rfl⟩ := trodVars_none hV
  have k0 := h0
  have lt0 : ∀ x ∈ p0, x.block < W.heap.size := by obtain ⟨m, hm⟩ := k0; exact DataW.trod_lt m _ _ _ hm
  obtain ⟨a0, r_0, w0⟩ := Sl.opens_arg1 Try.underlying42 (hval 0 42 v0 rfl rfl) (Sl.op_slice 1 4 Try.underlying42 (by kernel_rfl) (by kernel_rfl) (by decide) (by decide) (Sl.op_i32 Try.underlying21)) h0 (fun x hx => of_decide_eq_true (List.all_eq_true.1 hsz x (Sl.weights_in 0 rfl rfl hx)))
  obtain ⟨A0, c0, e0⟩ := Sl.slice_cells r_0
  injection e0 with e0
  subst e0
  obtain ⟨a1, rfl, rfl, rfl, u1⟩ := open_int Try.underlying3 (hval 1 3 v1 rfl rfl) h1
  have w1 := Go.bounds_i64 u1
  have k2 := h2
  have lt2 : ∀ x ∈ p2, x.block < W.heap.size := by obtain ⟨m, hm⟩ := k2; exact DataW.trod_lt m _ _ _ hm
  obtain ⟨a2, cs2, rfl, r_2, w2⟩ := Sl.opens_arg3 Try.underlying43 (hval 2 43 v2 rfl rfl) Sl.op_ar43 h2 (fun x hx => of_decide_eq_true (List.all_eq_true.1 hsz x (Sl.weights_in 2 rfl rfl hx)))
  have e2 : cs2.toList = _ := r_2
  obtain rfl : cs2 = #[.int .i32 a2.1, .int .i32 a2.2] := by apply Array.toList_inj.1; exact e2
  clear hA0 hval0 hsz0 hsz
  refine (Sl.f_l24_TallyQuarters_spec a0 A0 c0 a1 a2 true (Sl.pure_TallyQuarters a0 a1 a2 w0 w1 w2) (fun _ => False) W (fun _ h => h) (Sl.RX.reads_all r_0)).mono fun e W' hP => ?_
  obtain ⟨v, A', Ns, rfl, ⟨rfl, rfl, rfl⟩, hst⟩ := hP
  have bel := Sl.St.below hst
  exact ⟨_, rfl, _, _, _, [], _, [], hW', trodAll_mk1 (shut_bool Try.underlying4 _), (trodAll_cons_mk (Below.trod laidOut (by kernel_rfl) (of_decide_eq_true (by kernel_rfl)) k0 bel lt0) (trodAll_cons_mk (shut_int Try.underlying3 u1) (trodAll_cons_mk (Below.trod laidOut (by kernel_rfl) (of_decide_eq_true (by kernel_rfl)) k2 bel lt2) trodAll_mk0))), rfl, bel.frame _, fun h => by cases h⟩
theorem over : Rows.tallyQuartersRow.holds Try.pinned (OpenSpec.ofChange Rows.tallyQuartersSpec) :=
  OpenClaim.holds_of_wide 5 Try.f5 rfl rfl rfl rfl rfl rfl rfl ⟨rfl, rfl, rfl, rfl, rfl⟩ rfl rfl rfl rfl rfl (by kernel_rfl) Try.func5 (by kernel_rfl)
    (of_decide_eq_true (by kernel_rfl)) (by unfold Func.isWrapper; first | (rw [if_pos (by decide +kernel)]; kernel_rfl) | (rw [if_neg (by decide +kernel)]; exact ⟨rfl, rfl⟩))
    (fun os started H enc _ => lifted os started H enc)
theorem proved : Rows.TallyQuartersSaid := over
end Go.Proofs.Ytahjmpipllajcaa.tallyQuarters
namespace Go.Proofs.Ytahjmpipllajcaa
theorem tallyQuarters_holds : Rows.TallyQuartersSaid := tallyQuarters.proved
end Go.Proofs.Ytahjmpipllajcaa
