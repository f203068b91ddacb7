/- tallyQuarters_holds: part 0. -/
import Derived.Laws.FloatArith
import Derived.Laws.ComplexArith
import Derived.WalkKit
import Derived.Below
import Derived.Laws.OwnMore
import Derived.Deep.Draws
import Derived.Laws.Rows
import Derived.Lib.Hide
import Derived.Lib.AppendStr
import Derived.Maps.AppendAt
import Derived.OwnWalk
import Derived.Deep.AppendLies
import Derived.Laws.BytesArg
import Derived.Deep.WholeRow
import Derived.ChangeArms
import Derived.ChangeSlices
import Derived.Deep.Slices
import Derived.OpenShut
import Derived.WideShapes
import Derived.OrdersHeld
import Derived.Laws.Cells
import Derived.Laws.CopyRow
import Derived.Laws.StructEq
import Derived.Test.YtahjmpipllajcaaProg
import Derived.KernelRfl
import Derived.Deep.QuietTactic
import Derived.BigQuiet
import Derived.LoopN
import Derived.WalkSpells
import Derived.WalkLawsBesides
import Derived.Lib.Strings
import Derived.Laws.BitsLemmas
import Derived.IntWalk
import Derived.Laws.Strings
import Derived.Laws.MakeOwn
import Derived.Lib.Builder
import Derived.Lib.UnsafeStr
import Derived.Laws.IdiomCopy
import Derived.ChangeKeysEq
namespace Go.Proofs.Ytahjmpipllajcaa.Sl
set_option linter.unusedVariables false
set_option linter.unusedSimpArgs false
open Ieee
theorem log2_bd {n : Nat} (h : 0 < n) : 2 ^ n.log2 ≤ n ∧ n < 2 ^ (n.log2 + 1) := ⟨(Nat.le_log2 (by omega)).1 (Nat.le_refl _), (Nat.log2_lt (by omega)).1 (Nat.lt_succ_self _)⟩
theorem log2_mul (n k : Nat) (h : 0 < n) : (n * 2 ^ k).log2 = n.log2 + k := by
  obtain ⟨h1, h2⟩ := log2_bd h
  have hp : 0 < n * 2 ^ k := Nat.mul_pos h (Nat.two_pow_pos k)
  have a : n.log2 + k ≤ (n * 2 ^ k).log2 := (Nat.le_log2 (by omega)).2 (by rw [Nat.pow_add]; exact Nat.mul_le_mul_right _ h1)
  have b : (n * 2 ^ k).log2 < n.log2 + k + 1 := (Nat.log2_lt (by omega)).2 (by rw [show n.log2 + k + 1 = (n.log2 + 1) + k by omega, Nat.pow_add]; exact Nat.mul_lt_mul_of_pos_right h2 (Nat.two_pow_pos k))
  omega
theorem log2_lt53 {n : Nat} (h0 : 0 < n) (h : n < 2 ^ 53) : n.log2 ≤ 52 := by
  have := (Nat.log2_lt (k := 53) (show n ≠ 0 by omega)).2 h
  omega
theorem cut_none (way : Toward) (neg : Bool) (n : Nat) : way.cut neg n 0 = n := by
  unfold Toward.cut
  have e : (1 <<< min 0 (n.log2 + 2) : Nat) = 1 := by rw [Nat.zero_min]; rfl
  rw [e]
  simp only [Nat.div_one, Nat.mod_one]
  cases way <;> simp
theorem cut_even (neg : Bool) (n d : Nat) (h : d ≤ (n * 2 ^ d).log2 + 2) : Toward.even.cut neg (n * 2 ^ d) d = n := by
  unfold Toward.cut
  have e : (1 <<< min d ((n * 2 ^ d).log2 + 2) : Nat) = 2 ^ d := by rw [Nat.min_eq_left h, Nat.one_shiftLeft]
  have hp := Nat.two_pow_pos d
  simp only [e]
  rw [Nat.mul_div_cancel _ hp, Nat.mul_mod_left]
  simp
theorem cut_zero (neg : Bool) (n d : Nat) (h : d ≤ (n * 2 ^ d).log2 + 2) : Toward.zero.cut neg (n * 2 ^ d) d = n := by
  unfold Toward.cut
  have e : (1 <<< min d ((n * 2 ^ d).log2 + 2) : Nat) = 2 ^ d := by rw [Nat.min_eq_left h, Nat.one_shiftLeft]
  have hp := Nat.two_pow_pos d
  simp only [e]
  rw [Nat.mul_div_cancel _ hp]
  rfl
def rungW (N : Nat) : Nat := (N.log2 + 1022) * 2 ^ 52 + N * 2 ^ (52 - N.log2)
theorem sig_bd {N : Nat} (h0 : 0 < N) (h : N < 2 ^ 53) : 2 ^ 52 ≤ N * 2 ^ (52 - N.log2) ∧ N * 2 ^ (52 - N.log2) < 2 ^ 53 := by
  obtain ⟨h1, h2⟩ := log2_bd h0
  have hl := log2_lt53 h0 h
  constructor
  · calc 2 ^ 52 = 2 ^ N.log2 * 2 ^ (52 - N.log2) := by rw [← Nat.pow_add]; congr 1; omega
      _ ≤ _ := Nat.mul_le_mul_right _ h1
  · calc N * 2 ^ (52 - N.log2) < 2 ^ (N.log2 + 1) * 2 ^ (52 - N.log2) := Nat.mul_lt_mul_of_pos_right h2 (Nat.two_pow_pos _)
      _ = 2 ^ 53 := by rw [← Nat.pow_add]; congr 1; omega
theorem nearest_whole (neg : Bool) {N k : Nat} (h0 : 0 < N) (h : N < 2 ^ 53) : double.nearest neg (N * 2 ^ k) (-(k : Int)) = double.word neg (rungW N) := by
  have hl := log2_lt53 h0 h
  have hp : 0 < N * 2 ^ k := Nat.mul_pos h0 (Nat.two_pow_pos k)
  obtain ⟨s1, s2⟩ := sig_bd h0 h
  unfold Format.nearest
  rw [if_neg (by omega)]
  have e1 : (max (-(k : Int) + ((N * 2 ^ k).log2 : Nat) - (double.fractionBits : Nat)) double.leastPlace) = (N.log2 : Int) - 52 := by
    rw [log2_mul N k h0]
    show max (-(k : Int) + ((N.log2 + k : Nat) : Int) - ((52 : Nat) : Int)) (-1074) = _
    omega
  dsimp only
  rw [e1]
  have e2 : ((N.log2 : Int) - 52 - double.leastPlace).toNat = N.log2 + 1022 := by
    show ((N.log2 : Int) - 52 - (-1074)).toNat = _
    omega
  have e3 : double.binade = 2 ^ 52 := rfl
  have e4 : double.infRung = 2047 * 2 ^ 52 := rfl
  have key : Toward.even.cut neg ((N * 2 ^ k) <<< (-(k : Int) - ((N.log2 : Int) - 52)).toNat) (((N.log2 : Int) - 52) - (-(k : Int))).toNat = N * 2 ^ (52 - N.log2) := by
    by_cases hc : k + N.log2 ≤ 52
    · have d1 : (((N.log2 : Int) - 52) - (-(k : Int))).toNat = 0 := by omega
      have d2 : (-(k : Int) - ((N.log2 : Int) - 52)).toNat = 52 - N.log2 - k := by omega
      rw [d1, d2, cut_none, Nat.shiftLeft_eq, Nat.mul_assoc, ← Nat.pow_add]
      congr 2
      omega
    · have d1 : (((N.log2 : Int) - 52) - (-(k : Int))).toNat = k + N.log2 - 52 := by omega
      have d2 : (-(k : Int) - ((N.log2 : Int) - 52)).toNat = 0 := by omega
      have e5 : N * 2 ^ k = (N * 2 ^ (52 - N.log2)) * 2 ^ (k + N.log2 - 52) := by
        rw [Nat.mul_assoc, ← Nat.pow_add]
        congr 2
        omega
      rw [d1, d2, Nat.shiftLeft_zero, e5, cut_even]
      rw [← e5, log2_mul N k h0]
      omega
  rw [key, e2, e3, e4]
  have hm : min ((N.log2 + 1022) * 2 ^ 52 + N * 2 ^ (52 - N.log2)) (2047 * 2 ^ 52) = rungW N := by
    unfold rungW
    omega
  rw [hm]
theorem rung_lt {N : Nat} (h0 : 0 < N) (h : N < 2 ^ 53) : rungW N < 2 ^ 63 := by
  have hl := log2_lt53 h0 h
  obtain ⟨s1, s2⟩ := sig_bd h0 h
  unfold rungW
  omega
theorem read_word (neg : Bool) {N : Nat} (h0 : 0 < N) (h : N < 2 ^ 53) : double.read (double.word neg (rungW N)) = .number neg (N * 2 ^ (52 - N.log2)) ((N.log2 : Int) - 52) := by
  have hl := log2_lt53 h0 h
  obtain ⟨s1, s2⟩ := sig_bd h0 h
  have hr := rung_lt h0 h
  have e1 : double.signWeight = 2 ^ 63 := rfl
  have e3 : double.binade = 2 ^ 52 := rfl
  have e4 : double.infRung = 2047 * 2 ^ 52 := rfl
  have w1 : double.word neg (rungW N) % 2 ^ 63 = rungW N := by
    unfold Format.word
    rw [e1]
    cases neg
    · exact Nat.mod_eq_of_lt hr
    · show (2 ^ 63 + rungW N) % 2 ^ 63 = _
      rw [Nat.add_mod_left, Nat.mod_eq_of_lt hr]
  have w2 : (double.word neg (rungW N) / 2 ^ 63 % 2 == 1) = neg := by
    unfold Format.word
    rw [e1]
    cases neg
    · show (rungW N / 2 ^ 63 % 2 == 1) = false
      rw [Nat.div_eq_of_lt hr]; rfl
    · show ((2 ^ 63 + rungW N) / 2 ^ 63 % 2 == 1) = true
      rw [Nat.add_div_left _ (by decide), Nat.div_eq_of_lt hr]; rfl
  unfold Format.read
  dsimp only
  rw [e1, w1, w2, e3, e4]
  have hlo : ¬ rungW N < 2 ^ 52 := by unfold rungW; omega
  have hhi : rungW N < 2047 * 2 ^ 52 := by unfold rungW; omega
  rw [if_neg hlo, if_pos hhi]
  have d1 : rungW N / 2 ^ 52 = N.log2 + 1023 := by unfold rungW; omega
  have d2 : rungW N % 2 ^ 52 = N * 2 ^ (52 - N.log2) - 2 ^ 52 := by unfold rungW; omega
  have e5 : double.leastPlace = -1074 := rfl
  have m1 : 2 ^ 52 + (N * 2 ^ (52 - N.log2) - 2 ^ 52) = N * 2 ^ (52 - N.log2) := by omega
  have m2 : (-1074 : Int) + ((N.log2 + 1023 - 1 : Nat) : Int) = (N.log2 : Int) - 52 := by omega
  rw [d1, d2, e5, m1, m2]
def fw (n : Int) : Nat := FloatKind.f64.nearest n
def nz : Nat := 2 ^ 63
theorem fw_zero : fw 0 = 0 := by
  show double.nearest (decide ((0 : Int) < 0)) 0 0 = 0
  unfold Format.nearest
  rw [if_pos rfl]
  rfl
theorem fw_eq {n : Int} (h : n ≠ 0) (hb : n.natAbs < 2 ^ 53) : fw n = double.word (decide (n < 0)) (rungW n.natAbs) := by
  have := nearest_whole (decide (n < 0)) (N := n.natAbs) (k := 0) (by omega) hb
  rw [Nat.pow_zero, Nat.mul_one] at this
  exact this
def isW (x : Nat) (n : Int) : Prop := x = fw n ∨ (n = 0 ∧ x = nz)
theorem isW_fw (n : Int) : isW (fw n) n := .inl rfl
theorem signed_eq (s : Bool) (m u : Nat) : signed s m u = (if s then -((m * 2 ^ u : Nat) : Int) else ((m * 2 ^ u : Nat) : Int)) := by
  unfold signed
  rw [Nat.shiftLeft_eq]
theorem isW_read {x : Nat} {n : Int} (h : isW x n) (hb : n.natAbs < 2 ^ 53) : ∃ s m i, double.read x = .number s m i ∧ i ≤ 0 ∧ (∀ base : Int, base ≤ i → signed s m (i - base).toNat = n * ((2 ^ (-base).toNat : Nat) : Int)) ∧ (n ≠ 0 → s = decide (n < 0)) ∧ m = n.natAbs * 2 ^ (-i).toNat ∧ (-i).toNat ≤ m.log2 + 1074 ∧ (n ≠ 0 → (-i).toNat ≤ m.log2 + 2) := by
  by_cases h0 : n = 0
  · subst h0
    have hx : x = 0 ∨ x = nz := by
      rcases h with h | ⟨_, h⟩
      · exact .inl (h.trans fw_zero)
      · exact .inr h
    rcases hx with rfl | rfl
    · refine ⟨false, 0, -1074, by rfl, by decide, fun base hb => by rw [signed_eq]; simp, fun h => absurd rfl h, by rw [Int.natAbs_zero, Nat.zero_mul], by decide, fun h => absurd rfl h⟩
    · refine ⟨true, 0, -1074, by rfl, by decide, fun base hb => by rw [signed_eq]; simp, fun h => absurd rfl h, by rw [Int.natAbs_zero, Nat.zero_mul], by decide, fun h => absurd rfl h⟩
  · have hx : x = fw n := by
      rcases h with h | ⟨h, _⟩
      · exact h
      · exact absurd h h0
    have hp : 0 < n.natAbs := by omega
    have hl := log2_lt53 hp hb
    rw [hx, fw_eq h0 hb, read_word _ hp hb]
    refine ⟨_, _, _, rfl, by omega, fun base hbb => ?_, fun _ => rfl, ?_, ?_, fun _ => ?_⟩
    · rw [signed_eq]
      have e : n.natAbs * 2 ^ (52 - n.natAbs.log2) * 2 ^ ((n.natAbs.log2 : Int) - 52 - base).toNat = n.natAbs * 2 ^ (-base).toNat := by
        rw [Nat.mul_assoc, ← Nat.pow_add]
        congr 2
        omega
      rw [e]
      by_cases hn : n < 0
      · rw [if_pos (decide_eq_true hn), Int.natCast_mul, ← Int.neg_mul, show -((n.natAbs : Nat) : Int) = n by omega]
      · rw [if_neg (by simpa using hn), Int.natCast_mul, show ((n.natAbs : Nat) : Int) = n by omega]
    · congr 2
      omega
    · rw [log2_mul _ _ hp]
      omega
    · rw [log2_mul _ _ hp]
      omega
theorem write_whole (s : Bool) {c : Int} (base : Int) (hb : base ≤ 0) (hc : c.natAbs < 2 ^ 53) (hs : c ≠ 0 → s = decide (c < 0)) : isW (double.nearest s (c * ((2 ^ (-base).toNat : Nat) : Int)).natAbs base) c := by
  by_cases h0 : c = 0
  · subst h0
    rw [Int.zero_mul]
    unfold Format.nearest
    rw [if_pos (show Int.natAbs 0 = 0 from rfl)]
    cases s
    · exact .inl (fw_zero.symm ▸ rfl)
    · exact .inr ⟨rfl, rfl⟩
  · left
    rw [fw_eq h0 hc, ← hs h0, Int.natAbs_mul, Int.natAbs_natCast]
    have := nearest_whole s (N := c.natAbs) (k := (-base).toNat) (by omega) hc
    rw [show -(((-base).toNat : Nat) : Int) = base by omega] at this
    exact this
theorem add_isW {x y : Nat} {a b : Int} (hx : isW x a) (hy : isW y b) (ha : a.natAbs < 2 ^ 53) (hb : b.natAbs < 2 ^ 53) (hc : (a + b).natAbs < 2 ^ 53) : ∃ z, floatBits .add .f64 x y = some z ∧ isW z (a + b) := by
  obtain ⟨s, m, i, r1, i1, v1, s1, _⟩ := isW_read hx ha
  obtain ⟨t, n, j, r2, j2, v2, s2, _⟩ := isW_read hy hb
  have hfb : floatBits .add .f64 x y = ((double.read x).sum (double.read y)).map double.write := rfl
  rw [hfb, r1, r2]
  unfold Datum.sum
  dsimp only
  rw [v1 (min i j) (by omega), v2 (min i j) (by omega), ← Int.add_mul]
  refine ⟨_, rfl, ?_⟩
  have hp : (0 : Int) < ((2 ^ (-(min i j)).toNat : Nat) : Int) := Int.natCast_pos.2 (Nat.two_pow_pos _)
  show isW (double.nearest _ _ _) _
  refine write_whole _ (min i j) (by omega) hc (fun h => ?_)
  rw [if_neg (Int.mul_ne_zero h (by omega))]
  by_cases hn : a + b < 0
  · rw [decide_eq_true hn]; exact decide_eq_true (Int.mul_neg_of_neg_of_pos hn hp)
  · rw [decide_eq_false hn]; exact decide_eq_false (Int.not_lt.2 (Int.mul_nonneg (by omega) (by omega)))
def negW (x : Nat) : Nat := x ^^^ 2 ^ 63
theorem xor_hi {r : Nat} (h : r < 2 ^ 63) : r ^^^ 2 ^ 63 = 2 ^ 63 + r ∧ (2 ^ 63 + r) ^^^ 2 ^ 63 = r := by
  have e : r ^^^ 2 ^ 63 = 2 ^ 63 + r := by
    have h1 : (2 ^ 63 + r) = 2 ^ 63 ||| r := (Nat.two_pow_add_eq_or_of_lt h 1 ▸ by rw [Nat.mul_one])
    rw [h1]
    apply Nat.eq_of_testBit_eq
    intro i
    rw [Nat.testBit_xor, Nat.testBit_or, Nat.testBit_two_pow]
    by_cases hi : 63 = i
    · subst hi
      rw [Nat.testBit_lt_two_pow h]; rfl
    · rw [decide_eq_false hi]; simp
  refine ⟨e, ?_⟩
  rw [← e, Nat.xor_assoc, Nat.xor_self, Nat.xor_zero]
theorem neg_isW {x : Nat} {a : Int} (h : isW x a) (hb : a.natAbs < 2 ^ 53) : isW (negW x) (-a) := by
  unfold negW
  by_cases h0 : a = 0
  · subst h0
    have hx : x = 0 ∨ x = nz := by
      rcases h with h | ⟨_, h⟩
      · exact .inl (h.trans fw_zero)
      · exact .inr h
    rcases hx with rfl | rfl
    · exact .inr ⟨rfl, (xor_hi (r := 0) (by decide)).1⟩
    · exact .inl ((xor_hi (r := 0) (by decide)).2.trans fw_zero.symm)
  · have hx : x = fw a := by
      rcases h with h | ⟨h, _⟩
      · exact h
      · exact absurd h h0
    have hr := rung_lt (N := a.natAbs) (by omega) hb
    left
    rw [hx, fw_eq h0 hb, fw_eq (n := -a) (by omega) (by rw [Int.natAbs_neg]; exact hb), Int.natAbs_neg]
    by_cases hn : a < 0
    · rw [decide_eq_true hn, decide_eq_false (show ¬ -a < 0 by omega)]
      exact (xor_hi hr).2
    · rw [decide_eq_false hn, decide_eq_true (show -a < 0 by omega)]
      exact (xor_hi hr).1
theorem order_isW {x y : Nat} {a b : Int} (hx : isW x a) (hy : isW y b) (ha : a.natAbs < 2 ^ 53) (hb : b.natAbs < 2 ^ 53) : ∃ o, FloatKind.f64.format.order x y = some o ∧ (o = .eq ↔ a = b) := by
  obtain ⟨s, m, i, r1, i1, v1, s1, _⟩ := isW_read hx ha
  obtain ⟨t, n, j, r2, j2, v2, s2, _⟩ := isW_read hy hb
  have hfb : FloatKind.f64.format.order x y = (double.read x).order (double.read y) := rfl
  rw [hfb, r1, r2]
  unfold Datum.order
  dsimp only
  rw [v1 (min i j) (by omega), v2 (min i j) (by omega)]
  refine ⟨_, rfl, ?_⟩
  have hp : (0 : Int) < ((2 ^ (-(min i j)).toNat : Nat) : Int) := Int.natCast_pos.2 (Nat.two_pow_pos _)
  constructor
  · intro h
    have h := Int.compare_eq_eq.1 h
    exact Int.eq_of_mul_eq_mul_right (by omega) h
  · rintro rfl
    exact Int.compare_eq_eq.2 rfl
theorem toInt_isW {x : Nat} {a : Int} (hx : isW x a) (ha : a.natAbs < 2 ^ 53) : floatToIntVal .f64 x .i64 = some a := by
  obtain ⟨s, m, i, r1, i1, v1, s1, m1, l1, l2⟩ := isW_read hx ha
  unfold floatToIntVal
  have hd : FloatKind.f64.decode x = .number s m i := r1
  rw [hd]
  have hi : i.toNat = 0 := by omega
  have hr : (Datum.number s m i).toInt .zero = some a := by
    unfold Datum.toInt Datum.integral
    dsimp only
    rw [hi, Nat.shiftLeft_zero]
    by_cases h0 : a = 0
    · subst h0
      have hm : m = 0 := by rw [m1, Int.natAbs_zero, Nat.zero_mul]
      rw [hm]
      have : Toward.zero.cut s 0 (-i).toNat = 0 := by
        unfold Toward.cut
        simp
      rw [this, signed_eq, Nat.zero_mul]
      cases s <;> rfl
    · have e := cut_zero s a.natAbs (-i).toNat (by rw [← m1]; exact l2 h0)
      rw [← m1] at e
      rw [e, signed_eq, Nat.pow_zero, Nat.mul_one, s1 h0]
      by_cases hn : a < 0
      · rw [if_pos (decide_eq_true hn)]; congr 1; omega
      · rw [if_neg (by simpa using hn)]; congr 1; omega
  rw [hr]
  dsimp only
  rw [if_pos]
  have e1 : IntKind.i64.min = -9223372036854775808 := by decide
  have e2 : IntKind.i64.max = 9223372036854775807 := by decide
  rw [e1, e2]
  omega
end Go.Proofs.Ytahjmpipllajcaa.Sl
namespace Go.Proofs.Ytahjmpipllajcaa.Sl
open Go.RowKit
set_option linter.unusedVariables false
structure Fr (F : Nat → Prop) (w w' : World) : Prop where
  os : w'.os = w.os
  tape : w'.tape = w.tape
  output : w'.output = w.output
  size : w.heap.size ≤ w'.heap.size
  block : ∀ k, k < w.heap.size → ¬ F k → w'.heap[k]? = w.heap[k]?
theorem Fr.refl (F : Nat → Prop) (w : World) : Fr F w w := ⟨rfl, rfl, rfl, Nat.le_refl _, fun _ _ _ => rfl⟩
theorem Fr.trans {F G : Nat → Prop} {a b c : World} (h : Fr F a b) (k : Fr G b c) (hg : ∀ k, G k → F k ∨ a.heap.size ≤ k) : Fr F a c :=
  ⟨k.os.trans h.os, k.tape.trans h.tape, k.output.trans h.output, Nat.le_trans h.size k.size, fun i hi hn =>
    (k.block i (Nat.lt_of_lt_of_le hi h.size) (fun h2 => (hg i h2).elim hn (fun h3 => by omega))).trans (h.block i hi hn)⟩
theorem Fr.of_below {F : Nat → Prop} {w w' : World} (h : Below w.heap.size w w') : Fr F w w' := ⟨h.os, h.tape, h.output, h.size, fun k hk _ => h.block k hk⟩
theorem Fr.below {w w' : World} (h : Fr (fun _ => False) w w') : Below w.heap.size w w' := ⟨h.os, h.tape, h.output, h.size, fun k hk => h.block k hk (fun h => h)⟩
theorem Fr.of_grown {F : Nat → Prop} {w w' : World} {row : Option Nat} (h : w.grownBy w' row) (hr : ∀ k, row = some k → F k) : Fr F w w' :=
  ⟨h.os, h.tape, h.output, h.size, fun k hk hn => h.block k hk (fun e => hn (hr k e.symm))⟩
theorem Fr.mono {F G : Nat → Prop} {w w' : World} (h : Fr F w w') (hg : ∀ k, F k → G k) : Fr G w w' := ⟨h.os, h.tape, h.output, h.size, fun k hk hn => h.block k hk (fun h2 => hn (hg k h2))⟩
theorem Fr.alloc {F : Nat → Prop} {w w' : World} (h : Fr F w w') (o : Obj) : Fr F w (w'.alloc o) :=
  h.trans (Fr.of_below (F := fun _ => False) ((Below.refl _ _).alloc (Nat.le_refl _) o)) (fun _ h => h.elim)
theorem Fr.drew {F : Nat → Prop} {w w' : World} (h : Fr F w w') : Fr F w w'.drew := ⟨h.os, h.tape, h.output, h.size, h.block⟩
theorem Fr.set {F : Nat → Prop} {w w' : World} (h : Fr F w w') {p : Addr} (hp : F p.block ∨ w.heap.size ≤ p.block) (u : Value) : Fr F w (w'.setCell p u) :=
  h.trans (G := fun k => k = p.block) ⟨rfl, rfl, rfl, by simp [World.setCell], fun k _ hn => Below.heap_setCell _ _ _ _ hn⟩ (fun k hk => by rw [hk]; exact hp)
structure Res where
  P : World → (Nat → Prop) → Prop
  lt : ∀ {w : World} {G : Nat → Prop}, P w G → ∀ k, G k → k < w.heap.size
  move : ∀ {w w' : World} {G : Nat → Prop}, P w G → (∀ k, G k → w'.heap[k]? = w.heap[k]?) → P w' G
def Sep : List Res → World → (Nat → Prop) → Prop
  | [], _, _ => True
  | R :: Rs, w, F => ∃ G, R.P w G ∧ (∀ k, G k → F k) ∧ Sep Rs w (fun k => F k ∧ ¬ G k)
theorem Sep.mono : ∀ {Rs : List Res} {w : World} {F F' : Nat → Prop}, Sep Rs w F → (∀ k, F k → F' k) → Sep Rs w F'
  | [], _, _, _, _, _ => trivial
  | _ :: _, _, _, _, ⟨G, h1, h2, h3⟩, hf => ⟨G, h1, fun k hk => hf k (h2 k hk), h3.mono (fun k hk => ⟨hf k hk.1, hk.2⟩)⟩
theorem Sep.inside : ∀ {Rs : List Res} {w : World} {F : Nat → Prop}, Sep Rs w F → Sep Rs w (fun k => F k ∧ k < w.heap.size)
  | [], _, _, _ => trivial
  | R :: _, _, _, ⟨G, h1, h2, h3⟩ => ⟨G, h1, fun k hk => ⟨h2 k hk, R.lt h1 k hk⟩, h3.inside.mono (fun k hk => ⟨⟨hk.1.1, hk.2⟩, hk.1.2⟩)⟩
theorem Sep.move_ : ∀ {Rs : List Res} {w w' : World} {F : Nat → Prop}, Sep Rs w F → (∀ k, F k → w'.heap[k]? = w.heap[k]?) → Sep Rs w' F
  | [], _, _, _, _, _ => trivial
  | R :: _, _, _, _, ⟨G, h1, h2, h3⟩, hm => ⟨G, R.move h1 (fun k hk => hm k (h2 k hk)), h2, h3.move_ (fun k hk => hm k hk.1)⟩
theorem Sep.move {Rs : List Res} {w w' : World} {F : Nat → Prop} (h : Sep Rs w F) (hm : ∀ k, F k → k < w.heap.size → w'.heap[k]? = w.heap[k]?) : Sep Rs w' F :=
  (h.inside.move_ (fun k hk => hm k hk.1 hk.2)).mono (fun _ hk => hk.1)
theorem Sep.pick : ∀ {Rs : List Res} (i : Nat) {A : Res} {w : World} {F : Nat → Prop}, Rs[i]? = some A → Sep Rs w F → ∃ G, A.P w G ∧ (∀ k, G k → F k) ∧ Sep (Rs.eraseIdx i) w (fun k => F k ∧ ¬ G k)
  | [], i, _, _, _, hi, _ => by simp at hi
  | R :: Rs, 0, A, w, F, hi, h => by
    have e : R = A := by simpa using hi
    subst e
    exact h
  | R :: Rs, i + 1, A, w, F, hi, ⟨G, h1, h2, h3⟩ => by
    obtain ⟨G', k1, k2, k3⟩ := Sep.pick i (by simpa using hi) h3
    exact ⟨G', k1, fun k hk => (k2 k hk).1, G, h1, fun k hk => ⟨h2 k hk, fun h => (k2 k h).2 hk⟩, k3.mono (fun k hk => ⟨⟨hk.1.1, hk.2⟩, hk.1.2⟩)⟩
theorem Sep.back : ∀ {Rs : List Res} (i : Nat) {A A' : Res} {w : World} {F G : Nat → Prop}, Rs[i]? = some A → A'.P w G → (∀ k, G k → F k) → Sep (Rs.eraseIdx i) w (fun k => F k ∧ ¬ G k) → Sep (Rs.set i A') w F
  | [], i, _, _, _, _, _, hi, _, _, _ => by simp at hi
  | R :: Rs, 0, A, A', w, F, G, hi, h1, h2, h3 => ⟨G, h1, h2, h3⟩
  | R :: Rs, i + 1, A, A', w, F, G, hi, h1, h2, ⟨G', k1, k2, k3⟩ =>
    ⟨G', k1, fun k hk => (k2 k hk).1, Sep.back i (by simpa using hi) h1 (fun k hk => ⟨h2 k hk, fun h => (k2 k h).2 hk⟩) (k3.mono (fun k hk => ⟨⟨hk.1.1, hk.2⟩, hk.1.2⟩))⟩
theorem Sep.append : ∀ {Ns Rs : List Res} {w : World} {F G : Nat → Prop}, Sep Ns w G → Sep Rs w (fun k => F k ∧ ¬ G k) → (∀ k, G k → F k) → Sep (Ns ++ Rs) w F
  | [], _, _, _, _, _, h, _ => h.mono (fun _ hk => hk.1)
  | N :: Ns, Rs, w, F, G, ⟨H, h1, h2, h3⟩, h, hg =>
    ⟨H, h1, fun k hk => hg k (h2 k hk), Sep.append h3 (h.mono (fun k hk => ⟨⟨hk.1, fun h4 => hk.2 (h2 k h4)⟩, fun h4 => hk.2 h4.1⟩)) (fun k hk => ⟨hg k hk.1, hk.2⟩)⟩
theorem Sep.one {R : Res} {w : World} {F : Nat → Prop} (h : R.P w F) : Sep [R] w F := ⟨F, h, fun _ h => h, trivial⟩
structure St (F0 : Nat → Prop) (w0 : World) (Rs : List Res) (w : World) : Prop where
  fr : Fr F0 w0 w
  sep : Sep Rs w (fun k => F0 k ∨ w0.heap.size ≤ k)
section
variable {F0 : Nat → Prop} {w0 w w' : World} {Rs : List Res} {A A' : Res}
theorem St.start (F0 : Nat → Prop) (w : World) (h : Sep Rs w F0) : St F0 w Rs w := ⟨Fr.refl _ _, h.mono (fun _ hk => .inl hk)⟩
theorem St.drew (h : St F0 w0 Rs w) : St F0 w0 Rs w.drew := ⟨h.fr.drew, h.sep.move (fun _ _ _ => rfl)⟩
theorem St.drop_ (h : St F0 w0 (A :: Rs) w) : St F0 w0 Rs w := by
  obtain ⟨f, G, _, _, h3⟩ := h
  exact ⟨f, h3.mono (fun _ hk => hk.1)⟩
theorem St.del (i : Nat) (h : St F0 w0 Rs w) (hi : Rs[i]? = some A) : St F0 w0 (Rs.eraseIdx i) w := by
  obtain ⟨f, hs⟩ := h
  obtain ⟨G, _, _, h3⟩ := Sep.pick i hi hs
  exact ⟨f, h3.mono (fun _ hk => hk.1)⟩
theorem St.weaken (i : Nat) (h : St F0 w0 Rs w) (hi : Rs[i]? = some A) (hA : ∀ G, A.P w G → A'.P w G) : St F0 w0 (Rs.set i A') w := by
  obtain ⟨f, hs⟩ := h
  obtain ⟨G, h1, h2, h3⟩ := Sep.pick i hi hs
  exact ⟨f, Sep.back i hi (hA _ h1) h2 h3⟩
theorem St.get (i : Nat) (h : St F0 w0 Rs w) (hi : Rs[i]? = some A) : ∃ G, A.P w G ∧ (∀ k, G k → F0 k ∨ w0.heap.size ≤ k) := by
  obtain ⟨G, h1, h2, _⟩ := Sep.pick i hi h.sep
  exact ⟨G, h1, h2⟩
theorem St.step (i : Nat) (h : St F0 w0 Rs w) (hi : Rs[i]? = some A) {Ns : List Res}
    (hs : ∀ G, A.P w G → Fr G w w' ∧ Sep (A' :: Ns) w' (fun k => G k ∨ w.heap.size ≤ k)) : St F0 w0 (Ns ++ Rs.set i A') w' := by
  obtain ⟨f, hp⟩ := h
  obtain ⟨G, h1, h2, h3⟩ := Sep.pick i hi hp
  obtain ⟨f2, G2, k1, k2, k3⟩ := hs G h1
  refine ⟨f.trans f2 h2, ?_⟩
  have hle := f.size
  have hR : Sep (Rs.eraseIdx i) w' (fun k => ((F0 k ∨ w0.heap.size ≤ k) ∧ ¬ G k) ∧ k < w.heap.size) := h3.inside.move (fun k hk _ => f2.block k hk.2 hk.1.2)
  refine Sep.append k3 (F := fun k => F0 k ∨ w0.heap.size ≤ k) (Sep.back i hi k1 (fun k hk => ⟨?_, fun hn => hn.2 hk⟩) (hR.mono (fun k hk => ⟨⟨hk.1.1, ?_⟩, ?_⟩))) ?_
  · rcases k2 k hk with h4 | h4
    · exact h2 k h4
    · exact .inr (by omega)
  · rintro ⟨h4 | h4, _⟩
    · exact hk.1.2 h4
    · have := hk.2; omega
  · intro h4
    rcases k2 k h4 with h5 | h5
    · exact hk.1.2 h5
    · have := hk.2; omega
  · rintro k ⟨h4 | h4, _⟩
    · exact h2 k h4
    · exact .inr (by omega)
theorem St.grow (h : St F0 w0 Rs w) {Ns : List Res} (f2 : Fr (fun _ => False) w w') (k3 : Sep Ns w' (fun k => w.heap.size ≤ k)) : St F0 w0 (Ns ++ Rs) w' := by
  obtain ⟨f, hp⟩ := h
  have hle := f.size
  refine ⟨f.trans f2 (fun _ h => h.elim), Sep.append k3 ((hp.inside.move (fun k hk _ => f2.block k hk.2 (fun h => h))).mono (fun k hk => ⟨hk.1, by have := hk.2; omega⟩)) (fun k hk => .inr (by omega))⟩
theorem St.below (h : St (fun _ => False) w0 Rs w) : Below w0.heap.size w0 w := h.fr.below
end
def BlkR (b : Nat) (T : TypeId) (cs : Array Value) : Res where
  P := fun w G => w.heap[b]? = some (.cells cs T (0, 0)) ∧ ∀ k, G k ↔ k = b
  lt := fun h k hk => by
    rw [(h.2 k).1 hk]
    exact (Array.getElem?_eq_some_iff.1 h.1).1
  move := fun h hm => ⟨(hm _ ((h.2 _).2 rfl)).trans h.1, h.2⟩
section
variable {F0 : Nat → Prop} {w0 w w' : World} {Rs : List Res} {b : Nat} {T : TypeId} {cs : Array Value}
theorem heap_at (h : w.heap[b]? = some (.cells cs T (0, 0))) (i : Nat) : w.cell? ⟨b, i, none⟩ = cs[i]? := cell_of_row w b i cs T (0, 0) h
theorem heap_set (h : w.heap[b]? = some (.cells cs T (0, 0))) (i : Nat) (u : Value) : (w.setCell ⟨b, i, none⟩ u).heap[b]? = some (.cells (cs.setIfInBounds i u) T (0, 0)) := by
  simp [World.setCell, Array.getElem?_modify, h]
theorem heap_lt {o : Obj} (h : w.heap[b]? = some o) : b < w.heap.size := (Array.getElem?_eq_some_iff.1 h).1
theorem St.blk (i : Nat) (h : St F0 w0 Rs w) (hi : Rs[i]? = some (BlkR b T cs)) : w.heap[b]? = some (.cells cs T (0, 0)) := by
  obtain ⟨G, h1, _⟩ := h.get i hi
  exact h1.1
theorem St.alloc (h : St F0 w0 Rs w) (cs : Array Value) (T : TypeId) : St F0 w0 (BlkR w.heap.size T cs :: Rs) (w.alloc (.cells cs T)) :=
  h.grow (Ns := [BlkR w.heap.size T cs]) (Fr.of_below ((Below.refl _ _).alloc (Nat.le_refl _) _)) ⟨fun k => k = w.heap.size, ⟨heap_alloc_new w _, fun _ => Iff.rfl⟩, fun k hk => by omega, trivial⟩
theorem St.set (i : Nat) (h : St F0 w0 Rs w) (hi : Rs[i]? = some (BlkR b T cs)) (j : Nat) (u : Value) : St F0 w0 (Rs.set i (BlkR b T (cs.setIfInBounds j u))) (w.setCell ⟨b, j, none⟩ u) := by
  refine h.step i hi (Ns := []) (fun G hG => ⟨?_, G, ⟨heap_set hG.1 j u, hG.2⟩, fun k hk => .inl hk, trivial⟩)
  exact (Fr.refl G w).set (p := ⟨b, j, none⟩) (.inl ((hG.2 b).2 rfl)) u
end
def Post (Q : Value → Res → List Res → Prop) (F : Nat → Prop) (w : World) (e : Ending) (w' : World) : Prop := ∃ v A' Ns, e = .returned v ∧ Q v A' Ns ∧ St F w (A' :: Ns) w'
def Spec (P : Program) (f : FuncId) (args : Array Value) (A : Res) (Q : Value → Res → List Res → Prop) : Prop :=
  ∀ F w, A.P w F → Calls P f args w (Post Q F w)
section
variable {P : Program} {f : FuncId} {args : Array Value} {F0 : Nat → Prop} {w0 w : World} {Rs : List Res} {A : Res}
theorem St.call {Q : Value → Res → List Res → Prop} (i : Nat) (h : St F0 w0 Rs w) (hi : Rs[i]? = some A) (hs : Spec P f args A Q) :
    Calls P f args w fun e w' => ∃ v A' Ns, e = .returned v ∧ Q v A' Ns ∧ St F0 w0 (Ns ++ Rs.set i A') w' := by
  obtain ⟨G0, hG0, hsub⟩ := h.get i hi
  obtain ⟨G, h1, h2, h3⟩ := Sep.pick i hi h.sep
  refine (hs G w h1).mono ?_
  rintro e w' ⟨v, A', Ns, rfl, hq, hst⟩
  refine ⟨v, A', Ns, rfl, hq, ?_⟩
  obtain ⟨f2, G2, k1, k2, k3⟩ := hst
  have f := h.fr
  refine ⟨f.trans f2 h2, ?_⟩
  have hle := f.size
  have hR : Sep (Rs.eraseIdx i) w' (fun k => ((F0 k ∨ w0.heap.size ≤ k) ∧ ¬ G k) ∧ k < w.heap.size) := h3.inside.move (fun k hk _ => f2.block k hk.2 hk.1.2)
  refine Sep.append k3 (F := fun k => F0 k ∨ w0.heap.size ≤ k) (Sep.back i hi k1 (fun k hk => ⟨?_, fun hn => hn.2 hk⟩) (hR.mono (fun k hk => ⟨⟨hk.1.1, ?_⟩, ?_⟩))) ?_
  · rcases k2 k hk with h4 | h4
    · exact h2 k h4
    · exact .inr (by omega)
  · rintro ⟨h4 | h4, _⟩
    · exact hk.1.2 h4
    · have := hk.2; omega
  · intro h4
    rcases k2 k h4 with h5 | h5
    · exact hk.1.2 h5
    · have := hk.2; omega
  · rintro k ⟨h4 | h4, _⟩
    · exact h2 k h4
    · exact .inr (by omega)
end
end Go.Proofs.Ytahjmpipllajcaa.Sl
namespace Go.Proofs.Ytahjmpipllajcaa.Sl
open Go.RowKit
set_option linter.unusedVariables false
def byteCells (l : List UInt8) : List Value := l.map fun b => Value.int .u8 b.toNat
section
variable {P : Program} (w : World)
theorem row_ne {w : World} {e t : TypeId} {size n b : Nat} {v : Value} {xs : List Value} {cs : Array Value} (h : w.ownsRow 0 e size v n xs) (hg : w.heap[b]? = some (.cells cs t (0, 0))) (hne : e ≠ t) : some b ≠ v.ownBlock := by
  rcases h.2 with ⟨rfl, _⟩ | ⟨g', cap, cur, rfl, _, hh, _⟩
  · simp [Value.ownBlock]
  · intro he
    have : b = g' := by simpa [Value.ownBlock] using he
    subst this
    rw [hg] at hh
    injection hh with hh
    injection hh with _ ht
    exact hne ht.symm
theorem row_set {w : World} {e : TypeId} {size n : Nat} {v : Value} {xs : List Value} (h : w.ownsRow 0 e size v n xs) {p : Addr} (hne : some p.block ≠ v.ownBlock) (u : Value) : (w.setCell p u).ownsRow 0 e size v n xs := by
  obtain ⟨h1, h2⟩ := h
  refine ⟨h1, ?_⟩
  rcases h2 with h2 | ⟨g, cap, cur, rfl, hg, hh, r⟩
  · exact .inl h2
  · exact .inr ⟨g, cap, cur, rfl, hg, by rw [Below.heap_setCell _ _ _ _ (fun e => hne (by rw [e]; rfl))]; exact hh, r⟩
theorem row_move {w w' : World} {e : TypeId} {size n : Nat} {v : Value} {xs : List Value} (h : w.ownsRow 0 e size v n xs) (hm : ∀ k, v.ownBlock = some k → w'.heap[k]? = w.heap[k]?) : w'.ownsRow 0 e size v n xs := by
  obtain ⟨h1, h2⟩ := h
  refine ⟨h1, ?_⟩
  rcases h2 with h2 | ⟨g, cap, cur, rfl, hg, hh, r⟩
  · exact .inl h2
  · exact .inr ⟨g, cap, cur, rfl, hg, (hm g rfl).trans hh, r⟩
theorem row_slice {w : World} {e : TypeId} {size n : Nat} {v : Value} {xs : List Value} (h : w.ownsRow 0 e size v n xs) : ∃ a c, v = .slice a n c := by
  rcases h.2 with ⟨rfl, rfl⟩ | ⟨g, cap, cur, rfl, _⟩
  · exact ⟨none, 0, rfl⟩
  · exact ⟨_, cap, rfl⟩
theorem row_lt {w : World} {e : TypeId} {size n : Nat} {v : Value} {xs : List Value} (h : w.ownsRow 0 e size v n xs) : ∀ k, v.ownBlock = some k → k < w.heap.size := fun k hk => (h.lt k hk).2
end
section
variable {P : Program}
end
end Go.Proofs.Ytahjmpipllajcaa.Sl
namespace Go.Proofs.Ytahjmpipllajcaa.Sl
open Go.RowKit
set_option linter.unusedVariables false
def RowR (T : TypeId) (size : Nat) (v : Value) (n : Nat) (xs : List Value) : Res where
  P := fun w G => w.ownsRow 0 T size v n xs ∧ ∀ k, G k ↔ v.ownBlock = some k
  lt := by
    rintro w G ⟨h1, h2⟩ k hk
    exact row_lt h1 k ((h2 k).1 hk)
  move := by
    rintro w w' G ⟨h1, h2⟩ hm
    exact ⟨row_move h1 (fun k hk => hm k ((h2 k).2 hk)), h2⟩
section
variable {F0 : Nat → Prop} {w0 w w1 : World} {Rs : List Res} {T : TypeId} {size n : Nat} {v v1 : Value} {xs ys : List Value}
theorem RowR.row (i : Nat) (h : St F0 w0 Rs w) (hi : Rs[i]? = some (RowR T size v n xs)) : w.ownsRow 0 T size v n xs := (h.get i hi).choose_spec.1.1
theorem RowR.nil (T : TypeId) (size : Nat) (h : St F0 w0 Rs w) : St F0 w0 (RowR T size (.slice none 0 0) 0 [] :: Rs) w :=
  h.grow (Ns := [RowR T size (.slice none 0 0) 0 []]) (Fr.refl _ _) ⟨fun _ => False, ⟨World.ownsRow_nil _ _ _ _, fun k => by simp [Value.ownBlock]⟩, fun _ h => h.elim, trivial⟩
theorem RowR.lit (h : St F0 w0 Rs w) (cs : Array Value) (n : Nat) (hm : n ≤ maxLen) (hs : cs.size = n * size) :
    St F0 w0 (RowR T size (.slice (some ⟨w.heap.size, 0, none⟩) n n) n cs.toList :: Rs) (w.alloc (.cells cs T)) :=
  h.grow (Ns := [RowR T size (.slice (some ⟨w.heap.size, 0, none⟩) n n) n cs.toList]) (Fr.of_below ((Below.refl _ _).alloc (Nat.le_refl _) _))
    ⟨fun k => k = w.heap.size, ⟨World.ownsRow_lit w cs n (Nat.zero_le _) hm hs, fun k => by simp [Value.ownBlock, eq_comm]⟩, fun k hk => by omega, trivial⟩
theorem RowR.grown (i : Nat) (h : St F0 w0 Rs w) (hi : Rs[i]? = some (RowR T size v n xs)) {m : Nat} (ho : w1.ownsRow 0 T size v1 m ys) (hg : w.grownBy w1 v.ownBlock)
    (hat : v1.ownBlock = v.ownBlock ∨ ∃ k, v1.ownBlock = some k ∧ w.heap.size ≤ k) : St F0 w0 (Rs.set i (RowR T size v1 m ys)) w1 := by
  refine h.step i hi (Ns := []) (fun G hG => ⟨Fr.of_grown hg (fun k hk => (hG.2 k).2 hk), fun k => v1.ownBlock = some k, ⟨ho, fun _ => Iff.rfl⟩, fun k hk => ?_, trivial⟩)
  rcases hat with h1 | ⟨k', h1, h2⟩
  · rw [h1] at hk
    exact .inl ((hG.2 k).2 hk)
  · rw [h1] at hk
    injection hk with hk
    subst hk
    exact .inr h2
theorem RowR.set {g c : Nat} (i : Nat) (h : St F0 w0 Rs w) (hi : Rs[i]? = some (RowR T size (.slice (some ⟨g, 0, none⟩) n c) n xs)) (j : Nat) (u : Value) :
    St F0 w0 (Rs.set i (RowR T size (.slice (some ⟨g, 0, none⟩) n c) n (xs.set j u))) (w.setCell ⟨g, j, none⟩ u) := by
  have hr := RowR.row i h hi
  obtain ⟨h1, h2⟩ := hr.stored j u
  exact RowR.grown i h hi h1 h2 (.inl rfl)
theorem RowR.cell {g c : Nat} (i : Nat) (h : St F0 w0 Rs w) (hi : Rs[i]? = some (RowR T size (.slice (some ⟨g, 0, none⟩) n c) n xs)) (j : Nat) (hj : j < n * size) : w.cell? ⟨g, j, none⟩ = xs[j]? ∧ w.frozen? ⟨g, j, none⟩ = false :=
  ⟨(RowR.row i h hi).cellAt j hj, (RowR.row i h hi).frozenAt j⟩
end
end Go.Proofs.Ytahjmpipllajcaa.Sl
namespace Go.Proofs.Ytahjmpipllajcaa.Sl
open Go.RowKit Go.Deep Go.ChangeShapes
set_option linter.unusedVariables false
structure Rd (α : Type) where
  P : World → (Nat → Prop) → List Value → α → Prop
  mono : ∀ {w : World} {S S' : Nat → Prop} {cs : List Value} {a : α}, P w S cs a → (∀ k, S k → S' k) → P w S' cs a
  move : ∀ {w w' : World} {S : Nat → Prop} {cs : List Value} {a : α}, P w S cs a → (∀ k, S k → w'.heap[k]? = w.heap[k]?) → P w' S cs a
theorem Rd.below {α : Type} (E : Rd α) {w w' : World} {cs : List Value} {a : α} (h : E.P w (fun k => k < w.heap.size) cs a) (hb : Fr (fun _ => False) w w') : E.P w' (fun k => k < w.heap.size) cs a :=
  E.move h (fun k hk => hb.block k hk (fun h => h))
def intRd (q : IntKind) : Rd Int where
  P := fun _ _ cs n => cs = [.int q n] ∧ (Lit.int q n).wf = true
  mono := fun h _ => h
  move := fun h _ => h
def rowAt {α : Type} (size : Nat) (E : Rd α) (w : World) (S : Nat → Prop) (a : Addr) (l : List α) : Prop :=
  ∀ i x, l[i]? = some x → ∃ cs, cs.length = size ∧ (∀ j, j < size → w.cell? (a.add (i * size + j)) = cs[j]?) ∧ E.P w S cs x
def sliceRd {α : Type} (size : Nat) (E : Rd α) : Rd (List α) where
  P := fun w S cs l => (cs = [.slice none 0 0] ∧ l = []) ∨ ∃ a cap, cs = [.slice (some a) l.length cap] ∧ l.length ≤ cap ∧ cap ≤ maxLen ∧ (0 < l.length → S a.block) ∧ rowAt size E w S a l
  mono := by
    rintro w S S' cs l (h | ⟨a, cap, h1, h2, h3, h4, h5⟩) hS
    · exact .inl h
    · refine .inr ⟨a, cap, h1, h2, h3, fun h => hS _ (h4 h), fun i x hx => ?_⟩
      obtain ⟨cs, k1, k2, k3⟩ := h5 i x hx
      exact ⟨cs, k1, k2, E.mono k3 hS⟩
  move := by
    rintro w w' S cs l (h | ⟨a, cap, h1, h2, h3, h4, h5⟩) hS
    · exact .inl h
    · refine .inr ⟨a, cap, h1, h2, h3, h4, fun i x hx => ?_⟩
      obtain ⟨cs, k1, k2, k3⟩ := h5 i x hx
      refine ⟨cs, k1, fun j hj => ?_, E.move k3 hS⟩
      rw [← k2 j hj]
      have hb : (a.add (i * size + j)).block = a.block := block_add _ _
      have hl : 0 < l.length := by have := (List.getElem?_eq_some_iff.1 hx).1; omega
      simp only [World.cell?, hb, hS _ (h4 hl)]
theorem spot_none {w : World} {b : Addr} {v : Value} (h : w.cell? b = some v) : b = ⟨b.block, b.off, none⟩ := by
  obtain ⟨g, o, s⟩ := b
  cases s with
  | none => rfl
  | some s =>
    simp only [World.cell?] at h
    split at h <;> simp at h
theorem St.old {w wr : World} {Rs : List Res} {v : Option Value} {p : Addr} (h : St (fun _ => False) w Rs wr) (hb : p.block < w.heap.size) (hc : w.cell? p = v) : wr.cell? p = v := by
  rw [← hc]
  have e := h.fr.block p.block hb (fun h => h)
  simp only [World.cell?, e]
section
variable {H : Type} (enc : TypeId × Value → H) (P : Program)
def Opens {α : Type} (t : TypeId) (E : Rd α) : Prop :=
  ∀ (w : World) (fuel : Nat) (cs : List Value) (x : DataW H × List MemPlace), DataW.trod enc P w 0 (fun _ => true) true fuel t cs = some x → ∃ a, E.P w (fun k => k < w.heap.size) cs a
variable {enc P}
theorem opens_int {t : TypeId} {q : IntKind} (ht : P.underlying t = some (.int q)) : Opens enc P t (intRd q) := by
  intro w fuel cs x h
  obtain ⟨n, rfl, _, hw⟩ := DataW.trod_int ht h
  exact ⟨n, rfl, hw⟩
variable (enc P) in
end
end Go.Proofs.Ytahjmpipllajcaa.Sl
namespace Go.Proofs.Ytahjmpipllajcaa.Sl
open Go.RowKit
set_option linter.unusedVariables false
structure RX where
  P : World → (Nat → Prop) → Prop
  mono : ∀ {w : World} {S S' : Nat → Prop}, P w S → (∀ k, S k → S' k) → P w S'
  move : ∀ {w w' : World} {S : Nat → Prop}, P w S → (∀ k, S k → w'.heap[k]? = w.heap[k]?) → P w' S
def RX.triv : RX := ⟨fun _ _ => True, fun _ _ => trivial, fun _ _ => trivial⟩
def RX.and (X Y : RX) : RX := ⟨fun w S => X.P w S ∧ Y.P w S, fun h k => ⟨X.mono h.1 k, Y.mono h.2 k⟩, fun h k => ⟨X.move h.1 k, Y.move h.2 k⟩⟩
def RX.of {α : Type} (E : Rd α) (cs : List Value) (a : α) : RX := ⟨fun w S => E.P w S cs a, fun h k => E.mono h k, fun h k => E.move h k⟩
def RX.reads (X : RX) (w : World) (F : Nat → Prop) : Prop := ∃ S, X.P w S ∧ ∀ k, S k → ¬ F k ∧ k < w.heap.size
theorem RX.reads_triv (w : World) (F : Nat → Prop) : RX.triv.reads w F := ⟨fun _ => False, trivial, fun _ h => h.elim⟩
theorem RX.reads_and {X Y : RX} {w : World} {F : Nat → Prop} (h : X.reads w F) (k : Y.reads w F) : (X.and Y).reads w F := by
  obtain ⟨S, h1, h2⟩ := h
  obtain ⟨T, k1, k2⟩ := k
  exact ⟨fun k => S k ∨ T k, ⟨X.mono h1 (fun _ h => .inl h), Y.mono k1 (fun _ h => .inr h)⟩, fun k hk => hk.elim (h2 k) (k2 k)⟩
theorem RX.reads_weaken {X : RX} {w : World} {F G : Nat → Prop} (h : X.reads w F) (hg : ∀ k, k < w.heap.size → G k → F k) : X.reads w G := let ⟨S, h1, h2⟩ := h; ⟨S, h1, fun k hk => ⟨fun g => (h2 k hk).1 (hg k (h2 k hk).2 g), (h2 k hk).2⟩⟩
def EmpR : Res where
  P := fun _ G => ∀ k, ¬ G k
  lt := fun h k hk => (h k hk).elim
  move := fun h _ => h
def RdR {α : Type} (E : Rd α) (cs : List Value) (a : α) : Res where
  P := fun w G => E.P w G cs a ∧ ∀ k, G k → k < w.heap.size
  lt := fun h k hk => h.2 k hk
  move := fun {w w'} {G} h hm => ⟨E.move h.1 hm, fun k hk => by
    have h1 := h.2 k hk
    have h2 := hm k hk
    rw [Array.getElem?_eq_getElem h1] at h2
    exact (Array.getElem?_eq_some_iff.1 h2).1⟩
def SpecX (P : Program) (f : FuncId) (args : Array Value) (X : RX) (A : Res) (Q : Value → Res → List Res → Prop) : Prop :=
  ∀ F w, A.P w F → X.reads w F → Calls P f args w (Post Q F w)
section
variable {P : Program} {f : FuncId} {args : Array Value} {F0 : Nat → Prop} {w0 w : World} {Rs : List Res} {A B : Res} {X Y : RX}
theorem SpecX.pure {v : Value} (h : ∀ w, Calls P f args w fun e w' => e = .returned v ∧ w = w') : SpecX P f args X EmpR (fun v' A' N => v' = v ∧ A' = EmpR ∧ N = []) := by
  intro F w hA _
  refine (h w).mono ?_
  rintro e w' ⟨rfl, rfl⟩
  exact ⟨v, EmpR, [], rfl, ⟨rfl, rfl, rfl⟩, Fr.refl _ _, fun _ => False, fun k h => h, fun k h => h.elim, trivial⟩
def Src (F0 : Nat → Prop) (w0 : World) (Rs : List Res) (w : World) (i : Nat) (X : RX) : Prop :=
  ∀ A G, Rs[i]? = some A → A.P w G → (∀ k, G k → F0 k ∨ w0.heap.size ≤ k) → Sep (Rs.eraseIdx i) w (fun k => (F0 k ∨ w0.heap.size ≤ k) ∧ ¬ G k) → X.reads w G
theorem Src.triv (i : Nat) : Src F0 w0 Rs w i .triv := fun _ _ _ _ _ _ => RX.reads_triv _ _
theorem Src.and {i : Nat} (h : Src F0 w0 Rs w i X) (k : Src F0 w0 Rs w i Y) : Src F0 w0 Rs w i (X.and Y) := fun A G h1 h2 h3 h4 => RX.reads_and (h A G h1 h2 h3 h4) (k A G h1 h2 h3 h4)
theorem RX.reads_later (h : St F0 w0 Rs w) (hX : X.reads w0 F0) : ∃ S, X.P w S ∧ ∀ k, S k → ¬ F0 k ∧ k < w0.heap.size := by
  obtain ⟨S, h1, h2⟩ := hX
  exact ⟨S, X.move h1 (fun k hk => h.fr.block k (h2 k hk).2 (h2 k hk).1), h2⟩
theorem Src.old {i : Nat} (h : St F0 w0 Rs w) (hX : X.reads w0 F0) : Src F0 w0 Rs w i X := by
  intro A G _ _ h3 _
  obtain ⟨S, h1, h2⟩ := RX.reads_later h hX
  refine ⟨S, h1, fun k hk => ⟨fun hg => ?_, Nat.lt_of_lt_of_le (h2 k hk).2 h.fr.size⟩⟩
  rcases h3 k hg with h4 | h4
  · exact (h2 k hk).1 h4
  · have := (h2 k hk).2; omega
theorem Src.res {i : Nat} (j : Nat) (hj : (Rs.eraseIdx i)[j]? = some B) (hB : ∀ w G, B.P w G → X.P w G) : Src F0 w0 Rs w i X := by
  intro A G _ _ _ h4
  obtain ⟨G2, k1, k2, _⟩ := Sep.pick j hj h4
  exact ⟨G2, hB w G2 k1, fun k hk => ⟨(k2 k hk).2, B.lt k1 k hk⟩⟩
theorem SrcE.old (h : St F0 w0 Rs w) (hX : X.reads w0 F0) : X.reads w (fun _ => False) := by
  obtain ⟨S, h1, h2⟩ := RX.reads_later h hX
  exact ⟨S, h1, fun k hk => ⟨fun h => h, Nat.lt_of_lt_of_le (h2 k hk).2 h.fr.size⟩⟩
theorem SrcE.res (j : Nat) (h : St F0 w0 Rs w) (hj : Rs[j]? = some B) (hB : ∀ w G, B.P w G → X.P w G) : X.reads w (fun _ => False) := by
  obtain ⟨G, h1, _⟩ := h.get j hj
  exact ⟨G, hB w G h1, fun k hk => ⟨fun h => h, B.lt h1 k hk⟩⟩
theorem St.callX {Q : Value → Res → List Res → Prop} (i : Nat) (h : St F0 w0 Rs w) (hi : Rs[i]? = some A) (hs : SpecX P f args X A Q) (hr : Src F0 w0 Rs w i X) :
    Calls P f args w fun e w' => ∃ v A' Ns, e = .returned v ∧ Q v A' Ns ∧ St F0 w0 (Ns ++ Rs.set i A') w' := by
  obtain ⟨G, h1, h2, h3⟩ := Sep.pick i hi h.sep
  refine (hs G w h1 (hr A G hi h1 h2 h3)).mono ?_
  rintro e w' ⟨v, A', Ns, rfl, hq, hst⟩
  refine ⟨v, A', Ns, rfl, hq, ?_⟩
  obtain ⟨f2, G2, k1, k2, k3⟩ := hst
  have f := h.fr
  refine ⟨f.trans f2 h2, ?_⟩
  have hle := f.size
  have hR : Sep (Rs.eraseIdx i) w' (fun k => ((F0 k ∨ w0.heap.size ≤ k) ∧ ¬ G k) ∧ k < w.heap.size) := h3.inside.move (fun k hk _ => f2.block k hk.2 hk.1.2)
  refine Sep.append k3 (F := fun k => F0 k ∨ w0.heap.size ≤ k) (Sep.back i hi k1 (fun k hk => ⟨?_, fun hn => hn.2 hk⟩) (hR.mono (fun k hk => ⟨⟨hk.1.1, ?_⟩, ?_⟩))) ?_
  · rcases k2 k hk with h4 | h4
    · exact h2 k h4
    · exact .inr (by omega)
  · rintro ⟨h4 | h4, _⟩
    · exact hk.1.2 h4
    · have := hk.2; omega
  · intro h4
    rcases k2 k h4 with h5 | h5
    · exact hk.1.2 h5
    · have := hk.2; omega
  · rintro k ⟨h4 | h4, _⟩
    · exact h2 k h4
    · exact .inr (by omega)
theorem St.emp (h : St F0 w0 Rs w) : St F0 w0 (EmpR :: Rs) w := h.grow (Ns := [EmpR]) (Fr.refl _ _) ⟨fun _ => False, fun _ h => h, fun _ h => h.elim, trivial⟩
theorem St.callE {Q : Value → Res → List Res → Prop} (h : St F0 w0 Rs w) (hs : SpecX P f args X EmpR Q) (hr : X.reads w (fun _ => False)) :
    Calls P f args w fun e w' => ∃ v A' Ns, e = .returned v ∧ Q v A' Ns ∧ St F0 w0 (Ns ++ Rs) w' := by
  have h' : St F0 w0 (EmpR :: Rs) w := h.emp
  refine (h'.callX 0 rfl hs ?_).mono ?_
  · intro A G hA hG _ _
    have e : EmpR = A := by simpa using hA
    subst e
    exact RX.reads_weaken hr (fun k _ hk => (hG k hk).elim)
  · rintro e w' ⟨v, A', Ns, rfl, hq, hst⟩
    refine ⟨v, A', Ns, rfl, hq, ?_⟩
    have := hst.del Ns.length (A := A') (by simp)
    rwa [List.eraseIdx_append_of_length_le (Nat.le_refl _), Nat.sub_self] at this
theorem guard_some {α : Type} {c : Prop} [Decidable c] {T : Option α} {r : α} (h : (if c then T else none) = some r) : c ∧ T = some r := by
  by_cases hc : c
  · rw [if_pos hc] at h; exact ⟨hc, h⟩
  · rw [if_neg hc] at h; cases h
theorem SpecX.start (h : A.P w F0) : St F0 w [A] w := St.start F0 w (Sep.one h)
theorem SpecX.done {Q : Value → Res → List Res → Prop} {v : Value} {Ns Rs' : List Res} (h : St F0 w (A :: Rs') w0) (hq : Q v A Rs') : Post Q F0 w (.returned v) w0 := ⟨v, A, Rs', rfl, hq, h⟩
end
def resv (tmps : Array Value) : ResultVar → Sem Value
  | .tmp t => pure (tmps.getD t undef)
  | .cell a t => do loadVar t (← asAddr (tmps.getD a undef))
section
variable {P : Program} {fn : Func} {tmps : Array Value} {w : World} {r1 r2 r3 : ResultVar} {v1 v2 v3 : Value}
theorem results_eq (fn : Func) (tmps : Array Value) : results fn tmps = (do let vs ← fn.results.mapM (resv tmps); pure (if h : vs.size = 1 then vs[0] else .tuple vs)) := by
  unfold results
  rfl
end
end Go.Proofs.Ytahjmpipllajcaa.Sl
namespace Go.Proofs.Ytahjmpipllajcaa.Sl
open Go.RowKit
set_option linter.unusedVariables false
inductive Lp (R S : Type) where
  | ret (r : R)
  | go (s : S)
section
variable {α : Type}
def elems (size : Nat) (E : Rd α) (w : World) (S : Nat → Prop) : List Value → List α → Prop
  | cs, [] => cs = []
  | cs, x :: xs => (cs.take size).length = size ∧ E.P w S (cs.take size) x ∧ elems size E w S (cs.drop size) xs
variable {size : Nat} {E : Rd α} {w w' : World} {S S' : Nat → Prop}
theorem elems_move : ∀ {xs : List α} {cs : List Value}, elems size E w S cs xs → (∀ k, S k → w'.heap[k]? = w.heap[k]?) → elems size E w' S cs xs
  | [], _, h, _ => h
  | _ :: _, _, ⟨h0, h1, h2⟩, k => ⟨h0, E.move h1 k, elems_move h2 k⟩
theorem elems_length : ∀ {xs : List α} {cs : List Value}, elems size E w S cs xs → cs.length = xs.length * size
  | [], cs, h => by simp [show cs = [] from h]
  | x :: xs, cs, ⟨h0, _, h2⟩ => by
    have h3 := elems_length h2
    rw [List.length_take] at h0
    rw [List.length_drop] at h3
    rw [List.length_cons, Nat.add_mul, Nat.one_mul]
    omega
theorem elems_snoc : ∀ {xs : List α} {cs news : List Value} {x : α}, elems size E w S cs xs → news.length = size → E.P w S news x → elems size E w S (cs ++ news) (xs ++ [x])
  | [], cs, news, x, h, hl, hx => by
    obtain rfl : cs = [] := h
    exact ⟨by simp [hl], by rw [List.nil_append, List.take_of_length_le (by omega)]; exact hx, by rw [List.nil_append, List.drop_of_length_le (by omega)]; exact rfl⟩
  | y :: ys, cs, news, x, ⟨h0, h1, h2⟩, hl, hx => by
    have hle : size ≤ cs.length := by rw [List.length_take] at h0; omega
    refine ⟨?_, ?_, ?_⟩
    · rw [List.take_append_of_le_length hle]; exact h0
    · rw [List.take_append_of_le_length hle]; exact h1
    · rw [List.drop_append_of_le_length hle]; exact elems_snoc h2 hl hx
theorem elems_get : ∀ {xs : List α} {cs : List Value} {i : Nat} {x : α}, elems size E w S cs xs → xs[i]? = some x → ((cs.drop (i * size)).take size).length = size ∧ E.P w S ((cs.drop (i * size)).take size) x
  | [], _, i, _, _, hi => by simp at hi
  | y :: ys, cs, 0, x, ⟨h0, h1, _⟩, hi => by
    obtain rfl : y = x := by simpa using hi
    rw [Nat.zero_mul, List.drop_zero]
    exact ⟨h0, h1⟩
  | y :: ys, cs, i + 1, x, ⟨_, _, h2⟩, hi => by
    have h3 := elems_get (i := i) h2 (by simpa using hi)
    rw [List.drop_drop] at h3
    rwa [show size + i * size = (i + 1) * size by rw [Nat.add_mul]; omega] at h3
def OwnR (T : TypeId) (size : Nat) (E : Rd α) (v : Value) (xs : List α) : Res where
  P := fun w G => ∃ cells S, w.ownsRow 0 T size v xs.length cells ∧ elems size E w S cells xs ∧ (∀ k, S k → k < w.heap.size) ∧ (∀ k, v.ownBlock = some k → ¬ S k) ∧ ∀ k, G k ↔ v.ownBlock = some k ∨ S k
  lt := by
    rintro w G ⟨cells, S, h1, h2, h3, h4, h5⟩ k hk
    rcases (h5 k).1 hk with h | h
    · exact row_lt h1 k h
    · exact h3 k h
  move := by
    rintro w w' G ⟨cells, S, h1, h2, h3, h4, h5⟩ hm
    refine ⟨cells, S, row_move h1 (fun k hk => hm k ((h5 k).2 (.inl hk))), elems_move h2 (fun k hk => hm k ((h5 k).2 (.inr hk))), fun k hk => ?_, h4, h5⟩
    have h6 := h3 k hk
    have h7 := hm k ((h5 k).2 (.inr hk))
    rw [Array.getElem?_eq_getElem h6] at h7
    exact (Array.getElem?_eq_some_iff.1 h7).1
theorem own_reads {T : TypeId} {v : Value} {xs : List α} (hp : 0 < size) : ∀ w G, (OwnR T size E v xs).P w G → (RX.of (sliceRd size E) [v] xs).P w G := by
  rintro w G ⟨cells, S, h1, h2, h3, h4, h5⟩
  have hb := h1
  rcases h1.2 with ⟨rfl, hn⟩ | ⟨g, cap, cur, rfl, hbg, hg, hnc, hcm, hcs, htake⟩
  · exact .inl ⟨rfl, List.eq_nil_of_length_eq_zero hn⟩
  · refine .inr ⟨⟨g, 0, none⟩, cap, rfl, hnc, hcm, fun _ => (h5 g).2 (.inl rfl), fun i x hx => ?_⟩
    obtain ⟨k1, k2⟩ := elems_get h2 hx
    have hi : i < xs.length := (List.getElem?_eq_some_iff.1 hx).1
    refine ⟨_, k1, fun j hj => ?_, E.mono k2 (fun k hk => (h5 k).2 (.inr hk))⟩
    have hadd : (⟨g, 0, none⟩ : Addr).add (i * size + j) = ⟨g, i * size + j, none⟩ := by unfold Addr.add; split <;> simp_all
    have hlt : i * size + j < xs.length * size := by
      have : (i + 1) * size ≤ xs.length * size := Nat.mul_le_mul_right _ (by omega)
      rw [Nat.add_mul] at this
      omega
    rw [hadd, hb.cellAt _ hlt, List.getElem?_take, if_pos hj, List.getElem?_drop]
theorem slice_nil_reads {F : Nat → Prop} : (RX.of (sliceRd size E) [.slice none 0 0] []).reads w F := ⟨fun _ => False, .inl ⟨rfl, rfl⟩, fun _ h => h.elim⟩
theorem Src.nil {F0 : Nat → Prop} {w0 : World} {Rs : List Res} (i : Nat) : Src F0 w0 Rs w i (RX.of (sliceRd size E) [.slice none 0 0] []) := fun _ _ _ _ _ _ => slice_nil_reads
theorem RX.elem {F : Nat → Prop} {A : Option Addr} {n c i : Nat} {l : List α} {x : α} (hp : 0 < size) (h : (RX.of (sliceRd size E) [.slice A n c] l).reads w F) (hx : l[i]? = some x) :
    ∃ g o : Nat, A = some ⟨g, o, none⟩ ∧ ∃ cs, cs.length = size ∧ (∀ j, j < size → w.cell? ⟨g, o + i * size + j, none⟩ = cs[j]?) ∧ (¬ F g ∧ g < w.heap.size) ∧ (RX.of E cs x).reads w F := by
  obtain ⟨S, h, hS⟩ := h
  rcases h with ⟨h, rfl⟩ | ⟨a, cap, h, _, _, hb, h2⟩
  · simp at hx
  · injection h with h
    injection h with h3 h4 h5
    subst h3
    have hl : 0 < l.length := by have := (List.getElem?_eq_some_iff.1 hx).1; omega
    obtain ⟨cs0, k1, k2, _⟩ := h2 0 l[0] (List.getElem?_eq_getElem hl)
    have k3 := k2 0 hp
    rw [List.getElem?_eq_getElem (by omega)] at k3
    have k4 : a.add (0 * size + 0) = a := by simp [Addr.add]
    rw [k4] at k3
    have k5 := spot_none k3
    obtain ⟨cs, k6, k7, k8⟩ := h2 i x hx
    refine ⟨a.block, a.off, by rw [← k5], cs, k6, fun j hj => ?_, hS _ (hb hl), S, k8, hS⟩
    rw [← k7 j hj, k5, WideShapes.add_plain, Nat.add_assoc]
theorem RX.len_le {F : Nat → Prop} {A : Option Addr} {n c : Nat} {l : List α} (h : (RX.of (sliceRd size E) [.slice A n c] l).reads w F) : l.length ≤ 9223372036854775807 := by
  obtain ⟨S, h, hS⟩ := h
  rcases h with ⟨h, rfl⟩ | ⟨a, cap, h, h1, h2, _⟩
  · simp
  · have : maxLen = 9223372036854775807 := rfl
    omega
theorem St.old2 {F0 : Nat → Prop} {w wr : World} {Rs : List Res} {v : Option Value} {g o : Nat} (h : St F0 w Rs wr) (hb : ¬ F0 g ∧ g < w.heap.size) (hc : w.cell? ⟨g, o, none⟩ = v) : wr.cell? ⟨g, o, none⟩ = v := by
  rw [← hc]
  have e := h.fr.block g hb.2 hb.1
  simp only [World.cell?, e]
theorem drop_cons {l : List α} {k : Nat} {x : α} (h : l[k]? = some x) : l.drop k = x :: l.drop (k + 1) := by
  obtain ⟨hk, rfl⟩ := List.getElem?_eq_some_iff.1 h
  exact List.drop_eq_getElem_cons hk
theorem RdR.nil {F0 : Nat → Prop} {w0 : World} {Rs : List Res} (size : Nat) (E : Rd α) (h : St F0 w0 Rs w) : St F0 w0 (RdR (sliceRd size E) [.slice none 0 0] [] :: Rs) w :=
  h.grow (Ns := [RdR (sliceRd size E) [.slice none 0 0] []]) (Fr.refl _ _) ⟨fun _ => False, ⟨.inl ⟨rfl, rfl⟩, fun _ h => h.elim⟩, fun _ h => h.elim, trivial⟩
section
variable {F0 : Nat → Prop} {w0 w1 : World} {Rs : List Res} {T : TypeId} {v v1 : Value} {xs : List α} {B : Res}
theorem OwnR.nil (T : TypeId) (size : Nat) (E : Rd α) (h : St F0 w0 Rs w) : St F0 w0 (OwnR T size E (.slice none 0 0) [] :: Rs) w :=
  h.grow (Ns := [OwnR T size E (.slice none 0 0) []]) (Fr.refl _ _) ⟨fun _ => False, ⟨[], fun _ => False, World.ownsRow_nil _ _ _ _, rfl, fun _ h => h.elim, fun _ _ h => h, fun k => by simp [Value.ownBlock]⟩, fun _ h => h.elim, trivial⟩
theorem OwnR.lit (E : Rd α) (h : St F0 w0 Rs w) (cs : Array Value) (xs : List α) (hm : xs.length ≤ maxLen) (he : elems size E (w.alloc (.cells cs T)) (fun _ => False) cs.toList xs) :
    St F0 w0 (OwnR T size E (.slice (some ⟨w.heap.size, 0, none⟩) xs.length xs.length) xs :: Rs) (w.alloc (.cells cs T)) :=
  h.grow (Ns := [OwnR T size E (.slice (some ⟨w.heap.size, 0, none⟩) xs.length xs.length) xs]) (Fr.of_below ((Below.refl _ _).alloc (Nat.le_refl _) _))
    ⟨fun k => k = w.heap.size, ⟨cs.toList, fun _ => False, World.ownsRow_lit w cs xs.length (Nat.zero_le _) hm (by have := elems_length he; simpa using this), he, fun _ h => h.elim, fun _ _ h => h, fun k => by simp [Value.ownBlock, eq_comm]⟩, fun k hk => by omega, trivial⟩
theorem OwnR.open_ (i : Nat) (h : St F0 w0 Rs w) (hi : Rs[i]? = some (OwnR T size E v xs)) :
    ∃ cells, w.ownsRow 0 T size v xs.length cells ∧ ∀ v1 w1 news x, w1.ownsRow 0 T size v1 (xs.length + 1) (cells ++ news) → w.grownBy w1 v.ownBlock → (v1.ownBlock = v.ownBlock ∨ ∃ k, v1.ownBlock = some k ∧ w.heap.size ≤ k) → news.length = size →
      (∀ w S, E.P w S news x) → St F0 w0 (Rs.set i (OwnR T size E v1 (xs ++ [x]))) w1 := by
  obtain ⟨f, hs⟩ := h
  obtain ⟨G, ⟨cells, S, h1, h2, h3, h4, h5⟩, hG, hr⟩ := Sep.pick i hi hs
  refine ⟨cells, h1, fun v1 w1 news x ho hg hat hl hx => ?_⟩
  have hst : St F0 w0 Rs w := ⟨f, hs⟩
  have hne : ∀ k, S k → k < w.heap.size ∧ some k ≠ v.ownBlock := fun k hk => ⟨h3 k hk, fun e => h4 k e.symm hk⟩
  have hS1 : elems size E w1 S cells xs := elems_move h2 (fun k hk => hg.block k (hne k hk).1 (hne k hk).2)
  have hle := hg.size
  have f2 : Fr G w w1 := Fr.of_grown hg (fun k hk => (h5 k).2 (.inl hk))
  refine ⟨f.trans f2 hG, ?_⟩
  have hfs := f.size
  have hR : Sep (Rs.eraseIdx i) w1 (fun k => ((F0 k ∨ w0.heap.size ≤ k) ∧ ¬ G k) ∧ k < w.heap.size) := hr.inside.move (fun k hk _ => f2.block k hk.2 hk.1.2)
  refine Sep.back (G := fun k => v1.ownBlock = some k ∨ S k) i hi ⟨cells ++ news, S, ?_, elems_snoc hS1 hl (hx _ _), fun k hk => Nat.lt_of_lt_of_le (h3 k hk) hle, ?_, fun _ => Iff.rfl⟩ ?_ (hR.mono (fun k hk => ⟨hk.1.1, ?_⟩))
  · rw [List.length_append]; exact ho
  · intro k hk
    rcases hat with e | ⟨k', e, hk'⟩
    · rw [e] at hk; exact h4 k hk
    · rw [e] at hk
      injection hk with hk
      subst hk
      intro hs'
      have := h3 _ hs'
      omega
  · rintro k (hk | hk)
    · rcases hat with e | ⟨k', e, hk'⟩
      · rw [e] at hk; exact hG k ((h5 k).2 (.inl hk))
      · rw [e] at hk
        injection hk with hk
        subst hk
        exact .inr (by omega)
    · exact hG k ((h5 k).2 (.inr hk))
  · rintro (h6 | h6)
    · rcases hat with e | ⟨k', e, hk'⟩
      · rw [e] at h6; exact hk.1.2 ((h5 k).2 (.inl h6))
      · rw [e] at h6
        injection h6 with h6
        subst h6
        have := hk.2
        omega
    · exact hk.1.2 ((h5 k).2 (.inr h6))
end
end
section
variable {P : Program} (w : World)
end
end Go.Proofs.Ytahjmpipllajcaa.Sl
namespace Go.Proofs.Ytahjmpipllajcaa.Sl
open Go.RowKit
set_option linter.unusedVariables false
abbrev Env := List (Nat × Value)
def Env.get : Env → Nat → Option Value
  | [], _ => none
  | (k, v) :: e, t => match Nat.beq k t with | true => some v | false => Env.get e t
def Env.ev (e : Env) : Operand → Option Value
  | .tmp t => e.get t
  | .const v => some v
  | .func f => some (.func (.func f) #[] #[])
  | .global g => some (.pointer (some ⟨g, 0, none⟩))
def Env.evs (e : Env) : List Operand → Option (List Value)
  | [] => some []
  | x :: xs => match e.ev x with
    | some v => match Env.evs e xs with
      | some vs => some (v :: vs)
      | none => none
    | none => none
structure Has (n : Nat) (e : Env) (a : Act) : Prop where
  df : a.defers = []
  sz : a.tmps.size = n
  at_ : ∀ t v, e.get t = some v → a.tmps[t]? = some v
section
variable {n : Nat} {e e' : Env} {a : Act} {v : Value} {vs : List Value} {x : Operand} {xs : List Operand} {d : Nat}
theorem Has.put (h : Has n e a) (hd : Nat.blt d n = true) : Has n ((d, v) :: e) (a.put (some d) v) := by
  have hd' : d < n := by simpa [Nat.blt_eq] using hd
  refine ⟨h.df, by simp [Act.put, h.sz], fun t u hu => ?_⟩
  simp only [Env.get] at hu
  cases hb : Nat.beq d t with
  | true =>
    rw [hb] at hu
    obtain rfl := Nat.eq_of_beq_eq_true hb
    injection hu with hu
    subst hu
    simp [Act.put, h.sz, hd']
  | false =>
    rw [hb] at hu
    have hne : d ≠ t := Nat.ne_of_beq_eq_false hb
    have h2 := h.at_ t u hu
    simp only [Act.put]
    rw [Array.getElem?_setIfInBounds_ne hne]
    exact h2
theorem Has.put0 (h : Has n e a) : Has n e (a.put none v) := h
theorem Has.ev (h : Has n e a) (hx : e.ev x = some v) : a.eval x = v := by
  cases x with
  | tmp t =>
    have := h.at_ t v hx
    simp [Act.eval, this]
  | const u => simpa [Env.ev, Act.eval] using hx
  | func f => simpa [Env.ev, Act.eval] using hx
  | global g => simpa [Env.ev, Act.eval] using hx
theorem Has.evs (h : Has n e a) : ∀ {xs : List Operand} {vs : List Value}, e.evs xs = some vs → xs.map a.eval = vs
  | [], vs, hx => by simpa [Env.evs] using hx
  | x :: xs, vs, hx => by
    simp only [Env.evs] at hx
    cases h1 : e.ev x with
    | none => rw [h1] at hx; cases hx
    | some u =>
      cases h2 : e.evs xs with
      | none => rw [h1, h2] at hx; cases hx
      | some us =>
        rw [h1, h2] at hx
        injection hx with hx
        subst hx
        simp [h.ev h1, h.evs h2]
theorem Has.sub (h : Has n e a) (hs : ∀ t v, Env.get e' t = some v → e.get t = some v) : Has n e' a := ⟨h.df, h.sz, fun t v hv => h.at_ t v (hs t v hv)⟩
end
def Env.gets (e : Env) : List Nat → Option (List Value)
  | [] => some []
  | t :: ts => match e.get t with
    | some v => match Env.gets e ts with
      | some vs => some (v :: vs)
      | none => none
    | none => none
def Env.ks : Env → List Nat
  | [] => []
  | (t, _) :: r => t :: Env.ks r
def Env.vs : Env → List Value
  | [] => []
  | (_, v) :: r => v :: Env.vs r
def Sub (e' e : Env) : Prop := e.gets e'.ks = some e'.vs
theorem Sub.get : ∀ {e' e : Env}, Sub e' e → ∀ t v, Env.get e' t = some v → e.get t = some v
  | [], _, _, t, v, h => by simp [Env.get] at h
  | (k, u) :: r, e, hs, t, v, h => by
    simp only [Sub, Env.ks, Env.vs, Env.gets] at hs
    cases h1 : e.get k with
    | none => rw [h1] at hs; cases hs
    | some u' =>
      cases h2 : e.gets (Env.ks r) with
      | none => rw [h1, h2] at hs; cases hs
      | some us =>
        rw [h1, h2] at hs
        injection hs with hs
        injection hs with hs1 hs2
        subst hs1 hs2
        simp only [Env.get] at h
        cases hb : Nat.beq k t with
        | true =>
          rw [hb] at h
          obtain rfl := Nat.eq_of_beq_eq_true hb
          injection h with h
          subst h
          exact h1
        | false =>
          rw [hb] at h
          exact Sub.get (e' := r) h2 t v h
def selR : List Res → List Nat → Option (List Res)
  | _, [] => some []
  | Rs, i :: is => match Rs[i]? with
    | some A => match selR (Rs.eraseIdx i) is with
      | some l => some (A :: l)
      | none => none
    | none => none
def Sel (Rs : List Res) (is : List Nat) (l : List Res) : Prop := selR Rs is = some l
theorem Sel.sep : ∀ {is : List Nat} {Rs l : List Res} {w : World} {F : Nat → Prop}, Sel Rs is l → Sep Rs w F → Sep l w F
  | [], Rs, l, w, F, h, hs => by
    injection h with h
    subst h
    exact trivial
  | i :: is, Rs, l, w, F, h, hs => by
    simp only [Sel, selR] at h
    cases h1 : Rs[i]? with
    | none => rw [h1] at h; cases h
    | some A =>
      cases h2 : selR (Rs.eraseIdx i) is with
      | none => rw [h1, h2] at h; cases h
      | some l' =>
        rw [h1, h2] at h
        injection h with h
        subst h
        obtain ⟨G, k1, k2, k3⟩ := Sep.pick i h1 hs
        exact ⟨G, k1, k2, Sel.sep h2 k3⟩
theorem St.sel {F0 : Nat → Prop} {w0 w : World} {Rs l : List Res} (is : List Nat) (h : St F0 w0 Rs w) (hl : Sel Rs is l) : St F0 w0 l w := ⟨h.fr, hl.sep h.sep⟩
section
variable (P : Program) (n : Nat) (F0 : Nat → Prop) (w0 : World)
def Ex (e : Env) (S : World → Prop) (o : Oper) (v : Value) : Prop := ∀ a w, Has n e a → S w → (execOp a.eval o).run P w = .ok (.value v) w
def T (e : Env) (Rs : List Res) (c : Code) (Q : Exit → Act → World → Prop) : Prop := ∀ a w, Has n e a → St F0 w0 Rs w → c.wp P Q a w
def X (e : Env) (Rs : List Res) (x : Exit) (Q : Exit → Act → World → Prop) : Prop := ∀ a w, Has n e a → St F0 w0 Rs w → Q x a w
def TL (ops : Array Oper) (l : List Nat) (e : Env) (Rs : List Res) (Q : Exit → Act → World → Prop) : Prop := ∀ a w, Has n e a → St F0 w0 Rs w → wpOps P ops Q l a w
def Ef (e : Env) (Rs : List Res) (o : Oper) (R : Env → List Res → Prop) : Prop :=
  ∀ a w K Q, Has n e a → St F0 w0 Rs w → (∀ e' Rs', R e' Rs' → ∀ a' w', Has n e' a' → St F0 w0 Rs' w' → K a' w') → o.wp P a w K Q
def Wd (ops : Array Oper) (e : Env) (o : Oper) (b : Bool) : Prop := ∀ a, Has n e a → Region.wanted o (yielded ops a.tmps) = b
end
section
variable {P : Program} {n : Nat} {F0 : Nat → Prop} {w0 : World} {e e' : Env} {Rs Rs' : List Res} {Q : Exit → Act → World → Prop} {ops : Array Oper} {o : Oper} {v : Value} {l : List Nat}
theorem Wd.u {d : Option Tmp} {op : Op} {ty : TypeId} {pos : String} {af : Array Edge} : Wd n ops e ⟨d, op, ty, pos, af, none⟩ true := fun _ _ => rfl
theorem Wd.g {d : Option Tmp} {op : Op} {ty : TypeId} {pos : String} {af : Array Edge} {j t : Nat} {b want : Bool} (hj : (ops[j]?).bind (·.dst) = some t) (hv : e.get t = some (.bool b)) (hb : b = want) :
    Wd n ops e ⟨d, op, ty, pos, af, some (j, want)⟩ true := by
  intro a h
  subst hb
  simp only [Region.wanted, yielded, hj, Option.bind_some, h.at_ t _ hv, beq_self_eq_true]
theorem Wd.gn {d : Option Tmp} {op : Op} {ty : TypeId} {pos : String} {af : Array Edge} {j t : Nat} {b want : Bool} (hj : (ops[j]?).bind (·.dst) = some t) (hv : e.get t = some (.bool b)) (hb : b = !want) :
    Wd n ops e ⟨d, op, ty, pos, af, some (j, want)⟩ false := by
  intro a h
  subst hb
  simp only [Region.wanted, yielded, hj, Option.bind_some, h.at_ t _ hv]
  cases want <;> rfl
theorem wp_of_ex {o : Oper} {v : Value} {a : Act} {w : World} {K : Act → World → Prop} {S : World → Prop} (hx : Ex P n e S o v) (ha : Has n e a) (hw : S w) (hk : K (a.put o.dst v) w) : o.wp P a w K Q := by
  unfold Oper.wp
  rw [hx a w ha hw]
  exact hk
theorem TL.nil (h : X n F0 w0 e Rs .normal Q) : TL P n F0 w0 ops [] e Rs Q := fun a w ha hw => h a w ha hw
theorem TL.q {i d : Nat} {op : Op} {ty : TypeId} {pos : String} {af : Array Edge} {g : Option (Nat × Bool)} (ho : ops[i]? = some ⟨some d, op, ty, pos, af, g⟩) (hw : Wd n ops e ⟨some d, op, ty, pos, af, g⟩ true)
    (hx : Ex P n e (St F0 w0 Rs) ⟨some d, op, ty, pos, af, g⟩ v) (hd : Nat.blt d n = true) (h : TL P n F0 w0 ops l ((d, v) :: e) Rs Q) : TL P n F0 w0 ops (i :: l) e Rs Q := by
  intro a w ha hs
  rw [wpOps_cons, wpOp, ho]
  simp only [hw a ha, if_true]
  exact .inl (wp_of_ex hx ha hs (h _ _ (ha.put hd) hs))
theorem TL.no {i d : Nat} {op : Op} {ty : TypeId} {pos : String} {af : Array Edge} {g : Option (Nat × Bool)} (ho : ops[i]? = some ⟨some d, op, ty, pos, af, g⟩) (hw : Wd n ops e ⟨some d, op, ty, pos, af, g⟩ false)
    (hd : Nat.blt d n = true) (h : TL P n F0 w0 ops l ((d, undef) :: e) Rs Q) : TL P n F0 w0 ops (i :: l) e Rs Q := by
  intro a w ha hs
  rw [wpOps_cons, wpOp, ho]
  simp only [hw a ha]
  exact h _ _ (ha.put hd) hs
theorem TL.ef {i : Nat} {R : Env → List Res → Prop} (ho : ops[i]? = some o) (hw : Wd n ops e o true) (hx : Ef P n F0 w0 e Rs o R) (h : ∀ e' Rs', R e' Rs' → TL P n F0 w0 ops l e' Rs' Q) : TL P n F0 w0 ops (i :: l) e Rs Q := by
  intro a w ha hs
  rw [wpOps_cons, wpOp, ho]
  simp only [hw a ha, if_true]
  exact .inl (hx a w _ _ ha hs (fun e' Rs' hr a' w' ha' hs' => h e' Rs' hr a' w' ha' hs'))
theorem T.region {id : Nat} {os : List Oper} (hl : List.range os.toArray.size = l) (h : TL P n F0 w0 os.toArray l e Rs Q) : T P n F0 w0 e Rs (.region id os.toArray false) Q := fun a w ha hs => wp_region (hl ▸ h a w ha hs)
theorem T.seq {x y : Code} (h : T P n F0 w0 e Rs x (Exit.then (y.wp P Q) Q)) : T P n F0 w0 e Rs (.seq x y) Q := fun a w ha hs => wp_seq (h a w ha hs)
theorem T.skip (h : X n F0 w0 e Rs .normal Q) : T P n F0 w0 e Rs .skip Q := fun a w ha hs => wp_skip (h a w ha hs)
theorem T.ret (h : X n F0 w0 e Rs .ret Q) : T P n F0 w0 e Rs .ret Q := fun a w ha hs => wp_ret (h a w ha hs)
theorem T.exit {i : Nat} (h : X n F0 w0 e Rs (.exit i) Q) : T P n F0 w0 e Rs (.exit i) Q := fun a w ha hs => wp_exit (h a w ha hs)
theorem T.goto {i : Nat} (h : X n F0 w0 e Rs (.goto i) Q) : T P n F0 w0 e Rs (.goto i) Q := fun a w ha hs => wp_goto (h a w ha hs)
theorem T.yes {c : Operand} {x y : Code} {b : Bool} (hc : e.ev c = some (.bool b)) (hb : b = true) (h : T P n F0 w0 e Rs x Q) : T P n F0 w0 e Rs (.cond c x y) Q := fun a w ha hs => wp_cond_true (by rw [ha.ev hc, hb]) (h a w ha hs)
theorem T.no {c : Operand} {x y : Code} {b : Bool} (hc : e.ev c = some (.bool b)) (hb : b = false) (h : T P n F0 w0 e Rs y Q) : T P n F0 w0 e Rs (.cond c x y) Q := fun a w ha hs => wp_cond_false (by rw [ha.ev hc, hb]) (h a w ha hs)
theorem T.block {id : Nat} {c : Code} (h : T P n F0 w0 e Rs c (Exit.inBlock id Q)) : T P n F0 w0 e Rs (.block id c) Q := fun a w ha hs => wp_block (h a w ha hs)
theorem T.loop {c : Code} (I : Nat → Env → List Res → Prop) (m : Nat) (h0 : I m e Rs) (h : ∀ m e Rs, I m e Rs → T P n F0 w0 e Rs c (Exit.then (fun a w => ∃ m' e' Rs', m' < m ∧ I m' e' Rs' ∧ Has n e' a ∧ St F0 w0 Rs' w) Q)) : T P n F0 w0 e Rs (.loop c) Q := by
  intro a w ha hs b k cs
  have key : ∀ m e Rs a w, I m e Rs → Has n e a → St F0 w0 Rs w → ∃ x a' w', Q x a' w' ∧ Arrives P (lone (b.at a (.code c :: .inLoop c :: k)) cs w) b k cs x a' w' := by
    intro m
    induction m using Nat.strongRecOn with
    | _ m ih =>
      intro e Rs a w hI ha hs
      obtain ⟨x, a₁, w₁, hq, harr⟩ := h m e Rs hI a w ha hs b (.inLoop c :: k) cs
      cases x with
      | normal =>
        obtain ⟨m', e', Rs', hlt, hI', ha', hs'⟩ := hq
        obtain ⟨x₂, a₂, w₂, hq₂, harr₂⟩ := ih m' hlt e' Rs' a₁ w₁ hI' ha' hs'
        exact ⟨x₂, a₂, w₂, hq₂, .of_steps (Steps.trans harr (.one step_inLoop)) harr₂⟩
      | exit id => exact ⟨_, a₁, w₁, hq, .pass (x := .inLoop c) rfl (fun _ _ => .inl (by simp)) harr⟩
      | goto l => exact ⟨_, a₁, w₁, hq, .pass (x := .inLoop c) rfl (fun _ _ => .inl (by simp)) harr⟩
      | ret => exact ⟨_, a₁, w₁, hq, .pass (x := .inLoop c) rfl (fun _ _ => .inl (by simp)) harr⟩
      | panic ch => exact ⟨_, a₁, w₁, hq, .pass (x := .inLoop c) rfl (fun _ _ => .inl (by simp)) harr⟩
      | outgrown => exact ⟨_, a₁, w₁, hq, .pass (x := .inLoop c) rfl (fun _ _ => .inl (by simp)) harr⟩
  obtain ⟨x, a', w', hq, harr⟩ := key m e Rs a w h0 ha hs
  exact ⟨x, a', w', hq, .of_steps (.one step_loop) harr⟩
theorem T.lp {c : Code} (I : Nat → Env → List Res → Prop) (m : Nat) {e0 : Env} {Rs0 : List Res} (is : List Nat) (h0 : I m e0 Rs0) (he : Sub e0 e) (hr : Sel Rs is Rs0) (h : ∀ m e Rs, I m e Rs → T P n F0 w0 e Rs c (Exit.then (fun a w => ∃ m' e' Rs', m' < m ∧ I m' e' Rs' ∧ Has n e' a ∧ St F0 w0 Rs' w) Q)) : T P n F0 w0 e Rs (.loop c) Q :=
  fun a w ha hs => T.loop I m h0 h a w (ha.sub he.get) (hs.sel is hr)
end
end Go.Proofs.Ytahjmpipllajcaa.Sl
namespace Go.Proofs.Ytahjmpipllajcaa.Sl
open Go.RowKit
set_option linter.unusedVariables false
def NoP (Q : Exit → Act → World → Prop) : Prop := ∀ c a w, ¬ Q (.panic c) a w
def waitsL (ops : Array Oper) (i : Nat) : List Nat → List Nat → List Nat
  | [], D => D
  | j :: js, D => waitsL ops i js (match ops[j]? with
    | some o => if o.after.any (fun e => Region.binds .any e && (Nat.beq e.on i || D.contains e.on)) then j :: D else D
    | none => D)
def waits (ops : Array Oper) (i : Nat) : List Nat := waitsL ops i (List.range ops.size) []
def freeT (ops : Array Oper) (listed : Array Bool) (i : Nat) : Bool :=
  match ops[i]? with
  | none => false
  | some oi => (waits ops i).all (fun j => !listed.getD j true && match ops[j]? with | some o => o.after.any (fun e => Region.binds .any e && (Nat.beq e.on i || (waits ops i).contains e.on)) | none => false) &&
    (List.range ops.size).all fun j => j == i || listed.getD j true || (waits ops i).contains j || match ops[j]? with
      | some oj => oi.apart ops oj
      | none => true
inductive Sch where
  | nil
  | q (i : Nat) (s : Sch)
  | e (i : Nat) (s : Sch)
  | br (i : Nat) (s m : Sch)
def Sch.heads : Sch → List Nat
  | .e i _ => [i]
  | .br i _ m => i :: m.heads
  | _ => []
def schedB (ops : Array Oper) : Bool → Nat → Sch → Array Bool → Bool
  | alt, k, .nil, listed => !alt && (k == 0) && (Region.ready .any ops listed).isEmpty
  | alt, 0, _, _ => false
  | alt, k + 1, .q i s, listed => !alt && (Region.ready .any ops listed).contains i && freeT ops listed i && schedB ops false k s (listed.setIfInBounds i true)
  | alt, k + 1, .e i s, listed => (alt || Region.ready .any ops listed == [i]) && schedB ops false k s (listed.setIfInBounds i true)
  | alt, k + 1, .br i s m, listed => (alt || Region.ready .any ops listed == i :: m.heads) && schedB ops false k s (listed.setIfInBounds i true) && schedB ops true (k + 1) m listed
def drawB (ops : Array Oper) (ord : Sch) : Bool := Region.noSelect ops && schedB ops false ops.size ord (Array.replicate ops.size false)
section
variable {P : Program} {ops : Array Oper} {Q : Exit → Act → World → Prop} {S : World → Prop}
theorem wpAnyH_firstT {i : Nat} {oi : Oper} {v : Value} (D : Nat → Prop) (hi : ops[i]? = some oi) (hsel : ∀ (j : Nat) (o : Oper) cs b, ops[j]? = some o → o.op ≠ .select cs b)
    (hQ : ∀ c a w, Q (.panic c) (a.put oi.dst v) w → Q (.panic c) a w) (hD : ∀ j oj, ops[j]? = some oj → D j → ∃ e ∈ oj.after, Region.binds .any e = true ∧ (e.on = i ∨ D e.on)) :
    ∀ (fuel : Nat) (listed : Array Bool) (a : Act) (w : World), (∀ j, D j → listed.getD j true = false) →
      (∀ j oj, ops[j]? = some oj → j ≠ i → listed.getD j true = false → ¬ D j → oi.apart ops oj = true) →
      i ∈ Region.ready .any ops listed → YieldsIf P ops S oi v a → S w →
      wpAnyH P .any ops Q S fuel (listed.setIfInBounds i true) (a.put oi.dst v) w → wpAnyH P .any ops Q S (fuel + 1) listed a w := by
  intro fuel
  induction fuel with
  | zero =>
    intro listed a w _ _ hr hy hS H
    refine ⟨fun h => (by rw [h] at hr; cases hr), fun j hj => ?_⟩
    by_cases hji : j = i
    · subst hji; exact hy.wpOp hi hS ⟨hS, H⟩
    · have := ready_mono hj hji
      rw [H.1] at this
      cases this
  | succ fuel ih =>
    intro listed a w hun hfree hr hy hS H
    refine ⟨fun h => (by rw [h] at hr; cases hr), fun j hj => ?_⟩
    by_cases hji : j = i
    · subst hji; exact hy.wpOp hi hS ⟨hS, H⟩
    · have h1 := H.2 j (ready_mono hj hji)
      obtain ⟨hjun, oj, hoj, hall⟩ := mem_ready.1 hj
      have hiun := (mem_ready.1 hr).1
      have hnot : ¬ D j := fun hd => by
        obtain ⟨e, he, hb, h2⟩ := hD j oj hoj hd
        have h3 := hall e he hb
        rcases h2 with h2 | h2
        · rw [h2] at h3
          rcases Nat.lt_or_ge i listed.size with h' | h'
          · simp [h'] at hiun h3; rw [hiun] at h3; cases h3
          · simp [Array.getElem?_eq_none h'] at h3
        · have h4 := hun _ h2
          rcases Nat.lt_or_ge e.on listed.size with h' | h'
          · simp [h'] at h4 h3; rw [h4] at h3; cases h3
          · simp [Array.getElem?_eq_none h'] at h4
      have h2 := wpOp_putIf hoj (hfree j oj hoj hji hjun hnot) (fun cs b => hsel i oi cs b hi) (fun cs b => hsel j oj cs b hoj) hQ hy h1
      have hun' : ∀ k, D k → (listed.setIfInBounds j true).getD k true = false := fun k hk => by
        have hjk : j ≠ k := fun e => hnot (e ▸ hk)
        rw [getD_set_ne true hjk]
        exact hun k hk
      have hfree' : ∀ k ok, ops[k]? = some ok → k ≠ i → (listed.setIfInBounds j true).getD k true = false → ¬ D k → oi.apart ops ok = true := fun k ok hk hki hu hno => by
        refine hfree k ok hk hki ?_ hno
        by_cases hjk : j = k
        · subst hjk; exact hjun
        · rw [getD_set_ne true hjk] at hu; exact hu
      refine wpOp_mono (fun a' w' h3 => ⟨h3.2.1, ih (listed.setIfInBounds j true) a' w' hun' hfree' (ready_mono hr (Ne.symm hji)) h3.1 h3.2.1 ?_⟩) h2
      rw [Array.setIfInBounds_comm _ _ hji]
      exact h3.2.2
theorem wpAnyH_takeT {i : Nat} {oi : Oper} {v : Value} {fuel : Nat} {listed : Array Bool} {a : Act} {w : World} (hi : ops[i]? = some oi)
    (hs : Region.noSelect ops = true) (hf : freeT ops listed i = true) (hr : (Region.ready .any ops listed).contains i = true)
    (hQ : ∀ c a w, Q (.panic c) (a.put oi.dst v) w → Q (.panic c) a w) (hy : YieldsIf P ops S oi v a) (hS : S w)
    (h : wpAnyH P .any ops Q S fuel (listed.setIfInBounds i true) (a.put oi.dst v) w) : wpAnyH P .any ops Q S (fuel + 1) listed a w := by
  simp only [freeT, hi, Bool.and_eq_true, List.all_eq_true] at hf
  obtain ⟨h1, h2⟩ := hf
  refine wpAnyH_firstT (fun j => j ∈ waits ops i) hi (Region.noSelect_spec hs) hQ ?_ fuel listed a w ?_ ?_ (by simpa using hr) hy hS h
  · intro j oj hj hd
    have h3 := (h1 j hd).2
    simp only [hj, Array.any_eq_true] at h3
    obtain ⟨k, hk, h4⟩ := h3
    simp only [Bool.and_eq_true, Bool.or_eq_true, List.contains_iff_mem] at h4
    exact ⟨_, Array.getElem_mem hk, h4.1, h4.2.imp Nat.eq_of_beq_eq_true id⟩
  · intro j hd
    simpa using (h1 j hd).1
  · intro j oj hj hne hun hno
    have hlt : j < ops.size := (Array.getElem?_eq_some_iff.1 hj).1
    have h3 := h2 j (by simpa using hlt)
    simp only [hj, Bool.or_eq_true, beq_iff_eq, List.contains_iff_mem] at h3
    rcases h3 with ((h3 | h3) | h3) | h3
    · exact (hne h3).elim
    · rw [hun] at h3; cases h3
    · exact (hno h3).elim
    · exact h3
end
def wpO (P : Program) (ops : Array Oper) (Q : Exit → Act → World → Prop) : Sch → (World → Prop) → Act → World → Prop
  | .nil, _, a, w => Q .normal a w
  | .q i r, S, a, w => ∃ o v, ops[i]? = some o ∧ YieldsIf P ops S o v a ∧ wpO P ops Q r S (a.put o.dst v) w
  | .e i r, S, a, w => wpOp P ops Q i (fun a' w' => ∃ S' : World → Prop, S' w' ∧ (∀ w, S' w → S w) ∧ wpO P ops Q r S' a' w') a w
  | .br i r m, S, a, w => wpOp P ops Q i (fun a' w' => ∃ S' : World → Prop, S' w' ∧ (∀ w, S' w → S w) ∧ wpO P ops Q r S' a' w') a w ∧ wpO P ops Q m S a w
section
variable {P : Program} {ops : Array Oper} {Q : Exit → Act → World → Prop}
theorem wpAnyH_mono {S S' : World → Prop} (hS : ∀ w, S' w → S w) : ∀ (fuel : Nat) (listed : Array Bool) (a : Act) (w : World), wpAnyH P .any ops Q S' fuel listed a w → wpAnyH P .any ops Q S fuel listed a w
  | 0, _, _, _, h => h
  | fuel + 1, listed, a, w, h => ⟨h.1, fun i hi => wpOp_mono (fun a' w' h' => ⟨hS _ h'.1, wpAnyH_mono hS fuel _ a' w' h'.2⟩) (h.2 i hi)⟩
theorem wpO_sound (hs : Region.noSelect ops = true) (hQ : NoP Q) : ∀ (ord : Sch) (k : Nat) (S : World → Prop) (listed : Array Bool) (a : Act) (w : World), S w → wpO P ops Q ord S a w →
    (schedB ops false k ord listed = true → wpAnyH P .any ops Q S k listed a w) ∧
    (∀ k', k = k' + 1 → schedB ops true k ord listed = true → ∀ j ∈ ord.heads, wpOp P ops Q j (fun a' w' => S w' ∧ wpAnyH P .any ops Q S k' (listed.setIfInBounds j true) a' w') a w)
  | .nil, k, S, listed, a, w, hS, h => by
    refine ⟨fun hk => ?_, fun k' _ hk => by cases k <;> simp [schedB] at hk⟩
    have hk' : k = 0 ∧ Region.ready .any ops listed = [] := by cases k <;> simp [schedB] at hk <;> exact ⟨rfl, hk⟩
    rw [hk'.1]
    exact ⟨hk'.2, h⟩
  | .q i r, 0, S, listed, a, w, hS, h => ⟨fun hk => by simp [schedB] at hk, fun k' e => by omega⟩
  | .q i r, k + 1, S, listed, a, w, hS, h => by
    refine ⟨fun hk => ?_, fun k' _ hk => by simp [schedB] at hk⟩
    obtain ⟨o, v, ho, hy, h⟩ := h
    simp only [schedB, Bool.and_eq_true] at hk
    obtain ⟨⟨⟨_, h1⟩, h2⟩, h3⟩ := hk
    exact wpAnyH_takeT ho hs h2 h1 (fun c a' w' h' => (hQ _ _ _ h').elim) hy hS ((wpO_sound hs hQ r k S _ _ _ hS h).1 h3)
  | .e i r, 0, S, listed, a, w, hS, h => ⟨fun hk => by simp [schedB] at hk, fun k' e => by omega⟩
  | .e i r, k + 1, S, listed, a, w, hS, h => by
    have key : schedB ops false k r (listed.setIfInBounds i true) = true → wpOp P ops Q i (fun a' w' => S w' ∧ wpAnyH P .any ops Q S k (listed.setIfInBounds i true) a' w') a w := by
      intro h3
      refine wpOp_mono ?_ h
      rintro a' w' ⟨S', k1, k2, k3⟩
      exact ⟨k2 _ k1, wpAnyH_mono k2 _ _ _ _ ((wpO_sound hs hQ r k S' _ _ _ k1 k3).1 h3)⟩
    refine ⟨fun hk => ?_, fun k' e hk j hj => ?_⟩
    · simp only [schedB, Bool.false_or, Bool.and_eq_true, beq_iff_eq] at hk
      refine wpAnyH_all hk.1 (by simp) (fun j hj => ?_)
      obtain rfl : j = i := by simpa using hj
      exact key hk.2
    · obtain rfl : k' = k := by omega
      simp only [schedB, Bool.true_or, Bool.true_and] at hk
      obtain rfl : j = i := by simpa [Sch.heads] using hj
      exact key hk
  | .br i r m, 0, S, listed, a, w, hS, h => ⟨fun hk => by simp [schedB] at hk, fun k' e => by omega⟩
  | .br i r m, k + 1, S, listed, a, w, hS, h => by
    have key : schedB ops false k r (listed.setIfInBounds i true) = true → wpOp P ops Q i (fun a' w' => S w' ∧ wpAnyH P .any ops Q S k (listed.setIfInBounds i true) a' w') a w := by
      intro h3
      refine wpOp_mono ?_ h.1
      rintro a' w' ⟨S', k1, k2, k3⟩
      exact ⟨k2 _ k1, wpAnyH_mono k2 _ _ _ _ ((wpO_sound hs hQ r k S' _ _ _ k1 k3).1 h3)⟩
    have more := (wpO_sound hs hQ m (k + 1) S listed a w hS h.2).2
    refine ⟨fun hk => ?_, fun k' e hk j hj => ?_⟩
    · simp only [schedB, Bool.false_or, Bool.and_eq_true, beq_iff_eq] at hk
      refine wpAnyH_all hk.1.1 (by simp) (fun j hj => ?_)
      rcases List.mem_cons.1 hj with rfl | hj
      · exact key hk.1.2
      · exact more k rfl hk.2 j hj
    · obtain rfl : k' = k := by omega
      simp only [schedB, Bool.true_or, Bool.true_and, Bool.and_eq_true] at hk
      rcases List.mem_cons.1 (by simpa [Sch.heads] using hj : j ∈ i :: m.heads) with rfl | hj
      · exact key hk.1
      · exact more k' rfl hk.2 j hj
end
def TD (P : Program) (n : Nat) (F0 : Nat → Prop) (w0 : World) (ops : Array Oper) (l : Sch) (Rf : List Res) (e : Env) (Rs : List Res) (Q : Exit → Act → World → Prop) : Prop :=
  ∀ a w, Has n e a → St F0 w0 Rs w → wpO P ops Q l (St F0 w0 Rf) a w
section
variable {P : Program} {n : Nat} {F0 : Nat → Prop} {w0 : World} {e e' : Env} {Rs Rs' Rf Rf' : List Res} {Q : Exit → Act → World → Prop} {ops : Array Oper} {o : Oper} {v : Value} {l : Sch}
theorem T.draw {id : Nat} {os : List Oper} (ord : Sch) (is : List Nat) (hf : Sel Rs is Rf) (hm : P.follows .mixedOrders = true) (hQ : NoP Q) (hk : drawB os.toArray ord = true) (h : TD P n F0 w0 os.toArray ord Rf e Rs Q) :
    T P n F0 w0 e Rs (.region id os.toArray true) Q := by
  intro a w ha hs
  simp only [drawB, Bool.and_eq_true] at hk
  obtain ⟨h1, h3⟩ := hk
  refine wp_region_held (S := St F0 w0 Rf) hm ?_
  have hs' := hs.drew
  exact (wpO_sound h1 hQ ord _ (St F0 w0 Rf) _ a _ (hs'.sel is hf) (h a _ ha hs')).1 h3
theorem TD.br {i : Nat} {r m : Sch} (h : TD P n F0 w0 ops (.e i r) Rf e Rs Q) (k : TD P n F0 w0 ops m Rf e Rs Q) : TD P n F0 w0 ops (.br i r m) Rf e Rs Q := fun a w ha hs => ⟨h a w ha hs, k a w ha hs⟩
theorem TD.nil (h : X n F0 w0 e Rs .normal Q) : TD P n F0 w0 ops .nil Rf e Rs Q := fun a w ha hw => h a w ha hw
theorem TD.q {i d : Nat} {op : Op} {ty : TypeId} {pos : String} {af : Array Edge} {g : Option (Nat × Bool)} (ho : ops[i]? = some ⟨some d, op, ty, pos, af, g⟩) (hw : Wd n ops e ⟨some d, op, ty, pos, af, g⟩ true)
    (hx : Ex P n e (St F0 w0 Rf) ⟨some d, op, ty, pos, af, g⟩ v) (hd : Nat.blt d n = true) (h : TD P n F0 w0 ops l Rf ((d, v) :: e) Rs Q) : TD P n F0 w0 ops (.q i l) Rf e Rs Q :=
  fun a w ha hs => ⟨_, v, ho, .inl ⟨hw a ha, fun w' hw' => hx a w' ha hw'⟩, h _ _ (ha.put hd) hs⟩
theorem TD.no {i d : Nat} {op : Op} {ty : TypeId} {pos : String} {af : Array Edge} {g : Option (Nat × Bool)} (ho : ops[i]? = some ⟨some d, op, ty, pos, af, g⟩) (hw : Wd n ops e ⟨some d, op, ty, pos, af, g⟩ false)
    (hd : Nat.blt d n = true) (h : TD P n F0 w0 ops l Rf ((d, undef) :: e) Rs Q) : TD P n F0 w0 ops (.q i l) Rf e Rs Q :=
  fun a w ha hs => ⟨_, undef, ho, .inr ⟨hw a ha, rfl⟩, h _ _ (ha.put hd) hs⟩
theorem TD.ef {i : Nat} {R : Env → List Res → Prop} (ho : ops[i]? = some o) (hw : Wd n ops e o true) (hx : Ef P n F0 w0 e Rs o R)
    (h : ∀ e' Rs', R e' Rs' → ∃ Rf', (∀ w, St F0 w0 Rs' w → St F0 w0 Rf' w) ∧ (∀ w, St F0 w0 Rf' w → St F0 w0 Rf w) ∧ TD P n F0 w0 ops l Rf' e' Rs' Q) : TD P n F0 w0 ops (.e i l) Rf e Rs Q := by
  intro a w ha hs
  simp only [wpO, wpOp, ho]
  rw [if_pos (hw a ha)]
  refine .inl (hx a w _ _ ha hs (fun e' Rs' hr a' w' ha' hs' => ?_))
  obtain ⟨Rf', h1, h2, h3⟩ := h e' Rs' hr
  exact ⟨St F0 w0 Rf', h1 _ hs', h2, h3 a' w' ha' hs'⟩
theorem TD.noe {i d : Nat} {op : Op} {ty : TypeId} {pos : String} {af : Array Edge} {g : Option (Nat × Bool)} (ho : ops[i]? = some ⟨some d, op, ty, pos, af, g⟩) (hw : Wd n ops e ⟨some d, op, ty, pos, af, g⟩ false)
    (hd : Nat.blt d n = true) (is : List Nat) (hf : Sel Rs is Rf) (h : TD P n F0 w0 ops l Rf ((d, undef) :: e) Rs Q) : TD P n F0 w0 ops (.e i l) Rf e Rs Q := by
  intro a w ha hs
  simp only [wpO, wpOp, ho, hw a ha]
  exact ⟨St F0 w0 Rf, hs.sel is hf, fun _ h => h, h _ _ (ha.put hd) hs⟩
variable {id j : Nat} {y c : Code} {K : Act → World → Prop}
theorem X.seq (h : T P n F0 w0 e Rs y Q) : X n F0 w0 e Rs .normal (Exit.then (y.wp P Q) Q) := h
theorem X.blk (h : X n F0 w0 e Rs .normal Q) : X n F0 w0 e Rs .normal (Exit.inBlock id Q) := h
theorem X.ex (h : X n F0 w0 e Rs .normal Q) : X n F0 w0 e Rs (.exit id) (Exit.inBlock id Q) := fun a w ha hs => by
  show (if id = id then Q .normal a w else _)
  rw [if_pos rfl]
  exact h a w ha hs
theorem X.rs (h : X n F0 w0 e Rs .ret Q) : X n F0 w0 e Rs .ret (Exit.then K Q) := h
theorem X.rb (h : X n F0 w0 e Rs .ret Q) : X n F0 w0 e Rs .ret (Exit.inBlock id Q) := h
theorem X.exs (h : X n F0 w0 e Rs (.exit j) Q) : X n F0 w0 e Rs (.exit j) (Exit.then K Q) := h
theorem X.back {I : Nat → Env → List Res → Prop} {m m' : Nat} (is : List Nat) (hm : m' < m) (hI : I m' e' Rs') (he : Sub e' e) (hr : Sel Rs is Rs') :
    X n F0 w0 e Rs .normal (Exit.then (fun a w => ∃ m' e' Rs', m' < m ∧ I m' e' Rs' ∧ Has n e' a ∧ St F0 w0 Rs' w) Q) :=
  fun a w ha hs => ⟨m', e', Rs', hm, hI, ha.sub he.get, hs.sel is hr⟩
theorem T.re (is : List Nat) (he : Sub e' e) (hr : Sel Rs is Rs') (h : T P n F0 w0 e' Rs' c Q) : T P n F0 w0 e Rs c Q := fun a w ha hs => h a w (ha.sub he.get) (hs.sel is hr)
theorem T.as {d : Nat} {v' : Value} (hv : e.get d = some v) (h : v = v') (hk : T P n F0 w0 ((d, v') :: e) Rs c Q) : T P n F0 w0 e Rs c Q := fun a w ha hs => by
  refine hk a w (ha.sub (fun t u hu => ?_)) hs
  simp only [Env.get] at hu
  cases hb : Nat.beq d t with
  | true =>
    rw [hb] at hu
    obtain rfl := Nat.eq_of_beq_eq_true hb
    injection hu with hu
    rw [hv, h, hu]
  | false => rw [hb] at hu; exact hu
theorem T.nilrow {α : Type} (T' : TypeId) (size : Nat) (E : Rd α) (h : T P n F0 w0 e (OwnR T' size E (.slice none 0 0) [] :: Rs) c Q) : T P n F0 w0 e Rs c Q := fun a w ha hs => h a w ha (OwnR.nil T' size E hs)
theorem X.done {f : Func} {F : Nat → Prop} {R : Value → Res → List Res → Prop} {A' : Res} {Ns : List Res} {t : Nat} (is : List Nat) (hf : f.results = #[.tmp t]) (hv : e.get t = some v) (hR : R v A' Ns) (hr : Sel Rs is (A' :: Ns)) {x : Exit} (hx : x = .ret ∨ x = .normal) :
    X n F0 w0 e Rs x (bodyPost P f (Post R F0 w0)) := by
  intro a w ha hs
  have h : bodyPost P f (Post R F0 w0) .ret a w := ⟨ha.df, v, by
    have h2 := ha.at_ t v hv
    rw [results_eq, hf]
    simp [resv, h2], v, A', Ns, rfl, hR, hs.sel is hr⟩
  rcases hx with rfl | rfl <;> exact h
end
theorem NoP.seq {Q : Exit → Act → World → Prop} {K : Act → World → Prop} (h : NoP Q) : NoP (Exit.then K Q) := h
theorem NoP.blk {Q : Exit → Act → World → Prop} {i : Nat} (h : NoP Q) : NoP (Exit.inBlock i Q) := h
theorem np_post {P : Program} {f : Func} {F0 : Nat → Prop} {w0 : World} {R : Value → Res → List Res → Prop} : NoP (bodyPost P f (Post R F0 w0)) := by
  rintro c a w ⟨_, v, A', Ns, h, _⟩
  cases h
theorem enterX {P : Program} {f n : Nat} {fn : Func} {c : Code} {args : Array Value} {Xr : RX} {A : Res} {R : Value → Res → List Res → Prop} {e : Env} (hf : P.funcs[f]? = some fn) (hb : fn.body = some c) (hn : fn.ntmps = n)
    (hl : Nat.ble args.size n = true) (he : ∀ t v, e.get t = some v → args[t]? = some v) (h : ∀ F w, Xr.reads w F → T P n F w e [A] c (bodyPost P fn (Post R F w))) : SpecX P f args Xr A R := by
  intro F w hA hX
  refine calls_of_wp hf hb ?_
  have hl' : args.size ≤ n := Nat.le_of_ble_eq_true hl
  refine h F w hX _ w ⟨rfl, ?_, fun t v hv => ?_⟩ (SpecX.start hA)
  · simp only [Array.size_append, Array.size_replicate, hn]
    omega
  · have h1 := he t v hv
    have h2 := (Array.getElem?_eq_some_iff.1 h1).1
    rw [Array.getElem?_append_left h2]
    exact h1
def argsE : Nat → List Value → Env
  | _, [] => []
  | k, v :: vs => (k, v) :: argsE (k + 1) vs
theorem argsE_get : ∀ (vs : List Value) (k t : Nat) (v : Value), Env.get (argsE k vs) t = some v → k ≤ t ∧ vs[t - k]? = some v
  | [], _, _, _, h => by simp [argsE, Env.get] at h
  | u :: vs, k, t, v, h => by
    simp only [argsE, Env.get] at h
    cases hb : Nat.beq k t with
    | true =>
      rw [hb] at h
      obtain rfl := Nat.eq_of_beq_eq_true hb
      exact ⟨Nat.le_refl _, by simpa using h⟩
    | false =>
      rw [hb] at h
      obtain ⟨h1, h2⟩ := argsE_get vs (k + 1) t v h
      refine ⟨by omega, ?_⟩
      obtain ⟨m, rfl⟩ : ∃ m, t = k + 1 + m := ⟨t - (k + 1), by omega⟩
      rw [show k + 1 + m - k = m + 1 by omega]
      rw [show k + 1 + m - (k + 1) = m by omega] at h2
      simpa using h2
theorem enterA {P : Program} {f n : Nat} {fn : Func} {c : Code} {args : List Value} {Xr : RX} {A : Res} {R : Value → Res → List Res → Prop} (hf : P.funcs[f]? = some fn) (hb : fn.body = some c) (hn : fn.ntmps = n)
    (hl : Nat.ble args.length n = true) (h : ∀ F w, Xr.reads w F → T P n F w (argsE 0 args) [A] c (bodyPost P fn (Post R F w))) : SpecX P f args.toArray Xr A R :=
  enterX hf hb hn (by simpa using hl) (fun t v hv => by simpa using (argsE_get args 0 t v hv).2) h
end Go.Proofs.Ytahjmpipllajcaa.Sl
namespace Go.Proofs.Ytahjmpipllajcaa.Sl
open Go.RowKit
set_option linter.unusedVariables false
set_option linter.unusedSimpArgs false
def OutR (b : Nat) (st : List UInt8 × Int) : Res where
  P := fun w G => ∃ v, w.heap[b]? = some (.cells #[v, .int .i64 st.2] 100 (0, 0)) ∧ w.ownsRow 0 5 1 v st.1.length (byteCells st.1) ∧ ∀ k, G k ↔ k = b ∨ v.ownBlock = some k
  lt := by
    rintro w G ⟨v, h1, h2, h3⟩ k hk
    rcases (h3 k).1 hk with rfl | h
    · exact heap_lt h1
    · exact row_lt h2 k h
  move := by
    rintro w w' G ⟨v, h1, h2, h3⟩ hm
    exact ⟨v, (hm _ ((h3 _).2 (.inl rfl))).trans h1, row_move h2 (fun k hk => hm k ((h3 k).2 (.inr hk))), h3⟩
theorem OutR.new {F0 : Nat → Prop} {w0 w : World} {Rs : List Res} (h : St F0 w0 Rs w) : St F0 w0 (OutR w.heap.size ([], 0) :: Rs) (w.alloc (.cells #[.slice none 0 0, .int .i64 0] 100)) := by
  refine (h.alloc #[.slice none 0 0, .int .i64 0] 100).weaken 0 rfl (A' := OutR w.heap.size ([], 0)) ?_
  rintro G ⟨h1, h2⟩
  exact ⟨_, h1, World.ownsRow_nil _ _ _ _, fun k => by simp [h2 k, Value.ownBlock]⟩
theorem OutR.stored {b : Nat} {l m : List UInt8} {w w1 : World} {v v1 : Value} {F : Nat → Prop} (hb : w.heap[b]? = some (.cells #[v, .int .i64 0] 100 (0, 0))) (ho : w.ownsRow 0 5 1 v l.length (byteCells l)) (hF : ∀ k, F k ↔ k = b ∨ v.ownBlock = some k)
    {n : Nat} (ho1 : w1.ownsRow 0 5 1 v1 n (byteCells m)) (hg : w.grownBy w1 v.ownBlock) (hat : v1.ownBlock = v.ownBlock ∨ ∃ k, v1.ownBlock = some k ∧ w.heap.size ≤ k) :
    St F w [OutR b (m, 0)] (w1.setCell ⟨b, 0, none⟩ v1) := by
  have hn : n = m.length := by have := ho1.1; simpa [byteCells] using this.symm
  subst hn
  have hne := row_ne ho hb (by decide)
  have hb1 : w1.heap[b]? = some (.cells #[v, .int .i64 0] 100 (0, 0)) := (hg.block b (heap_lt hb) hne).trans hb
  have hne1 := row_ne ho1 hb1 (by decide)
  refine ⟨((Fr.refl F w).trans (Fr.of_grown (F := F) hg (fun k hk => (hF k).2 (.inr hk))) (fun k hk => .inl hk)).set (p := ⟨b, 0, none⟩) (.inl ((hF b).2 (.inl rfl))) v1, ?_⟩
  refine ⟨fun k => k = b ∨ v1.ownBlock = some k, ⟨v1, by simpa using heap_set hb1 0 v1, row_set ho1 hne1 v1, fun _ => Iff.rfl⟩, ?_, trivial⟩
  rintro k (rfl | hk)
  · exact .inl ((hF k).2 (.inl rfl))
  · rcases hat with h | ⟨k', h, h'⟩
    · rw [h] at hk
      exact .inl ((hF k).2 (.inr hk))
    · rw [h] at hk
      injection hk with hk
      subst hk
      exact .inr h'
end Go.Proofs.Ytahjmpipllajcaa.Sl
namespace Go.Proofs.Ytahjmpipllajcaa.Sl
open Go.RowKit
set_option linter.unusedVariables false
set_option linter.unusedSimpArgs false
structure I where
  rest : List UInt8
  pos : Nat
  err : Int
def bsOf (l : List UInt8) : ByteArray := ⟨l.toArray⟩
theorem bsOf_size (l : List UInt8) : (bsOf l).size = l.length := by simp [bsOf, ByteArray.size]
theorem bsOf_toList (l : List UInt8) : (bsOf l).toList = l := ByteArray.toList_mk l
def InR (b : Nat) (st : I) : Res where
  P := fun w G => ∃ s : ByteArray, w.heap[b]? = some (.cells #[.string s, .int .i64 st.pos, .int .i64 st.err] 148 (0, 0)) ∧ st.pos + st.rest.length = s.size ∧ s.size ≤ 9223372036854775807 ∧ s.data.toList.drop st.pos = st.rest ∧ ∀ k, G k ↔ k = b
  lt := by
    rintro w G ⟨s, h1, _, _, _, h3⟩ k hk
    rw [(h3 k).1 hk]
    exact heap_lt h1
  move := by
    rintro w w' G ⟨s, h1, h2, h3, h4, h5⟩ hm
    exact ⟨s, (hm _ ((h5 _).2 rfl)).trans h1, h2, h3, h4, h5⟩
theorem InR.err {b : Nat} {st : I} {w : World} {F0 : Nat → Prop} {w0 : World} {Rs : List Res} (i : Nat) (h : St F0 w0 Rs w) (hi : Rs[i]? = some (InR b st)) :
    w.cell? ⟨b, 2, none⟩ = some (.int .i64 st.err) ∧ w.cell? ⟨b, 1, none⟩ = some (.int .i64 st.pos) := by
  obtain ⟨G, ⟨s, h1, _⟩, _⟩ := h.get i hi
  exact ⟨(heap_at h1 2).trans rfl, (heap_at h1 1).trans rfl⟩
theorem InR.len {b : Nat} {st : I} {w : World} {F0 : Nat → Prop} {w0 : World} {Rs : List Res} (i : Nat) (h : St F0 w0 Rs w) (hi : Rs[i]? = some (InR b st)) : st.rest.length ≤ 9223372036854775807 := by
  obtain ⟨G, ⟨s, h1, h2, h3, _⟩, _⟩ := h.get i hi
  omega
end Go.Proofs.Ytahjmpipllajcaa.Sl
namespace Go.Proofs.Ytahjmpipllajcaa.Sl
open Go.RowKit
set_option linter.unusedVariables false
set_option linter.unusedSimpArgs false
def ksame : IntKind → IntKind → Bool
  | .i8, .i8 | .i16, .i16 | .i32, .i32 | .i64, .i64 | .u8, .u8 | .u16, .u16 | .u32, .u32 | .u64, .u64 => true
  | _, _ => false
theorem ksame_eq {k k' : IntKind} (h : ksame k k' = true) : k = k' := by cases k <;> cases k' <;> first | rfl | cases h
def cmpV : BinOp → Int → Int → Option Bool
  | .eql, a, b => some (decide (a = b))
  | .neq, a, b => some (!decide (a = b))
  | .lss, a, b => some (decide (a < b))
  | .leq, a, b => some (decide (a ≤ b))
  | .gtr, a, b => some (decide (a > b))
  | .geq, a, b => some (decide (a ≥ b))
  | _, _, _ => none
def FTab := List (Nat × Nat × Nat)
def FTab.get : FTab → Nat → Nat → Option Nat
  | [], _, _ => none
  | (s, f, o) :: r, s', f' => match Nat.beq s s' with
    | true => match Nat.beq f f' with
      | true => some o
      | false => FTab.get r s' f'
    | false => FTab.get r s' f'
def FOK (P : Program) (s f o : Nat) : Prop := ∀ (a : Addr) (w : World), (Instr.fieldAt s (.pointer (some a)) f).run P w = .ok (.pointer (some (a.add o))) w
def FTab.OK (P : Program) : FTab → Prop
  | [] => True
  | (s, f, o) :: r => FOK P s f o ∧ FTab.OK P r
theorem FTab.OK.get {P : Program} : ∀ {t : FTab}, t.OK P → ∀ {s f o}, t.get s f = some o → FOK P s f o
  | [], _, s, f, o, h => by simp [FTab.get] at h
  | (s0, f0, o0) :: r, ⟨h1, h2⟩, s, f, o, h => by
    simp only [FTab.get] at h
    cases hb : Nat.beq s0 s with
    | true =>
      rw [hb] at h
      cases hc : Nat.beq f0 f with
      | true =>
        rw [hc] at h
        obtain rfl := Nat.eq_of_beq_eq_true hb
        obtain rfl := Nat.eq_of_beq_eq_true hc
        injection h with h
        subst h
        exact h1
      | false => rw [hc] at h; exact FTab.OK.get h2 h
    | false => rw [hb] at h; exact FTab.OK.get h2 h
theorem FOK.mk {P : Program} {s f : Nat} {fs : Array Field} {fl : Field} {k : Nat} (hu : ∀ w, (underlying s).run P w = .ok (.struct fs) w) (hf : fs[f]? = some fl) (hz : ∀ w, (sizeOf fl.type).run P w = .ok (k + 1) w) {o : Nat} (ho : fl.offset = o) : FOK P s f o := by
  intro a w
  subst ho
  simp [Instr.fieldAt, hu, hf, Instr.sureAddr, fieldPlace, hz]
def pureV (ft : FTab) (e : Env) : Op → Option Value
  | .move x => e.ev x
  | .assign x => e.ev x
  | .extract x i => match e.ev x with
    | some (.tuple vs) => vs[i]?
    | _ => none
  | .unOp .not _ x => match e.ev x with
    | some (.bool b) => some (.bool (!b))
    | _ => none
  | .nilCheck x => match e.ev x with
    | some (.pointer (some a)) => some (.pointer (some a))
    | _ => none
  | .fieldAddr s x f => match e.ev x with
    | some (.pointer (some ⟨g, o, none⟩)) => match ft.get s f with
      | some k => some (.pointer (some ⟨g, o + k, none⟩))
      | none => none
    | _ => none
  | .binOp op _ x y _ => match e.ev x with
    | some (.int k a) => match e.ev y with
      | some (.int k' b) => match ksame k k' with
        | true => match cmpV op a b with
          | some r => some (.bool r)
          | none => none
        | false => none
      | _ => none
    | _ => none
  | _ => none
theorem cmpV_run {P : Program} {w : World} {op : BinOp} {a b : Int} {r : Bool} (h : cmpV op a b = some r) : (Op.intCmp op a b).run P w = .ok (.bool r) w := by
  cases op <;> cases h <;> rfl
theorem cmp_run {P : Program} {w : World} {op : BinOp} {k : IntKind} {a b : Int} {r : Bool} {t : TypeId} {x y : Operand} (h : cmpV op a b = some r) :
    (do eqGuard op t x y (.int k a) (.int k b); binOp op t (.int k a) (.int k b) : Sem Value).run P w = .ok (.bool r) w := by
  have h1 := cmpV_run (P := P) (w := w) h
  cases op <;> cases h <;> simpa [eqGuard, binOp] using h1
theorem pureV_run {P : Program} {n : Nat} {ft : FTab} {e : Env} {S : World → Prop} {d : Option Tmp} {op : Op} {ty : TypeId} {pos : String} {af : Array Edge} {g : Option (Nat × Bool)} {v : Value} (hft : ft.OK P) (h : pureV ft e op = some v) : Ex P n e S ⟨d, op, ty, pos, af, g⟩ v := by
  intro a w ha _
  unfold pureV at h
  split at h
  · simp [execOp, ha.ev h]
  · simp [execOp, ha.ev h]
  · split at h
    · rename_i vs hx
      simp [execOp, ha.ev hx, Instr.extract, h]
    · cases h
  · split at h
    · rename_i b hx
      injection h with h
      subst h
      simp [execOp, ha.ev hx, Op.unary]
    · cases h
  · split at h
    · rename_i p hx
      injection h with h
      subst h
      simp [execOp, ha.ev hx]
    · cases h
  · split at h
    · rename_i g' o' hx
      split at h
      · rename_i k hk
        injection h with h
        subst h
        have h1 := hft.get hk ⟨g', o', none⟩ w
        have h2 : (⟨g', o', none⟩ : Addr).add k = ⟨g', o' + k, none⟩ := by unfold Addr.add; split <;> simp_all
        simp [execOp, ha.ev hx, h1, h2]
      · cases h
    · cases h
  · split at h
    · rename_i k x hx
      split at h
      · rename_i k' y hy
        split at h
        · rename_i hk
          split at h
          · rename_i r hr
            injection h with h
            subst h
            obtain rfl := ksame_eq hk
            have h1 := cmpV_run (P := P) (w := w) hr
            simp only [execOp, ha.ev hx, ha.ev hy, Sem.run_bind]
            have h2 := fun t x y => cmp_run (P := P) (w := w) (k := k) (t := t) (x := x) (y := y) hr
            simp only [Sem.run_bind] at h2
            rw [h2]
            rfl
          · cases h
        · cases h
      · cases h
    · cases h
  · cases h
def runV (ft : FTab) (n : Nat) (ops : Array Oper) : Env → List Nat → Option Env
  | e, [] => some e
  | e, i :: is => match ops[i]? with
    | some ⟨some d, op, _, _, _, none⟩ => match Nat.blt d n with
      | true => match pureV ft e op with
        | some v => runV ft n ops ((d, v) :: e) is
        | none => none
      | false => none
    | _ => none
section
variable {P : Program} {n : Nat} {F0 : Nat → Prop} {w0 : World} {e e' : Env} {Rs Rf : List Res} {Q : Exit → Act → World → Prop} {ops : Array Oper} {ft : FTab}
theorem TL.run_ (hft : ft.OK P) : ∀ (is : List Nat) {e e' : Env} {l : List Nat}, runV ft n ops e is = some e' → TL P n F0 w0 ops l e' Rs Q → TL P n F0 w0 ops (is ++ l) e Rs Q
  | [], e, e', l, h, k => by
    injection h with h
    subst h
    exact k
  | i :: is, e, e', l, h, k => by
    unfold runV at h
    split at h
    · rename_i ho
      split at h
      · rename_i hd
        split at h
        · rename_i v hv
          exact TL.q ho .u (pureV_run hft hv) hd (TL.run_ hft is h k)
        · cases h
      · cases h
    · cases h
def Sch.qs : List Nat → Sch → Sch
  | [], s => s
  | i :: is, s => .q i (Sch.qs is s)
theorem TD.run_ (hft : ft.OK P) : ∀ (is : List Nat) {e e' : Env} {l : Sch}, runV ft n ops e is = some e' → TD P n F0 w0 ops l Rf e' Rs Q → TD P n F0 w0 ops (Sch.qs is l) Rf e Rs Q
  | [], e, e', l, h, k => by
    injection h with h
    subst h
    exact k
  | i :: is, e, e', l, h, k => by
    unfold runV at h
    split at h
    · rename_i ho
      split at h
      · rename_i hd
        split at h
        · rename_i v hv
          exact TD.q ho .u (pureV_run hft hv) hd (TD.run_ hft is h k)
        · cases h
      · cases h
    · cases h
theorem TL.run (hft : ft.OK P) (is : List Nat) {l l' : List Nat} (hl : l = is ++ l') (h : runV ft n ops e is = some e') (k : TL P n F0 w0 ops l' e' Rs Q) : TL P n F0 w0 ops l e Rs Q := hl ▸ TL.run_ hft is h k
theorem TD.run (hft : ft.OK P) (is : List Nat) {l l' : Sch} (hl : l = Sch.qs is l') (h : runV ft n ops e is = some e') (k : TD P n F0 w0 ops l' Rf e' Rs Q) : TD P n F0 w0 ops l Rf e Rs Q := hl ▸ TD.run_ hft is h k
end
end Go.Proofs.Ytahjmpipllajcaa.Sl
namespace Go.Proofs.Ytahjmpipllajcaa.Sl
open Go.RowKit
set_option linter.unusedVariables false
set_option linter.unusedSimpArgs false
section
variable {P : Program} {n : Nat} {F0 : Nat → Prop} {w0 : World} {e : Env} {Rs : List Res} {S : World → Prop} {d : Option Tmp} {ty : TypeId} {pos : String} {af : Array Edge} {gd : Option (Nat × Bool)} {v : Value} {x y ix : Operand} {t t' el : TypeId}
theorem Ex.ft {ft : FTab} {op : Op} (hft : ft.OK P) (h : pureV ft e op = some v) : Ex P n e S ⟨d, op, ty, pos, af, gd⟩ v := pureV_run hft h
theorem Ex.lenS {A : Option Addr} {m c : Nat} (hx : e.ev x = some (.slice A m c)) (hu : ∀ w, (underlying t).run P w = .ok (.slice el) w) : Ex P n e S ⟨d, .call ⟨.builtin .len, #[x], #[t]⟩, ty, pos, af, gd⟩ (.int .i64 (m : Int)) := by
  intro a w ha _
  simp [execOp, resolve, invoke, builtin, ha.ev hx, Builtin.len_, hu, goInt]
theorem Ex.add {p q : Int} (hx : e.ev x = some (.int .i64 p)) (hy : e.ev y = some (.int .i64 q)) (h : -9223372036854775808 ≤ p + q ∧ p + q ≤ 9223372036854775807) : Ex P n e S ⟨d, .binOp .add t x y t', ty, pos, af, gd⟩ (.int .i64 (p + q)) := by
  intro a w ha _
  simp [execOp, ha.ev hx, ha.ev hy, eqGuard, binOp, Op.intArith, IntWalk.i64_in _ h]
theorem Ex.sub {p q : Int} (hx : e.ev x = some (.int .i64 p)) (hy : e.ev y = some (.int .i64 q)) (h : -9223372036854775808 ≤ p - q ∧ p - q ≤ 9223372036854775807) : Ex P n e S ⟨d, .binOp .sub t x y t', ty, pos, af, gd⟩ (.int .i64 (p - q)) := by
  intro a w ha _
  simp [execOp, ha.ev hx, ha.ev hy, eqGuard, binOp, Op.intArith, IntWalk.i64_in _ h]
theorem Ex.mul {p q : Int} (hx : e.ev x = some (.int .i64 p)) (hy : e.ev y = some (.int .i64 q)) (h : -9223372036854775808 ≤ p * q ∧ p * q ≤ 9223372036854775807) : Ex P n e S ⟨d, .binOp .mul t x y t', ty, pos, af, gd⟩ (.int .i64 (p * q)) := by
  intro a w ha _
  simp [execOp, ha.ev hx, ha.ev hy, eqGuard, binOp, Op.intArith, IntWalk.i64_in _ h]
theorem Ex.quo {p q : Int} (hx : e.ev x = some (.int .i64 p)) (hy : e.ev y = some (.int .i64 q)) (hq : 1 ≤ q) (h : 0 ≤ p ∧ p ≤ 9223372036854775807) : Ex P n e S ⟨d, .binOp .quo t x y t', ty, pos, af, gd⟩ (.int .i64 (p / q)) := by
  intro a w ha _
  have h0 : ¬ q = 0 := by omega
  simp [execOp, ha.ev hx, ha.ev hy, eqGuard, binOp, Op.intDiv, h0, IntWalk.i64_quo _ _ ⟨h.1, h.2, hq⟩]
theorem Ex.rem {p q : Int} (hx : e.ev x = some (.int .i64 p)) (hy : e.ev y = some (.int .i64 q)) (hq : 1 ≤ q) (h : 0 ≤ p ∧ p ≤ 9223372036854775807) : Ex P n e S ⟨d, .binOp .rem t x y t', ty, pos, af, gd⟩ (.int .i64 (p % q)) := by
  intro a w ha _
  have h0 : ¬ q = 0 := by omega
  simp [execOp, ha.ev hx, ha.ev hy, eqGuard, binOp, Op.intDiv, h0, IntWalk.rem_in _ _ h.1]
theorem Ex.neg {p : Int} (hx : e.ev x = some (.int .i64 p)) (h : -9223372036854775808 ≤ -p ∧ -p ≤ 9223372036854775807) : Ex P n e S ⟨d, .unOp .neg t x, ty, pos, af, gd⟩ (.int .i64 (-p)) := by
  intro a w ha _
  have h2 := IntWalk.i64_in _ h
  simp [execOp, ha.ev hx, Op.unary, Op.intArith, h2]
theorem Ex.conv {k k' : IntKind} {p : Int} (hx : e.ev x = some (.int k' p)) (hs : ∀ w, (underlying t).run P w = .ok (.int k') w) (hu : ∀ w, (underlying t').run P w = .ok (.int k) w) : Ex P n e S ⟨d, .convert t t' x, ty, pos, af, gd⟩ (.int k (k.wrap p)) := by
  intro a w ha _
  simp [execOp, ha.ev hx, convert, hs, hu, Conv.intToInt]
theorem Ex.conv64 {p : Int} {k' : IntKind} (hx : e.ev x = some (.int k' p)) (hs : ∀ w, (underlying t).run P w = .ok (.int k') w) (hu : ∀ w, (underlying t').run P w = .ok (.int .i64) w) (h : -9223372036854775808 ≤ p ∧ p ≤ 9223372036854775807) : Ex P n e S ⟨d, .convert t t' x, ty, pos, af, gd⟩ (.int .i64 p) := by
  have := Ex.conv (P := P) (n := n) (S := S) (d := d) (ty := ty) (pos := pos) (af := af) (gd := gd) hx hs hu
  rwa [IntWalk.i64_in _ h] at this
theorem Ex.py {c : Operand} {b : Bool} (hc : e.ev c = some (.bool b)) (hb : b = true) (hx : e.ev x = some v) : Ex P n e S ⟨d, .pick c x y, ty, pos, af, gd⟩ v := by
  intro a w ha _
  subst hb
  simp [execOp, ha.ev hc, ha.ev hx, asBool]
theorem Ex.pn {c : Operand} {b : Bool} (hc : e.ev c = some (.bool b)) (hb : b = false) (hy : e.ev y = some v) : Ex P n e S ⟨d, .pick c x y, ty, pos, af, gd⟩ v := by
  intro a w ha _
  subst hb
  simp [execOp, ha.ev hc, ha.ev hy, asBool]
theorem Ex.ixS {g o m c z k : Nat} {i : Int} {q : IntKind} (hx : e.ev x = some (.slice (some ⟨g, o, none⟩) m c)) (hi : e.ev ix = some (.int q i)) (hik : i = (k : Int)) (hu : ∀ w, (underlying t).run P w = .ok (.slice el) w) (hz : ∀ w, (sizeOf el).run P w = .ok z w) (hk : k < m) :
    Ex P n e S ⟨d, .indexAddr t x ix, ty, pos, af, gd⟩ (.pointer (some ⟨g, o + k * z, none⟩)) := by
  intro a w ha _
  subst hik
  have h1 : (0 : Int) ≤ (k : Int) ∧ (k : Int) < (m : Int) := by omega
  have h2 : (⟨g, o, none⟩ : Addr).add (k * z) = ⟨g, o + k * z, none⟩ := by unfold Addr.add; split <;> simp_all
  have h3 : (Instr.indexAt t (.slice (some ⟨g, o, none⟩) m c) (.int q (k : Int))).run P w = .ok (.pointer (some ⟨g, o + k * z, none⟩)) w := by
    simp only [Instr.indexAt, asIntOf, Sem.run_bind, Sem.run_pure, Result.andThen_ok, hu]
    rw [if_pos h1]
    simp [hz, h2]
  simp [execOp, ha.ev hx, ha.ev hi, h3]
theorem run_loadVar1 {w : World} {ad : Addr} (ha : ∀ w, (isAgg t).run P w = .ok false w) (hc : w.cell? ad = some v) : (loadVar t ad).run P w = .ok v w := by
  simp [loadVar, ha, hc]
theorem run_loadVarS {w : World} {ad : Addr} {cs : List Value} (ha : ∀ w, (isAgg t).run P w = .ok true w) (hz : ∀ w, (sizeOf t).run P w = .ok cs.length w) (hc : ∀ j u, cs[j]? = some u → w.cell? (ad.add j) = some u) : (loadVar t ad).run P w = .ok (.agg cs.toArray) w := by
  simp [loadVar, ha, hz, run_loadCells_list w ad cs hc]
theorem Ex.ld1 {ad : Addr} (hx : e.ev x = some (.pointer (some ad))) (ha : ∀ w, (isAgg t).run P w = .ok false w) (hc : ∀ w, S w → w.cell? ad = some v) : Ex P n e S ⟨d, .load t x, ty, pos, af, gd⟩ v := by
  intro a w h hs
  simp [execOp, h.ev hx, Instr.loadAt, Instr.sureAddr, run_loadVar1 ha (hc w hs)]
theorem Ex.ldS {ad : Addr} {cs : List Value} {z : Nat} (hx : e.ev x = some (.pointer (some ad))) (ha : ∀ w, (isAgg t).run P w = .ok true w) (hz : ∀ w, (sizeOf t).run P w = .ok z w) (hl : cs.length = z) (hc : ∀ w, S w → ∀ j u, cs[j]? = some u → w.cell? (ad.add j) = some u) : Ex P n e S ⟨d, .load t x, ty, pos, af, gd⟩ (.agg cs.toArray) := by
  intro a w h hs
  subst hl
  simp [execOp, h.ev hx, Instr.loadAt, Instr.sureAddr, run_loadVarS ha hz (hc w hs)]
theorem Ex.b1 (i : Nat) {b o : Nat} {T : TypeId} {cs : Array Value} (hx : e.ev x = some (.pointer (some ⟨b, o, none⟩))) (ha : ∀ w, (isAgg t).run P w = .ok false w) (hi : Rs[i]? = some (BlkR b T cs)) (hv : cs[o]? = some v) : Ex P n e (St F0 w0 Rs) ⟨d, .load t x, ty, pos, af, gd⟩ v :=
  Ex.ld1 hx ha (fun w hw => (heap_at (hw.blk i hi) o).trans hv)
theorem Ex.bS (i : Nat) {b o z : Nat} {T : TypeId} {cs : Array Value} {us : List Value} (hx : e.ev x = some (.pointer (some ⟨b, o, none⟩))) (ha : ∀ w, (isAgg t).run P w = .ok true w) (hz : ∀ w, (sizeOf t).run P w = .ok z w) (hi : Rs[i]? = some (BlkR b T cs))
    (hv : (cs.toList.drop o).take z = us) (hl : Nat.beq us.length z = true) : Ex P n e (St F0 w0 Rs) ⟨d, .load t x, ty, pos, af, gd⟩ (.agg us.toArray) := by
  refine Ex.ldS hx ha hz (Nat.eq_of_beq_eq_true hl) (fun w hw j u hj => ?_)
  have h2 : (⟨b, o, none⟩ : Addr).add j = ⟨b, o + j, none⟩ := by unfold Addr.add; split <;> simp_all
  rw [h2, heap_at (hw.blk i hi)]
  subst hv
  rw [List.getElem?_take] at hj
  split at hj
  · rw [List.getElem?_drop] at hj
    simpa using hj
  · cases hj
theorem Ex.o1 {g q z : Nat} (j : Nat) {cs : List Value} (hx : e.ev x = some (.pointer (some ⟨g, q + j, none⟩))) (ha : ∀ w, (isAgg t).run P w = .ok false w) (nf : ¬ F0 g ∧ g < w0.heap.size) (hc : ∀ j, j < z → w0.cell? ⟨g, q + j, none⟩ = cs[j]?) (hj : Nat.blt j z = true) (hv : cs[j]? = some v) :
    Ex P n e (St F0 w0 Rs) ⟨d, .load t x, ty, pos, af, gd⟩ v :=
  Ex.ld1 hx ha (fun w hw => hw.old2 nf ((hc j (by simpa [Nat.blt_eq] using hj)).trans hv))
def BOK (P : Program) (t : TypeId) (zs : Array Value) (pl : List (Nat × Nat)) : Prop := ∀ (parts : Array (Nat × Value)) (cells : Array Value) (w : World), Instr.fill (pl[·]?) zs parts.toList = some cells → (Instr.build t parts).run P w = .ok (.agg cells) w
theorem Ex.bld {zs cells : Array Value} {pl : List (Nat × Nat)} {ps : List (Nat × Operand)} {vs : List Value} (hB : BOK P t zs pl) (hv : e.evs (ps.map (·.2)) = some vs) (hf : Instr.fill (pl[·]?) zs ((ps.map (·.1)).zip vs) = some cells) : Ex P n e S ⟨d, .build t ps.toArray, ty, pos, af, gd⟩ (.agg cells) := by
  intro a w ha _
  have h1 := ha.evs hv
  have h2 : ps.map (fun p => (p.1, a.eval p.2)) = (ps.map (·.1)).zip vs := by
    rw [← h1]
    clear h1 hf hv
    induction ps with
    | nil => rfl
    | cons p ps ih => simp [ih]
  have h3 := hB (ps.map (fun p => (p.1, a.eval p.2))).toArray cells w (by simpa [h2] using hf)
  simp only [execOp, List.map_toArray, Sem.run_bind]
  rw [h3]
  rfl
end
end Go.Proofs.Ytahjmpipllajcaa.Sl
namespace Go.Proofs.Ytahjmpipllajcaa.Sl
open Go.RowKit
set_option linter.unusedVariables false
set_option linter.unusedSimpArgs false
def envput : Option Nat → Value → Env → Env
  | none, _, e => e
  | some d, v, e => (d, v) :: e
def okd : Option Nat → Nat → Bool
  | none, _ => true
  | some d, n => Nat.blt d n
section
variable {P : Program} {n : Nat} {F0 : Nat → Prop} {w0 : World} {e : Env} {Rs : List Res} {d : Option Tmp} {ty : TypeId} {pos : String} {af : Array Edge} {gd : Option (Nat × Bool)} {v : Value} {x y : Operand} {t t' el : TypeId}
theorem Has.putd {a : Act} (h : Has n e a) (hd : okd d n = true) : Has n (envput d v e) (a.put d v) := by
  cases d with
  | none => exact h
  | some d => exact h.put hd
theorem St.setRowS {b : Nat} {T : TypeId} {cs cs' : Array Value} {w : World} (i : Nat) (h : St F0 w0 Rs w) (hi : Rs[i]? = some (BlkR b T cs)) : St F0 w0 (Rs.set i (BlkR b T cs')) (w.setRow b cs') := by
  refine h.step i hi (Ns := []) (fun G hG => ⟨⟨rfl, rfl, rfl, by simp [World.setRow], fun k hk hn => setRow_other w b k cs' (fun e => hn (e ▸ (hG.2 b).2 rfl))⟩, G, ⟨setRow_heap w b cs cs' T (0, 0) hG.1, hG.2⟩, fun k hk => .inl hk, trivial⟩)
theorem Ef.alloc {zv : Value} (hz : ∀ w, (zeroValue t).run P w = .ok zv w) (hd : okd d n = true) : Ef P n F0 w0 e Rs ⟨d, .alloc t, ty, pos, af, gd⟩ (fun e' Rs' => ∃ b, e' = envput d (.pointer (some ⟨b, 0, none⟩)) e ∧ Rs' = BlkR b t zv.cells :: Rs) := by
  intro a w K Q ha hs hk
  have h1 : (execOp a.eval ⟨d, .alloc t, ty, pos, af, gd⟩).run P w = .ok (.value (.pointer (some ⟨w.heap.size, 0, none⟩))) (w.alloc (.cells zv.cells t)) := by
    simp [execOp, Instr.alloc, hz, newVar, newRow, newObj]
    rfl
  unfold Oper.wp
  rw [h1]
  exact hk _ _ ⟨_, rfl, rfl⟩ _ _ (ha.putd hd) (hs.alloc _ _)
theorem Ef.box (hx : e.ev x = some v) (hd : okd d n = true) : Ef P n F0 w0 e Rs ⟨d, .box t x, ty, pos, af, gd⟩ (fun e' Rs' => ∃ b, e' = envput d (.pointer (some ⟨b, 0, none⟩)) e ∧ Rs' = BlkR b t v.cells :: Rs) := by
  intro a w K Q ha hs hk
  have h1 : (execOp a.eval ⟨d, .box t x, ty, pos, af, gd⟩).run P w = .ok (.value (.pointer (some ⟨w.heap.size, 0, none⟩))) (w.alloc (.cells v.cells t)) := by
    simp [execOp, ha.ev hx, Instr.box, newVar, newRow, newObj]
    rfl
  unfold Oper.wp
  rw [h1]
  exact hk _ _ ⟨_, rfl, rfl⟩ _ _ (ha.putd hd) (hs.alloc _ _)
theorem Ef.st (i : Nat) {b o z : Nat} {T : TypeId} {cs cs' : Array Value} (hx : e.ev x = some (.pointer (some ⟨b, o, none⟩))) (hy : e.ev y = some v) (hz : ∀ w, (sizeOf t).run P w = .ok z w) (hi : Rs[i]? = some (BlkR b T cs))
    (hvz : Nat.beq v.cells.size z = true) (hf : Nat.ble (o + v.cells.size) cs.size = true) (ho : v.cells.toList.all (·.oneCell') = true) (hc : (cs.toList.take o ++ v.cells.toList ++ cs.toList.drop (o + v.cells.size)).toArray = cs') :
    Ef P n F0 w0 e Rs ⟨none, .store t x y, ty, pos, af, gd⟩ (fun e' Rs' => e' = e ∧ Rs' = Rs.set i (BlkR b T cs')) := by
  intro a w K Q ha hs hk
  have hb := hs.blk i hi
  have hvz' := Nat.eq_of_beq_eq_true hvz
  have hf' := Nat.le_of_ble_eq_true hf
  have h2 := run_storeCells_at (P := P) b o T v.cells.toList 0 cs w hb (by simpa using hf') (List.all_eq_true.1 ho)
  have h1 : (execOp a.eval ⟨none, .store t x y, ty, pos, af, gd⟩).run P w = .ok .skip (w.setRow b cs') := by
    simp only [Nat.add_zero, Array.length_toList] at h2
    rw [hc] at h2
    simp [execOp, ha.ev hx, ha.ev hy, Instr.storeAt, Instr.sureAddr, storeVar, hz, hvz', h2]
  unfold Oper.wp
  rw [h1]
  exact hk _ _ ⟨rfl, rfl⟩ _ _ (ha.put0) (hs.setRowS i hi)
def CT (P : Program) (n : Nat) (e : Env) (o : Oper) (f : FuncId) (us : List Value) : Prop := ∀ a w, Has n e a → (execOp a.eval o).run P w = .ok (.enter f us.toArray) w
theorem CT.fn {f : FuncId} {xs : List Operand} {vs : List Value} {ts : Array TypeId} (hc : ∀ args w, (callFunc f args).run P w = .ok (.enter f args) w) (hv : e.evs xs = some vs) : CT P n e ⟨d, .call ⟨.value (.func f), xs.toArray, ts⟩, ty, pos, af, gd⟩ f vs := by
  intro a w ha
  simp [execOp, resolve, Act.eval, Deferred.ofValue, invoke, List.map_toArray, ha.evs hv, hc]
theorem CT.val {f : FuncId} {x : Operand} {xs : List Operand} {vs us fs cs : List Value} {ts : Array TypeId} (hx : e.ev x = some (.func (.func f) fs.toArray cs.toArray)) (hc : ∀ args w, (callFunc f args).run P w = .ok (.enter f args) w) (hv : e.evs xs = some vs) (hu : fs ++ vs ++ cs = us) : CT P n e ⟨d, .call ⟨.value x, xs.toArray, ts⟩, ty, pos, af, gd⟩ f us := by
  intro a w ha
  subst hu
  simp [execOp, resolve, ha.ev hx, Deferred.ofValue, invoke, List.map_toArray, ha.evs hv, hc]
theorem Ef.call (i : Nat) {op : Op} {f : FuncId} {vs : List Value} {A : Res} {Y : RX} {R : Value → Res → List Res → Prop} (hc : CT P n e ⟨d, op, ty, pos, af, gd⟩ f vs) (hi : Rs[i]? = some A)
    (hs : SpecX P f vs.toArray Y A R) (hr : ∀ w, St F0 w0 Rs w → Src F0 w0 Rs w i Y) (hd : okd d n = true) :
    Ef P n F0 w0 e Rs ⟨d, op, ty, pos, af, gd⟩ (fun e' Rs' => ∃ v A' N, R v A' N ∧ e' = envput d v e ∧ Rs' = N ++ Rs.set i A') := by
  intro a w K Q ha hst hk
  unfold Oper.wp
  rw [hc a w ha]
  refine (hst.callX i hi hs (hr w hst)).mono ?_
  rintro x w' ⟨v, A', N, rfl, hq, hst'⟩
  exact hk _ _ ⟨v, A', N, hq, rfl, rfl⟩ _ _ (ha.putd hd) hst'
theorem Ef.callE {op : Op} {f : FuncId} {vs : List Value} {Y : RX} {R : Value → Res → List Res → Prop} (hc : CT P n e ⟨d, op, ty, pos, af, gd⟩ f vs)
    (hs : SpecX P f vs.toArray Y EmpR R) (hr : ∀ w, St F0 w0 Rs w → Y.reads w (fun _ => False)) (hd : okd d n = true) :
    Ef P n F0 w0 e Rs ⟨d, op, ty, pos, af, gd⟩ (fun e' Rs' => ∃ v A' N, R v A' N ∧ e' = envput d v e ∧ Rs' = N ++ Rs) := by
  intro a w K Q ha hst hk
  unfold Oper.wp
  rw [hc a w ha]
  refine (hst.callE hs (hr w hst)).mono ?_
  rintro x w' ⟨v, A', N, rfl, hq, hst'⟩
  exact hk _ _ ⟨v, A', N, hq, rfl, rfl⟩ _ _ (ha.putd hd) hst'
theorem run_app {a : Act} {w : World} {sl x : Operand} {T : TypeId} {z bytes g : Nat} {zv : Value} {us cells : List Value} {q : Value} {m : Nat} (ha : Has n e a) (hu : P.underlying t = some (.slice T)) (hinfo : (P.info? T).map (fun i => (i.zero, i.size, i.bytes)) = some (some zv, z, bytes)) (hzv : zv.cells.size = z) (hp : 0 < z)
    (hs : e.ev sl = some q) (hx : e.ev x = some (.slice (some ⟨g, 0, none⟩) 1 1)) (hown : w.ownsRow 0 T z q m cells) (hl : us.length = z) (hg : w.heap[g]? = some (.cells us.toArray T (0, 0))) (ho : us.all (·.oneCell') = true) (hb : (m + 1) * bytes ≤ 140737488355328) (hm : m + 1 ≤ 140737488355328) :
    ∃ q' w', (execOp a.eval ⟨d, .call ⟨.builtin .append, #[sl, x], #[t, t]⟩, ty, pos, af, gd⟩).run P w = .ok (.value q') w' ∧ w'.ownsRow 0 T z q' (m + 1) (cells ++ us) ∧ w.grownBy w' q.ownBlock ∧ (q'.ownBlock = q.ownBlock ∨ ∃ k, q'.ownBlock = some k ∧ w.heap.size ≤ k) := by
  obtain ⟨i, hi, hzz⟩ := Option.map_eq_some_iff.1 hinfo
  simp only [Prod.mk.injEq] at hzz
  obtain ⟨h0, h1, h2⟩ := hzz
  obtain ⟨q', w', hr, k2, k3, _, k5⟩ := run_append_own_at (P := P) w 0 t ty T i zv z bytes hu hi h0 h1 h2 hzv hp q m cells hown ⟨g, 0, none⟩ 1 1 us (by omega) (fun j u hj => by
    have e1 : (⟨g, 0, none⟩ : Addr).add j = ⟨g, j, none⟩ := by unfold Addr.add; split <;> simp_all
    rw [e1, heap_at hg]
    simpa using hj) (by simpa using ho) (by simp only [maxLen]; omega) hb (Nat.zero_le _)
  refine ⟨q', w', ?_, k2, k3, k5.imp id (fun h => ⟨_, h, Nat.le_refl _⟩)⟩
  simp [execOp, resolve, invoke, builtin, ha.ev hs, ha.ev hx, hr]
theorem Ef.app1 (i : Nat) {α : Type} {E : Rd α} {sl x : Operand} {T : TypeId} {z bytes g : Nat} {zv : Value} {us : List Value} {A : Option Addr} {c : Nat} {l : List α} {u : α} {Rs' : List Res} (hu : P.underlying t = some (.slice T)) (hinfo : (P.info? T).map (fun i => (i.zero, i.size, i.bytes)) = some (some zv, z, bytes)) (hzv : zv.cells.size = z) (hp : 0 < z)
    (hs : e.ev sl = some (.slice A l.length c)) (hx : e.ev x = some (.slice (some ⟨g, 0, none⟩) 1 1)) (hR : Rs = BlkR g T us.toArray :: Rs') (hi : Rs'[i]? = some (OwnR T z E (.slice A l.length c) l)) (hl : us.length = z) (ho : us.all (·.oneCell') = true) (hE : ∀ w S, E.P w S us u) (hb : (l.length + 1) * bytes ≤ 140737488355328) (hm : l.length + 1 ≤ 140737488355328) (hd : okd d n = true) :
    Ef P n F0 w0 e Rs ⟨d, .call ⟨.builtin .append, #[sl, x], #[t, t]⟩, ty, pos, af, gd⟩ (fun e' R => ∃ A' c', e' = envput d (.slice A' (l ++ [u]).length c') e ∧ R = Rs'.set i (OwnR T z E (.slice A' (l ++ [u]).length c') (l ++ [u]))) := by
  subst hR
  intro a w K Q ha hst hk
  obtain ⟨cells, k1, k2⟩ := OwnR.open_ (i + 1) hst (by simpa using hi)
  obtain ⟨q', w', r1, r2, r3, r4⟩ := run_app (d := d) (ty := ty) (pos := pos) (af := af) (gd := gd) ha hu hinfo hzv hp hs hx k1 hl (hst.blk 0 rfl) ho hb hm
  have h3 := k2 q' w' us u r2 r3 r4 hl hE
  have hlen : l.length + 1 = (l ++ [u]).length := by simp
  rw [hlen] at r2
  obtain ⟨A', c', rfl⟩ := row_slice r2
  unfold Oper.wp
  rw [r1]
  exact hk _ _ ⟨A', c', rfl, rfl⟩ _ _ (ha.putd hd) (h3.drop_)
def SOK (P : Program) (t T : TypeId) (m z : Nat) (zs : Array Value) : Prop := ∀ (parts : Array (Nat × Value)) (cells : Array Value) (w : World), Instr.fill (fun i => some (i * z, z)) zs parts.toList = some cells → (Instr.buildSlice t m parts).run P w = .ok (.slice (some ⟨w.heap.size, 0, none⟩) m m) (w.alloc (.cells cells T))
theorem Ef.lit {T m z : Nat} {zs cells : Array Value} {ps : List (Nat × Operand)} {vs : List Value} (hB : SOK P t T m z zs) (hv : e.evs (ps.map (·.2)) = some vs) (hf : Instr.fill (fun i => some (i * z, z)) zs ((ps.map (·.1)).zip vs) = some cells) (hd : okd d n = true) :
    Ef P n F0 w0 e Rs ⟨d, .buildSlice t m ps.toArray, ty, pos, af, gd⟩ (fun e' Rs' => ∃ b, e' = envput d (.slice (some ⟨b, 0, none⟩) m m) e ∧ Rs' = BlkR b T cells :: Rs) := by
  intro a w K Q ha hs hk
  have h1 := ha.evs hv
  have h2 : ps.map (fun p => (p.1, a.eval p.2)) = (ps.map (·.1)).zip vs := by
    rw [← h1]
    clear h1 hf hv
    induction ps with
    | nil => rfl
    | cons p ps ih => simp [ih]
  have h3 := hB (ps.map (fun p => (p.1, a.eval p.2))).toArray cells w (by simpa [h2] using hf)
  unfold Oper.wp
  simp only [execOp, List.map_toArray, Sem.run_bind]
  rw [h3]
  exact hk _ _ ⟨_, rfl, rfl⟩ _ _ (ha.putd hd) (hs.alloc _ _)
theorem St.rowOf {α : Type} {E : Rd α} {b T z m : Nat} {us : List Value} {l : List α} {w : World} (h : St F0 w0 (BlkR b T us.toArray :: Rs) w) (hm : l.length = m) (hmm : m ≤ maxLen) (he : ∀ w, elems z E w (fun _ => False) us l) :
    St F0 w0 (OwnR T z E (.slice (some ⟨b, 0, none⟩) m m) l :: Rs) w := by
  subst hm
  refine h.weaken 0 rfl (fun G hG => ?_)
  have hl := elems_length (he w)
  refine ⟨us, fun _ => False, ⟨hl, .inr ⟨b, l.length, us.toArray, rfl, Nat.zero_le _, hG.1, Nat.le_refl _, hmm, by simpa using hl, ?_⟩⟩, he w, fun _ h => h.elim, fun _ _ h => h, fun k => ?_⟩
  · simp [← hl]
  · rw [hG.2 k]
    simp [Value.ownBlock, eq_comm]
end
section
variable {P : Program} {n : Nat} {F0 : Nat → Prop} {w0 : World} {e : Env} {Rs Rf : List Res} {Q : Exit → Act → World → Prop} {ops : Array Oper} {i d b o z f T : Nat} {ty t el : TypeId} {pos : String} {af : Array Edge} {gd : Option (Nat × Bool)} {v zv : Value} {x y : Operand} {l : List Nat} {xs : List Operand} {vs : List Value} {ts : Array TypeId} {Y : RX} {A B : Res} {R : Value → Res → List Res → Prop} {c : Code} {cl : Call}
theorem TL.rowOf {α : Type} {E : Rd α} {m : Nat} {us : List Value} {xs : List α} (hm : xs.length = m) (hmm : m ≤ maxLen) (he : ∀ w, elems z E w (fun _ => False) us xs) (h : TL P n F0 w0 ops l e (OwnR T z E (.slice (some ⟨b, 0, none⟩) m m) xs :: Rs) Q) : TL P n F0 w0 ops l e (BlkR b T us.toArray :: Rs) Q := fun a w ha hs => h a w ha (hs.rowOf hm hmm he)
theorem TD.rowOf {α : Type} {E : Rd α} {m : Nat} {us : List Value} {xs : List α} {l : Sch} (hm : xs.length = m) (hmm : m ≤ maxLen) (he : ∀ w, elems z E w (fun _ => False) us xs) (h : TD P n F0 w0 ops l Rf e (OwnR T z E (.slice (some ⟨b, 0, none⟩) m m) xs :: Rs) Q) : TD P n F0 w0 ops l Rf e (BlkR b T us.toArray :: Rs) Q := fun a w ha hs => h a w ha (hs.rowOf hm hmm he)
theorem TL.alloc  (ho : ops[i]? = some ⟨some d, .alloc t, ty, pos, af, gd⟩) (hw : Wd n ops e ⟨some d, .alloc t, ty, pos, af, gd⟩ true) (hz : ∀ w, (zeroValue t).run P w = .ok zv w) (hd : Nat.blt d n = true) (h : ∀ b, TL P n F0 w0 ops l ((d, .pointer (some ⟨b, 0, none⟩)) :: e) (BlkR b t zv.cells :: Rs) Q) : TL P n F0 w0 ops (i :: l) e Rs Q := by
  refine TL.ef ho hw (Ef.alloc hz hd) ?_
  rintro _ _ ⟨b, rfl, rfl⟩
  exact h b
theorem TD.alloc  {l : Sch} (ho : ops[i]? = some ⟨some d, .alloc t, ty, pos, af, gd⟩) (hw : Wd n ops e ⟨some d, .alloc t, ty, pos, af, gd⟩ true) (hz : ∀ w, (zeroValue t).run P w = .ok zv w) (hd : Nat.blt d n = true) (is : List Nat) (hf : ∀ b, Sel (BlkR b t zv.cells :: Rs) is Rf) (h : ∀ b, TD P n F0 w0 ops l Rf ((d, .pointer (some ⟨b, 0, none⟩)) :: e) (BlkR b t zv.cells :: Rs) Q) : TD P n F0 w0 ops (.e i l) Rf e Rs Q := by
  refine TD.ef ho hw (Ef.alloc hz hd) ?_
  rintro _ _ ⟨b, rfl, rfl⟩
  exact ⟨Rf, fun w hw => hw.sel is (hf b), fun _ h => h, h b⟩
theorem TL.box  (ho : ops[i]? = some ⟨some d, .box t x, ty, pos, af, gd⟩) (hw : Wd n ops e ⟨some d, .box t x, ty, pos, af, gd⟩ true) (hx : e.ev x = some v) (hd : Nat.blt d n = true) (h : ∀ b, TL P n F0 w0 ops l ((d, .pointer (some ⟨b, 0, none⟩)) :: e) (BlkR b t v.cells :: Rs) Q) : TL P n F0 w0 ops (i :: l) e Rs Q := by
  refine TL.ef ho hw (Ef.box hx hd) ?_
  rintro _ _ ⟨b, rfl, rfl⟩
  exact h b
theorem TD.box  {l : Sch} (ho : ops[i]? = some ⟨some d, .box t x, ty, pos, af, gd⟩) (hw : Wd n ops e ⟨some d, .box t x, ty, pos, af, gd⟩ true) (hx : e.ev x = some v) (hd : Nat.blt d n = true) (is : List Nat) (hf : ∀ b, Sel (BlkR b t v.cells :: Rs) is Rf) (h : ∀ b, TD P n F0 w0 ops l Rf ((d, .pointer (some ⟨b, 0, none⟩)) :: e) (BlkR b t v.cells :: Rs) Q) : TD P n F0 w0 ops (.e i l) Rf e Rs Q := by
  refine TD.ef ho hw (Ef.box hx hd) ?_
  rintro _ _ ⟨b, rfl, rfl⟩
  exact ⟨Rf, fun w hw => hw.sel is (hf b), fun _ h => h, h b⟩
theorem TL.lit {m : Nat} {zs cells : Array Value} {ps : List (Nat × Operand)} (ho : ops[i]? = some ⟨some d, .buildSlice t m ps.toArray, ty, pos, af, gd⟩) (hw : Wd n ops e ⟨some d, .buildSlice t m ps.toArray, ty, pos, af, gd⟩ true) (hB : SOK P t T m z zs) (hv : e.evs (ps.map (·.2)) = some vs) (hf' : Instr.fill (fun i => some (i * z, z)) zs ((ps.map (·.1)).zip vs) = some cells) (hd : Nat.blt d n = true) (h : ∀ b, TL P n F0 w0 ops l ((d, .slice (some ⟨b, 0, none⟩) m m) :: e) (BlkR b T cells :: Rs) Q) : TL P n F0 w0 ops (i :: l) e Rs Q := by
  refine TL.ef ho hw (Ef.lit hB hv hf' hd) ?_
  rintro _ _ ⟨b, rfl, rfl⟩
  exact h b
theorem TD.lit {m : Nat} {zs cells : Array Value} {ps : List (Nat × Operand)} {l : Sch} (ho : ops[i]? = some ⟨some d, .buildSlice t m ps.toArray, ty, pos, af, gd⟩) (hw : Wd n ops e ⟨some d, .buildSlice t m ps.toArray, ty, pos, af, gd⟩ true) (hB : SOK P t T m z zs) (hv : e.evs (ps.map (·.2)) = some vs) (hf' : Instr.fill (fun i => some (i * z, z)) zs ((ps.map (·.1)).zip vs) = some cells) (hd : Nat.blt d n = true) (is : List Nat) (hf : ∀ b, Sel (BlkR b T cells :: Rs) is Rf) (h : ∀ b, TD P n F0 w0 ops l Rf ((d, .slice (some ⟨b, 0, none⟩) m m) :: e) (BlkR b T cells :: Rs) Q) : TD P n F0 w0 ops (.e i l) Rf e Rs Q := by
  refine TD.ef ho hw (Ef.lit hB hv hf' hd) ?_
  rintro _ _ ⟨b, rfl, rfl⟩
  exact ⟨Rf, fun w hw => hw.sel is (hf b), fun _ h => h, h b⟩
theorem TL.st0 {cs cs' : Array Value}  (ho : ops[i]? = some ⟨none, .store t x y, ty, pos, af, gd⟩) (hw : Wd n ops e ⟨none, .store t x y, ty, pos, af, gd⟩ true) (hx : e.ev x = some (.pointer (some ⟨b, o, none⟩))) (hy : e.ev y = some v) (hz : ∀ w, (sizeOf t).run P w = .ok z w) (hvz : Nat.beq v.cells.size z = true) (hf' : Nat.ble (o + v.cells.size) cs.size = true) (ho' : v.cells.toList.all (·.oneCell') = true) (hc : (cs.toList.take o ++ v.cells.toList ++ cs.toList.drop (o + v.cells.size)).toArray = cs') (h : TL P n F0 w0 ops l e (BlkR b T cs' :: Rs) Q) : TL P n F0 w0 ops (i :: l) e (BlkR b T cs :: Rs) Q := by
  refine TL.ef ho hw (Ef.st 0 hx hy hz rfl hvz hf' ho' hc) ?_
  rintro _ _ ⟨rfl, rfl⟩
  exact h
theorem TD.st0 {cs cs' : Array Value}  {l : Sch} (ho : ops[i]? = some ⟨none, .store t x y, ty, pos, af, gd⟩) (hw : Wd n ops e ⟨none, .store t x y, ty, pos, af, gd⟩ true) (hx : e.ev x = some (.pointer (some ⟨b, o, none⟩))) (hy : e.ev y = some v) (hz : ∀ w, (sizeOf t).run P w = .ok z w) (hvz : Nat.beq v.cells.size z = true) (hf' : Nat.ble (o + v.cells.size) cs.size = true) (ho' : v.cells.toList.all (·.oneCell') = true) (hc : (cs.toList.take o ++ v.cells.toList ++ cs.toList.drop (o + v.cells.size)).toArray = cs') (is : List Nat) (hf : Sel (BlkR b T cs' :: Rs) is Rf) (h : TD P n F0 w0 ops l Rf e (BlkR b T cs' :: Rs) Q) : TD P n F0 w0 ops (.e i l) Rf e (BlkR b T cs :: Rs) Q := by
  refine TD.ef ho hw (Ef.st 0 hx hy hz rfl hvz hf' ho' hc) ?_
  rintro _ _ ⟨rfl, rfl⟩
  exact ⟨Rf, fun w hw => hw.sel is (hf), fun _ h => h, h⟩
theorem TL.c0  (ho : ops[i]? = some ⟨some d, .call cl, ty, pos, af, gd⟩) (hw : Wd n ops e ⟨some d, .call cl, ty, pos, af, gd⟩ true) (hc : CT P n e ⟨some d, .call cl, ty, pos, af, gd⟩ f vs) (hs : SpecX P f vs.toArray Y A (fun v' A' N => v' = v ∧ A' = B ∧ N = [])) (hr : ∀ w, St F0 w0 (A :: Rs) w → Src F0 w0 (A :: Rs) w 0 Y) (hd : Nat.blt d n = true) (h : TL P n F0 w0 ops l ((d, v) :: e) (B :: Rs) Q) : TL P n F0 w0 ops (i :: l) e (A :: Rs) Q := by
  refine TL.ef ho hw (Ef.call 0 hc rfl hs hr hd) ?_
  rintro _ _ ⟨_, _, _, ⟨rfl, rfl, rfl⟩, rfl, rfl⟩
  exact h
theorem TD.c0  {l : Sch} (ho : ops[i]? = some ⟨some d, .call cl, ty, pos, af, gd⟩) (hw : Wd n ops e ⟨some d, .call cl, ty, pos, af, gd⟩ true) (hc : CT P n e ⟨some d, .call cl, ty, pos, af, gd⟩ f vs) (hs : SpecX P f vs.toArray Y A (fun v' A' N => v' = v ∧ A' = B ∧ N = [])) (hr : ∀ w, St F0 w0 (A :: Rs) w → Src F0 w0 (A :: Rs) w 0 Y) (hd : Nat.blt d n = true) (is : List Nat) (hf : Sel (B :: Rs) is Rf) (h : TD P n F0 w0 ops l Rf ((d, v) :: e) (B :: Rs) Q) : TD P n F0 w0 ops (.e i l) Rf e (A :: Rs) Q := by
  refine TD.ef ho hw (Ef.call 0 hc rfl hs hr hd) ?_
  rintro _ _ ⟨_, _, _, ⟨rfl, rfl, rfl⟩, rfl, rfl⟩
  exact ⟨Rf, fun w hw => hw.sel is (hf), fun _ h => h, h⟩
theorem TL.st1 {cs cs' : Array Value} {R0 : Res} (ho : ops[i]? = some ⟨none, .store t x y, ty, pos, af, gd⟩) (hw : Wd n ops e ⟨none, .store t x y, ty, pos, af, gd⟩ true) (hx : e.ev x = some (.pointer (some ⟨b, o, none⟩))) (hy : e.ev y = some v) (hz : ∀ w, (sizeOf t).run P w = .ok z w) (hvz : Nat.beq v.cells.size z = true) (hf' : Nat.ble (o + v.cells.size) cs.size = true) (ho' : v.cells.toList.all (·.oneCell') = true) (hc : (cs.toList.take o ++ v.cells.toList ++ cs.toList.drop (o + v.cells.size)).toArray = cs') (h : TL P n F0 w0 ops l e (R0 :: BlkR b T cs' :: Rs) Q) : TL P n F0 w0 ops (i :: l) e (R0 :: BlkR b T cs :: Rs) Q := by
  refine TL.ef ho hw (Ef.st 1 hx hy hz rfl hvz hf' ho' hc) ?_
  rintro _ _ ⟨rfl, rfl⟩
  exact h
theorem TD.st1 {cs cs' : Array Value} {R0 : Res} {l : Sch} (ho : ops[i]? = some ⟨none, .store t x y, ty, pos, af, gd⟩) (hw : Wd n ops e ⟨none, .store t x y, ty, pos, af, gd⟩ true) (hx : e.ev x = some (.pointer (some ⟨b, o, none⟩))) (hy : e.ev y = some v) (hz : ∀ w, (sizeOf t).run P w = .ok z w) (hvz : Nat.beq v.cells.size z = true) (hf' : Nat.ble (o + v.cells.size) cs.size = true) (ho' : v.cells.toList.all (·.oneCell') = true) (hc : (cs.toList.take o ++ v.cells.toList ++ cs.toList.drop (o + v.cells.size)).toArray = cs') (is : List Nat) (hf : Sel (R0 :: BlkR b T cs' :: Rs) is Rf) (h : TD P n F0 w0 ops l Rf e (R0 :: BlkR b T cs' :: Rs) Q) : TD P n F0 w0 ops (.e i l) Rf e (R0 :: BlkR b T cs :: Rs) Q := by
  refine TD.ef ho hw (Ef.st 1 hx hy hz rfl hvz hf' ho' hc) ?_
  rintro _ _ ⟨rfl, rfl⟩
  exact ⟨Rf, fun w hw => hw.sel is (hf), fun _ h => h, h⟩
theorem TL.c1 {R0 : Res} (ho : ops[i]? = some ⟨some d, .call cl, ty, pos, af, gd⟩) (hw : Wd n ops e ⟨some d, .call cl, ty, pos, af, gd⟩ true) (hc : CT P n e ⟨some d, .call cl, ty, pos, af, gd⟩ f vs) (hs : SpecX P f vs.toArray Y A (fun v' A' N => v' = v ∧ A' = B ∧ N = [])) (hr : ∀ w, St F0 w0 (R0 :: A :: Rs) w → Src F0 w0 (R0 :: A :: Rs) w 1 Y) (hd : Nat.blt d n = true) (h : TL P n F0 w0 ops l ((d, v) :: e) (R0 :: B :: Rs) Q) : TL P n F0 w0 ops (i :: l) e (R0 :: A :: Rs) Q := by
  refine TL.ef ho hw (Ef.call 1 hc rfl hs hr hd) ?_
  rintro _ _ ⟨_, _, _, ⟨rfl, rfl, rfl⟩, rfl, rfl⟩
  exact h
theorem TD.c1 {R0 : Res} {l : Sch} (ho : ops[i]? = some ⟨some d, .call cl, ty, pos, af, gd⟩) (hw : Wd n ops e ⟨some d, .call cl, ty, pos, af, gd⟩ true) (hc : CT P n e ⟨some d, .call cl, ty, pos, af, gd⟩ f vs) (hs : SpecX P f vs.toArray Y A (fun v' A' N => v' = v ∧ A' = B ∧ N = [])) (hr : ∀ w, St F0 w0 (R0 :: A :: Rs) w → Src F0 w0 (R0 :: A :: Rs) w 1 Y) (hd : Nat.blt d n = true) (is : List Nat) (hf : Sel (R0 :: B :: Rs) is Rf) (h : TD P n F0 w0 ops l Rf ((d, v) :: e) (R0 :: B :: Rs) Q) : TD P n F0 w0 ops (.e i l) Rf e (R0 :: A :: Rs) Q := by
  refine TD.ef ho hw (Ef.call 1 hc rfl hs hr hd) ?_
  rintro _ _ ⟨_, _, _, ⟨rfl, rfl, rfl⟩, rfl, rfl⟩
  exact ⟨Rf, fun w hw => hw.sel is (hf), fun _ h => h, h⟩
theorem TL.c2 {R0 R1 : Res} (ho : ops[i]? = some ⟨some d, .call cl, ty, pos, af, gd⟩) (hw : Wd n ops e ⟨some d, .call cl, ty, pos, af, gd⟩ true) (hc : CT P n e ⟨some d, .call cl, ty, pos, af, gd⟩ f vs) (hs : SpecX P f vs.toArray Y A (fun v' A' N => v' = v ∧ A' = B ∧ N = [])) (hr : ∀ w, St F0 w0 (R0 :: R1 :: A :: Rs) w → Src F0 w0 (R0 :: R1 :: A :: Rs) w 2 Y) (hd : Nat.blt d n = true) (h : TL P n F0 w0 ops l ((d, v) :: e) (R0 :: R1 :: B :: Rs) Q) : TL P n F0 w0 ops (i :: l) e (R0 :: R1 :: A :: Rs) Q := by
  refine TL.ef ho hw (Ef.call 2 hc rfl hs hr hd) ?_
  rintro _ _ ⟨_, _, _, ⟨rfl, rfl, rfl⟩, rfl, rfl⟩
  exact h
theorem TD.c2 {R0 R1 : Res} {l : Sch} (ho : ops[i]? = some ⟨some d, .call cl, ty, pos, af, gd⟩) (hw : Wd n ops e ⟨some d, .call cl, ty, pos, af, gd⟩ true) (hc : CT P n e ⟨some d, .call cl, ty, pos, af, gd⟩ f vs) (hs : SpecX P f vs.toArray Y A (fun v' A' N => v' = v ∧ A' = B ∧ N = [])) (hr : ∀ w, St F0 w0 (R0 :: R1 :: A :: Rs) w → Src F0 w0 (R0 :: R1 :: A :: Rs) w 2 Y) (hd : Nat.blt d n = true) (is : List Nat) (hf : Sel (R0 :: R1 :: B :: Rs) is Rf) (h : TD P n F0 w0 ops l Rf ((d, v) :: e) (R0 :: R1 :: B :: Rs) Q) : TD P n F0 w0 ops (.e i l) Rf e (R0 :: R1 :: A :: Rs) Q := by
  refine TD.ef ho hw (Ef.call 2 hc rfl hs hr hd) ?_
  rintro _ _ ⟨_, _, _, ⟨rfl, rfl, rfl⟩, rfl, rfl⟩
  exact ⟨Rf, fun w hw => hw.sel is (hf), fun _ h => h, h⟩
theorem TL.c3 {R0 R1 R2 : Res} (ho : ops[i]? = some ⟨some d, .call cl, ty, pos, af, gd⟩) (hw : Wd n ops e ⟨some d, .call cl, ty, pos, af, gd⟩ true) (hc : CT P n e ⟨some d, .call cl, ty, pos, af, gd⟩ f vs) (hs : SpecX P f vs.toArray Y A (fun v' A' N => v' = v ∧ A' = B ∧ N = [])) (hr : ∀ w, St F0 w0 (R0 :: R1 :: R2 :: A :: Rs) w → Src F0 w0 (R0 :: R1 :: R2 :: A :: Rs) w 3 Y) (hd : Nat.blt d n = true) (h : TL P n F0 w0 ops l ((d, v) :: e) (R0 :: R1 :: R2 :: B :: Rs) Q) : TL P n F0 w0 ops (i :: l) e (R0 :: R1 :: R2 :: A :: Rs) Q := by
  refine TL.ef ho hw (Ef.call 3 hc rfl hs hr hd) ?_
  rintro _ _ ⟨_, _, _, ⟨rfl, rfl, rfl⟩, rfl, rfl⟩
  exact h
theorem TD.c3 {R0 R1 R2 : Res} {l : Sch} (ho : ops[i]? = some ⟨some d, .call cl, ty, pos, af, gd⟩) (hw : Wd n ops e ⟨some d, .call cl, ty, pos, af, gd⟩ true) (hc : CT P n e ⟨some d, .call cl, ty, pos, af, gd⟩ f vs) (hs : SpecX P f vs.toArray Y A (fun v' A' N => v' = v ∧ A' = B ∧ N = [])) (hr : ∀ w, St F0 w0 (R0 :: R1 :: R2 :: A :: Rs) w → Src F0 w0 (R0 :: R1 :: R2 :: A :: Rs) w 3 Y) (hd : Nat.blt d n = true) (is : List Nat) (hf : Sel (R0 :: R1 :: R2 :: B :: Rs) is Rf) (h : TD P n F0 w0 ops l Rf ((d, v) :: e) (R0 :: R1 :: R2 :: B :: Rs) Q) : TD P n F0 w0 ops (.e i l) Rf e (R0 :: R1 :: R2 :: A :: Rs) Q := by
  refine TD.ef ho hw (Ef.call 3 hc rfl hs hr hd) ?_
  rintro _ _ ⟨_, _, _, ⟨rfl, rfl, rfl⟩, rfl, rfl⟩
  exact ⟨Rf, fun w hw => hw.sel is (hf), fun _ h => h, h⟩
theorem TL.c6 {R0 R1 R2 R3 R4 R5 : Res} (ho : ops[i]? = some ⟨some d, .call cl, ty, pos, af, gd⟩) (hw : Wd n ops e ⟨some d, .call cl, ty, pos, af, gd⟩ true) (hc : CT P n e ⟨some d, .call cl, ty, pos, af, gd⟩ f vs) (hs : SpecX P f vs.toArray Y A (fun v' A' N => v' = v ∧ A' = B ∧ N = [])) (hr : ∀ w, St F0 w0 (R0 :: R1 :: R2 :: R3 :: R4 :: R5 :: A :: Rs) w → Src F0 w0 (R0 :: R1 :: R2 :: R3 :: R4 :: R5 :: A :: Rs) w 6 Y) (hd : Nat.blt d n = true) (h : TL P n F0 w0 ops l ((d, v) :: e) (R0 :: R1 :: R2 :: R3 :: R4 :: R5 :: B :: Rs) Q) : TL P n F0 w0 ops (i :: l) e (R0 :: R1 :: R2 :: R3 :: R4 :: R5 :: A :: Rs) Q := by
  refine TL.ef ho hw (Ef.call 6 hc rfl hs hr hd) ?_
  rintro _ _ ⟨_, _, _, ⟨rfl, rfl, rfl⟩, rfl, rfl⟩
  exact h
theorem TD.c6 {R0 R1 R2 R3 R4 R5 : Res} {l : Sch} (ho : ops[i]? = some ⟨some d, .call cl, ty, pos, af, gd⟩) (hw : Wd n ops e ⟨some d, .call cl, ty, pos, af, gd⟩ true) (hc : CT P n e ⟨some d, .call cl, ty, pos, af, gd⟩ f vs) (hs : SpecX P f vs.toArray Y A (fun v' A' N => v' = v ∧ A' = B ∧ N = [])) (hr : ∀ w, St F0 w0 (R0 :: R1 :: R2 :: R3 :: R4 :: R5 :: A :: Rs) w → Src F0 w0 (R0 :: R1 :: R2 :: R3 :: R4 :: R5 :: A :: Rs) w 6 Y) (hd : Nat.blt d n = true) (is : List Nat) (hf : Sel (R0 :: R1 :: R2 :: R3 :: R4 :: R5 :: B :: Rs) is Rf) (h : TD P n F0 w0 ops l Rf ((d, v) :: e) (R0 :: R1 :: R2 :: R3 :: R4 :: R5 :: B :: Rs) Q) : TD P n F0 w0 ops (.e i l) Rf e (R0 :: R1 :: R2 :: R3 :: R4 :: R5 :: A :: Rs) Q := by
  refine TD.ef ho hw (Ef.call 6 hc rfl hs hr hd) ?_
  rintro _ _ ⟨_, _, _, ⟨rfl, rfl, rfl⟩, rfl, rfl⟩
  exact ⟨Rf, fun w hw => hw.sel is (hf), fun _ h => h, h⟩
theorem TL.c7 {R0 R1 R2 R3 R4 R5 R6 : Res} (ho : ops[i]? = some ⟨some d, .call cl, ty, pos, af, gd⟩) (hw : Wd n ops e ⟨some d, .call cl, ty, pos, af, gd⟩ true) (hc : CT P n e ⟨some d, .call cl, ty, pos, af, gd⟩ f vs) (hs : SpecX P f vs.toArray Y A (fun v' A' N => v' = v ∧ A' = B ∧ N = [])) (hr : ∀ w, St F0 w0 (R0 :: R1 :: R2 :: R3 :: R4 :: R5 :: R6 :: A :: Rs) w → Src F0 w0 (R0 :: R1 :: R2 :: R3 :: R4 :: R5 :: R6 :: A :: Rs) w 7 Y) (hd : Nat.blt d n = true) (h : TL P n F0 w0 ops l ((d, v) :: e) (R0 :: R1 :: R2 :: R3 :: R4 :: R5 :: R6 :: B :: Rs) Q) : TL P n F0 w0 ops (i :: l) e (R0 :: R1 :: R2 :: R3 :: R4 :: R5 :: R6 :: A :: Rs) Q := by
  refine TL.ef ho hw (Ef.call 7 hc rfl hs hr hd) ?_
  rintro _ _ ⟨_, _, _, ⟨rfl, rfl, rfl⟩, rfl, rfl⟩
  exact h
theorem TD.c7 {R0 R1 R2 R3 R4 R5 R6 : Res} {l : Sch} (ho : ops[i]? = some ⟨some d, .call cl, ty, pos, af, gd⟩) (hw : Wd n ops e ⟨some d, .call cl, ty, pos, af, gd⟩ true) (hc : CT P n e ⟨some d, .call cl, ty, pos, af, gd⟩ f vs) (hs : SpecX P f vs.toArray Y A (fun v' A' N => v' = v ∧ A' = B ∧ N = [])) (hr : ∀ w, St F0 w0 (R0 :: R1 :: R2 :: R3 :: R4 :: R5 :: R6 :: A :: Rs) w → Src F0 w0 (R0 :: R1 :: R2 :: R3 :: R4 :: R5 :: R6 :: A :: Rs) w 7 Y) (hd : Nat.blt d n = true) (is : List Nat) (hf : Sel (R0 :: R1 :: R2 :: R3 :: R4 :: R5 :: R6 :: B :: Rs) is Rf) (h : TD P n F0 w0 ops l Rf ((d, v) :: e) (R0 :: R1 :: R2 :: R3 :: R4 :: R5 :: R6 :: B :: Rs) Q) : TD P n F0 w0 ops (.e i l) Rf e (R0 :: R1 :: R2 :: R3 :: R4 :: R5 :: R6 :: A :: Rs) Q := by
  refine TD.ef ho hw (Ef.call 7 hc rfl hs hr hd) ?_
  rintro _ _ ⟨_, _, _, ⟨rfl, rfl, rfl⟩, rfl, rfl⟩
  exact ⟨Rf, fun w hw => hw.sel is (hf), fun _ h => h, h⟩
theorem TL.c11 {R0 R1 R2 R3 R4 R5 R6 R7 R8 R9 R10 : Res} (ho : ops[i]? = some ⟨some d, .call cl, ty, pos, af, gd⟩) (hw : Wd n ops e ⟨some d, .call cl, ty, pos, af, gd⟩ true) (hc : CT P n e ⟨some d, .call cl, ty, pos, af, gd⟩ f vs) (hs : SpecX P f vs.toArray Y A (fun v' A' N => v' = v ∧ A' = B ∧ N = [])) (hr : ∀ w, St F0 w0 (R0 :: R1 :: R2 :: R3 :: R4 :: R5 :: R6 :: R7 :: R8 :: R9 :: R10 :: A :: Rs) w → Src F0 w0 (R0 :: R1 :: R2 :: R3 :: R4 :: R5 :: R6 :: R7 :: R8 :: R9 :: R10 :: A :: Rs) w 11 Y) (hd : Nat.blt d n = true) (h : TL P n F0 w0 ops l ((d, v) :: e) (R0 :: R1 :: R2 :: R3 :: R4 :: R5 :: R6 :: R7 :: R8 :: R9 :: R10 :: B :: Rs) Q) : TL P n F0 w0 ops (i :: l) e (R0 :: R1 :: R2 :: R3 :: R4 :: R5 :: R6 :: R7 :: R8 :: R9 :: R10 :: A :: Rs) Q := by
  refine TL.ef ho hw (Ef.call 11 hc rfl hs hr hd) ?_
  rintro _ _ ⟨_, _, _, ⟨rfl, rfl, rfl⟩, rfl, rfl⟩
  exact h
theorem TD.c11 {R0 R1 R2 R3 R4 R5 R6 R7 R8 R9 R10 : Res} {l : Sch} (ho : ops[i]? = some ⟨some d, .call cl, ty, pos, af, gd⟩) (hw : Wd n ops e ⟨some d, .call cl, ty, pos, af, gd⟩ true) (hc : CT P n e ⟨some d, .call cl, ty, pos, af, gd⟩ f vs) (hs : SpecX P f vs.toArray Y A (fun v' A' N => v' = v ∧ A' = B ∧ N = [])) (hr : ∀ w, St F0 w0 (R0 :: R1 :: R2 :: R3 :: R4 :: R5 :: R6 :: R7 :: R8 :: R9 :: R10 :: A :: Rs) w → Src F0 w0 (R0 :: R1 :: R2 :: R3 :: R4 :: R5 :: R6 :: R7 :: R8 :: R9 :: R10 :: A :: Rs) w 11 Y) (hd : Nat.blt d n = true) (is : List Nat) (hf : Sel (R0 :: R1 :: R2 :: R3 :: R4 :: R5 :: R6 :: R7 :: R8 :: R9 :: R10 :: B :: Rs) is Rf) (h : TD P n F0 w0 ops l Rf ((d, v) :: e) (R0 :: R1 :: R2 :: R3 :: R4 :: R5 :: R6 :: R7 :: R8 :: R9 :: R10 :: B :: Rs) Q) : TD P n F0 w0 ops (.e i l) Rf e (R0 :: R1 :: R2 :: R3 :: R4 :: R5 :: R6 :: R7 :: R8 :: R9 :: R10 :: A :: Rs) Q := by
  refine TD.ef ho hw (Ef.call 11 hc rfl hs hr hd) ?_
  rintro _ _ ⟨_, _, _, ⟨rfl, rfl, rfl⟩, rfl, rfl⟩
  exact ⟨Rf, fun w hw => hw.sel is (hf), fun _ h => h, h⟩
theorem TL.ce  (ho : ops[i]? = some ⟨some d, .call cl, ty, pos, af, gd⟩) (hw : Wd n ops e ⟨some d, .call cl, ty, pos, af, gd⟩ true) (hc : CT P n e ⟨some d, .call cl, ty, pos, af, gd⟩ f vs) (hs : SpecX P f vs.toArray Y EmpR (fun v' A' N => v' = v ∧ A' = EmpR ∧ N = [])) (hr : ∀ w, St F0 w0 Rs w → Y.reads w (fun _ => False)) (hd : Nat.blt d n = true) (h : TL P n F0 w0 ops l ((d, v) :: e) Rs Q) : TL P n F0 w0 ops (i :: l) e Rs Q := by
  refine TL.ef ho hw (Ef.callE hc hs hr hd) ?_
  rintro _ _ ⟨_, _, _, ⟨rfl, rfl, rfl⟩, rfl, rfl⟩
  exact h
theorem TD.ce  {l : Sch} (ho : ops[i]? = some ⟨some d, .call cl, ty, pos, af, gd⟩) (hw : Wd n ops e ⟨some d, .call cl, ty, pos, af, gd⟩ true) (hc : CT P n e ⟨some d, .call cl, ty, pos, af, gd⟩ f vs) (hs : SpecX P f vs.toArray Y EmpR (fun v' A' N => v' = v ∧ A' = EmpR ∧ N = [])) (hr : ∀ w, St F0 w0 Rs w → Y.reads w (fun _ => False)) (hd : Nat.blt d n = true) (is : List Nat) (hf : Sel Rs is Rf) (h : TD P n F0 w0 ops l Rf ((d, v) :: e) Rs Q) : TD P n F0 w0 ops (.e i l) Rf e Rs Q := by
  refine TD.ef ho hw (Ef.callE hc hs hr hd) ?_
  rintro _ _ ⟨_, _, _, ⟨rfl, rfl, rfl⟩, rfl, rfl⟩
  exact ⟨Rf, fun w hw => hw.sel is (hf), fun _ h => h, h⟩
end
end Go.Proofs.Ytahjmpipllajcaa.Sl
namespace Go.Proofs.Ytahjmpipllajcaa.Sl
open Go.RowKit
set_option linter.unusedVariables false
set_option linter.unusedSimpArgs false
attribute [local go_sem] bsOf_toList bsOf_size
structure Bl where
  null : Bool
  data : List UInt8
def blen (b : Bl) : Int := if b.null then -1 else b.data.length
end Go.Proofs.Ytahjmpipllajcaa.Sl
namespace Go.Proofs.Ytahjmpipllajcaa.Sl
open Go.RowKit
set_option linter.unusedVariables false
def intE : Rd Int := ⟨fun _ _ cs n => cs = [.int .i64 n], fun h _ => h, fun h _ => h⟩
def i32E : Rd Int := ⟨fun _ _ cs n => cs = [.int .i32 n], fun h _ => h, fun h _ => h⟩
end Go.Proofs.Ytahjmpipllajcaa.Sl
namespace Go.Proofs.Ytahjmpipllajcaa.Sl
open Go.RowKit
set_option linter.unusedVariables false
set_option linter.unusedSimpArgs false
theorem bn_t {b : Bool} (h : b = false) : (!b) = true := by rw [h]; rfl
theorem bn_f {b : Bool} (h : b = true) : (!b) = false := by rw [h]; rfl
theorem ifT {α : Type} {c : Prop} [Decidable c] {x y z : α} (hc : c) (h : (if c then x else y) = z) : x = z := by rwa [if_pos hc] at h
theorem ifF {α : Type} {c : Prop} [Decidable c] {x y z : α} (hc : ¬ c) (h : (if c then x else y) = z) : y = z := by rwa [if_neg hc] at h
section
variable {P : Program} {n : Nat} {F0 : Nat → Prop} {w0 : World} {e : Env} {Rs Rf : List Res} {Q : Exit → Act → World → Prop} {ops : Array Oper} {i d : Nat} {ty t t' el : TypeId} {pos : String} {af : Array Edge} {gd : Option (Nat × Bool)} {v v' : Value} {x y : Operand} {l : List Nat} {lo : Sch} {c : Code} {S : World → Prop}
theorem TL.sel (is : List Nat) {Rs' : List Res} (hr : Sel Rs is Rs') (h : TL P n F0 w0 ops l e Rs' Q) : TL P n F0 w0 ops l e Rs Q := fun a w ha hs => h a w ha (hs.sel is hr)
theorem TD.sel (is : List Nat) {Rs' : List Res} (hr : Sel Rs is Rs') (h : TD P n F0 w0 ops lo Rf e Rs' Q) : TD P n F0 w0 ops lo Rf e Rs Q := fun a w ha hs => h a w ha (hs.sel is hr)
theorem T.sel (is : List Nat) {Rs' : List Res} (hr : Sel Rs is Rs') (h : T P n F0 w0 e Rs' c Q) : T P n F0 w0 e Rs c Q := fun a w ha hs => h a w ha (hs.sel is hr)
theorem X.sel {z : Exit} (is : List Nat) {Rs' : List Res} (hr : Sel Rs is Rs') (h : X n F0 w0 e Rs' z Q) : X n F0 w0 e Rs z Q := fun a w ha hs => h a w ha (hs.sel is hr)
theorem Has.as {a : Act} (ha : Has n e a) (hv : e.get d = some v) (h : v = v') : Has n ((d, v') :: e) a := ha.sub (fun t u hu => by
  simp only [Env.get] at hu
  cases hb : Nat.beq d t with
  | true =>
    rw [hb] at hu
    obtain rfl := Nat.eq_of_beq_eq_true hb
    injection hu with hu
    rw [hv, h, hu]
  | false => rw [hb] at hu; exact hu)
theorem TL.as (hv : e.get d = some v) (h : v = v') (k : TL P n F0 w0 ops l ((d, v') :: e) Rs Q) : TL P n F0 w0 ops l e Rs Q := fun a w ha hs => k a w (ha.as hv h) hs
theorem TD.as (hv : e.get d = some v) (h : v = v') (k : TD P n F0 w0 ops lo Rf ((d, v') :: e) Rs Q) : TD P n F0 w0 ops lo Rf e Rs Q := fun a w ha hs => k a w (ha.as hv h) hs
theorem TL.nilrow {α : Type} (T' : TypeId) (size : Nat) (E : Rd α) (h : TL P n F0 w0 ops l e (OwnR T' size E (.slice none 0 0) [] :: Rs) Q) : TL P n F0 w0 ops l e Rs Q := fun a w ha hs => h a w ha (OwnR.nil T' size E hs)
theorem TD.nilrow {α : Type} (T' : TypeId) (size : Nat) (E : Rd α) (h : TD P n F0 w0 ops lo Rf e (OwnR T' size E (.slice none 0 0) [] :: Rs) Q) : TD P n F0 w0 ops lo Rf e Rs Q := fun a w ha hs => h a w ha (OwnR.nil T' size E hs)
section
variable {α : Type} {E : Rd α} {sl : Operand} {T z bytes g ii jj : Nat} {zv : Value} {A : Option Addr} {cp : Nat} {Rs' : List Res} {B : Res}
theorem TL.app1 (ii : Nat) {us : List Value} {u : α} {l : List α} {lr : List Nat} (ho : ops[i]? = some ⟨some d, .call ⟨.builtin .append, #[sl, x], #[t, t]⟩, ty, pos, af, gd⟩) (hw : Wd n ops e ⟨some d, .call ⟨.builtin .append, #[sl, x], #[t, t]⟩, ty, pos, af, gd⟩ true)
    (hu : P.underlying t = some (.slice T)) (hinfo : (P.info? T).map (fun i => (i.zero, i.size, i.bytes)) = some (some zv, z, bytes)) (hzv : zv.cells.size = z) (hp : 0 < z)
    (hs : e.ev sl = some (.slice A l.length cp)) (hx : e.ev x = some (.slice (some ⟨g, 0, none⟩) 1 1)) (hR : Rs = BlkR g T us.toArray :: Rs') (hi : Rs'[ii]? = some (OwnR T z E (.slice A l.length cp) l)) (hl : us.length = z) (hq : us.all (·.oneCell') = true) (hE : ∀ w S, E.P w S us u) (hb : (l.length + 1) * bytes ≤ 140737488355328) (hm : l.length + 1 ≤ 140737488355328) (hd : Nat.blt d n = true)
    (h : ∀ A' c', TL P n F0 w0 ops lr ((d, .slice A' (l ++ [u]).length c') :: e) (Rs'.set ii (OwnR T z E (.slice A' (l ++ [u]).length c') (l ++ [u]))) Q) : TL P n F0 w0 ops (i :: lr) e Rs Q := by
  refine TL.ef ho hw (Ef.app1 ii hu hinfo hzv hp hs hx hR hi hl hq hE hb hm hd) ?_
  rintro _ _ ⟨A', c', rfl, rfl⟩
  exact h A' c'
theorem TD.app1 (ii : Nat) {us : List Value} {u : α} {l : List α} {lr : Sch} (ho : ops[i]? = some ⟨some d, .call ⟨.builtin .append, #[sl, x], #[t, t]⟩, ty, pos, af, gd⟩) (hw : Wd n ops e ⟨some d, .call ⟨.builtin .append, #[sl, x], #[t, t]⟩, ty, pos, af, gd⟩ true)
    (hu : P.underlying t = some (.slice T)) (hinfo : (P.info? T).map (fun i => (i.zero, i.size, i.bytes)) = some (some zv, z, bytes)) (hzv : zv.cells.size = z) (hp : 0 < z)
    (hs : e.ev sl = some (.slice A l.length cp)) (hx : e.ev x = some (.slice (some ⟨g, 0, none⟩) 1 1)) (hR : Rs = BlkR g T us.toArray :: Rs') (hi : Rs'[ii]? = some (OwnR T z E (.slice A l.length cp) l)) (hl : us.length = z) (hq : us.all (·.oneCell') = true) (hE : ∀ w S, E.P w S us u) (hb : (l.length + 1) * bytes ≤ 140737488355328) (hm : l.length + 1 ≤ 140737488355328) (hd : Nat.blt d n = true)
    (is : List Nat) (hf : ∀ A' c', Sel (Rs'.set ii (OwnR T z E (.slice A' (l ++ [u]).length c') (l ++ [u]))) is Rf)
    (h : ∀ A' c', TD P n F0 w0 ops lr Rf ((d, .slice A' (l ++ [u]).length c') :: e) (Rs'.set ii (OwnR T z E (.slice A' (l ++ [u]).length c') (l ++ [u]))) Q) : TD P n F0 w0 ops (.e i lr) Rf e Rs Q := by
  refine TD.ef ho hw (Ef.app1 ii hu hinfo hzv hp hs hx hR hi hl hq hE hb hm hd) ?_
  rintro _ _ ⟨A', c', rfl, rfl⟩
  exact ⟨Rf, fun w hw => hw.sel is (hf A' c'), fun _ h => h, h A' c'⟩
end
variable (P n F0 w0) in
def RV (e : Env) (Rs : List Res) (r : ResultVar) (v : Value) : Prop := ∀ a w, Has n e a → St F0 w0 Rs w → (resv a.tmps r).run P w = .ok v w
theorem RV.tm {k : Nat} (hv : e.get k = some v) : RV P n F0 w0 e Rs (.tmp k) v := by
  intro a w ha hs
  have h2 := ha.at_ k v hv
  simp [resv, h2]
theorem RV.cS (i : Nat) {k b T : Nat} {us : Array Value} {z : Nat} (hk : e.get k = some (.pointer (some ⟨b, 0, none⟩))) (ha : ∀ w, (isAgg t).run P w = .ok true w) (hz : ∀ w, (sizeOf t).run P w = .ok z w) (hi : Rs[i]? = some (BlkR b T us)) (hl : us.size = z) : RV P n F0 w0 e Rs (.cell k t) (.agg us) := by
  intro a w h hs
  have h2 := h.at_ k _ hk
  have hb := hs.blk i hi
  have h3 := run_loadVarS (P := P) (t := t) (w := w) (ad := ⟨b, 0, none⟩) (cs := us.toList) ha (by intro w; rw [hz]; simp [hl]) (fun j u hj => by
    have e1 : (⟨b, 0, none⟩ : Addr).add j = ⟨b, j, none⟩ := by unfold Addr.add; split <;> simp_all
    rw [e1, heap_at hb]
    simpa using hj)
  simp [resv, h2, asAddr, h3]
theorem RV.c1 (i : Nat) {k b T : Nat} {us : Array Value} (hk : e.get k = some (.pointer (some ⟨b, 0, none⟩))) (ha : ∀ w, (isAgg t).run P w = .ok false w) (hi : Rs[i]? = some (BlkR b T us)) (hv : us[0]? = some v) : RV P n F0 w0 e Rs (.cell k t) v := by
  intro a w h hs
  have h2 := h.at_ k _ hk
  have hb := hs.blk i hi
  have h3 := run_loadVar1 (P := P) (t := t) (w := w) (ad := ⟨b, 0, none⟩) ha ((heap_at hb 0).trans hv)
  simp [resv, h2, asAddr, h3]
section
variable {f : Func} {R : Value → Res → List Res → Prop} {A' : Res} {Ns : List Res} {r1 r2 r3 r4 : ResultVar} {v1 v2 v3 v4 : Value} {z : Exit}
theorem X.fin (hR : R v A' Ns) (is : List Nat) (hr : Sel Rs is (A' :: Ns)) (hx : z = .ret ∨ z = .normal) (h : ∀ a w, Has n e a → St F0 w0 Rs w → (results f a.tmps).run P w = .ok v w) : X n F0 w0 e Rs z (bodyPost P f (Post R F0 w0)) := by
  intro a w ha hs
  have h : bodyPost P f (Post R F0 w0) .ret a w := ⟨ha.df, v, h a w ha hs, v, A', Ns, rfl, hR, hs.sel is hr⟩
  rcases hx with rfl | rfl <;> exact h
theorem X.done1 (is : List Nat) (hf : f.results = #[r1]) (h1 : RV P n F0 w0 e Rs r1 v1) (hR : R v1 A' Ns) (hr : Sel Rs is (A' :: Ns)) (hx : z = .ret ∨ z = .normal) : X n F0 w0 e Rs z (bodyPost P f (Post R F0 w0)) :=
  X.fin hR is hr hx (fun a w ha hs => by rw [results_eq, hf]; simp [h1 a w ha hs])
theorem X.done2 (is : List Nat) (hf : f.results = #[r1, r2]) (h1 : RV P n F0 w0 e Rs r1 v1) (h2 : RV P n F0 w0 e Rs r2 v2) (hR : R (.tuple #[v1, v2]) A' Ns) (hr : Sel Rs is (A' :: Ns)) (hx : z = .ret ∨ z = .normal) : X n F0 w0 e Rs z (bodyPost P f (Post R F0 w0)) :=
  X.fin hR is hr hx (fun a w ha hs => by rw [results_eq, hf]; simp [h1 a w ha hs, h2 a w ha hs])
end
theorem BOK.mk {zv : Value} {fs : Array Field} {pl : List (Nat × Nat)} {zs : Array Value} (hz : ∀ w, (zeroValue t).run P w = .ok zv w) (hu : ∀ w, (underlying t).run P w = .ok (.struct fs) w) (hp : ∀ w, (fs.mapM (fun f => do pure (f.offset, ← sizeOf f.type)) : Sem (Array (Nat × Nat))).run P w = .ok pl.toArray w) (hzs : zv.cells = zs := by rfl) : BOK P t zs pl := by
  intro parts cells w h
  subst hzs
  simp only [Instr.build, Sem.run_bind, hz, Result.andThen_ok, hu, hp]
  have h2 : (fun (i : Nat) => (pl.toArray)[i]?) = (fun (i : Nat) => pl[i]?) := by funext i; simp
  simp [h2, h]
theorem SOK.mk {T m z : Nat} {zv : Value} {zs : Array Value} (hu : ∀ w, (underlying t).run P w = .ok (.slice T) w) (hz : ∀ w, (sizeOf T).run P w = .ok z w) (hzv : ∀ w, (zeroValue T).run P w = .ok zv w) (hm : 0 < m * z ∧ m * z ≤ 16777216) (hzs : (Array.range (m * z)).map (fun i => zv.cells[i % zv.cells.size]!) = zs) : SOK P t T m z zs := by
  intro parts cells w h
  have h1 : ¬ (m * z > 2 ^ 24) := by omega
  have h2 : ¬ (m * z = 0) := by omega
  subst hzs
  simp only [Instr.buildSlice, Sem.run_bind, hu, hz, Result.andThen_ok, h1, if_false, h2, hzv, Sem.run_pure]
  simp [h, newRow]
end
end Go.Proofs.Ytahjmpipllajcaa.Sl
namespace Go.Proofs.Ytahjmpipllajcaa.Sl
open Go.RowKit
set_option linter.unusedVariables false
set_option linter.unusedSimpArgs false
def eqV : Value → Value → Option Bool
  | .int k a, .int k' b => if k = k' then some (decide (a = b)) else none
  | .bool a, .bool b => some (decide (a = b))
  | .string a, .string b => some (decide (a.toList = b.toList))
  | _, _ => none
def eqL : List Value → List Value → Option Bool
  | [], [] => some true
  | x :: xs, y :: ys => match eqV x y with
    | some true => eqL xs ys
    | some false => some false
    | none => none
  | _, _ => none
theorem eqV_i {k : IntKind} {a b : Int} (h : a = b) : eqV (.int k a) (.int k b) = some true := by simp [eqV, h]
theorem eqV_in {k : IntKind} {a b : Int} (h : ¬ a = b) : eqV (.int k a) (.int k b) = some false := by simp [eqV, h]
theorem eqL_t {x y : Value} {xs ys : List Value} {b : Bool} (h : eqV x y = some true) (r : eqL xs ys = some b) : eqL (x :: xs) (y :: ys) = some b := by simp [eqL, h, r]
theorem eqL_f {x y : Value} {xs ys : List Value} (h : eqV x y = some false) : eqL (x :: xs) (y :: ys) = some false := by simp [eqL, h]
theorem eqL_append : ∀ {xs ys xs' ys' : List Value} {b : Bool}, xs.length = ys.length → eqL (xs ++ xs') (ys ++ ys') = some b → ∃ c, eqL xs ys = some c ∧ (if c then eqL xs' ys' else some false) = some b
  | [], [], xs', ys', b, _, h => ⟨true, rfl, by simpa using h⟩
  | x :: xs, y :: ys, xs', ys', b, hl, h => by
    simp only [List.cons_append, eqL] at h ⊢
    cases hv : eqV x y with
    | none => rw [hv] at h; cases h
    | some c =>
      cases c with
      | true =>
        rw [hv] at h
        exact eqL_append (by simpa using hl) h
      | false =>
        rw [hv] at h
        exact ⟨false, rfl, by simpa using h⟩
def okD : TypeDesc → Value → Bool
  | .int _, .int _ _ => true
  | .bool, .bool _ => true
  | .string, .string _ => true
  | _, _ => false
def oksD : List TypeDesc → List Value → Bool
  | [], [] => true
  | d :: ds, v :: vs => okD d v && oksD ds vs
  | _, _ => false
theorem oksD_length : ∀ {ds : List TypeDesc} {vs : List Value}, oksD ds vs = true → vs.length = ds.length
  | [], [], _ => rfl
  | d :: ds, v :: vs, h => by
    simp only [oksD, Bool.and_eq_true] at h
    simp [oksD_length h.2]
theorem oksD_app : ∀ {ds ds' : List TypeDesc} {vs : List Value}, oksD (ds ++ ds') vs = true → oksD ds (vs.take ds.length) = true ∧ oksD ds' (vs.drop ds.length) = true
  | [], ds', vs, h => by simpa [oksD] using h
  | d :: ds, ds', [], h => by simp [oksD] at h
  | d :: ds, ds', v :: vs, h => by
    simp only [List.cons_append, oksD, Bool.and_eq_true] at h
    have := oksD_app h.2
    simp [oksD, h.1, this]
def mkV (agg : Bool) (xs : List Value) : Value := if agg then .agg xs.toArray else xs.headD undef
structure Flat (P : Program) (k : Nat) (t : TypeId) (ds : List TypeDesc) (agg : Bool) : Prop where
  ia : ∀ w, (isAgg t).run P w = .ok agg w
  sz : ∀ w, (sizeOf t).run P w = .ok ds.length w
  one : agg = false → ds.length = 1
  eq : ∀ (d : Nat) (xs ys : List Value) (b : Bool) (w : World), k ≤ d → oksD ds xs = true → oksD ds ys = true → eqL xs ys = some b → (Op.equalIn d t (mkV agg xs) (mkV agg ys)).run P w = .ok b w
section
variable {P : Program} {t : TypeId}
theorem eqL_one {x y : Value} {b : Bool} (h : eqL [x] [y] = some b) : eqV x y = some b := by
  simp only [eqL] at h
  cases hv : eqV x y with
  | none => rw [hv] at h; cases h
  | some c => cases c <;> (rw [hv] at h; exact h)
theorem len1 {xs : List Value} (h : xs.length = 1) : ∃ x, xs = [x] := by
  match xs, h with
  | [x], _ => exact ⟨x, rfl⟩
theorem equal_one {d0 : TypeDesc} (hu : P.underlying t = some d0) (d : Nat) (x y : Value) (b : Bool) (w : World) (hx : okD d0 x = true) (hy : okD d0 y = true) (h : eqV x y = some b) : (Op.equalIn (d + 1) t x y).run P w = .ok b w := by
  cases d0 <;> cases x <;> first | (simp [okD] at hx; done) | skip
  all_goals cases y <;> first | (simp [okD] at hy; done) | skip
  · simp only [eqV, Option.some.injEq] at h
    subst h
    rw [run_equalIn_bool' w d t _ _ hu]
    rfl
  · rename_i q k a k' b'
    simp only [eqV] at h
    split at h
    · rename_i hk
      subst hk
      injection h with h
      subst h
      rw [run_equalIn_int w d t k _ a b' hu]
      rfl
    · cases h
  · simp only [eqV, Option.some.injEq] at h
    subst h
    rw [run_equalIn_string w d t _ _ hu]
    congr 1
    rename_i p q
    by_cases hpq : p.toList = q.toList <;> simp [hpq]
theorem Flat.one_ {d0 : TypeDesc} (ia : ∀ w, (isAgg t).run P w = .ok false w) (sz : ∀ w, (sizeOf t).run P w = .ok 1 w) (hu : P.underlying t = some d0) : Flat P 1 t [d0] false := by
  refine ⟨ia, sz, fun _ => rfl, ?_⟩
  intro d xs ys b w hd hx hy h
  obtain ⟨x, rfl⟩ := len1 (by simpa using oksD_length hx)
  obtain ⟨y, rfl⟩ := len1 (by simpa using oksD_length hy)
  obtain ⟨d, rfl⟩ : ∃ d', d = d' + 1 := ⟨d - 1, by omega⟩
  exact equal_one hu d x y b w (by simpa [oksD] using hx) (by simpa [oksD] using hy) (eqL_one h)
def FlatFs (P : Program) (k : Nat) : Nat → List Field → List TypeDesc → Prop
  | _, [], ds => ds = []
  | off, f :: fs, ds => f.name ≠ "_" ∧ f.offset = off ∧ ∃ d1 d2 agg, ds = d1 ++ d2 ∧ Flat P k f.type d1 agg ∧ FlatFs P k (off + d1.length) fs d2
theorem part_run {ty : TypeId} {ds : List TypeDesc} {agg : Bool} {k : Nat} (hf : Flat P k ty ds agg) (xs : List Value) (off : Nat) (w : World) (hl : off + ds.length ≤ xs.length) : (part ty xs.toArray off).run P w = .ok (mkV agg ((xs.drop off).take ds.length)) w := by
  cases agg with
  | true =>
    have h1 := hf.ia w
    simp only [part, Sem.run_bind, h1, Result.andThen_ok, if_true, hf.sz w, Sem.run_pure, mkV]
    congr 2
    apply Array.ext'
    simp [List.extract_eq_take_drop]
  | false =>
    have h1 := hf.ia w
    have h2 := hf.one rfl
    have h3 : off < xs.length := by omega
    have h4 : ((xs.drop off).take 1).headD undef = xs[off] := by
      rw [List.drop_eq_getElem_cons h3]
      rfl
    simp only [part, Sem.run_bind, h1, Result.andThen_ok, Bool.false_eq_true, if_false, mkV, h2, h4]
    simp [h3]
theorem fields_run {k : Nat} : ∀ {fs : List Field} {ds : List TypeDesc} {off : Nat}, FlatFs P k off fs ds → ∀ (d : Nat) (xs ys : List Value) (b : Bool) (w : World), k ≤ d → xs.length = off + ds.length → ys.length = off + ds.length →
    oksD ds (xs.drop off) = true → oksD ds (ys.drop off) = true → eqL (xs.drop off) (ys.drop off) = some b → (Op.eqFields d xs.toArray ys.toArray fs).run P w = .ok b w
  | [], ds, off, hf, d, xs, ys, b, w, hd, hx, hy, ox, oy, h => by
    obtain rfl : ds = [] := hf
    rw [List.drop_of_length_le (by simp at hx; omega), List.drop_of_length_le (by simp at hy; omega)] at h
    injection h with h
    subst h
    rfl
  | f :: fs, ds, off, hf, d, xs, ys, b, w, hd, hx, hy, ox, oy, h => by
    obtain ⟨hn, ho, d1, d2, agg, rfl, hF, hr⟩ := hf
    rw [List.length_append] at hx hy
    have ox' := oksD_app ox
    have oy' := oksD_app oy
    have e1 : xs.drop off = (xs.drop off).take d1.length ++ xs.drop (off + d1.length) := by rw [← List.drop_drop, List.take_append_drop]
    have e2 : ys.drop off = (ys.drop off).take d1.length ++ ys.drop (off + d1.length) := by rw [← List.drop_drop, List.take_append_drop]
    rw [e1, e2] at h
    obtain ⟨c, h1, h2⟩ := eqL_append (by simp; omega) h
    have p1 := part_run hF xs off w (by omega)
    have p2 := part_run hF ys off w (by omega)
    have q1 := hF.eq d _ _ c w hd ox'.1 oy'.1 h1
    simp only [Op.eqFields, hn, ne_eq, not_false_eq_true, if_true, Sem.run_bind, ho, p1, Result.andThen_ok, p2, q1, Sem.run_ite]
    cases c with
    | false =>
      simp only [Bool.false_eq_true, if_false] at h2
      injection h2 with h2
      subst h2
      rfl
    | true =>
      simp only [if_true] at h2
      have h3 := fields_run hr d xs ys b w hd (by omega) (by omega) (by rw [← List.drop_drop]; exact ox'.2) (by rw [← List.drop_drop]; exact oy'.2) h2
      simpa using h3
theorem Flat.struct {k : Nat} {fs : Array Field} {ds : List TypeDesc} (ia : ∀ w, (isAgg t).run P w = .ok true w) {z : Nat} (sz : ∀ w, (sizeOf t).run P w = .ok z w) (hz : ds.length = z) (hu : P.underlying t = some (.struct fs)) (hp : P.stoodInHeld t = false) (hf : FlatFs P k 0 fs.toList ds) : Flat P (k + 1) t ds true := by
  subst hz
  refine ⟨ia, sz, fun h => (by cases h), ?_⟩
  intro d xs ys b w hd hx hy h
  obtain ⟨d, rfl⟩ : ∃ d', d = d' + 1 := ⟨d - 1, by omega⟩
  have e : P.fieldsOf t = fs := by simp [Program.fieldsOf, hu]
  simp only [mkV, if_true]
  rw [run_equalIn_agg w d t _ _ (by rw [e]; exact hu) hp, e]
  exact fields_run hf d xs ys b w (by omega) (by simpa using oksD_length hx) (by simpa using oksD_length hy) hx hy h
theorem Flat.mono {k k' : Nat} {ds : List TypeDesc} {agg : Bool} (h : Flat P k t ds agg) (hk : k ≤ k') : Flat P k' t ds agg := ⟨h.ia, h.sz, h.one, fun d xs ys b w hd => h.eq d xs ys b w (by omega)⟩
end
section
variable {P : Program} {n : Nat} {F0 : Nat → Prop} {w0 : World} {e : Env} {Rs Rf : List Res} {Q : Exit → Act → World → Prop} {ops : Array Oper} {d : Option Tmp} {i : Nat} {ty t t' el : TypeId} {pos : String} {af : Array Edge} {gd : Option (Nat × Bool)} {v v' : Value} {x y : Operand} {l : List Nat} {lo : Sch} {c : Code} {S : World → Prop}
theorem Ex.aEq {k : Nat} {ds : List TypeDesc} {us vs : List Value} {b : Bool} (hF : Flat P k t ds true) (hk : Nat.ble k 10000 = true) (hG : P.eqGuardType P.depth t = false) (hx : e.ev x = some (.agg us.toArray)) (hy : e.ev y = some (.agg vs.toArray)) (ou : oksD ds us = true) (ov : oksD ds vs = true) (h : eqL us vs = some b) :
    Ex P n e S ⟨d, .binOp .eql t x y t', ty, pos, af, gd⟩ (.bool b) := by
  intro a w ha _
  have h1 := hF.eq 10000 us vs b w (Nat.le_of_ble_eq_true hk) ou ov h
  simp only [mkV, if_true] at h1
  simp only [execOp, ha.ev hx, ha.ev hy, Sem.run_bind]
  rw [run_eqGuard_agg w .eql t x y _ _ hG]
  simp only [Result.andThen_ok]
  rw [run_eql_struct w t _ _, h1]
  rfl
end
def RowK {α : Type} (B : Res) (E : Rd α) (g q : Nat) (cs : List Value) (x : α) : Res where
  P := fun w G => B.P w G ∧ G g ∧ (∀ j, j < cs.length → w.cell? ⟨g, q + j, none⟩ = cs[j]?) ∧ E.P w G cs x
  lt := fun h => B.lt h.1
  move := fun {w w' G} h hm => ⟨B.move h.1 hm, h.2.1, fun j hj => by
    rw [← h.2.2.1 j hj]
    simp only [World.cell?, hm g h.2.1], E.move h.2.2.2 hm⟩
section
variable {P : Program} {n : Nat} {F0 : Nat → Prop} {w0 w : World} {e : Env} {Rs Rf : List Res} {Q : Exit → Act → World → Prop} {ops : Array Oper} {d : Option Tmp} {i : Nat} {ty t t' el : TypeId} {pos : String} {af : Array Edge} {gd : Option (Nat × Bool)} {v v' : Value} {y z : Operand} {l : List Nat} {lo : Sch} {c : Code} {S : World → Prop}
variable {α : Type} {E : Rd α} {B : Res} {A : Option Addr} {m cp size k : Nat} {xs : List α} {x : α}
theorem foc_P {G : Nat → Prop} (hG : B.P w G) (hB : (RX.of (sliceRd size E) [.slice A m cp] xs).P w G) (hp : 0 < size) (hx : xs[k]? = some x) : ∃ g o cs, A = some ⟨g, o, none⟩ ∧ cs.length = size ∧ (∃ S, E.P w S cs x) ∧ (RowK B E g (o + k * size) cs x).P w G := by
  rcases hB with ⟨h, rfl⟩ | ⟨a, cap, h, _, _, hb, h2⟩
  · simp at hx
  · injection h with h
    injection h with h3 h4 h5
    subst h3
    have hl : 0 < xs.length := by have := (List.getElem?_eq_some_iff.1 hx).1; omega
    obtain ⟨cs0, k1, k2, _⟩ := h2 0 xs[0] (List.getElem?_eq_getElem hl)
    have k3 := k2 0 hp
    rw [List.getElem?_eq_getElem (by omega)] at k3
    have k4 : a.add (0 * size + 0) = a := by simp [Addr.add]
    rw [k4] at k3
    have k5 := spot_none k3
    obtain ⟨cs, k6, k7, k8⟩ := h2 k x hx
    refine ⟨a.block, a.off, cs, by rw [← k5], k6, ⟨G, k8⟩, hG, hb hl, fun j hj => ?_, k8⟩
    rw [← k7 j (by omega), k5, WideShapes.add_plain, Nat.add_assoc]
theorem St.foc (i : Nat) (h : St F0 w0 Rs w) (hi : Rs[i]? = some B) (hB : ∀ w G, B.P w G → (RX.of (sliceRd size E) [.slice A m cp] xs).P w G) (hp : 0 < size) (hx : xs[k]? = some x) :
    ∃ g o cs, A = some ⟨g, o, none⟩ ∧ cs.length = size ∧ (∃ w S, E.P w S cs x) ∧ St F0 w0 (Rs.set i (RowK B E g (o + k * size) cs x)) w := by
  obtain ⟨f, hs⟩ := h
  obtain ⟨G, h1, h2, h3⟩ := Sep.pick i hi hs
  obtain ⟨g, o, cs, k1, k2, ⟨S, k3⟩, k4⟩ := foc_P h1 (hB w G h1) hp hx
  exact ⟨g, o, cs, k1, k2, ⟨w, S, k3⟩, f, Sep.back i hi k4 h2 h3⟩
theorem T.foc (i : Nat) (hi : Rs[i]? = some B) (hB : ∀ w G, B.P w G → (RX.of (sliceRd size E) [.slice A m cp] xs).P w G) (hp : 0 < size) (hx : xs[k]? = some x)
    (h : ∀ g o cs, A = some ⟨g, o, none⟩ → cs.length = size → (∃ w S, E.P w S cs x) → T P n F0 w0 e (Rs.set i (RowK B E g (o + k * size) cs x)) c Q) : T P n F0 w0 e Rs c Q := by
  intro a w ha hs
  obtain ⟨g, o, cs, k1, k2, k3, k4⟩ := hs.foc i hi hB hp hx
  exact h g o cs k1 k2 k3 a w ha k4
theorem TL.foc (i : Nat) (hi : Rs[i]? = some B) (hB : ∀ w G, B.P w G → (RX.of (sliceRd size E) [.slice A m cp] xs).P w G) (hp : 0 < size) (hx : xs[k]? = some x)
    (h : ∀ g o cs, A = some ⟨g, o, none⟩ → cs.length = size → (∃ w S, E.P w S cs x) → TL P n F0 w0 ops l e (Rs.set i (RowK B E g (o + k * size) cs x)) Q) : TL P n F0 w0 ops l e Rs Q := by
  intro a w ha hs
  obtain ⟨g, o, cs, k1, k2, k3, k4⟩ := hs.foc i hi hB hp hx
  exact h g o cs k1 k2 k3 a w ha k4
theorem St.unf {q g : Nat} {cs : List Value} (i : Nat) (h : St F0 w0 Rs w) (hi : Rs[i]? = some (RowK B E g q cs x)) : St F0 w0 (Rs.set i B) w := h.weaken i hi (fun G hG => hG.1)
theorem T.unf {q g : Nat} {cs : List Value} (i : Nat) (hi : Rs[i]? = some (RowK B E g q cs x)) (h : T P n F0 w0 e (Rs.set i B) c Q) : T P n F0 w0 e Rs c Q := fun a w ha hs => h a w ha (hs.unf i hi)
theorem TL.unf {q g : Nat} {cs : List Value} (i : Nat) (hi : Rs[i]? = some (RowK B E g q cs x)) (h : TL P n F0 w0 ops l e (Rs.set i B) Q) : TL P n F0 w0 ops l e Rs Q := fun a w ha hs => h a w ha (hs.unf i hi)
theorem X.unf {q g : Nat} {cs : List Value} {o : Exit} (i : Nat) (hi : Rs[i]? = some (RowK B E g q cs x)) (h : X n F0 w0 e (Rs.set i B) o Q) : X n F0 w0 e Rs o Q := fun a w ha hs => h a w ha (hs.unf i hi)
theorem Ex.k1 {q g : Nat} {cs : List Value} (i j : Nat) (hy : e.ev y = some (.pointer (some ⟨g, q + j, none⟩))) (ha : ∀ w, (isAgg t).run P w = .ok false w) (hi : Rs[i]? = some B) (hB : ∀ w G, B.P w G → ∀ j, j < cs.length → w.cell? ⟨g, q + j, none⟩ = cs[j]?) (hv : cs[j]? = some v) : Ex P n e (St F0 w0 Rs) ⟨d, .load t y, ty, pos, af, gd⟩ v :=
  Ex.ld1 hy ha (fun w hw => by
    obtain ⟨G, h1, _⟩ := hw.get i hi
    exact (hB w G h1 j (List.getElem?_eq_some_iff.1 hv).1).trans hv)
end
end Go.Proofs.Ytahjmpipllajcaa.Sl
namespace Go.Proofs.Ytahjmpipllajcaa.Sl
open Go.RowKit
set_option linter.unusedVariables false
set_option linter.unusedSimpArgs false
def RX.blk (b : Nat) (T : TypeId) (cs : Array Value) : RX := ⟨fun w S => w.heap[b]? = some (.cells cs T (0, 0)) ∧ S b, fun h k => ⟨h.1, k _ h.2⟩, fun h k => ⟨(k _ h.2).trans h.1, h.2⟩⟩
section
variable {P : Program} {n : Nat} {F0 : Nat → Prop} {w0 w : World} {e : Env} {Rs Rf : List Res} {Q : Exit → Act → World → Prop} {ops : Array Oper} {d : Option Tmp} {i : Nat} {ty t t' el : TypeId} {pos : String} {af : Array Edge} {gd : Option (Nat × Bool)} {v v' : Value} {x y z : Operand} {l : List Nat} {lo : Sch} {c : Code} {S : World → Prop}
end
end Go.Proofs.Ytahjmpipllajcaa.Sl
namespace Go.Proofs.Ytahjmpipllajcaa.Sl
open Go.RowKit
set_option linter.unusedVariables false
set_option linter.unusedSimpArgs false
section
variable {P : Program} {n : Nat} {F0 : Nat → Prop} {w0 : World} {e : Env} {Rs : List Res} {S : World → Prop} {d : Option Tmp} {ty : TypeId} {pos : String} {af : Array Edge} {gd : Option (Nat × Bool)} {v : Value} {x y ix : Operand} {t t' el : TypeId}
def fEq (x y : Nat) : Bool := FloatKind.f64.format.order x y == some .eq
def fNeg (x : Nat) : Nat := Op.negFloat .f64 x
theorem Ex.i2f {k : IntKind} {p : Int} (hx : e.ev x = some (.int k p)) (hs : P.underlying t = some (.int k)) (hu : P.underlying t' = some (.float .f64)) : Ex P n e S ⟨d, .convert t t' x, ty, pos, af, gd⟩ (.float .f64 (FloatKind.f64.nearest p)) := by
  intro a w ha _
  have h := run_convert_int_float (P := P) w t t' k .f64 p (by rw [hs]; rfl) hu
  simp [execOp, ha.ev hx, h, floatOfInt]
theorem Ex.f2i {b : Nat} {p : Int} (hx : e.ev x = some (.float .f64 b)) (hs : P.underlying t = some (.float .f64)) (hu : P.underlying t' = some (.int .i64)) (h : floatToIntVal .f64 b .i64 = some p) : Ex P n e S ⟨d, .convert t t' x, ty, pos, af, gd⟩ (.int .i64 p) := by
  intro a w ha _
  have h := run_convert_float_int (P := P) w t t' .f64 .i64 b p (by rw [hs]; rfl) hu h
  simp [execOp, ha.ev hx, h]
theorem cx_run (ts : Array TypeId) (q : TypeId) (a b : Nat) : Builtin.complex_ ts q #[.float .f64 a, .float .f64 b] = pure (.complex .f64 a b) := rfl
theorem re_run (ts : Array TypeId) (q : TypeId) (a b : Nat) : Builtin.real_ ts q #[.complex .f64 a b] = pure (.float .f64 a) := rfl
theorem im_run (ts : Array TypeId) (q : TypeId) (a b : Nat) : Builtin.imag_ ts q #[.complex .f64 a b] = pure (.float .f64 b) := rfl
theorem Ex.cx {a b : Nat} {ts : Array TypeId} (hx : e.ev x = some (.float .f64 a)) (hy : e.ev y = some (.float .f64 b)) : Ex P n e S ⟨d, .call ⟨.builtin .complex, #[x, y], ts⟩, ty, pos, af, gd⟩ (.complex .f64 a b) := by
  intro a w ha _
  simp [execOp, resolve, invoke, builtin, ha.ev hx, ha.ev hy, cx_run]
theorem Ex.re {a b : Nat} {ts : Array TypeId} (hx : e.ev x = some (.complex .f64 a b)) : Ex P n e S ⟨d, .call ⟨.builtin .real, #[x], ts⟩, ty, pos, af, gd⟩ (.float .f64 a) := by
  intro a w ha _
  simp [execOp, resolve, invoke, builtin, ha.ev hx, re_run]
theorem Ex.im {a b : Nat} {ts : Array TypeId} (hx : e.ev x = some (.complex .f64 a b)) : Ex P n e S ⟨d, .call ⟨.builtin .imag, #[x], ts⟩, ty, pos, af, gd⟩ (.float .f64 b) := by
  intro a w ha _
  simp [execOp, resolve, invoke, builtin, ha.ev hx, im_run]
theorem Ex.fneg {a : Nat} (hx : e.ev x = some (.float .f64 a)) : Ex P n e S ⟨d, .unOp .neg t x, ty, pos, af, gd⟩ (.float .f64 (fNeg a)) := by
  intro a w ha _
  simp [execOp, ha.ev hx, Op.unary, fNeg]
theorem Ex.cneg {a b : Nat} (hx : e.ev x = some (.complex .f64 a b)) : Ex P n e S ⟨d, .unOp .neg t x, ty, pos, af, gd⟩ (.complex .f64 (fNeg a) (fNeg b)) := by
  intro a w ha _
  simp [execOp, ha.ev hx, Op.unary, fNeg]
theorem Ex.cadd {a b a' b' re im : Nat} (hx : e.ev x = some (.complex .f64 a b)) (hy : e.ev y = some (.complex .f64 a' b')) (h : cSumBits .add .f64 a b a' b' = some (re, im)) : Ex P n e S ⟨d, .binOp .add t x y t', ty, pos, af, gd⟩ (.complex .f64 re im) := by
  intro a w ha _
  have h := run_complex_sum (P := P) w .add (.inl rfl) t .f64 _ _ _ _ re im h
  simp [execOp, ha.ev hx, ha.ev hy, eqGuard, h]
theorem Ex.ceq {a b a' b' : Nat} (hx : e.ev x = some (.complex .f64 a b)) (hy : e.ev y = some (.complex .f64 a' b')) (hu : ∀ w, (underlying t).run P w = .ok (.complex .f64) w) : Ex P n e S ⟨d, .binOp .eql t x y t', ty, pos, af, gd⟩ (.bool (fEq a a' && fEq b b')) := by
  intro a w ha _
  simp [execOp, ha.ev hx, ha.ev hy, eqGuard, binOp, hu, Op.complexOp, Op.Complex.cmp, Op.floatCmp, asBool, fEq]
theorem Ex.cne {a b a' b' : Nat} (hx : e.ev x = some (.complex .f64 a b)) (hy : e.ev y = some (.complex .f64 a' b')) (hu : ∀ w, (underlying t).run P w = .ok (.complex .f64) w) : Ex P n e S ⟨d, .binOp .neq t x y t', ty, pos, af, gd⟩ (.bool (!(fEq a a' && fEq b b'))) := by
  intro a w ha _
  simp [execOp, ha.ev hx, ha.ev hy, eqGuard, binOp, hu, Op.complexOp, Op.Complex.cmp, Op.floatCmp, asBool, fEq]
theorem Ex.quoT {p q : Int} (hx : e.ev x = some (.int .i64 p)) (hy : e.ev y = some (.int .i64 q)) (hq : 1 ≤ q) (h : -9223372036854775808 ≤ p ∧ p ≤ 9223372036854775807) : Ex P n e S ⟨d, .binOp .quo t x y t', ty, pos, af, gd⟩ (.int .i64 (Int.tdiv p q)) := by
  intro a w ha _
  have h0 : ¬ q = 0 := by omega
  have hr : -9223372036854775808 ≤ Int.tdiv p q ∧ Int.tdiv p q ≤ 9223372036854775807 := by
    have h3 : (Int.tdiv p q).natAbs ≤ p.natAbs := by rw [Int.natAbs_tdiv]; exact Nat.div_le_self _ _
    by_cases hp : 0 ≤ p
    · have := Int.tdiv_nonneg hp (show 0 ≤ q by omega)
      omega
    · have h4 : Int.tdiv p q ≤ 0 := by
        have := Int.tdiv_nonneg (show 0 ≤ -p by omega) (show 0 ≤ q by omega)
        rw [Int.neg_tdiv] at this
        omega
      omega
  simp [execOp, ha.ev hx, ha.ev hy, eqGuard, binOp, Op.intDiv, h0, IntWalk.i64_in _ hr]
theorem Ex.remT {p q : Int} (hx : e.ev x = some (.int .i64 p)) (hy : e.ev y = some (.int .i64 q)) (hq : 1 ≤ q) (h : -9223372036854775808 ≤ p ∧ p ≤ 9223372036854775807) : Ex P n e S ⟨d, .binOp .rem t x y t', ty, pos, af, gd⟩ (.int .i64 (Int.tmod p q)) := by
  intro a w ha _
  have h0 : ¬ q = 0 := by omega
  simp [execOp, ha.ev hx, ha.ev hy, eqGuard, binOp, Op.intDiv, h0]
end
end Go.Proofs.Ytahjmpipllajcaa.Sl
namespace Go.Proofs.Ytahjmpipllajcaa.Sl
open Go.RowKit
set_option linter.unusedVariables false
set_option linter.unusedSimpArgs false
theorem and_nat (n : Int) (m : Nat) (hm : m < 9223372036854775808) : bits .and .i64 n m = (((n % 18446744073709551616).toNat &&& m : Nat) : Int) := by
  have e1 : (BitVec.ofInt 64 n).toNat = (n % 18446744073709551616).toNat := by simp [BitVec.toNat_ofInt]
  have e2 : (BitVec.ofInt 64 (m : Int)).toNat = m := by
    rw [BitVec.ofInt_natCast, BitVec.toNat_ofNat, Nat.mod_eq_of_lt (by omega)]
  show IntKind.i64.wrap (((BitVec.ofInt 64 n) &&& (BitVec.ofInt 64 (m : Int))).toNat : Int) = _
  rw [BitVec.toNat_and, e1, e2]
  have h : (n % 18446744073709551616).toNat &&& m ≤ m := Nat.and_le_right
  rw [IntKind.wrap_i64]
  omega
end Go.Proofs.Ytahjmpipllajcaa.Sl
namespace Go.Proofs.Ytahjmpipllajcaa.Sl
open Go.RowKit
set_option linter.unusedVariables false
set_option linter.unusedSimpArgs false
theorem and_3 (n : Int) : Go.bits .and .i64 n 3 = n % 4 := by
  have h := and_nat n 3 (by decide)
  rw [show ((3 : Nat) : Int) = 3 from rfl] at h
  rw [h, Nat.and_two_pow_sub_one_eq_mod _ 2]
  omega
def isC (z : Nat × Nat) (p : Int × Int) : Prop := isW z.1 p.1 ∧ isW z.2 p.2
def sm (p : Int × Int) : Prop := p.1.natAbs < 2 ^ 53 ∧ p.2.natAbs < 2 ^ 53
theorem isC_fw (x y : Int) : isC (fw x, fw y) (x, y) := ⟨isW_fw x, isW_fw y⟩
theorem isC_zero : isC (0, 0) (0, 0) := ⟨.inl fw_zero.symm, .inl fw_zero.symm⟩
theorem cadd_isC {z w : Nat × Nat} {p q : Int × Int} (hz : isC z p) (hw : isC w q) (sp : sm p) (sq : sm q) (ss : sm (p.1 + q.1, p.2 + q.2)) : ∃ v, cSumBits .add .f64 z.1 z.2 w.1 w.2 = some v ∧ isC v (p.1 + q.1, p.2 + q.2) := by
  obtain ⟨a, a1, a2⟩ := add_isW hz.1 hw.1 sp.1 sq.1 ss.1
  obtain ⟨b, b1, b2⟩ := add_isW hz.2 hw.2 sp.2 sq.2 ss.2
  refine ⟨(a, b), ?_, a2, b2⟩
  unfold cSumBits
  rw [a1, Option.bind_some, b1, Option.bind_some]
theorem fEq_W {x y : Nat} {a b : Int} (hx : isW x a) (hy : isW y b) (ha : a.natAbs < 2 ^ 53) (hb : b.natAbs < 2 ^ 53) : fEq x y = decide (a = b) := by
  obtain ⟨o, h1, h2⟩ := order_isW hx hy ha hb
  unfold fEq
  rw [h1]
  by_cases c : a = b
  · rw [h2.2 c, decide_eq_true c]; rfl
  · rw [decide_eq_false c]
    cases o <;> first | rfl | exact absurd (h2.1 rfl) c
theorem fEq_C {z w : Nat × Nat} {p q : Int × Int} (hz : isC z p) (hw : isC w q) (sp : sm p) (sq : sm q) : (fEq z.1 w.1 && fEq z.2 w.2) = decide (p = q) := by
  rw [fEq_W hz.1 hw.1 sp.1 sq.1, fEq_W hz.2 hw.2 sp.2 sq.2, Bool.eq_iff_iff]
  simp only [Bool.and_eq_true, decide_eq_true_eq]
  exact ⟨fun h => Prod.ext h.1 h.2, fun h => by rw [h]; exact ⟨rfl, rfl⟩⟩
def rot (q : Int) (p : Int × Int) : Int × Int := if q = 0 then p else if q = 1 then (-p.2, p.1) else if q = 2 then (-p.1, -p.2) else (p.2, -p.1)
theorem rot_sm {q : Int} {p : Int × Int} (h : sm p) : sm (rot q p) := by
  unfold rot
  obtain ⟨h1, h2⟩ := h
  by_cases c0 : q = 0
  · rw [if_pos c0]; exact ⟨h1, h2⟩
  by_cases c1 : q = 1
  · rw [if_neg c0, if_pos c1]; exact ⟨by rw [Int.natAbs_neg]; exact h2, h1⟩
  by_cases c2 : q = 2
  · rw [if_neg c0, if_neg c1, if_pos c2]; exact ⟨by rw [Int.natAbs_neg]; exact h1, by rw [Int.natAbs_neg]; exact h2⟩
  · rw [if_neg c0, if_neg c1, if_neg c2]; exact ⟨h2, by rw [Int.natAbs_neg]; exact h1⟩
end Go.Proofs.Ytahjmpipllajcaa.Sl
namespace Go.Proofs.Ytahjmpipllajcaa.Sl
open Go.RowKit
set_option linter.unusedVariables false
set_option linter.unusedSimpArgs false
theorem bsOf_append (a b : List UInt8) : bsOf a ++ bsOf b = bsOf (a ++ b) := by
  apply ByteArray.ext
  simp [bsOf]
attribute [local go_sem] bsOf_toList bsOf_size bsOf_append
end Go.Proofs.Ytahjmpipllajcaa.Sl
namespace Go.Proofs.Ytahjmpipllajcaa.Sl
open Go.RowKit
set_option linter.unusedVariables false
section
variable {P : Program} {n : Nat} {F0 : Nat → Prop} {w0 : World} {e e' : Env} {Rs Rs' : List Res} {Q : Exit → Act → World → Prop} {c : Code} {d : Nat} {v v' : Value}
def JK (n : Nat) (F0 : Nat → Prop) (w0 : World) (R : Env → List Res → Prop) (a : Act) (w : World) : Prop := ∃ e Rs, R e Rs ∧ Has n e a ∧ St F0 w0 Rs w
theorem T.jq (R : Env → List Res → Prop) (h : T P n F0 w0 e Rs c (Exit.then (JK n F0 w0 R) Q)) (k : ∀ e' Rs', R e' Rs' → X n F0 w0 e' Rs' .normal Q) : T P n F0 w0 e Rs c Q := by
  intro a w ha hs
  refine wp_mono (h a w ha hs) ?_
  intro x a' w' hx
  cases x <;> first | exact hx | skip
  obtain ⟨e', Rs', hR, ha', hs'⟩ := hx
  exact k e' Rs' hR a' w' ha' hs'
theorem X.jq {R : Env → List Res → Prop} (is : List Nat) (hR : R e' Rs') (he : Sub e' e) (hr : Sel Rs is Rs') : X n F0 w0 e Rs .normal (Exit.then (JK n F0 w0 R) Q) := fun a w ha hs => ⟨e', Rs', hR, ha.sub he.get, hs.sel is hr⟩
theorem X.as {z : Exit} (hv : e.get d = some v) (h : v = v') (k : X n F0 w0 ((d, v') :: e) Rs z Q) : X n F0 w0 e Rs z Q := fun a w ha hs => k a w (ha.as hv h) hs
end
end Go.Proofs.Ytahjmpipllajcaa.Sl
namespace Go.Proofs.Ytahjmpipllajcaa.Sl
open Go.RowKit
set_option linter.unusedVariables false
set_option linter.unusedSimpArgs false
section
variable {P : Program} {n : Nat} {F0 : Nat → Prop} {w0 : World} {e : Env} {Rs : List Res} {S : World → Prop} {d : Option Tmp} {ty : TypeId} {pos : String} {af : Array Edge} {gd : Option (Nat × Bool)} {v : Value} {x y ix : Operand} {t t' el : TypeId}
theorem Ex.ixA1 {cs : List Value} {m z k : Nat} {i : Int} {q : IntKind} (hx : e.ev x = some (.agg cs.toArray)) (hi : e.ev ix = some (.int q i)) (hik : i = (k : Int)) (hu : ∀ w, (underlying t).run P w = .ok (.array m el) w) (hz : ∀ w, (sizeOf el).run P w = .ok z w)
    (ha : ∀ w, (isAgg el).run P w = .ok false w) (hk : k < m) (hv : cs[k * z]? = some v) : Ex P n e S ⟨d, .index t x ix, ty, pos, af, gd⟩ v := by
  intro a w h _
  subst hik
  have h1 : (0 : Int) ≤ (k : Int) ∧ (k : Int) < (m : Int) := by omega
  have h3 : (Instr.index t (.agg cs.toArray) (.int q (k : Int))).run P w = .ok v w := by
    simp only [Instr.index, asIntOf, Sem.run_bind, Sem.run_pure, Result.andThen_ok, hu]
    rw [if_pos h1]
    simp only [Sem.run_bind, hz, Result.andThen_ok, Int.toNat_natCast, part, ha, Bool.false_eq_true, if_false]
    simp [hv]
  simp [execOp, h.ev hx, h.ev hi, h3]
theorem Ex.ixP {g o m z k : Nat} {i : Int} {q : IntKind} (hx : e.ev x = some (.pointer (some ⟨g, o, none⟩))) (hi : e.ev ix = some (.int q i)) (hik : i = (k : Int)) (hu : ∀ w, (underlying t).run P w = .ok (.array m el) w) (hz : ∀ w, (sizeOf el).run P w = .ok z w) (hk : k < m) :
    Ex P n e S ⟨d, .indexAddr t x ix, ty, pos, af, gd⟩ (.pointer (some ⟨g, o + k * z, none⟩)) := by
  intro a w ha _
  subst hik
  have h1 : (0 : Int) ≤ (k : Int) ∧ (k : Int) < (m : Int) := by omega
  have h2 : (⟨g, o, none⟩ : Addr).add (k * z) = ⟨g, o + k * z, none⟩ := by unfold Addr.add; split <;> simp_all
  have h3 : (Instr.indexAt t (.pointer (some ⟨g, o, none⟩)) (.int q (k : Int))).run P w = .ok (.pointer (some ⟨g, o + k * z, none⟩)) w := by
    simp only [Instr.indexAt, asIntOf, Sem.run_bind, Sem.run_pure, Result.andThen_ok, hu, Instr.sureAddr]
    rw [if_pos h1]
    simp only [Sem.run_bind, hz, Result.andThen_ok, Int.toNat_natCast, h2, Sem.run_pure]
  simp [execOp, ha.ev hx, ha.ev hi, h3]
end
theorem fill_le {f g : Nat → Option (Nat × Nat)} (h : ∀ i p, f i = some p → g i = some p) : ∀ (parts : List (Nat × Value)) (zs cells : Array Value), Instr.fill f zs parts = some cells → Instr.fill g zs parts = some cells
  | [], zs, cells, hf => hf
  | (i, v) :: r, zs, cells, hf => by
    unfold Instr.fill at hf ⊢
    cases hp : f i with
    | none => rw [hp] at hf; exact nomatch hf
    | some p =>
      rw [hp] at hf
      rw [h i p hp]
      obtain ⟨o, s⟩ := p
      simp only at hf ⊢
      split at hf
      · exact nomatch hf
      · rename_i hc
        rw [if_neg hc]
        exact fill_le h r _ _ hf
theorem BOK.mkA {P : Program} {t el : TypeId} {zv : Value} {m z : Nat} {pl : List (Nat × Nat)} {zs : Array Value} (hz : ∀ w, (zeroValue t).run P w = .ok zv w) (hu : ∀ w, (underlying t).run P w = .ok (.array m el) w) (hs : ∀ w, (sizeOf el).run P w = .ok z w)
    (hp : (List.range pl.length).map (fun i => (i * z, z)) = pl) (hzs : zv.cells = zs := by rfl) : BOK P t zs pl := by
  intro parts cells w h
  subst hzs
  simp only [Instr.build, Sem.run_bind, hz, Result.andThen_ok, hu, hs]
  have h2 := fill_le (g := fun i => some (i * z, z)) (fun i p hi => by
    rw [← hp] at hi
    obtain ⟨hl, hi⟩ := List.getElem?_eq_some_iff.1 hi
    rw [← hi]
    simp) parts.toList _ _ h
  simp [h2]
end Go.Proofs.Ytahjmpipllajcaa.Sl
namespace Go.Proofs.Ytahjmpipllajcaa.Sl
open Go.RowKit Go.Deep Go.ChangeShapes
set_option linter.unusedVariables false
set_option linter.unusedSimpArgs false
def oldRd {α : Type} (w0 : World) (S : Nat → Prop) (E : Rd α) : Rd α where
  P := fun w G cs x => ∀ W : World, (∀ k, G k → W.heap[k]? = w.heap[k]?) → (∀ k, S k → W.heap[k]? = w0.heap[k]?) → E.P W (fun k => G k ∨ S k) cs x
  mono := fun h hS W h1 h2 => E.mono (h W (fun k hk => h1 k (hS k hk)) h2) (fun k hk => hk.imp (hS k) id)
  move := fun h hm W h1 h2 => h W (fun k hk => (h1 k hk).trans (hm k hk)) h2
def RX.old (w0 : World) (S : Nat → Prop) (X : RX) : RX where
  P := fun w G => ∀ W : World, (∀ k, G k → W.heap[k]? = w.heap[k]?) → (∀ k, S k → W.heap[k]? = w0.heap[k]?) → X.P W (fun k => G k ∨ S k)
  mono := fun h hS W h1 h2 => X.mono (h W (fun k hk => h1 k (hS k hk)) h2) (fun k hk => hk.imp (hS k) id)
  move := fun h hm W h1 h2 => h W (fun k hk => (h1 k hk).trans (hm k hk)) h2
section
variable {α : Type} {w0 w w1 : World} {S G F : Nat → Prop} {E : Rd α} {cs : List Value} {x : α} {X Y : RX} {size : Nat}
end
structure RO where
  α : Type
  E : Rd α
  cs : List Value
  x : α
def RO.res (w0 : World) (S : Nat → Prop) (o : RO) : Res := RdR (oldRd w0 S o.E) o.cs o.x
section
variable {P : Program} {n : Nat} {F0 : Nat → Prop} {w0 w : World} {S : Nat → Prop} {e : Env} {Rs Rs' Rf Bs : List Res} {L : List RO} {B : Res} {Xr Y : RX}
theorem Sep.split : ∀ {Bs Rs : List Res} {w : World} {F : Nat → Prop}, Sep (Bs ++ Rs) w F → ∃ G, Sep Bs w G ∧ (∀ k, G k → F k) ∧ (∀ k, G k → k < w.heap.size) ∧ Sep Rs w (fun k => F k ∧ ¬ G k)
  | [], Rs, w, F, h => ⟨fun _ => False, trivial, fun _ h => h.elim, fun _ h => h.elim, h.mono (fun k hk => ⟨hk, fun h => h⟩)⟩
  | B :: Bs, Rs, w, F, ⟨G1, h1, h2, h3⟩ => by
    obtain ⟨G, k1, k2, k3, k4⟩ := Sep.split h3
    refine ⟨fun k => G1 k ∨ G k, ⟨G1, h1, fun k hk => .inl hk, k1.mono (fun k hk => ⟨.inr hk, (k2 k hk).2⟩)⟩, fun k hk => hk.elim (h2 k) (fun h => (k2 k h).1), fun k hk => hk.elim (B.lt h1 k) (k3 k), k4.mono (fun k hk => ⟨hk.1.1, fun h => h.elim hk.1.2 hk.2⟩)⟩
theorem Sep.each : ∀ {L : List RO} {w1 : World} {S1 F : Nat → Prop}, Sep (L.map (RO.res w1 S1)) w F → ∀ o, o ∈ L → ∃ G, (RdR (oldRd w1 S1 o.E) o.cs o.x).P w G ∧ ∀ k, G k → F k
  | a :: L, w1, S1, F, ⟨G, h1, h2, h3⟩, o, ho => by
    rcases List.mem_cons.1 ho with rfl | ho
    · exact ⟨G, h1, h2⟩
    · obtain ⟨G', k1, k2⟩ := Sep.each h3 o ho
      exact ⟨G', k1, fun k hk => (k2 k hk).1⟩
variable {d : Option Tmp} {ty : TypeId} {pos : String} {af : Array Edge} {gd : Option (Nat × Bool)} {R : Value → Res → List RO → Prop}
variable {Q : Exit → Act → World → Prop} {ops : Array Oper} {i dd : Nat} {cl : Call} {f : FuncId} {vs : List Value}
variable {α : Type} {E : Rd α} {size : Nat} {T : TypeId} {u : Value} {xs : List α}
end
end Go.Proofs.Ytahjmpipllajcaa.Sl
namespace Go.Proofs.Ytahjmpipllajcaa.Sl
open Go.RowKit
set_option linter.unusedVariables false
set_option linter.unusedSimpArgs false
section
variable {α : Type} {size : Nat} {E : Rd α} {w : World} {S : Nat → Prop}
theorem elems_set : ∀ {xs : List α} {cs new : List Value} {k : Nat} {x x' : α}, elems size E w S cs xs → xs[k]? = some x → new.length = size → E.P w S new x' → elems size E w S (cs.take (k * size) ++ new ++ cs.drop ((k + 1) * size)) (xs.set k x')
  | [], _, _, k, _, _, _, hk, _, _ => by simp at hk
  | y :: ys, cs, new, 0, x, x', ⟨h0, _, h2⟩, _, hn, hx => by
    rw [Nat.zero_mul, List.take_zero, List.nil_append, Nat.zero_add, Nat.one_mul]
    exact ⟨by rw [List.take_append_of_le_length (by omega), List.take_of_length_le (by omega)]; exact hn, by rw [List.take_append_of_le_length (by omega), List.take_of_length_le (by omega)]; exact hx,
      by rw [List.drop_append_of_le_length (by omega), List.drop_of_length_le (by omega)]; exact h2⟩
  | y :: ys, cs, new, k + 1, x, x', ⟨h0, h1, h2⟩, hk, hn, hx => by
    have hle : size ≤ cs.length := by rw [List.length_take] at h0; omega
    have ih := elems_set (k := k) (x := x) h2 (by simpa using hk) hn hx
    have hc : cs = cs.take size ++ cs.drop size := (List.take_append_drop size cs).symm
    have e0 : (cs.take size).length = size := h0
    have e1 : cs.take ((k + 1) * size) = cs.take size ++ (cs.drop size).take (k * size) := by
      conv => lhs; rw [hc]
      rw [List.take_append, e0, show (k + 1) * size - size = k * size by rw [Nat.add_mul]; omega, List.take_of_length_le (by rw [e0, Nat.add_mul]; omega)]
    have e2 : cs.drop ((k + 1 + 1) * size) = (cs.drop size).drop ((k + 1) * size) := by
      rw [List.drop_drop, show size + (k + 1) * size = (k + 1 + 1) * size by rw [Nat.add_mul (k + 1)]; omega]
    rw [e1, e2, List.append_assoc, List.append_assoc, ← List.append_assoc ((cs.drop size).take (k * size))]
    exact ⟨by rw [List.take_append_of_le_length (by omega), List.take_of_length_le (by omega)]; exact h0, by rw [List.take_append_of_le_length (by omega), List.take_of_length_le (by omega)]; exact h1,
      by rw [List.drop_append_of_le_length (by omega), List.drop_of_length_le (by omega), List.nil_append]; exact ih⟩
theorem OwnR.stored {T m c g o k off q : Nat} {G : Nat → Prop} {xs : List α} {x x' : α} {us : List Value} (h : (OwnR T size E (.slice (some ⟨g, o, none⟩) m c) xs).P w G) (hk : xs[k]? = some x) (hq : q = o + k * size + off) (hl : off + us.length ≤ size)
    (hE : ∀ w S cs, cs.length = size → E.P w S cs x → E.P w S (cs.take off ++ us ++ cs.drop (off + us.length)) x') :
    ∃ cur, w.heap[g]? = some (.cells cur T (0, 0)) ∧ q + us.length ≤ cur.size ∧ (∀ k, k = g → G k) ∧ (OwnR T size E (.slice (some ⟨g, o, none⟩) m c) (xs.set k x')).P (w.setRow g (cur.toList.take q ++ us ++ cur.toList.drop (q + us.length)).toArray) G := by
  obtain ⟨cells, S, ⟨hlen, hown⟩, h2, h3, h4, h5⟩ := h
  rcases hown with ⟨hv, _⟩ | ⟨g', cap, cur, hv, hb0, hg, hnc, hcm, hcs, htk⟩
  · cases hv
  injection hv with hv1 hv2 hv3
  injection hv1 with hv1
  injection hv1 with hv4 hv5
  subst hv4 hv5 hv2 hv3
  have hkl : k < xs.length := (List.getElem?_eq_some_iff.1 hk).1
  have hks : (k + 1) * size ≤ xs.length * size := Nat.mul_le_mul_right _ hkl
  have hcap : xs.length * size ≤ c * size := Nat.mul_le_mul_right _ hnc
  have hk1 : (k + 1) * size = k * size + size := by rw [Nat.add_mul, Nat.one_mul]
  have hfit : q + us.length ≤ cur.size := by rw [hcs]; omega
  refine ⟨cur, hg, hfit, fun k hk => by subst hk; exact (h5 _).2 (.inl rfl), ?_⟩
  obtain ⟨c1, c2⟩ := elems_get h2 hk
  have hgS : ¬ S g := h4 g rfl
  have hnew : ((cells.drop (k * size)).take size).take off ++ us ++ ((cells.drop (k * size)).take size).drop (off + us.length) = ((cells.drop (k * size)).take size).take off ++ us ++ ((cells.drop (k * size)).take size).drop (off + us.length) := rfl
  have hset := elems_set h2 hk (new := ((cells.drop (k * size)).take size).take off ++ us ++ ((cells.drop (k * size)).take size).drop (off + us.length)) (by simp only [List.length_append, List.length_take, List.length_drop] at c1 ⊢; omega) (hE w S _ c1 c2)
  have hset' : elems size E (w.setRow g (cur.toList.take q ++ us ++ cur.toList.drop (q + us.length)).toArray) S _ (xs.set k x') := elems_move hset (fun k hk => setRow_other w g k _ (fun e => hgS (e ▸ hk)))
  refine ⟨_, S, ⟨?_, .inr ⟨g, c, _, by rw [List.length_set], hb0, setRow_heap w g cur _ T (0, 0) hg, by rw [List.length_set]; exact hnc, hcm, ?_, ?_⟩⟩, hset', fun k hk => by rw [size_setRow]; exact h3 k hk, h4, h5⟩
  · have := elems_length hset
    exact this
  · simp only [List.size_toArray, List.length_append, List.length_take, List.length_drop, Array.length_toList]
    omega
  · rw [List.length_set]
    have hcl : cur.toList.length = c * size := by simpa using hcs
    have hcells : cells.length = xs.length * size := hlen
    have d1 : (cells.drop (k * size)).take size = (cells.drop (k * size)).take size := rfl
    have hq2 : q + us.length ≤ xs.length * size := by omega
    have r1 : cells.take (k * size) ++ ((cells.drop (k * size)).take size).take off = cells.take q := by
      rw [List.take_take, Nat.min_eq_left (by omega), ← List.take_add, show k * size + off = q by omega]
    have r2 : ((cells.drop (k * size)).take size).drop (off + us.length) ++ cells.drop ((k + 1) * size) = cells.drop (q + us.length) := by
      have e1 : cells.drop ((k + 1) * size) = (cells.drop (k * size)).drop size := by rw [List.drop_drop, hk1]
      have e2 : cells.drop (q + us.length) = (cells.drop (k * size)).drop (off + us.length) := by rw [List.drop_drop, show k * size + (off + us.length) = q + us.length by omega]
      rw [e1, e2, ← List.drop_append_of_le_length (by omega), List.take_append_drop]
    have r3 : cells.take (k * size) ++ (((cells.drop (k * size)).take size).take off ++ us ++ ((cells.drop (k * size)).take size).drop (off + us.length)) ++ cells.drop ((k + 1) * size) = cells.take q ++ us ++ cells.drop (q + us.length) := by
      rw [← r1, ← r2]
      simp only [List.append_assoc]
    rw [r3, ← htk, List.drop_take, List.take_take, Nat.min_eq_left (by omega)]
    have l1 : (cur.toList.take q ++ us).length = q + us.length := by rw [List.length_append, List.length_take]; omega
    rw [List.toList_toArray, List.take_append, l1, List.take_of_length_le (by omega)]
end
section
variable {P : Program} {n : Nat} {F0 : Nat → Prop} {w0 : World} {e : Env} {Rs Rf : List Res} {Q : Exit → Act → World → Prop} {ops : Array Oper} {d : Option Tmp} {i : Nat} {ty t t' el : TypeId} {pos : String} {af : Array Edge} {gd : Option (Nat × Bool)} {v v' : Value} {x y : Operand} {l : List Nat} {lo : Sch} {c : Code} {S : World → Prop}
theorem TD.unf {α : Type} {E : Rd α} {B : Res} {q g : Nat} {cs : List Value} {u : α} (i : Nat) (hi : Rs[i]? = some (RowK B E g q cs u)) (h : TD P n F0 w0 ops lo Rf e (Rs.set i B) Q) : TD P n F0 w0 ops lo Rf e Rs Q := fun a w ha hs => h a w ha (hs.unf i hi)
section
variable {α : Type} {E : Rd α} {T m cp size g o k off q z : Nat} {xs : List α} {u u' : α}
end
section
variable {α : Type} {E : Rd α} {T bytes k : Nat} {zv : Value} {u : α} {m : Int} {kl : IntKind} {d' : Nat}
end
def bitOp : BinOp → Bool
  | .and | .or | .xor | .andNot => true
  | _ => false
theorem Ex.bitw {bo : BinOp} {k : IntKind} {p q : Int} (hb : bitOp bo = true) (hx : e.ev x = some (.int k p)) (hy : e.ev y = some (.int k q)) : Ex P n e S ⟨d, .binOp bo t x y t', ty, pos, af, gd⟩ (.int k (Go.bits bo k p q)) := by
  intro a w ha _
  have h1 : Op.intBits bo k p q = pure (.int k (Go.bits bo k p q)) := by cases bo <;> first | rfl | exact absurd hb (by decide)
  have h2 : (binOp bo t (.int k p) (.int k q)).run P w = .ok (.int k (Go.bits bo k p q)) w := by
    cases bo <;> first | exact absurd hb (by decide) | simp only [binOp, h1, ne_eq, not_true, if_false, Sem.run_pure]
  have h3 : eqGuard bo t x y (.int k p) (.int k q) = pure () := by cases bo <;> first | exact absurd hb (by decide) | rfl
  simp only [execOp, ha.ev hx, ha.ev hy, h3, Sem.run_bind, Sem.run_pure, Result.andThen_ok, h2]
theorem T.blen {α : Type} {E : Rd α} {A : Option Addr} {m cp size : Nat} {xs : List α} {B : Res} (i : Nat) (hi : Rs[i]? = some B) (hB : ∀ w G, B.P w G → (RX.of (sliceRd size E) [.slice A m cp] xs).P w G) (h : xs.length ≤ 9223372036854775807 → T P n F0 w0 e Rs c Q) : T P n F0 w0 e Rs c Q := by
  intro a w ha hs
  refine h ?_ a w ha hs
  obtain ⟨G, hG, _⟩ := hs.get i hi
  rcases hB w G hG with ⟨_, rfl⟩ | ⟨_, cap, _, h1, h2, _⟩
  · simp
  · have : maxLen = 9223372036854775807 := rfl
    omega
end
end Go.Proofs.Ytahjmpipllajcaa.Sl
namespace Go.Proofs.Ytahjmpipllajcaa.Sl
open Go.RowKit
set_option linter.unusedVariables false
set_option linter.unusedSimpArgs false
section
variable {P : Program} {n : Nat} {F0 : Nat → Prop} {w0 w : World} {e : Env} {Rs Rf : List Res} {Q : Exit → Act → World → Prop} {ops : Array Oper} {d : Option Tmp} {i : Nat} {ty t t' el : TypeId} {pos : String} {af : Array Edge} {gd : Option (Nat × Bool)} {v v' : Value} {x y ix : Operand} {L : List Nat} {lo : Sch} {c : Code} {S : World → Prop}
variable {T g k : Nat} {l : List Int} {u u' : Int}
end
def LW (P : Program) (c : Code) (Q : Exit → Act → World → Prop) (a : Act) (w : World) : Prop := ∀ b k cs, ∃ x a' w', Q x a' w' ∧ Arrives P (lone (b.at a (.code c :: .inLoop c :: k)) cs w) b k cs x a' w'
def TW (P : Program) (n : Nat) (F0 : Nat → Prop) (w0 : World) (e : Env) (Rs : List Res) (c : Code) (Q : Exit → Act → World → Prop) : Prop := ∀ a w, Has n e a → St F0 w0 Rs w → LW P c Q a w
section
variable {P : Program} {n : Nat} {F0 : Nat → Prop} {w0 : World} {e : Env} {Rs : List Res} {Q : Exit → Act → World → Prop} {c : Code}
theorem T.unroll0 (h : TW P n F0 w0 e Rs c Q) : T P n F0 w0 e Rs (.loop c) Q := by
  intro a w ha hs b k cs
  obtain ⟨x, a', w', hq, harr⟩ := h a w ha hs b k cs
  exact ⟨x, a', w', hq, .of_steps (.one step_loop) harr⟩
theorem TW.step (h : T P n F0 w0 e Rs c (Exit.then (LW P c Q) Q)) : TW P n F0 w0 e Rs c Q := by
  intro a w ha hs b k cs
  obtain ⟨x, a₁, w₁, hq, harr⟩ := h a w ha hs b (.inLoop c :: k) cs
  cases x with
  | normal =>
    obtain ⟨x₂, a₂, w₂, hq₂, harr₂⟩ := hq b k cs
    exact ⟨x₂, a₂, w₂, hq₂, .of_steps (Steps.trans harr (.one step_inLoop)) harr₂⟩
  | exit id => exact ⟨_, a₁, w₁, hq, .pass (x := .inLoop c) rfl (fun _ _ => .inl (by simp)) harr⟩
  | goto l => exact ⟨_, a₁, w₁, hq, .pass (x := .inLoop c) rfl (fun _ _ => .inl (by simp)) harr⟩
  | ret => exact ⟨_, a₁, w₁, hq, .pass (x := .inLoop c) rfl (fun _ _ => .inl (by simp)) harr⟩
  | panic ch => exact ⟨_, a₁, w₁, hq, .pass (x := .inLoop c) rfl (fun _ _ => .inl (by simp)) harr⟩
  | outgrown => exact ⟨_, a₁, w₁, hq, .pass (x := .inLoop c) rfl (fun _ _ => .inl (by simp)) harr⟩
theorem X.un (h : TW P n F0 w0 e Rs c Q) : X n F0 w0 e Rs .normal (Exit.then (LW P c Q) Q) := h
end
end Go.Proofs.Ytahjmpipllajcaa.Sl
namespace Go.Proofs.Ytahjmpipllajcaa.Sl
open Go.RowKit
set_option linter.unusedVariables false
set_option linter.unusedSimpArgs false
def BldR (b : Nat) (l : List UInt8) : Res where
  P := fun w G => ∃ p v, (p = .pointer none ∨ p = .pointer (some ⟨b, 0, none⟩)) ∧ w.heap[b]? = some (.cells #[p, v] 72 (0, 0)) ∧ w.ownsRow 0 5 1 v l.length (byteCells l) ∧ ∀ k, G k ↔ k = b ∨ v.ownBlock = some k
  lt := by
    rintro w G ⟨p, v, _, h1, h2, h3⟩ k hk
    rcases (h3 k).1 hk with rfl | h
    · exact heap_lt h1
    · exact row_lt h2 k h
  move := by
    rintro w w' G ⟨p, v, hp, h1, h2, h3⟩ hm
    exact ⟨p, v, hp, (hm _ ((h3 _).2 (.inl rfl))).trans h1, row_move h2 (fun k hk => hm k ((h3 k).2 (.inr hk))), h3⟩
theorem BldR.new {F0 : Nat → Prop} {w0 w : World} {Rs : List Res} (h : St F0 w0 Rs w) : St F0 w0 (BldR w.heap.size [] :: Rs) (w.alloc (.cells #[.pointer none, .slice none 0 0] 72)) := by
  refine (h.alloc #[.pointer none, .slice none 0 0] 72).weaken 0 rfl (A' := BldR w.heap.size []) ?_
  rintro G ⟨h1, h2⟩
  exact ⟨_, _, .inl rfl, h1, World.ownsRow_nil _ _ _ _, fun k => by simp [h2 k, Value.ownBlock]⟩
theorem BldR.stored {b : Nat} {l m : List UInt8} {w w1 w2 : World} {v v1 : Value} {F : Nat → Prop} (hw : Fr (fun k => k = b) w w1) (hF : ∀ k, F k ↔ k = b ∨ v.ownBlock = some k) (hb : w1.heap[b]? = some (.cells #[.pointer (some ⟨b, 0, none⟩), v] 72 (0, 0))) (ho : w1.ownsRow 0 5 1 v l.length (byteCells l))
    {n : Nat} (ho1 : w2.ownsRow 0 5 1 v1 n (byteCells m)) (hg : w1.grownBy w2 v.ownBlock) (hat : v1.ownBlock = v.ownBlock ∨ ∃ k, v1.ownBlock = some k ∧ w1.heap.size ≤ k) (hlt : b < w.heap.size) :
    St F w [BldR b m] (w2.setCell ⟨b, 1, none⟩ v1) := by
  have hn : n = m.length := by have := ho1.1; simpa [byteCells] using this.symm
  subst hn
  have hne := row_ne ho hb (by decide)
  have hb1 : w2.heap[b]? = some (.cells #[.pointer (some ⟨b, 0, none⟩), v] 72 (0, 0)) := (hg.block b (heap_lt hb) hne).trans hb
  have hne1 := row_ne ho1 hb1 (by decide)
  have f1 : Fr F w w1 := hw.mono (fun k hk => (hF k).2 (.inl hk))
  have f2 : Fr F w w2 := f1.trans (Fr.of_grown (F := F) hg (fun k hk => (hF k).2 (.inr hk))) (fun k hk => .inl hk)
  refine ⟨f2.set (p := ⟨b, 1, none⟩) (.inl ((hF b).2 (.inl rfl))) v1, ?_⟩
  refine ⟨fun k => k = b ∨ v1.ownBlock = some k, ⟨_, v1, .inr rfl, by simpa using heap_set hb1 1 v1, row_set ho1 hne1 v1, fun _ => Iff.rfl⟩, ?_, trivial⟩
  rintro k (rfl | hk)
  · exact .inl ((hF k).2 (.inl rfl))
  · rcases hat with h | ⟨k', h, h'⟩
    · rw [h] at hk
      exact .inl ((hF k).2 (.inr hk))
    · rw [h] at hk
      injection hk with hk
      subst hk
      exact .inr (Nat.le_trans hw.size h')
end Go.Proofs.Ytahjmpipllajcaa.Sl
namespace Go.Proofs.Ytahjmpipllajcaa.Sl
open Go.RowKit
set_option linter.unusedVariables false
set_option linter.unusedSimpArgs false
def PakR {ι : Type} (f : ι → List Res) : Res where
  P := fun w G => (∃ i, Sep (f i) w G) ∧ ∀ k, G k → k < w.heap.size
  lt := fun h k hk => h.2 k hk
  move := fun {w w' G} h hm => ⟨let ⟨i, hi⟩ := h.1; ⟨i, hi.move_ hm⟩, fun k hk => by
    have h1 := h.2 k hk
    have h2 := hm k hk
    rw [Array.getElem?_eq_getElem h1] at h2
    exact (Array.getElem?_eq_some_iff.1 h2).1⟩
section
variable {P : Program} {n : Nat} {F0 : Nat → Prop} {w0 w : World} {e : Env} {Rs Rs' Rf : List Res} {Q : Exit → Act → World → Prop} {ops : Array Oper} {l : List Nat} {c : Code} {x : Exit} {ι : Type} {f : ι → List Res}
end
section
variable {P : Program} {n : Nat} {F0 : Nat → Prop} {w0 w : World} {e : Env} {Rs Rf : List Res} {Q : Exit → Act → World → Prop} {ops : Array Oper} {d : Option Tmp} {i : Nat} {ty t t' el : TypeId} {pos : String} {af : Array Edge} {gd : Option (Nat × Bool)} {v : Value} {x y : Operand} {L : List Nat} {lo : Sch} {cd : Code}
variable {U c m k : Nat} {A : Option Addr}
variable {α : Type} {E : Rd α} {z : Nat} {xs ys : List α}
def cutA (A : Option Addr) (c k z : Nat) : Option Addr := if c = k then A else A.map (·.add (k * z))
end
end Go.Proofs.Ytahjmpipllajcaa.Sl
namespace Go.Proofs.Ytahjmpipllajcaa.Sl
open Go.RowKit
set_option linter.unusedVariables false
set_option linter.unusedSimpArgs false
section
variable {P : Program} {n : Nat} {F0 : Nat → Prop} {w0 w : World} {e e' : Env} {Rs Rs' Rf : List Res} {Q : Exit → Act → World → Prop} {ops : Array Oper} {L : List Nat} {lo : Sch} {cd : Code} {K : Act → World → Prop} {l id : Nat} {J : Nat → Nat → Env → List Res → Prop} {J' : Nat → Act → World → Prop}
theorem X.gs (h : X n F0 w0 e Rs (.goto l) Q) : X n F0 w0 e Rs (.goto l) (Exit.then K Q) := h
theorem X.nilrow {x : Exit} {α : Type} (T' : TypeId) (size : Nat) (E : Rd α) (h : X n F0 w0 e (OwnR T' size E (.slice none 0 0) [] :: Rs) x Q) : X n F0 w0 e Rs x Q := fun a w ha hs => h a w ha (OwnR.nil T' size E hs)
def AnyR (b T z : Nat) : Res := PakR (fun cs : {cs : Array Value // cs.size = z} => [BlkR b T cs.1])
theorem St.any {b T z : Nat} {cs : Array Value} (i : Nat) (h : St F0 w0 Rs w) (hi : Rs[i]? = some (BlkR b T cs)) (hz : cs.size = z) : St F0 w0 (Rs.set i (AnyR b T z)) w :=
  h.weaken i hi (fun G hG => ⟨⟨⟨cs, hz⟩, G, hG, fun k hk => hk, trivial⟩, (BlkR b T cs).lt hG⟩)
theorem X.any {x : Exit} {b T z : Nat} {cs : Array Value} (i : Nat) (hi : Rs[i]? = some (BlkR b T cs)) (hz : cs.size = z) (h : X n F0 w0 e (Rs.set i (AnyR b T z)) x Q) : X n F0 w0 e Rs x Q := fun a w ha hs => h a w ha (hs.any i hi hz)
theorem T.any {b T' z : Nat} {cs : Array Value} (i : Nat) (hi : Rs[i]? = some (BlkR b T' cs)) (hz : cs.size = z) (h : T P n F0 w0 e (Rs.set i (AnyR b T' z)) cd Q) : T P n F0 w0 e Rs cd Q := fun a w ha hs => h a w ha (hs.any i hi hz)
variable {d : Option Tmp} {i : Nat} {ty t t' el : TypeId} {pos : String} {af : Array Edge} {gd : Option (Nat × Bool)} {v : Value} {x y : Operand}
variable {α : Type} {E : Rd α} {z : Nat} {xs ys : List α} {A A2 : Option Addr} {m c c2 k : Nat} {U bytes : Nat} {zv : Value}
theorem RX.sub {G : Nat → Prop} {p q : Nat} (h : (RX.of (sliceRd z E) [.slice A m c] xs).P w G) (hpq : p ≤ q) (hq : q ≤ xs.length) (hl : ((xs.drop p).take (q - p)) = ys) : (RX.of (sliceRd z E) [.slice (cutA A c p z) ys.length (c - p)] ys).P w G := by
  subst hl
  have hlen : ((xs.drop p).take (q - p)).length = q - p := by rw [List.length_take, List.length_drop]; omega
  rcases h with ⟨h, rfl⟩ | ⟨a, cap, h, h1, h2, hb, hr⟩
  · injection h with h
    injection h with e1 e2 e3
    subst e1 e3
    obtain rfl : q = 0 := by simpa using hq
    obtain rfl : p = 0 := by omega
    exact .inl ⟨rfl, by simp⟩
  · injection h with h
    injection h with e1 e2 e3
    subst e1 e3
    by_cases hc : c = p
    · have hz : q - p = 0 := by omega
      refine .inr ⟨a, c - p, by simp [cutA, hc], by rw [hlen]; omega, by omega, fun h => by omega, fun i x hx => ?_⟩
      have := (List.getElem?_eq_some_iff.1 hx).1
      omega
    · refine .inr ⟨a.add (p * z), c - p, by simp [cutA, hc], by rw [hlen]; omega, by omega, fun h => by rw [Go.ChangeShapes.block_add]; exact hb (by omega), fun i x hx => ?_⟩
      rw [List.getElem?_take] at hx
      split at hx
      · rw [List.getElem?_drop] at hx
        obtain ⟨cs, k1, k2, k3⟩ := hr (p + i) x hx
        refine ⟨cs, k1, fun j hj => ?_, k3⟩
        rw [← k2 j hj]
        congr 1
        unfold Addr.add
        split <;> split <;> simp_all [Nat.add_mul, Nat.add_assoc]
      · exact nomatch hx
end
section
variable {P : Program} {t el : TypeId}
theorem items_run {d0 : TypeDesc} {k : Nat} (hf : Flat P k el [d0] false) : ∀ (n off d : Nat) (xs ys : List Value) (b : Bool) (w : World), k ≤ d → xs.length = off + n → ys.length = off + n →
    oksD (List.replicate n d0) (xs.drop off) = true → oksD (List.replicate n d0) (ys.drop off) = true → eqL (xs.drop off) (ys.drop off) = some b → (Op.eqItems d el 1 xs.toArray ys.toArray (List.range' off n)).run P w = .ok b w
  | 0, off, d, xs, ys, b, w, hd, hx, hy, ox, oy, h => by
    rw [List.drop_of_length_le (by omega), List.drop_of_length_le (by omega)] at h
    injection h with h
    subst h
    rfl
  | n + 1, off, d, xs, ys, b, w, hd, hx, hy, ox, oy, h => by
    rw [List.replicate_succ, show d0 :: List.replicate n d0 = [d0] ++ List.replicate n d0 from rfl] at ox oy
    have ox' := oksD_app ox
    have oy' := oksD_app oy
    have e1 : xs.drop off = (xs.drop off).take 1 ++ xs.drop (off + 1) := by rw [← List.drop_drop, List.take_append_drop]
    have e2 : ys.drop off = (ys.drop off).take 1 ++ ys.drop (off + 1) := by rw [← List.drop_drop, List.take_append_drop]
    rw [e1, e2] at h
    obtain ⟨c, h1, h2⟩ := eqL_append (by simp; omega) h
    have p1 := part_run hf xs off w (by simp; omega)
    have p2 := part_run hf ys off w (by simp; omega)
    have q1 := hf.eq d _ _ c w hd ox'.1 oy'.1 h1
    rw [List.range'_succ]
    simp only [List.length_singleton] at p1 p2 q1
    simp only [Op.eqItems, Sem.run_bind, Nat.mul_one, p1, Result.andThen_ok, p2, q1]
    cases c with
    | false =>
      simp only [Bool.false_eq_true, if_false] at h2
      injection h2 with h2
      subst h2
      rfl
    | true =>
      simp only [if_true] at h2
      have h3 := items_run hf n (off + 1) d xs ys b w hd (by omega) (by omega) (by rw [← List.drop_drop]; exact ox'.2) (by rw [← List.drop_drop]; exact oy'.2) h2
      simpa using h3
theorem Flat.array1 {k m bytes : Nat} {d0 : TypeDesc} {ds : List TypeDesc} {zv : Value} (ia : ∀ w, (isAgg t).run P w = .ok true w) {z : Nat} (sz : ∀ w, (sizeOf t).run P w = .ok z w) (hz : ds.length = z) (hu : P.underlying t = some (.array m el)) (hd : ds = List.replicate m d0) (hinfo : (P.info? el).map (fun i => (i.zero, i.size, i.bytes)) = some (some zv, 1, bytes)) (hf : Flat P k el [d0] false) : Flat P (k + 1) t ds true := by
  subst hz
  subst hd
  refine ⟨ia, sz, fun h => (by cases h), ?_⟩
  intro d xs ys b w hd hx hy h
  obtain ⟨d, rfl⟩ : ∃ d', d = d' + 1 := ⟨d - 1, by omega⟩
  obtain ⟨i, hi, hzz⟩ := Option.map_eq_some_iff.1 hinfo
  simp only [Prod.mk.injEq] at hzz
  have hc : P.cellsOf el = 1 := by simp [Program.cellsOf, hi, hzz.2.1]
  have lx : xs.length = m := by simpa using oksD_length hx
  have ly : ys.length = m := by simpa using oksD_length hy
  simp only [mkV, if_true]
  rw [run_equalIn_array w d _ _ hu hi, hc, List.range_eq_range']
  exact items_run hf m 0 d xs ys b w (by omega) (by omega) (by omega) (by simpa using hx) (by simpa using hy) (by simpa using h)
end
end Go.Proofs.Ytahjmpipllajcaa.Sl
namespace Go.Proofs.Ytahjmpipllajcaa.Sl
open Go.RowKit
set_option linter.unusedVariables false
set_option linter.unusedSimpArgs false
set_option maxRecDepth 100000
def ft_tally : FTab := [(36, 11, 11)]
theorem ft_tally_ok : (ft_tally).OK Try.prog := ⟨FOK.mk Try.runUnderlying36 rfl Try.sizeOf34 rfl, trivial⟩
def f_tally_Turn (a0 : Nat × Nat) (a1 : Int) : Option (Nat × Nat) := if (Go.bits .and .i64 a1 3) = 1 then (some ((fNeg a0.2), a0.1)) else (if (Go.bits .and .i64 a1 3) = 2 then (some ((fNeg a0.1), (fNeg a0.2))) else (if (Go.bits .and .i64 a1 3) = 3 then (some (a0.2, (fNeg a0.1))) else some a0))
set_option maxRecDepth 100000 in
set_option maxHeartbeats 4000000 in
theorem f_tally_Turn_spec (a0 : Nat × Nat) (a1 : Int) (r : Nat × Nat) (h : f_tally_Turn a0 a1 = some r) : SpecX Try.prog 20 #[.complex .f64 a0.1 a0.2, .int .i64 a1] .triv (EmpR) (fun v A' N => v = .complex .f64 r.1 r.2 ∧ A' = EmpR ∧ N = []) := by
  refine enterA Try.func20 rfl Try.ntmps20 rfl ?_
  intro F w hX
  unfold f_tally_Turn at h
  refine T.seq (T.region rfl ?_)
  refine TL.run ft_tally_ok [0] rfl rfl ?_
  refine TL.nil (X.seq (T.seq (T.seq (T.region rfl ?_))))
  refine TL.run ft_tally_ok [0] rfl rfl ?_
  refine TL.q rfl .u (Ex.bitw rfl rfl rfl) rfl ?_
  refine TL.nil (X.seq (T.block (T.seq (T.region rfl ?_))))
  refine TL.run ft_tally_ok [0, 1] rfl rfl ?_
  by_cases c1 : (Go.bits .and .i64 a1 3) = 1
  · replace h := ifT c1 h
    refine TL.nil (X.seq ?_)
    refine T.yes rfl (decide_eq_true c1) ?_
    refine T.seq (T.region rfl ?_)
    refine TL.run ft_tally_ok [0] rfl rfl ?_
    refine TL.q rfl .u (Ex.im rfl) rfl ?_
    refine TL.q rfl .u (Ex.fneg rfl) rfl ?_
    refine TL.run ft_tally_ok [3] rfl rfl ?_
    refine TL.q rfl .u (Ex.re rfl) rfl ?_
    refine TL.q rfl .u (Ex.cx rfl rfl) rfl ?_
    refine TL.run ft_tally_ok [6] rfl rfl ?_
    obtain rfl := Option.some.inj h
    exact TL.nil (X.seq (T.ret (X.rb (X.rs (X.done1 [0] Try.results20 (RV.tm rfl) ⟨rfl, rfl, rfl⟩ (by rfl) (.inl rfl))))))
  · replace h := ifF c1 h
    refine TL.nil (X.seq ?_)
    refine T.no rfl (decide_eq_false c1) ?_
    refine T.seq (T.region rfl ?_)
    refine TL.run ft_tally_ok [0, 1] rfl rfl ?_
    by_cases c2 : (Go.bits .and .i64 a1 3) = 2
    · replace h := ifT c2 h
      refine TL.nil (X.seq ?_)
      refine T.yes rfl (decide_eq_true c2) ?_
      refine T.seq (T.region rfl ?_)
      refine TL.run ft_tally_ok [0] rfl rfl ?_
      refine TL.q rfl .u (Ex.cneg rfl) rfl ?_
      refine TL.run ft_tally_ok [2] rfl rfl ?_
      obtain rfl := Option.some.inj h
      exact TL.nil (X.seq (T.ret (X.rb (X.rs (X.done1 [0] Try.results20 (RV.tm rfl) ⟨rfl, rfl, rfl⟩ (by rfl) (.inl rfl))))))
    · replace h := ifF c2 h
      refine TL.nil (X.seq ?_)
      refine T.no rfl (decide_eq_false c2) ?_
      refine T.seq (T.region rfl ?_)
      refine TL.run ft_tally_ok [0, 1] rfl rfl ?_
      by_cases c3 : (Go.bits .and .i64 a1 3) = 3
      · replace h := ifT c3 h
        refine TL.nil (X.seq ?_)
        refine T.yes rfl (decide_eq_true c3) ?_
        refine T.seq (T.region rfl ?_)
        refine TL.run ft_tally_ok [0] rfl rfl ?_
        refine TL.q rfl .u (Ex.im rfl) rfl ?_
        refine TL.run ft_tally_ok [2] rfl rfl ?_
        refine TL.q rfl .u (Ex.re rfl) rfl ?_
        refine TL.q rfl .u (Ex.fneg rfl) rfl ?_
        refine TL.q rfl .u (Ex.cx rfl rfl) rfl ?_
        refine TL.run ft_tally_ok [6] rfl rfl ?_
        obtain rfl := Option.some.inj h
        exact TL.nil (X.seq (T.ret (X.rb (X.rs (X.done1 [0] Try.results20 (RV.tm rfl) ⟨rfl, rfl, rfl⟩ (by rfl) (.inl rfl))))))
      · replace h := ifF c3 h
        refine TL.nil (X.seq ?_)
        refine T.no rfl (decide_eq_false c3) ?_
        refine T.skip (X.blk (X.seq (T.seq (T.region rfl ?_))))
        refine TL.run ft_tally_ok [0, 1] rfl rfl ?_
        obtain rfl := Option.some.inj h
        exact TL.nil (X.seq (T.ret (X.done1 [0] Try.results20 (RV.tm rfl) ⟨rfl, rfl, rfl⟩ (by rfl) (.inl rfl))))
def f_tally_Quarter_l1 (a0 : Int) : List Int → (Nat × Nat) → Nat → Option (Nat × Nat)
  | [], y3, k4 => some y3
  | x9 :: xs, y3, k4 => if -9223372036854775808 ≤ ((Go.bits .and .i64 a0 3) * (Go.bits .and .i64 (k4 : Int) 3)) ∧ ((Go.bits .and .i64 a0 3) * (Go.bits .and .i64 (k4 : Int) 3)) ≤ 9223372036854775807 then ((f_tally_Turn ((FloatKind.f64.nearest x9), 0) ((Go.bits .and .i64 a0 3) * (Go.bits .and .i64 (k4 : Int) 3))).bind fun x19 => (cSumBits .add .f64 y3.1 y3.2 x19.1 x19.2).bind fun x21 => f_tally_Quarter_l1 a0 xs x21 (k4 + 1)) else none
def f_tally_Quarter (a0 : Int) (a1 : List Int) : Option (Nat × Nat) := (f_tally_Quarter_l1 a0 a1 (0, 0) 0).bind fun y22 => some y22
set_option maxRecDepth 100000 in
set_option maxHeartbeats 4000000 in
theorem f_tally_Quarter_spec (a0 : Int) (a1 : List Int) (A1 : Option Addr) (c2 : Nat) (r : Nat × Nat) (h : f_tally_Quarter a0 a1 = some r) : SpecX Try.prog 18 #[.int .i64 a0, .slice A1 a1.length c2] (RX.of (sliceRd 1 intE) [.slice A1 a1.length c2] a1) (EmpR) (fun v A' N => v = .complex .f64 r.1 r.2 ∧ A' = EmpR ∧ N = []) := by
  refine enterA Try.func18 rfl Try.ntmps18 rfl ?_
  intro F w hX
  unfold f_tally_Quarter at h
  refine T.seq (T.region rfl ?_)
  refine TL.run ft_tally_ok [0] rfl rfl ?_
  refine TL.nil (X.seq (T.seq (T.region rfl ?_)))
  refine TL.run ft_tally_ok [0] rfl rfl ?_
  refine TL.nil (X.seq (T.seq (T.seq (T.region rfl ?_))))
  refine TL.run ft_tally_ok [0] rfl rfl ?_
  refine TL.q rfl .u (Ex.lenS rfl Try.runUnderlying44) rfl ?_
  refine TL.run ft_tally_ok [2] rfl rfl ?_
  refine TL.nil (X.seq (T.block ?_))
  obtain ⟨E5, hE6, hO7⟩ := Option.bind_eq_some_iff.1 h
  have hk11len := RX.len_le hX
  refine T.lp (fun m e Rs => ∃ (y3 : Nat × Nat) (k4 : Nat), k4 + m = a1.length ∧ e = [(0, .int .i64 a0), (4, .complex .f64 0 0), (5, .complex .f64 y3.1 y3.2), (8, .slice A1 a1.length c2), (9, .int .i64 (a1.length : Int)), (10, .int .i64 (k4 : Int))] ∧ Rs = [EmpR] ∧ f_tally_Quarter_l1 a0 (a1.drop k4) y3 k4 = some E5) (a1.length) [0] ⟨(0, 0), 0, by simp, rfl, rfl, by rw [List.drop_zero]; exact hE6⟩ (by rfl) (by rfl) ?_
  rintro m8 _ _ ⟨y3, k4, hk11, rfl, rfl, hl10⟩
  clear hE6 h
  cases m8 with
  | zero =>
    have h := hl10
    clear hl10
    rw [List.drop_of_length_le (by omega), f_tally_Quarter_l1] at h
    have hk11ge : ¬ ((k4 : Int) < (a1.length : Int)) := by omega
    refine T.seq (T.region rfl ?_)
    refine TL.run ft_tally_ok [0] rfl rfl ?_
    refine TL.nil (X.seq (T.seq ?_))
    refine T.no rfl (decide_eq_false hk11ge) ?_
    obtain rfl := Option.some.inj h
    replace h := hO7
    clear hO7
    try dsimp only at h
    refine T.exit (X.exs (X.exs (X.ex (X.seq (T.seq (T.region rfl ?_))))))
    refine TL.run ft_tally_ok [0, 1] rfl rfl ?_
    obtain rfl := Option.some.inj h
    exact TL.nil (X.seq (T.ret (X.done1 [0] Try.results18 (RV.tm rfl) ⟨rfl, rfl, rfl⟩ (by rfl) (.inl rfl))))
  | succ m8 =>
    have h := hl10
    clear hl10
    obtain ⟨x9, hxx9⟩ : ∃ x, a1[k4]? = some x := ⟨_, List.getElem?_eq_getElem (by omega)⟩
    rw [drop_cons hxx9, f_tally_Quarter_l1] at h
    have hk11lt : (k4 : Int) < (a1.length : Int) := by omega
    refine T.seq (T.region rfl ?_)
    refine TL.run ft_tally_ok [0] rfl rfl ?_
    refine TL.nil (X.seq (T.seq ?_))
    refine T.yes rfl (decide_eq_true hk11lt) ?_
    refine T.skip (X.seq (T.seq (T.block (T.seq (T.region rfl ?_)))))
    obtain ⟨gz17, oz17, rfl, z17cs, z17cl, z17cc, z17nf, z17r⟩ := RX.elem (by decide) hX hxx9
    obtain ⟨z17S, z17r, z17rr⟩ := z17r
    obtain rfl : z17cs = [.int .i64 x9] := z17r
    refine TL.run ft_tally_ok [0] rfl rfl ?_
    refine TL.q rfl .u (Ex.ixS (k := k4) rfl rfl rfl Try.runUnderlying44 Try.sizeOf3 (List.getElem?_eq_some_iff.1 hxx9).1) rfl ?_
    refine TL.q rfl .u (Ex.o1 0 rfl Try.isAgg3 z17nf z17cc rfl rfl) rfl ?_
    refine TL.run ft_tally_ok [3, 4] rfl rfl ?_
    refine TL.nil (X.seq (T.region rfl ?_))
    refine TL.run ft_tally_ok [0, 1] rfl rfl ?_
    refine TL.q rfl .u (Ex.i2f rfl Try.underlying3 Try.underlying63) rfl ?_
    refine TL.q rfl .u (Ex.cx rfl rfl) rfl ?_
    refine TL.run ft_tally_ok [4] rfl rfl ?_
    refine TL.q rfl .u (Ex.bitw rfl rfl rfl) rfl ?_
    refine TL.run ft_tally_ok [6] rfl rfl ?_
    refine TL.q rfl .u (Ex.bitw rfl rfl rfl) rfl ?_
    replace h := guard_some h
    obtain ⟨c18, h⟩ := h
    refine TL.q rfl .u (Ex.mul rfl rfl c18) rfl ?_
    obtain ⟨x19, hx20, h⟩ := Option.bind_eq_some_iff.1 h
    refine TL.ce rfl .u (.fn Try.call20 rfl) (f_tally_Turn_spec ((FloatKind.f64.nearest x9), 0) ((Go.bits .and .i64 a0 3) * (Go.bits .and .i64 (k4 : Int) 3)) _ hx20) (fun _ hs => (RX.reads_triv _ _)) rfl ?_
    obtain ⟨x21, hx21, h⟩ := Option.bind_eq_some_iff.1 h
    refine TL.q rfl .u (Ex.cadd rfl rfl hx21) rfl ?_
    refine TL.run ft_tally_ok [11] rfl rfl ?_
    refine TL.nil (X.blk (X.seq (T.region rfl ?_)))
    refine TL.q rfl .u (Ex.add rfl rfl (by omega)) rfl ?_
    refine TL.run ft_tally_ok [1] rfl rfl ?_
    exact TL.nil (X.back (m' := m8) [0] (by omega) ⟨x21, k4 + 1, by omega, rfl, rfl, h⟩ (by rfl) (by rfl))
def f_tally_Quarters (a0 : List Int) : Option ((Nat × Nat) × (Nat × Nat) × (Nat × Nat) × (Nat × Nat)) := (f_tally_Quarter 0 a0).bind fun x5 => (f_tally_Quarter 1 a0).bind fun x7 => (f_tally_Quarter 2 a0).bind fun x9 => (f_tally_Quarter 3 a0).bind fun x11 => some (x5, x7, x9, x11)
set_option maxRecDepth 100000 in
set_option maxHeartbeats 4000000 in
theorem f_tally_Quarters_spec (a0 : List Int) (A1 : Option Addr) (c2 : Nat) (r : (Nat × Nat) × (Nat × Nat) × (Nat × Nat) × (Nat × Nat)) (h : f_tally_Quarters a0 = some r) : SpecX Try.prog 15 #[.slice A1 a0.length c2] (RX.of (sliceRd 1 intE) [.slice A1 a0.length c2] a0) (EmpR) (fun v A' N => v = .agg #[.complex .f64 r.1.1 r.1.2, .complex .f64 r.2.1.1 r.2.1.2, .complex .f64 r.2.2.1.1 r.2.2.1.2, .complex .f64 r.2.2.2.1 r.2.2.2.2] ∧ A' = EmpR ∧ N = []) := by
  refine enterA Try.func15 rfl Try.ntmps15 rfl ?_
  intro F w hX
  unfold f_tally_Quarters at h
  refine T.seq (T.region rfl ?_)
  refine TL.alloc rfl .u Try.zeroValue47 rfl (fun b3 => ?_)
  refine TL.nil (X.seq (T.seq (T.region rfl ?_)))
  refine TL.alloc rfl .u Try.zeroValue47 rfl (fun b4 => ?_)
  refine TL.nil (X.seq (T.seq (T.seq (T.region rfl ?_))))
  refine TL.run ft_tally_ok [0] rfl rfl ?_
  refine TL.nil (X.seq (T.block ?_))
  refine T.unroll0 (TW.step (T.seq (T.region rfl ?_)))
  refine TL.run ft_tally_ok [0] rfl rfl ?_
  refine TL.nil (X.seq (T.seq ?_))
  refine T.yes rfl (decide_eq_true (show 0 < 4 by omega)) ?_
  refine T.skip (X.seq (T.seq (T.block (T.seq (T.region rfl ?_)))))
  refine TL.run ft_tally_ok [0, 1] rfl rfl ?_
  refine TL.nil (X.seq (T.region rfl ?_))
  obtain ⟨x5, hx6, h⟩ := Option.bind_eq_some_iff.1 h
  refine TL.run ft_tally_ok [0, 1, 2] rfl rfl ?_
  refine TL.ce rfl .u (.fn Try.call18 rfl) (f_tally_Quarter_spec 0 a0 _ _ _ hx6) (fun _ hs => (SrcE.old hs hX)) rfl ?_
  refine TL.q rfl .u (Ex.ixP (k := 0) rfl rfl rfl Try.runUnderlying47 Try.sizeOf46 (by decide)) rfl ?_
  refine TL.st0 (cs' := #[.complex .f64 x5.1 x5.2, .complex .f64 0 0, .complex .f64 0 0, .complex .f64 0 0]) rfl .u rfl rfl Try.sizeOf46 rfl rfl rfl rfl ?_
  refine TL.nil (X.blk (X.seq (T.region rfl ?_)))
  refine TL.q rfl .u (Ex.add rfl rfl (by omega)) rfl ?_
  refine TL.run ft_tally_ok [1] rfl rfl ?_
  refine TL.nil (X.un (TW.step (T.seq (T.region rfl ?_))))
  refine TL.run ft_tally_ok [0] rfl rfl ?_
  refine TL.nil (X.seq (T.seq ?_))
  refine T.yes rfl (decide_eq_true (show 1 < 4 by omega)) ?_
  refine T.skip (X.seq (T.seq (T.block (T.seq (T.region rfl ?_)))))
  refine TL.run ft_tally_ok [0, 1] rfl rfl ?_
  refine TL.nil (X.seq (T.region rfl ?_))
  obtain ⟨x7, hx8, h⟩ := Option.bind_eq_some_iff.1 h
  refine TL.run ft_tally_ok [0, 1, 2] rfl rfl ?_
  refine TL.ce rfl .u (.fn Try.call18 rfl) (f_tally_Quarter_spec 1 a0 _ _ _ hx8) (fun _ hs => (SrcE.old hs hX)) rfl ?_
  refine TL.q rfl .u (Ex.ixP (k := 1) rfl rfl rfl Try.runUnderlying47 Try.sizeOf46 (by decide)) rfl ?_
  refine TL.st0 (cs' := #[.complex .f64 x5.1 x5.2, .complex .f64 x7.1 x7.2, .complex .f64 0 0, .complex .f64 0 0]) rfl .u rfl rfl Try.sizeOf46 rfl rfl rfl rfl ?_
  refine TL.nil (X.blk (X.seq (T.region rfl ?_)))
  refine TL.q rfl .u (Ex.add rfl rfl (by omega)) rfl ?_
  refine TL.run ft_tally_ok [1] rfl rfl ?_
  refine TL.nil (X.un (TW.step (T.seq (T.region rfl ?_))))
  refine TL.run ft_tally_ok [0] rfl rfl ?_
  refine TL.nil (X.seq (T.seq ?_))
  refine T.yes rfl (decide_eq_true (show 2 < 4 by omega)) ?_
  refine T.skip (X.seq (T.seq (T.block (T.seq (T.region rfl ?_)))))
  refine TL.run ft_tally_ok [0, 1] rfl rfl ?_
  refine TL.nil (X.seq (T.region rfl ?_))
  obtain ⟨x9, hx10, h⟩ := Option.bind_eq_some_iff.1 h
  refine TL.run ft_tally_ok [0, 1, 2] rfl rfl ?_
  refine TL.ce rfl .u (.fn Try.call18 rfl) (f_tally_Quarter_spec 2 a0 _ _ _ hx10) (fun _ hs => (SrcE.old hs hX)) rfl ?_
  refine TL.q rfl .u (Ex.ixP (k := 2) rfl rfl rfl Try.runUnderlying47 Try.sizeOf46 (by decide)) rfl ?_
  refine TL.st0 (cs' := #[.complex .f64 x5.1 x5.2, .complex .f64 x7.1 x7.2, .complex .f64 x9.1 x9.2, .complex .f64 0 0]) rfl .u rfl rfl Try.sizeOf46 rfl rfl rfl rfl ?_
  refine TL.nil (X.blk (X.seq (T.region rfl ?_)))
  refine TL.q rfl .u (Ex.add rfl rfl (by omega)) rfl ?_
  refine TL.run ft_tally_ok [1] rfl rfl ?_
  refine TL.nil (X.un (TW.step (T.seq (T.region rfl ?_))))
  refine TL.run ft_tally_ok [0] rfl rfl ?_
  refine TL.nil (X.seq (T.seq ?_))
  refine T.yes rfl (decide_eq_true (show 3 < 4 by omega)) ?_
  refine T.skip (X.seq (T.seq (T.block (T.seq (T.region rfl ?_)))))
  refine TL.run ft_tally_ok [0, 1] rfl rfl ?_
  refine TL.nil (X.seq (T.region rfl ?_))
  obtain ⟨x11, hx12, h⟩ := Option.bind_eq_some_iff.1 h
  refine TL.run ft_tally_ok [0, 1, 2] rfl rfl ?_
  refine TL.ce rfl .u (.fn Try.call18 rfl) (f_tally_Quarter_spec 3 a0 _ _ _ hx12) (fun _ hs => (SrcE.old hs hX)) rfl ?_
  refine TL.q rfl .u (Ex.ixP (k := 3) rfl rfl rfl Try.runUnderlying47 Try.sizeOf46 (by decide)) rfl ?_
  refine TL.st0 (cs' := #[.complex .f64 x5.1 x5.2, .complex .f64 x7.1 x7.2, .complex .f64 x9.1 x9.2, .complex .f64 x11.1 x11.2]) rfl .u rfl rfl Try.sizeOf46 rfl rfl rfl rfl ?_
  refine TL.nil (X.blk (X.seq (T.region rfl ?_)))
  refine TL.q rfl .u (Ex.add rfl rfl (by omega)) rfl ?_
  refine TL.run ft_tally_ok [1] rfl rfl ?_
  refine TL.nil (X.un (TW.step (T.seq (T.region rfl ?_))))
  refine TL.run ft_tally_ok [0] rfl rfl ?_
  refine TL.nil (X.seq (T.seq ?_))
  refine T.no rfl (decide_eq_false (show ¬ (4 < 4) by omega)) ?_
  refine T.exit (X.exs (X.exs (X.ex (X.seq (T.seq (T.region rfl ?_))))))
  refine TL.q rfl .u (Ex.bS (us := [.complex .f64 x5.1 x5.2, .complex .f64 x7.1 x7.2, .complex .f64 x9.1 x9.2, .complex .f64 x11.1 x11.2]) 0 rfl Try.isAgg47 Try.sizeOf47 rfl rfl rfl) rfl ?_
  refine TL.st1 (cs' := #[.complex .f64 x5.1 x5.2, .complex .f64 x7.1 x7.2, .complex .f64 x9.1 x9.2, .complex .f64 x11.1 x11.2]) rfl .u rfl rfl Try.sizeOf47 rfl rfl rfl rfl ?_
  obtain rfl := Option.some.inj h
  exact TL.nil (X.seq (T.ret (X.done1 [2] Try.results15 (RV.cS (us := #[.complex .f64 x5.1 x5.2, .complex .f64 x7.1 x7.2, .complex .f64 x9.1 x9.2, .complex .f64 x11.1 x11.2]) 1 rfl Try.isAgg47 Try.sizeOf47 rfl rfl) ⟨rfl, rfl, rfl⟩ (by rfl) (.inl rfl))))
def f_tally_Back_l1 (a0 : (Nat × Nat) × (Nat × Nat) × (Nat × Nat) × (Nat × Nat)) : Nat → Nat → Int → Int → Int → Int → Option (Nat × Int × Int × Int × Int)
  | 0, _, _, _, _, _ => none
  | m12 + 1, k4, y5, y6, y7, y8 => if (k4 : Int) < 4 then ((if -9223372036854775808 ≤ (0 * (k4 : Int)) ∧ (0 * (k4 : Int)) ≤ 9223372036854775807 then ((f_tally_Turn a0.1 (0 * (k4 : Int))).bind fun x45 => (cSumBits .add .f64 0 0 x45.1 x45.2).bind fun x47 => if -9223372036854775808 ≤ ((-1) * (k4 : Int)) ∧ ((-1) * (k4 : Int)) ≤ 9223372036854775807 then ((f_tally_Turn a0.2.1 ((-1) * (k4 : Int))).bind fun x49 => (cSumBits .add .f64 x47.1 x47.2 x49.1 x49.2).bind fun x51 => if -9223372036854775808 ≤ ((-2) * (k4 : Int)) ∧ ((-2) * (k4 : Int)) ≤ 9223372036854775807 then ((f_tally_Turn a0.2.2.1 ((-2) * (k4 : Int))).bind fun x53 => (cSumBits .add .f64 x51.1 x51.2 x53.1 x53.2).bind fun x55 => if -9223372036854775808 ≤ ((-3) * (k4 : Int)) ∧ ((-3) * (k4 : Int)) ≤ 9223372036854775807 then ((f_tally_Turn a0.2.2.2 ((-3) * (k4 : Int))).bind fun x57 => (cSumBits .add .f64 x55.1 x55.2 x57.1 x57.2).bind fun x59 => (floatToIntVal .f64 x59.1 .i64).bind fun x60 => if -9223372036854775808 ≤ x60 ∧ x60 ≤ 9223372036854775807 then (if (k4 : Int) = 0 then (some ((Int.tdiv x60 4), y6, y7, y8)) else (if (k4 : Int) = 1 then (some (y5, (Int.tdiv x60 4), y7, y8)) else (if (k4 : Int) = 2 then (some (y5, y6, (Int.tdiv x60 4), y8)) else (if (k4 : Int) = 3 then (some (y5, y6, y7, (Int.tdiv x60 4))) else none)))) else none) else none) else none) else none) else none).bind fun (y39, y40, y41, y42) => if -9223372036854775808 ≤ ((k4 : Int) + 1) ∧ ((k4 : Int) + 1) ≤ 9223372036854775807 then (f_tally_Back_l1 a0 m12 (k4 + 1) y39 y40 y41 y42) else none) else some (k4, y5, y6, y7, y8)
def f_tally_Back (a0 : (Nat × Nat) × (Nat × Nat) × (Nat × Nat) × (Nat × Nat)) : Option (Int × Int × Int × Int) := (f_tally_Back_l1 a0 ((4 : Int).toNat + 1) 0 0 0 0 0).bind fun (k67, y68, y69, y70, y71) => some (y68, y69, y70, y71)
set_option maxRecDepth 100000 in
set_option maxHeartbeats 4000000 in
theorem f_tally_Back_spec (a0 : (Nat × Nat) × (Nat × Nat) × (Nat × Nat) × (Nat × Nat)) (r : Int × Int × Int × Int) (h : f_tally_Back a0 = some r) : SpecX Try.prog 19 #[.agg #[.complex .f64 a0.1.1 a0.1.2, .complex .f64 a0.2.1.1 a0.2.1.2, .complex .f64 a0.2.2.1.1 a0.2.2.1.2, .complex .f64 a0.2.2.2.1 a0.2.2.2.2]] .triv (EmpR) (fun v A' N => v = .agg #[.int .i64 r.1, .int .i64 r.2.1, .int .i64 r.2.2.1, .int .i64 r.2.2.2] ∧ A' = EmpR ∧ N = []) := by
  refine enterA Try.func19 rfl Try.ntmps19 rfl ?_
  intro F w hX
  unfold f_tally_Back at h
  refine T.seq (T.region rfl ?_)
  refine TL.box rfl .u rfl rfl (fun b1 => ?_)
  refine TL.alloc rfl .u Try.zeroValue45 rfl (fun b2 => ?_)
  refine TL.nil (X.seq (T.seq (T.region rfl ?_)))
  refine TL.alloc rfl .u Try.zeroValue45 rfl (fun b3 => ?_)
  refine TL.nil (X.seq (T.seq (T.seq (T.region rfl ?_))))
  refine TL.run ft_tally_ok [0] rfl rfl ?_
  refine TL.nil (X.seq (T.block ?_))
  obtain ⟨E9, hE10, hO11⟩ := Option.bind_eq_some_iff.1 h
  refine T.lp (fun m e Rs => ∃ (k4 : Nat) (y5 : Int) (y6 : Int) (y7 : Int) (y8 : Int), e = [(1, .pointer (some ⟨b1, 0, none⟩)), (2, .pointer (some ⟨b2, 0, none⟩)), (3, .pointer (some ⟨b3, 0, none⟩)), (8, .int .i64 (k4 : Int))] ∧ Rs = [BlkR b3 45 #[.int .i64 y5, .int .i64 y6, .int .i64 y7, .int .i64 y8], BlkR b2 45 #[.int .i64 0, .int .i64 0, .int .i64 0, .int .i64 0], BlkR b1 47 #[.complex .f64 a0.1.1 a0.1.2, .complex .f64 a0.2.1.1 a0.2.1.2, .complex .f64 a0.2.2.1.1 a0.2.2.1.2, .complex .f64 a0.2.2.2.1 a0.2.2.2.2], EmpR] ∧ f_tally_Back_l1 a0 m k4 y5 y6 y7 y8 = some E9) ((4 : Int).toNat + 1) [0, 0, 0, 0] ⟨0, 0, 0, 0, 0, rfl, rfl, by exact hE10⟩ (by rfl) (by rfl) ?_
  rintro m12 _ _ ⟨k4, y5, y6, y7, y8, rfl, rfl, hl14⟩
  clear hE10 h
  cases m12 with
  | zero =>
    rw [f_tally_Back_l1] at hl14
    cases hl14
  | succ m12 =>
    have h := hl14
    clear hl14
    rw [f_tally_Back_l1] at h
    refine T.seq (T.region rfl ?_)
    refine TL.run ft_tally_ok [0] rfl rfl ?_
    by_cases c16 : (k4 : Int) < 4
    · replace h := ifT c16 h
      refine TL.nil (X.seq (T.seq ?_))
      refine T.yes rfl (decide_eq_true c16) ?_
      refine T.skip (X.seq (T.seq ?_))
      obtain ⟨⟨y39, y40, y41, y42⟩, h, hk43⟩ := Option.bind_eq_some_iff.1 h
      refine T.jq (fun e Rs => e = [(1, .pointer (some ⟨b1, 0, none⟩)), (2, .pointer (some ⟨b2, 0, none⟩)), (3, .pointer (some ⟨b3, 0, none⟩)), (8, .int .i64 (k4 : Int))] ∧ Rs = [BlkR b3 45 #[.int .i64 y39, .int .i64 y40, .int .i64 y41, .int .i64 y42], BlkR b2 45 #[.int .i64 0, .int .i64 0, .int .i64 0, .int .i64 0], BlkR b1 47 #[.complex .f64 a0.1.1 a0.1.2, .complex .f64 a0.2.1.1 a0.2.1.2, .complex .f64 a0.2.2.1.1 a0.2.2.1.2, .complex .f64 a0.2.2.2.1 a0.2.2.2.2], EmpR]) ?_ ?_
      · clear hk43
        refine T.block (T.seq (T.region rfl ?_))
        refine TL.run ft_tally_ok [0, 1] rfl rfl ?_
        refine TL.nil (X.seq (T.seq (T.region rfl ?_)))
        refine TL.run ft_tally_ok [0] rfl rfl ?_
        refine TL.nil (X.seq (T.seq (T.seq (T.region rfl ?_))))
        refine TL.q rfl .u (Ex.bS (us := [.complex .f64 a0.1.1 a0.1.2, .complex .f64 a0.2.1.1 a0.2.1.2, .complex .f64 a0.2.2.1.1 a0.2.2.1.2, .complex .f64 a0.2.2.2.1 a0.2.2.2.2]) 2 rfl Try.isAgg47 Try.sizeOf47 rfl rfl rfl) rfl ?_
        refine TL.run ft_tally_ok [1] rfl rfl ?_
        refine TL.nil (X.seq (T.block ?_))
        refine T.unroll0 (TW.step (T.seq (T.region rfl ?_)))
        refine TL.run ft_tally_ok [0] rfl rfl ?_
        refine TL.nil (X.seq (T.seq ?_))
        refine T.yes rfl (decide_eq_true (show 0 < 4 by omega)) ?_
        refine T.skip (X.seq (T.seq (T.block (T.seq (T.region rfl ?_)))))
        refine TL.run ft_tally_ok [0] rfl rfl ?_
        refine TL.q rfl .u (Ex.ixA1 (cs := [.complex .f64 a0.1.1 a0.1.2, .complex .f64 a0.2.1.1 a0.2.1.2, .complex .f64 a0.2.2.1.1 a0.2.2.1.2, .complex .f64 a0.2.2.2.1 a0.2.2.2.2]) (k := 0) rfl rfl rfl Try.runUnderlying47 Try.sizeOf46 Try.isAgg46 (by decide) rfl) rfl ?_
        refine TL.run ft_tally_ok [2, 3] rfl rfl ?_
        refine TL.nil (X.seq (T.region rfl ?_))
        refine TL.run ft_tally_ok [0, 1, 2] rfl rfl ?_
        refine TL.q rfl .u (Ex.neg rfl (by omega)) rfl ?_
        replace h := guard_some h
        obtain ⟨c44, h⟩ := h
        refine TL.run ft_tally_ok [4] rfl rfl ?_
        refine TL.q rfl .u (Ex.mul rfl rfl c44) rfl ?_
        obtain ⟨x45, hx46, h⟩ := Option.bind_eq_some_iff.1 h
        refine TL.ce rfl .u (.fn Try.call20 rfl) (f_tally_Turn_spec a0.1 (0 * (k4 : Int)) _ hx46) (fun _ hs => (RX.reads_triv _ _)) rfl ?_
        obtain ⟨x47, hx47, h⟩ := Option.bind_eq_some_iff.1 h
        refine TL.q rfl .u (Ex.cadd rfl rfl hx47) rfl ?_
        refine TL.run ft_tally_ok [8] rfl rfl ?_
        refine TL.nil (X.blk (X.seq (T.region rfl ?_)))
        refine TL.q rfl .u (Ex.add rfl rfl (by omega)) rfl ?_
        refine TL.run ft_tally_ok [1] rfl rfl ?_
        refine TL.nil (X.un (TW.step (T.seq (T.region rfl ?_))))
        refine TL.run ft_tally_ok [0] rfl rfl ?_
        refine TL.nil (X.seq (T.seq ?_))
        refine T.yes rfl (decide_eq_true (show 1 < 4 by omega)) ?_
        refine T.skip (X.seq (T.seq (T.block (T.seq (T.region rfl ?_)))))
        refine TL.run ft_tally_ok [0] rfl rfl ?_
        refine TL.q rfl .u (Ex.ixA1 (cs := [.complex .f64 a0.1.1 a0.1.2, .complex .f64 a0.2.1.1 a0.2.1.2, .complex .f64 a0.2.2.1.1 a0.2.2.1.2, .complex .f64 a0.2.2.2.1 a0.2.2.2.2]) (k := 1) rfl rfl rfl Try.runUnderlying47 Try.sizeOf46 Try.isAgg46 (by decide) rfl) rfl ?_
        refine TL.run ft_tally_ok [2, 3] rfl rfl ?_
        refine TL.nil (X.seq (T.region rfl ?_))
        refine TL.run ft_tally_ok [0, 1, 2] rfl rfl ?_
        refine TL.q rfl .u (Ex.neg rfl (by omega)) rfl ?_
        replace h := guard_some h
        obtain ⟨c48, h⟩ := h
        refine TL.run ft_tally_ok [4] rfl rfl ?_
        refine TL.q rfl .u (Ex.mul rfl rfl c48) rfl ?_
        obtain ⟨x49, hx50, h⟩ := Option.bind_eq_some_iff.1 h
        refine TL.ce rfl .u (.fn Try.call20 rfl) (f_tally_Turn_spec a0.2.1 ((-1) * (k4 : Int)) _ hx50) (fun _ hs => (RX.reads_triv _ _)) rfl ?_
        obtain ⟨x51, hx51, h⟩ := Option.bind_eq_some_iff.1 h
        refine TL.q rfl .u (Ex.cadd rfl rfl hx51) rfl ?_
        refine TL.run ft_tally_ok [8] rfl rfl ?_
        refine TL.nil (X.blk (X.seq (T.region rfl ?_)))
        refine TL.q rfl .u (Ex.add rfl rfl (by omega)) rfl ?_
        refine TL.run ft_tally_ok [1] rfl rfl ?_
        refine TL.nil (X.un (TW.step (T.seq (T.region rfl ?_))))
        refine TL.run ft_tally_ok [0] rfl rfl ?_
        refine TL.nil (X.seq (T.seq ?_))
        refine T.yes rfl (decide_eq_true (show 2 < 4 by omega)) ?_
        refine T.skip (X.seq (T.seq (T.block (T.seq (T.region rfl ?_)))))
        refine TL.run ft_tally_ok [0] rfl rfl ?_
        refine TL.q rfl .u (Ex.ixA1 (cs := [.complex .f64 a0.1.1 a0.1.2, .complex .f64 a0.2.1.1 a0.2.1.2, .complex .f64 a0.2.2.1.1 a0.2.2.1.2, .complex .f64 a0.2.2.2.1 a0.2.2.2.2]) (k := 2) rfl rfl rfl Try.runUnderlying47 Try.sizeOf46 Try.isAgg46 (by decide) rfl) rfl ?_
        refine TL.run ft_tally_ok [2, 3] rfl rfl ?_
        refine TL.nil (X.seq (T.region rfl ?_))
        refine TL.run ft_tally_ok [0, 1, 2] rfl rfl ?_
        refine TL.q rfl .u (Ex.neg rfl (by omega)) rfl ?_
        replace h := guard_some h
        obtain ⟨c52, h⟩ := h
        refine TL.run ft_tally_ok [4] rfl rfl ?_
        refine TL.q rfl .u (Ex.mul rfl rfl c52) rfl ?_
        obtain ⟨x53, hx54, h⟩ := Option.bind_eq_some_iff.1 h
        refine TL.ce rfl .u (.fn Try.call20 rfl) (f_tally_Turn_spec a0.2.2.1 ((-2) * (k4 : Int)) _ hx54) (fun _ hs => (RX.reads_triv _ _)) rfl ?_
        obtain ⟨x55, hx55, h⟩ := Option.bind_eq_some_iff.1 h
        refine TL.q rfl .u (Ex.cadd rfl rfl hx55) rfl ?_
        refine TL.run ft_tally_ok [8] rfl rfl ?_
        refine TL.nil (X.blk (X.seq (T.region rfl ?_)))
        refine TL.q rfl .u (Ex.add rfl rfl (by omega)) rfl ?_
        refine TL.run ft_tally_ok [1] rfl rfl ?_
        refine TL.nil (X.un (TW.step (T.seq (T.region rfl ?_))))
        refine TL.run ft_tally_ok [0] rfl rfl ?_
        refine TL.nil (X.seq (T.seq ?_))
        refine T.yes rfl (decide_eq_true (show 3 < 4 by omega)) ?_
        refine T.skip (X.seq (T.seq (T.block (T.seq (T.region rfl ?_)))))
        refine TL.run ft_tally_ok [0] rfl rfl ?_
        refine TL.q rfl .u (Ex.ixA1 (cs := [.complex .f64 a0.1.1 a0.1.2, .complex .f64 a0.2.1.1 a0.2.1.2, .complex .f64 a0.2.2.1.1 a0.2.2.1.2, .complex .f64 a0.2.2.2.1 a0.2.2.2.2]) (k := 3) rfl rfl rfl Try.runUnderlying47 Try.sizeOf46 Try.isAgg46 (by decide) rfl) rfl ?_
        refine TL.run ft_tally_ok [2, 3] rfl rfl ?_
        refine TL.nil (X.seq (T.region rfl ?_))
        refine TL.run ft_tally_ok [0, 1, 2] rfl rfl ?_
        refine TL.q rfl .u (Ex.neg rfl (by omega)) rfl ?_
        replace h := guard_some h
        obtain ⟨c56, h⟩ := h
        refine TL.run ft_tally_ok [4] rfl rfl ?_
        refine TL.q rfl .u (Ex.mul rfl rfl c56) rfl ?_
        obtain ⟨x57, hx58, h⟩ := Option.bind_eq_some_iff.1 h
        refine TL.ce rfl .u (.fn Try.call20 rfl) (f_tally_Turn_spec a0.2.2.2 ((-3) * (k4 : Int)) _ hx58) (fun _ hs => (RX.reads_triv _ _)) rfl ?_
        obtain ⟨x59, hx59, h⟩ := Option.bind_eq_some_iff.1 h
        refine TL.q rfl .u (Ex.cadd rfl rfl hx59) rfl ?_
        refine TL.run ft_tally_ok [8] rfl rfl ?_
        refine TL.nil (X.blk (X.seq (T.region rfl ?_)))
        refine TL.q rfl .u (Ex.add rfl rfl (by omega)) rfl ?_
        refine TL.run ft_tally_ok [1] rfl rfl ?_
        refine TL.nil (X.un (TW.step (T.seq (T.region rfl ?_))))
        refine TL.run ft_tally_ok [0] rfl rfl ?_
        refine TL.nil (X.seq (T.seq ?_))
        refine T.no rfl (decide_eq_false (show ¬ (4 < 4) by omega)) ?_
        refine T.exit (X.exs (X.exs (X.ex (X.seq (T.region rfl ?_)))))
        refine TL.run ft_tally_ok [0, 1] rfl rfl ?_
        refine TL.q rfl .u (Ex.re rfl) rfl ?_
        obtain ⟨x60, hx60, h⟩ := Option.bind_eq_some_iff.1 h
        refine TL.q rfl .u (Ex.f2i rfl Try.underlying63 Try.underlying3 hx60) rfl ?_
        replace h := guard_some h
        obtain ⟨c61, h⟩ := h
        refine TL.q rfl .u (Ex.quoT rfl rfl (by omega) c61) rfl ?_
        by_cases c62 : (k4 : Int) = 0
        · replace h := ifT c62 h
          refine TL.q rfl .u (Ex.ixP (k := 0) rfl rfl c62 Try.runUnderlying45 Try.sizeOf3 (by decide)) rfl ?_
          refine TL.st0 (cs' := #[.int .i64 (Int.tdiv x60 4), .int .i64 y6, .int .i64 y7, .int .i64 y8]) rfl .u rfl rfl Try.sizeOf3 rfl rfl rfl rfl ?_
          cases h
          exact TL.nil (X.blk (X.jq [0, 0, 0, 0] ⟨rfl, rfl⟩ (by rfl) (by rfl)))
        · replace h := ifF c62 h
          by_cases c63 : (k4 : Int) = 1
          · replace h := ifT c63 h
            refine TL.q rfl .u (Ex.ixP (k := 1) rfl rfl c63 Try.runUnderlying45 Try.sizeOf3 (by decide)) rfl ?_
            refine TL.st0 (cs' := #[.int .i64 y5, .int .i64 (Int.tdiv x60 4), .int .i64 y7, .int .i64 y8]) rfl .u rfl rfl Try.sizeOf3 rfl rfl rfl rfl ?_
            cases h
            exact TL.nil (X.blk (X.jq [0, 0, 0, 0] ⟨rfl, rfl⟩ (by rfl) (by rfl)))
          · replace h := ifF c63 h
            by_cases c64 : (k4 : Int) = 2
            · replace h := ifT c64 h
              refine TL.q rfl .u (Ex.ixP (k := 2) rfl rfl c64 Try.runUnderlying45 Try.sizeOf3 (by decide)) rfl ?_
              refine TL.st0 (cs' := #[.int .i64 y5, .int .i64 y6, .int .i64 (Int.tdiv x60 4), .int .i64 y8]) rfl .u rfl rfl Try.sizeOf3 rfl rfl rfl rfl ?_
              cases h
              exact TL.nil (X.blk (X.jq [0, 0, 0, 0] ⟨rfl, rfl⟩ (by rfl) (by rfl)))
            · replace h := ifF c64 h
              replace h := guard_some h
              obtain ⟨c65, h⟩ := h
              refine TL.q rfl .u (Ex.ixP (k := 3) rfl rfl c65 Try.runUnderlying45 Try.sizeOf3 (by decide)) rfl ?_
              refine TL.st0 (cs' := #[.int .i64 y5, .int .i64 y6, .int .i64 y7, .int .i64 (Int.tdiv x60 4)]) rfl .u rfl rfl Try.sizeOf3 rfl rfl rfl rfl ?_
              cases h
              exact TL.nil (X.blk (X.jq [0, 0, 0, 0] ⟨rfl, rfl⟩ (by rfl) (by rfl)))
      · rintro _ _ ⟨rfl, rfl⟩
        clear h
        have h := hk43
        clear hk43
        try dsimp only at h
        replace h := guard_some h
        obtain ⟨c66, h⟩ := h
        refine X.seq (T.region rfl ?_)
        refine TL.q rfl .u (Ex.add rfl rfl c66) rfl ?_
        refine TL.run ft_tally_ok [1] rfl rfl ?_
        exact TL.nil (X.back (m' := m12) [0, 0, 0, 0] (by omega) ⟨k4 + 1, y39, y40, y41, y42, rfl, rfl, h⟩ (by rfl) (by rfl))
    · replace h := ifF c16 h
      refine TL.nil (X.seq (T.seq ?_))
      refine T.no rfl (decide_eq_false c16) ?_
      obtain rfl := Option.some.inj h
      replace h := hO11
      clear hO11
      try dsimp only at h
      refine T.exit (X.exs (X.exs (X.ex (X.seq (T.seq (T.region rfl ?_))))))
      refine TL.q rfl .u (Ex.bS (us := [.int .i64 y5, .int .i64 y6, .int .i64 y7, .int .i64 y8]) 0 rfl Try.isAgg45 Try.sizeOf45 rfl rfl rfl) rfl ?_
      refine TL.st1 (cs' := #[.int .i64 y5, .int .i64 y6, .int .i64 y7, .int .i64 y8]) rfl .u rfl rfl Try.sizeOf45 rfl rfl rfl rfl ?_
      obtain rfl := Option.some.inj h
      exact TL.nil (X.seq (T.ret (X.done1 [3] Try.results19 (RV.cS (us := #[.int .i64 y5, .int .i64 y6, .int .i64 y7, .int .i64 y8]) 1 rfl Try.isAgg45 Try.sizeOf45 rfl rfl) ⟨rfl, rfl, rfl⟩ (by rfl) (.inl rfl))))
end Go.Proofs.Ytahjmpipllajcaa.Sl
