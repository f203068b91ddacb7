/- control: what the plain functions answer (plain laws). -/
import Derived.Test.YtdlpmcbglmgpiaaPcontrol
import Derived.Test.YtdlpmcbglmgpiaaPcursitorref08
namespace Go.Proofs.Ytdlpmcbglmgpiaa.Sl
open Go.RowKit
set_option linter.unusedVariables false
set_option linter.unusedSimpArgs false
theorem iint_ok2 (l : List UInt8) (p : Nat) (h : 2 ≤ l.length) : iint ⟨l, p, 0⟩ 2 = (beInt (l.take 2), ⟨l.drop 2, p + 2, 0⟩) := iint_ok l p 2 (by decide) (by decide) h
theorem iint_ok4 (l : List UInt8) (p : Nat) (h : 4 ≤ l.length) : iint ⟨l, p, 0⟩ 4 = (beInt (l.take 4), ⟨l.drop 4, p + 4, 0⟩) := iint_ok l p 4 (by decide) (by decide) h
theorem iint_short2 (l : List UInt8) (p : Nat) (h : l.length < 2) : iint ⟨l, p, 0⟩ 2 = (0, ⟨l, p, 1⟩) := iint_short l p 2 (by decide) (by decide) (by omega)
theorem iint_short4 (l : List UInt8) (p : Nat) (h : l.length < 4) : iint ⟨l, p, 0⟩ 4 = (0, ⟨l, p, 1⟩) := iint_short l p 4 (by decide) (by decide) (by omega)
theorem iint_e (l : List UInt8) (p : Nat) (e n : Int) (h : e ≠ 0) : iint ⟨l, p, e⟩ n = (0, ⟨l, p, e⟩) := iint_err (st := ⟨l, p, e⟩) h n
theorem iclose_e (l : List UInt8) (p : Nat) (e : Int) (h : e ≠ 0) : iclose ⟨l, p, e⟩ = ⟨l, p, e⟩ := iclose_err (st := ⟨l, p, e⟩) h
theorem ifail_e (l : List UInt8) (p : Nat) (e f : Int) (h : e ≠ 0) : ifail ⟨l, p, e⟩ f = ⟨l, p, e⟩ := ifail_err (st := ⟨l, p, e⟩) h f
theorem ifail_0 (l : List UInt8) (p : Nat) (f : Int) : ifail ⟨l, p, 0⟩ f = ⟨l, p, f⟩ := by simp [ifail]
theorem iclose_0 (l : List UInt8) (p : Nat) : iclose ⟨l, p, 0⟩ = ⟨l, p, if l = [] then 0 else 2⟩ := by unfold iclose; split <;> simp_all [ifail]
theorem drop_nil_iff {l : List UInt8} {n : Nat} (h : n ≤ l.length) : l.drop n = [] ↔ ¬ (l.length : Int) > n := by rw [List.drop_eq_nil_iff]; omega
theorem read_key (l : List UInt8) (hl : l.length ≤ 9223372036854775807) : f_control_ReadKey l = f_r08_ReadKey l := by
  unfold f_control_ReadKey f_r08_ReadKey f_control_version
  simp only [gNew_eq l (by omega), gInt_eq, gClose_eq, gIFail_eq, Option.bind_some]
  by_cases h2 : l.length < 2
  · have h2i : (l.length : Int) < 2 := by omega
    simp [iint_short2 l 0 h2, iint_e, iclose_e, ifail_e, h2i]
  have h2i : ¬ (l.length : Int) < 2 := by omega
  have h2j : 2 ≤ (l.length : Int) := by omega
  rw [iint_ok2 l 0 (by omega), if_neg h2i, if_pos (show 2 ≤ l.length by omega), gRInt_eq _ (by simp; omega)]
  simp only [Option.bind_some]
  by_cases h0 : beInt (l.take 2) = 0
  · rw [if_pos h0, if_pos h0]
    simp only [Option.bind_some]
    by_cases h4 : l.length < 4
    · have h4i : (l.length : Int) < 4 := by omega
      simp [iint_short2 (l.drop 2) (0 + 2) (by simp; omega), iclose_e, h4i]
    have h4i : ¬ (l.length : Int) < 4 := by omega
    rw [iint_ok2 _ _ (by simp; omega), if_neg h4i, if_pos (show 4 ≤ l.length by omega), gRInt_eq _ (by simp; omega)]
    simp only [Option.bind_some, List.drop_drop, iclose_0, ifail_0]
    have hd := drop_nil_iff (l := l) (n := 4) (by omega)
    generalize beInt ((l.drop 2).take 2) = k
    by_cases h5 : (l.length : Int) > 4
    · have hd2 : ¬ l.drop (2 + 2) = [] := fun h => (hd.1 h) h5
      by_cases k0 : k = 0
      · simp [hd2, h5, iclose_e, k0]
      · by_cases k1 : k = 1 <;> simp [hd2, h5, iclose_e, k0, k1]
    · have hd2 : l.drop (2 + 2) = [] := hd.2 h5
      by_cases k0 : k = 0
      · simp [hd2, h5, iclose_e, k0]
      · by_cases k1 : k = 1 <;> simp [hd2, h5, iclose_e, k0, k1]
  · rw [if_neg h0, if_neg h0]
    simp [ifail_0, iint_e, iclose_e]
theorem read_value (l : List UInt8) (hl : l.length ≤ 9223372036854775807) : f_control_ReadValue l = f_r08_ReadValue l := by
  unfold f_control_ReadValue f_r08_ReadValue f_control_version
  simp only [gNew_eq l (by omega), gInt_eq, gClose_eq, gIFail_eq, Option.bind_some]
  by_cases h2 : l.length < 2
  · have h2i : (l.length : Int) < 2 := by omega
    simp [iint_short2 l 0 h2, iint_e, iclose_e, ifail_e, h2i]
  have h2i : ¬ (l.length : Int) < 2 := by omega
  have h2j : 2 ≤ (l.length : Int) := by omega
  rw [iint_ok2 l 0 (by omega), if_neg h2i, if_pos (show 2 ≤ l.length by omega), gRInt_eq _ (by simp; omega)]
  simp only [Option.bind_some]
  by_cases h0 : beInt (l.take 2) = 0
  · rw [if_pos h0, if_pos h0]
    simp only [Option.bind_some]
    by_cases h4 : l.length < 6
    · have h4i : (l.length : Int) < 6 := by omega
      simp [iint_short4 (l.drop 2) (0 + 2) (by simp; omega), iclose_e, h4i]
    have h4i : ¬ (l.length : Int) < 6 := by omega
    rw [iint_ok4 _ _ (by simp; omega), if_neg h4i, if_pos (show 6 ≤ l.length by omega), gRInt_eq _ (by simp; omega)]
    simp only [Option.bind_some, List.drop_drop, iclose_0, ifail_0]
    have hd := drop_nil_iff (l := l) (n := 6) (by omega)
    generalize beInt ((l.drop 2).take 4) = k
    by_cases h5 : (l.length : Int) > 6
    · have hd2 : ¬ l.drop (2 + 4) = [] := fun h => (hd.1 h) h5
      by_cases k0 : k < 0 <;> simp [hd2, h5, iclose_e, k0]
    · have hd2 : l.drop (2 + 4) = [] := hd.2 h5
      by_cases k0 : k < 0 <;> simp [hd2, h5, iclose_e, k0]
  · rw [if_neg h0, if_neg h0]
    simp [ifail_0, iint_e, iclose_e]
theorem read_control (r : Rec) (h1 : r.fKey.data.length ≤ 9223372036854775807) (h2 : r.fValue.data.length ≤ 9223372036854775807) : f_control_Read r = f_r08_Read r := by
  unfold f_control_Read f_r08_Read
  rw [read_key _ h1, read_value _ h2]
end Go.Proofs.Ytdlpmcbglmgpiaa.Sl
