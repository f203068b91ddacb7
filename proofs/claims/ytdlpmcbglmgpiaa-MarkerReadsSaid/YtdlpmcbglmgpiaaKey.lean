/- package key: what each of its functions answers. -/
import Derived.Test.YtdlpmcbglmgpiaaBl
namespace Go.Proofs.Ytdlpmcbglmgpiaa.Sl
open Go.RowKit
set_option linter.unusedVariables false
set_option linter.unusedSimpArgs false
attribute [local go_sem] bsOf_toList bsOf_size

/-- A text, and an error. -/
@[go_sem] def strErr (x : List UInt8 × Int) : Value := .tuple #[.string (bsOf x.1), .int .i64 x.2]
def otx (st : List UInt8 × Int) : List UInt8 × Int := if st.2 = 0 then (st.1, 0) else ([], st.2)
theorem otext_strErr (st : List UInt8 × Int) : otext st = strErr (otx st) := by unfold otext otx; split <;> rfl
/-! once something went wrong -/
theorem ifail_err {st : I} (h : st.err ≠ 0) (e : Int) : ifail st e = st := by simp [ifail, h]
theorem itake_err {st : I} (h : st.err ≠ 0) (n : Int) : itake st n = ([], st) := by simp [itake, h]
theorem iint_err {st : I} (h : st.err ≠ 0) (n : Int) : iint st n = (0, st) := by
  unfold iint
  split
  · rw [itake_err h]; rfl
  · rw [ifail_err h]
theorem bread_err {st : I} (h : st.err ≠ 0) (n : Int) : bread st n = (⟨false, []⟩, st) := by simp [bread, h]
theorem bfixed_err {st : I} (h : st.err ≠ 0) (n : Int) : bfixed st n = (⟨false, []⟩, st) := by unfold bfixed; rw [iint_err h, bread_err h]
theorem btext_err {st : I} (h : st.err ≠ 0) : btext st = ([], st) := by unfold btext bmust; rw [bfixed_err h]; rfl
theorem iclose_err {st : I} (h : st.err ≠ 0) : iclose st = st := by unfold iclose; split; rfl; exact ifail_err h 2
theorem itake_ok (l : List UInt8) (p : Nat) (n : Nat) (h : n ≤ l.length) : itake ⟨l, p, 0⟩ n = (l.take n, ⟨l.drop n, p + n, 0⟩) := by
  unfold itake
  rw [if_neg (by simp), if_neg (by omega), if_neg (by simp only; omega)]
  simp
theorem itake_short (l : List UInt8) (p : Nat) (n : Int) (h : (l.length : Int) < n) : itake ⟨l, p, 0⟩ n = ([], ⟨l, p, 1⟩) := by
  unfold itake
  rw [if_neg (by simp), if_neg (by omega), if_pos (by simp only; omega)]
theorem itake_neg (l : List UInt8) (p : Nat) (n : Int) (h : n < 0) : itake ⟨l, p, 0⟩ n = ([], ⟨l, p, 4⟩) := by
  unfold itake
  rw [if_neg (by simp), if_pos h]
theorem iint_ok (l : List UInt8) (p : Nat) (n : Nat) (h1 : 1 ≤ n) (h8 : n ≤ 8) (h : n ≤ l.length) : iint ⟨l, p, 0⟩ n = (beInt (l.take n), ⟨l.drop n, p + n, 0⟩) := by
  unfold iint
  rw [if_pos (by omega), itake_ok l p n h]
theorem iint_short (l : List UInt8) (p : Nat) (n : Int) (h1 : 1 ≤ n) (h8 : n ≤ 8) (h : (l.length : Int) < n) : iint ⟨l, p, 0⟩ n = (0, ⟨l, p, 1⟩) := by
  unfold iint
  rw [if_pos (by omega), itake_short l p n h]
  rfl

def kright (l : List UInt8) : Bool := !l.isEmpty && decide ((l.length : Int) ≤ 32767)
set_option maxRecDepth 100000 in
theorem KRight_any (l : List UInt8) (w : World) : Calls Try.prog 155 #[.string (bsOf l)] w fun e w' => e = .returned (.bool (kright l)) ∧ w = w' := by
  cases l with
  | nil =>
    go_enter Try.func155, Try.ntmps155
    go_wp2_with fail
    go_ret
    exact ⟨ret_bool (by simp [kright]), rfl⟩
  | cons c l =>
    go_enter Try.func155, Try.ntmps155
    go_wp2_with fail
    go_ret
    exact ⟨ret_bool (by simp [kright]), rfl⟩
def kenc (l : List UInt8) : List UInt8 × Int := if kright l then otx (bputText (oint ([], 0) 0 2) l) else ([], 4)
end Go.Proofs.Ytdlpmcbglmgpiaa.Sl
