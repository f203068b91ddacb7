/- package cursitorref03: what each of its functions answers. -/
import Derived.Test.YtdlpmcbglmgpiaaVr
import Derived.Test.YtdlpmcbglmgpiaaRw
namespace Go.Proofs.Ytdlpmcbglmgpiaa.Sl
open Go.RowKit
set_option linter.unusedVariables false
set_option linter.unusedSimpArgs false

/-- Digits to the base 128, the lowest first. -/
def digs (n : Nat) : List UInt8 := if n < 128 then [UInt8.ofNat n] else UInt8.ofNat (n % 128) :: digs (n / 128)
termination_by n
decreasing_by omega
theorem digs_pos (n : Nat) : 1 ≤ (digs n).length := by rw [digs]; split <;> simp
theorem digs_head (n : Nat) : ∃ l, digs n = UInt8.ofNat (n % 128) :: l := by
  rw [digs]
  split
  · exact ⟨[], by rw [Nat.mod_eq_of_lt (by assumption)]⟩
  · exact ⟨_, rfl⟩
theorem digs_length (n : Nat) : (digs n).length = (vput n).length := by
  induction n using Nat.strongRecOn with
  | _ n ih =>
    rw [digs, vput]
    split
    · rfl
    · have := ih (n / 128) (by omega)
      simp [this]
theorem vput_digs (n : Nat) : vput n = ((digs n).take ((digs n).length - 1)).map (· + 128) ++ (digs n).drop ((digs n).length - 1) := by
  induction n using Nat.strongRecOn with
  | _ n ih =>
    rw [digs, vput]
    split
    · rfl
    · have h := ih (n / 128) (by omega)
      have hp := digs_pos (n / 128)
      rw [h]
      obtain ⟨k, hk⟩ : ∃ k, (digs (n / 128)).length = k + 1 := ⟨_, (Nat.sub_add_cancel hp).symm⟩
      simp only [List.length_cons, hk, Nat.add_sub_cancel, List.take_succ_cons, List.map_cons, List.drop_succ_cons, List.cons_append]
      congr 1
      apply UInt8.toNat_inj.1
      simp [UInt8.toNat_ofNat', UInt8.toNat_add]
set_option maxRecDepth 100000 in
theorem RFold_any (n : Int) (h0 : -9223372036854775808 ≤ n) (h1 : n ≤ 9223372036854775807) (w : World) :
    Calls Try.prog 132 #[.int .i64 n] w fun e w' => e = .returned (.int .u64 (vfold n)) ∧ w = w' := by
  have H := vfold_lt n h0 h1
  by_cases h : n < 0
  · have HV := Lib.hid (show (vfold n : Int) = -(n + 1) * 2 + 1 by unfold vfold; rw [if_pos h]; omega)
    go_enter Try.func132, Try.ntmps132
    go_wp2_with fail
    go_ret
    exact ⟨ret_int (by rw [HV.out]), rfl⟩
  · have HV := Lib.hid (show (vfold n : Int) = n * 2 by unfold vfold; rw [if_neg h]; omega)
    go_enter Try.func132, Try.ntmps132
    go_wp2_with fail
    go_ret
    exact ⟨ret_int (by rw [HV.out]), rfl⟩
set_option maxRecDepth 100000 in
theorem RDigits_spec (n : Nat) (hn : n < 18446744073709551616) :
    Spec0 Try.prog 153 #[.int .u64 n] (fun v N => N = [RowR 5 1 v (digs n).length (byteCells (digs n))]) := by
  intro w
  have HS := Lib.hid (St.nil_ w)
  have HT := Lib.hid (digs_length n ▸ vput_ten n hn)
  go_enter Try.func153, Try.ntmps153
  go_wp2_with fail
  go_loopw [0, 3] (fun nv ov wr => ∃ (m : Nat) (p : List UInt8), m ≤ n ∧ p ++ digs m = digs n ∧ nv = .int .u64 m ∧ St (fun _ => False) w [RowR 5 1 ov (p.length + 1) (byteCells (p ++ [UInt8.ofNat (m % 128)]))] wr) (fun i _ _ => (intOf i).toNat)
  case atStart =>
    refine ⟨n, [], Nat.le_refl _, rfl, rfl, ?_⟩
    have h := RowR.lit (T := 5) (size := 1) HS.out #[.int .u8 ((n : Int) % 128)] 1 (by decide) rfl
    have e : byteCells ([] ++ [UInt8.ofNat (n % 128)]) = [.int .u8 ((n : Int) % 128)] := by simp [byteCells, UInt8.toNat_ofNat']; omega
    rw [e]
    exact h
  case round =>
    obtain ⟨m, p, hm, hp, rfl, hst⟩ := hrel
    obtain ⟨g1, c1, rfl⟩ := RowR.form 0 hst rfl (by omega)
    have hrow := RowR.row 0 hst rfl
    have HST := Lib.hid hst
    by_cases h128 : 128 ≤ m
    · have hlen : p.length + 1 ≤ 10 := by
        have h1 := congrArg List.length hp
        have h2 := HT.out
        have h3 := digs_pos m
        rw [List.length_append] at h1
        omega
      have HP := Lib.hid (show (p ++ [UInt8.ofNat (m % 128)]) ++ digs (m / 128) = digs n by rw [← hp, digs.eq_1 m, if_neg (by omega)]; simp)
      have HE := Lib.hid (show byteCells (p ++ [UInt8.ofNat (m % 128)]) ++ [.int .u8 ((m : Int) / 128 % 128)] = byteCells (p ++ [UInt8.ofNat (m % 128)] ++ [UInt8.ofNat (m / 128 % 128)]) by simp [byteCells, UInt8.toNat_ofNat']; omega)
      have HR := Lib.hid hrow
      clear hrow hp hst
      go_wp2_with (at_builtin; refine wp_append_one_at wr rfl _ _ _ rfl 5 (.int .u8 0) 1 Try.underlying38 infoByte rfl (.slice (some ⟨g1, 0, none⟩) (p.length + 1) c1) (p.length + 1) (byteCells (p ++ [UInt8.ofNat (m % 128)])) rfl HR.out (.int .u8 ((m : Int) / 128 % 128)) rfl rfl (by omega) (by omega) ?_; intro v1 w1 ho1 hg hat; have H1 := Lib.hid (RowR.grown 0 HST.out rfl ho1 hg hat); clear ho1 hg hat)
      go_roundw
      case rel => exact ⟨m / 128, _, by omega, HP.out, by go_num, by rw [← HE.out]; simpa using H1.out⟩
      case measure => simp [intOf]; omega
    · have HP := Lib.hid (show p ++ [UInt8.ofNat (m % 128)] = digs n by rw [← hp, digs.eq_1 m, if_pos (by omega), Nat.mod_eq_of_lt (by omega)])
      have HL := Lib.hid (show p.length + 1 = (digs n).length by rw [← HP.out]; simp)
      clear hrow hp hst
      go_wp2_with fail
      go_ret
      refine ⟨_, _, rfl, rfl, ?_⟩
      have h := HST.out
      rw [HP.out] at h
      rw [← HL.out]
      exact h
def put128 (l : List UInt8) (i : Nat) : List UInt8 := (l.take i).map (· + 128) ++ l.drop i
theorem put128_length (l : List UInt8) (i : Nat) : (put128 l i).length = l.length := by simp [put128]; omega
theorem put128_get (l : List UInt8) (i : Nat) (h : i < l.length) : (put128 l i)[i]? = some l[i] := by
  unfold put128
  rw [List.getElem?_append_right (by simp; omega)]
  simp only [List.length_map, List.length_take, List.getElem?_drop]
  rw [show i + (i - min i l.length) = i by omega, List.getElem?_eq_getElem h]
theorem put128_set (l : List UInt8) (i : Nat) (h : i < l.length) : (put128 l i).set i (l[i] + 128) = put128 l (i + 1) := by
  unfold put128
  have hl : ((l.take i).map (· + 128)).length = i := by simp; omega
  rw [List.set_append_right _ _ (by omega), hl, Nat.sub_self, List.drop_eq_getElem_cons h, List.set_cons_zero, take_succ_of l i h, List.map_append, List.append_assoc]
  rfl
theorem byteCells_set (l : List UInt8) (i : Nat) (c : UInt8) : (byteCells l).set i (.int .u8 c.toNat) = byteCells (l.set i c) := by simp [byteCells, List.map_set]
theorem byteCells_get (l : List UInt8) (i : Nat) : (byteCells l)[i]? = l[i]?.map fun c => Value.int .u8 c.toNat := by simp [byteCells]
theorem add128 (c : UInt8) : ((c.toNat : Int) + 128) % 256 = (c + 128).toNat := by simp [UInt8.toNat_add]
set_option maxRecDepth 100000 in
theorem RPut_spec (n : Nat) (hn : n < 18446744073709551616) :
    Spec0 Try.prog 131 #[.int .u64 n] (fun v N => v = .string (bsOf (vput n)) ∧ N = []) := by
  intro w
  have HS := Lib.hid (St.nil_ w)
  have HT := Lib.hid (digs_length n ▸ vput_ten n hn)
  have HP := Lib.hid (digs_pos n)
  have HV := Lib.hid (vput_digs n)
  go_enter Try.func131, Try.ntmps131
  go_wp2_with fail
  refine (HS.out.call0 (RDigits_spec n hn)).mono ?_
  rintro e w1 ⟨v, N, rfl, rfl, H1⟩
  generalize digs n = l at *
  obtain ⟨g, c, rfl⟩ := RowR.form 0 H1 rfl HP.out
  have HS1 := Lib.hid H1
  clear H1
  have hp := HP.out
  have hl := HT.out
  go_wp2_with fail
  go_loopw [4] (fun iv wr => ∃ i : Nat, i ≤ l.length - 1 ∧ iv = .int .i64 i ∧ St (fun _ => False) w [RowR 5 1 (.slice (some ⟨g, 0, none⟩) l.length c) l.length (byteCells (put128 l i))] wr) (fun i _ => l.length - (intOf i).toNat)
  case atStart => exact ⟨0, by omega, rfl, by simpa [put128] using HS1.out⟩
  case round =>
    obtain ⟨i, hi, rfl, hst⟩ := hrel
    by_cases hlt : i < l.length - 1
    · obtain ⟨hc, hf⟩ := RowR.cell 0 hst rfl i (by omega)
      rw [byteCells_get, put128_get l i (by omega)] at hc
      have HC := Lib.hid (put128_set l i (by omega))
      have HA := Lib.hid (add128 (l[i]'(by omega)))
      generalize l[i]'(by omega) = b at *
      have hb := b.toNat_lt
      simp only [Option.map_some] at hc
      have HST := Lib.hid hst
      clear hst
      go_wp2_with fail
      go_roundw
      case rel =>
        refine ⟨i + 1, by omega, by go_num, ?_⟩
        have h := RowR.set 0 HST.out rfl i (.int .u8 (b + 128).toNat)
        rw [byteCells_set, HC.out, ← HA.out] at h
        exact h
      case measure => simp [intOf]; omega
    · have HE := Lib.hid (show put128 l i = vput n by rw [HV.out, show i = l.length - 1 by omega]; rfl)
      have hc := row_string (P := Try.prog) wr (src := 38) (dst := 9) Try.underlying38 Try.underlying5 Try.underlying9 (RowR.row 0 hst rfl)
      have HST := Lib.hid hst
      clear hst
      go_wp2_with fail
      go_ret
      exact ⟨_, _, rfl, ⟨by rw [HE.out]; rfl, rfl⟩, HST.out.drop_⟩
end Go.Proofs.Ytdlpmcbglmgpiaa.Sl
