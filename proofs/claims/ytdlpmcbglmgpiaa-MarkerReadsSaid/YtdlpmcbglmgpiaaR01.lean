/- package cursitorref01: what each of its functions answers. -/
import Derived.Test.YtdlpmcbglmgpiaaI
namespace Go.Proofs.Ytdlpmcbglmgpiaa.Sl
open Go.RowKit
set_option linter.unusedVariables false
set_option linter.unusedSimpArgs false

theorem bsOf_of (s : ByteArray) : ∃ l, s = bsOf l := ⟨s.data.toList, (bsOf_data s).symm⟩
theorem take_succ_of (l : List UInt8) (j : Nat) (h : j < l.length) : l.take (j + 1) = l.take j ++ [l[j]] := List.take_succ_eq_append_getElem h
theorem take_nonempty {l : List UInt8} {j : Nat} (h : j < l.length) (h0 : 0 < j) : l.take j ≠ [] := by
  intro he
  have := congrArg List.length he
  rw [List.length_take, List.length_nil] at this
  omega
set_option maxRecDepth 100000 in
theorem RInt_any (l : List UInt8) (h8 : l.length ≤ 8) (w : World) :
    Calls Try.prog 76 #[.string (bsOf l)] w fun e w' => e = .returned (.int .i64 (beInt l)) ∧ w = w' := by
  have hsz := bsOf_size l
  have hl8 : (bsOf l).size ≤ 8 := by omega
  have HG := Lib.hid (bsOf_get l)
  go_enter Try.func76, Try.ntmps76
  go_wp2_with fail
  go_loop [3, 4] (fun n i => ∃ j : Nat, j ≤ l.length ∧ i = .int .i64 j ∧ n = .int .i64 (beInt (l.take j))) (fun _ i => l.length - (intOf i).toNat)
  case atStart => exact ⟨0, by omega, rfl, by simp [beInt]⟩
  case round =>
    obtain ⟨j, hj, rfl, rfl⟩ := hrel
    by_cases hlt : j < l.length
    · have hgj := HG.out j (by omega)
      have hs : j < (bsOf l).size := by omega
      have HT := Lib.hid (take_succ_of l j hlt)
      have hc := l[j].toNat_lt
      generalize l[j] = c at *
      by_cases hj0 : j = 0
      · subst hj0
        have HE := Lib.hid (show beInt (l.take (0 + 1)) = sgn c by rw [HT.out]; simp [beInt])
        have hb0 : beInt (l.take 0) = 0 := by simp [beInt]
        clear HT
        rw [hb0]
        clear hb0
        by_cases h128 : c.toNat < 128
        all_goals
          go_wp2_with fail
          go_round
          case rel => exact ⟨0 + 1, by omega, by go_num, by rw [HE.out]; simp [sgn]; first | done | omega⟩
          case measure => simp [intOf]; omega
      · have hne := take_nonempty hlt (by omega)
        have hr := beInt_range7 (l.take j) hne (by simp; omega)
        have HE := Lib.hid (show beInt (l.take (j + 1)) = beInt (l.take j) * 256 + c.toNat by rw [HT.out, beInt_snoc _ _ hne])
        clear HT
        have HN := Lib.hid hne
        clear hne
        generalize beInt (l.take j) = q at *
        have h0 : ((j : Int) == 0) = false := by simp; omega
        have hr1 := hr.1
        have hr2 := hr.2
        go_wp2_with fail
        go_round
        case rel => exact ⟨j + 1, by omega, by go_num, by rw [HE.out]⟩
        case measure => simp [intOf]; omega
    · have e1 : j = l.length := by omega
      have e2 := List.take_of_length_le (l := l) (i := l.length) (Nat.le_refl _)
      have E1 := Lib.hid e1
      have E2 := Lib.hid e2
      clear e1 e2
      go_wp2_with fail
      go_ret
      exact ⟨ret_int (by rw [E1.out, E2.out]), rfl⟩
def byteArr (l : List UInt8) : Array Value := (byteCells l).toArray
theorem byteArr_get (l : List UInt8) (i : Nat) : (byteArr l)[i]? = l[i]?.map fun b => Value.int .u8 b.toNat := by simp [byteArr, byteCells]
theorem byteArr_set (l : List UInt8) (i : Nat) (c : UInt8) : (byteArr l).setIfInBounds i (.int .u8 c.toNat) = byteArr (l.set i c) := by
  simp [byteArr, byteCells]
theorem be_length (n : Int) (k : Nat) : (be n k).length = k := by simp [be]
theorem make_bytes (k : Nat) (hk : k ≤ 140737488355328) (w : World) : (Instr.makeSlice 38 (.int .i64 k) (.int .i64 k)).run Try.prog w =
    .ok (.slice (some ⟨w.heap.size, 0, none⟩) k k) (w.alloc (.cells (byteArr (List.replicate k 0)) 5)) := by
  obtain ⟨i, hi, hzz⟩ := Option.map_eq_some_iff.1 infoByte
  simp only [Prod.mk.injEq] at hzz
  rw [run_make w 38 5 i (.int .u8 0) Try.underlying38 hi hzz.1 .i64 .i64 k k (by omega) (by omega) (by rw [hzz.2.2]; omega) (by omega)]
  have e : madeCells (Value.int .u8 0).cells ((k : Int).toNat * i.size) = byteArr (List.replicate k 0) := by
    rw [hzz.2.1]
    simp [madeCells, byteArr, byteCells, Value.cells]
    apply Array.ext
    · simp
    · intro j h1 h2
      simp [Nat.mod_one]
  rw [e]
  rfl
theorem be_drop (n : Int) (k m : Nat) (h : m < k) : (be n k).drop m = UInt8.ofNat ((n / (2 ^ (8 * (k - 1 - m)) : Int)) % 256).toNat :: (be n k).drop (m + 1) := by
  rw [List.drop_eq_getElem_cons (by simpa [be] using h)]
  simp [be]
theorem q_next (n : Int) (a : Nat) : n / 2 ^ (8 * a) / 256 = n / (2 ^ (8 * (a + 1)) : Int) := by
  have hp : (0 : Int) < 2 ^ (8 * a) := Int.pow_pos (by decide)
  rw [show 8 * (a + 1) = 8 * a + 8 by omega, Int.pow_add, ← Int.ediv_ediv_of_nonneg (Int.le_of_lt hp)]
  rfl
theorem tmod256 (q : Int) : (q.tmod 256 = q % 256 ∧ 0 ≤ q.tmod 256) ∨ (q.tmod 256 = q % 256 - 256 ∧ q.tmod 256 < 0) := by
  rw [Int.tmod_eq_emod]
  split
  · left; omega
  · rename_i h
    right
    have : ¬ (256 ∣ q) := fun hd => h (.inr hd)
    omega
theorem tdiv256 (q : Int) : (q - q % 256).tdiv 256 = q / 256 := by
  have e : q - q % 256 = q / 256 * 256 := by omega
  rw [e, Int.mul_tdiv_cancel _ (by decide)]
theorem q_range (n : Int) (a : Nat) (h0 : -9223372036854775808 ≤ n) (h1 : n ≤ 9223372036854775807) : -9223372036854775808 ≤ n / 2 ^ a ∧ n / 2 ^ a ≤ 9223372036854775807 := by
  have hp : (0 : Int) < 2 ^ a := Int.pow_pos (by decide)
  generalize (2 ^ a : Int) = p at *
  constructor
  · rcases Int.lt_or_le n 0 with h | h
    · have : n ≤ n / p := by
        rw [Int.le_ediv_iff_mul_le hp]
        have : n * p ≤ n * 1 := Int.mul_le_mul_of_nonpos_left (by omega) (by omega)
        omega
      omega
    · have := Int.ediv_nonneg h (Int.le_of_lt hp)
      omega
  · rcases Int.lt_or_le n 0 with h | h
    · have := Int.ediv_neg_of_neg_of_pos h hp
      omega
    · have := Int.ediv_le_self p h
      omega
theorem rbytes_step {w wr : World} {g k m : Nat} {n q d : Int} (hm : m + 1 ≤ k) (hs : St (fun _ => False) w [BlkR g 5 (byteArr (List.replicate (m + 1) 0 ++ (be n k).drop (m + 1)))] wr)
    (hd : (be n k).drop m = UInt8.ofNat ((n / (2 ^ (8 * (k - 1 - m)) : Int)) % 256).toNat :: (be n k).drop (m + 1)) (hq : q = n / 2 ^ (8 * (k - 1 - m))) (he : d = q % 256) :
    St (fun _ => False) w [BlkR g 5 (byteArr (List.replicate m 0 ++ (be n k).drop m))] (wr.setCell ⟨g, m, none⟩ (.int .u8 d)) := by
  have h := hs.set 0 rfl m (.int .u8 d)
  have e : (.int .u8 d : Value) = .int .u8 (UInt8.ofNat (q % 256).toNat).toNat := by
    congr 1
    simp [UInt8.toNat_ofNat']
    omega
  have e2 : (List.replicate (m + 1) (0 : UInt8) ++ (be n k).drop (m + 1)).set m (UInt8.ofNat (q % 256).toNat) = List.replicate m 0 ++ (be n k).drop m := by
    rw [hd, ← hq, List.replicate_succ', List.append_assoc, List.set_append_right _ _ (by simp)]
    simp
  rw [e, byteArr_set, e2, ← e] at h
  exact h
set_option maxRecDepth 100000 in
theorem RBytes_any (n : Int) (k : Nat) (h0 : -9223372036854775808 ≤ n) (h1 : n ≤ 9223372036854775807) (hk : k ≤ 8) :
    Spec0 Try.prog 79 #[.int .i64 n, .int .i64 k] (fun v N => v = .string (bsOf (be n k)) ∧ N = []) := by
  intro w
  have hmk := make_bytes k (by omega)
  go_enter Try.func79, Try.ntmps79
  go_wp2_with fail
  have HW := Lib.hid ((St.nil_ w).alloc (byteArr (List.replicate k 0)) 5)
  clear hmk
  go_loopw [0, 6] (fun q i wr => ∃ j : Nat, j ≤ k ∧ i = .int .i64 ((j : Int) - 1) ∧ q = .int .i64 (n / 2 ^ (8 * (k - j))) ∧ St (fun _ => False) w [BlkR w.heap.size 5 (byteArr (List.replicate j 0 ++ (be n k).drop j))] wr) (fun _ i _ => (intOf i + 1).toNat)
  case atStart => exact ⟨k, by omega, rfl, by simp, by
    have e : (be n k).drop k = [] := List.drop_of_length_le (by simp [be])
    rw [e, List.append_nil]
    exact HW.out⟩
  case round =>
    obtain ⟨j, hj, rfl, rfl, hst⟩ := hrel
    have hr := q_range n (8 * (k - j)) h0 h1
    cases j with
    | zero =>
      have hs := hst.blk 0 rfl
      have HS := Lib.hid hst
      clear hst hr
      have hrow : wr.ownsRow 0 5 1 (.slice (some ⟨w.heap.size, 0, none⟩) k k) k (byteCells (be n k)) := by
        refine ⟨by simp [byteCells, be], .inr ⟨w.heap.size, k, _, rfl, Nat.zero_le _, hs, Nat.le_refl _, by simp [maxLen]; omega, ?_, ?_⟩⟩
        · simp [byteArr, byteCells, be]
        · simp only [byteArr, List.replicate_zero, List.nil_append, List.drop_zero, Nat.mul_one]
          exact List.take_of_length_le (by simp [byteCells, be])
      have hc := row_string (P := Try.prog) wr (src := 38) (dst := 9) Try.underlying38 Try.underlying5 Try.underlying9 hrow
      have HR := Lib.hid hrow
      clear hrow hs
      go_wp2_with fail
      go_ret
      exact ⟨_, _, rfl, ⟨rfl, rfl⟩, HS.out.drop_⟩
    | succ m =>
      rw [show ((m + 1 : Nat) : Int) - 1 = m by omega]
      have hs := hst.blk 0 rfl
      have hcell : wr.cell? ⟨w.heap.size, m, none⟩ = some (.int .u8 0) := by
        rw [heap_at hs m, byteArr_get, List.getElem?_append_left (by simp)]
        simp
      have hfree : wr.frozen? ⟨w.heap.size, m, none⟩ = false := heap_free hs m
      have HN := Lib.hid (q_next n (k - (m + 1)))
      have HQ := Lib.hid (show n / 2 ^ (8 * (k - (m + 1))) = n / 2 ^ (8 * (k - 1 - m)) by rw [show k - (m + 1) = k - 1 - m by omega])
      have HS := Lib.hid hst
      clear hst hs
      have hr1 := hr.1
      have hr2 := hr.2
      clear hr
      have HD := Lib.hid (be_drop n k m (by omega))
      generalize hq : n / 2 ^ (8 * (k - (m + 1))) = q at *
      clear hq
      have hd := tdiv256 q
      rcases tmod256 q with ⟨hm, hneg⟩ | ⟨hm, hneg⟩
      · have hb1 : q.tmod 256 < 256 := by omega
        have hb2 : -9223372036854775808 ≤ q - q.tmod 256 := by omega
        have hb3 : q - q.tmod 256 ≤ 9223372036854775807 := by omega
        have HM := Lib.hid hm
        have HDV := Lib.hid hd
        clear hm hd
        go_wp2_with fail
        go_roundw
        case rel =>
          refine ⟨m, by omega, rfl, ?_, rbytes_step hj HS.out HD.out HQ.out HM.out⟩
          rw [HM.out, HDV.out, HN.out, show k - (m + 1) + 1 = k - m by omega]
        case measure => simp [intOf]
      · have hb1 : -256 ≤ q.tmod 256 := by omega
        have hb2 : -9223372036854775808 ≤ q - (q.tmod 256 + 256) := by omega
        have hb3 : q - (q.tmod 256 + 256) ≤ 9223372036854775807 := by omega
        have HM := Lib.hid (show q.tmod 256 + 256 = q % 256 by omega)
        have HDV := Lib.hid hd
        clear hm hd
        go_wp2_with fail
        go_roundw
        case rel =>
          refine ⟨m, by omega, rfl, ?_, rbytes_step hj HS.out HD.out HQ.out HM.out⟩
          rw [HM.out, HDV.out, HN.out, show k - (m + 1) + 1 = k - m by omega]
        case measure => simp [intOf]

theorem be_take (n : Int) (k j : Nat) (h : j < k) : (be n k).take (j + 1) = (be n k).take j ++ [UInt8.ofNat ((n / (2 ^ (8 * (k - 1 - j)) : Int)) % 256).toNat] := by
  rw [List.take_succ_eq_append_getElem (by simpa [be] using h)]
  simp [be]
theorem fits_iff (n : Int) (k : Nat) (h1 : 1 ≤ k) (h8 : k ≤ 8) : fits n k = true ↔ -(2 ^ (8 * k - 1) : Int) ≤ n ∧ n < (2 ^ (8 * k - 1) : Int) := by
  simp [fits]
  generalize (2 ^ (8 * k - 1) : Int) = z
  omega
theorem byte_val (q : Int) : ((UInt8.ofNat (q % 256).toNat).toNat : Int) = q % 256 := by
  simp [UInt8.toNat_ofNat']
  omega
theorem be_prefix (n : Int) (k : Nat) (h8 : k ≤ 8) (hf : fits n k = true) : ∀ j : Nat, j + 1 ≤ k → beInt ((be n k).take (j + 1)) = n / 2 ^ (8 * (k - 1 - j)) := by
  intro j
  induction j with
  | zero =>
    intro h
    have hb := (fits_iff n k (by omega) h8).1 hf
    rw [be_take n k 0 (by omega)]
    have e1 : (2 ^ (8 * k - 1) : Int) = 128 * 2 ^ (8 * (k - 1 - 0)) := by
      rw [show 8 * k - 1 = 7 + 8 * (k - 1 - 0) by omega, Int.pow_add]
      rfl
    rw [e1] at hb
    have hp : (0 : Int) < 2 ^ (8 * (k - 1 - 0)) := Int.pow_pos (by decide)
    have hl : -128 ≤ n / 2 ^ (8 * (k - 1 - 0)) := by
      rw [Int.le_ediv_iff_mul_le hp]; omega
    have hu : n / 2 ^ (8 * (k - 1 - 0)) < 128 := by
      rw [Int.ediv_lt_iff_lt_mul hp]; omega
    generalize n / 2 ^ (8 * (k - 1 - 0)) = q at *
    have hv := byte_val q
    generalize (UInt8.ofNat (q % 256).toNat) = c at *
    simp [beInt, sgn]
    split <;> omega
  | succ j ih =>
    intro h
    have h2 := ih (by omega)
    rw [be_take n k (j + 1) (by omega), beInt_snoc _ _ (take_nonempty (by simp [be]; omega) (by omega)), h2, byte_val]
    have h3 := q_next n (k - 1 - (j + 1))
    rw [show k - 1 - (j + 1) + 1 = k - 1 - j by omega] at h3
    omega
theorem beInt_be (n : Int) (k : Nat) (h1 : 1 ≤ k) (h8 : k ≤ 8) (hf : fits n k = true) : beInt (be n k) = n := by
  have h := be_prefix n k h8 hf (k - 1) (by omega)
  rw [show k - 1 + 1 = k by omega, List.take_of_length_le (by simp [be])] at h
  rw [h, show k - 1 - (k - 1) = 0 by omega]
  simp
theorem be_fits (n : Int) (k : Nat) (h1 : 1 ≤ k) (h8 : k ≤ 8) : (beInt (be n k) = n) ↔ fits n k = true := by
  constructor
  · intro h
    rw [fits_iff n k h1 h8, ← h]
    have := beInt_range (be n k) (by intro he; have := congrArg List.length he; simp [be] at this; omega)
    rw [be_length] at this
    rw [h] at this ⊢
    exact this
  · exact beInt_be n k h1 h8
end Go.Proofs.Ytdlpmcbglmgpiaa.Sl
