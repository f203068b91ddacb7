/- the statements of layer 2: whatever is written. -/
import Derived.Test.YtaakchnddcphkaaL02
import Derived.Test.YtaakchnddcphkaaL01
namespace Go.Proofs.Ytaakchnddcphkaa.Sl
open Go.RowKit Go.ChangeShapes
set_option linter.unusedVariables false
set_option linter.unusedSimpArgs false
attribute [local go_sem] bsOf_toList bsOf_size bsOf_append
abbrev OAct := Int × List UInt8 × Int × Int × Unit
def oactRd : Rd OAct := pairRd (intRd .u8) (pairRd strRd (pairRd (intRd .i64) (pairRd (intRd .i64) unitRd)))
theorem opens_oacts {H : Type} {enc : TypeId × Value → H} : Opens enc Try.prog 55 (sliceRd 4 oactRd) :=
  opens_slice 4 Try.underlying55 (by kernel_rfl) (by decide) (opens_struct Try.underlying59 (by kernel_rfl)
    (opensFs_cons 1 (by kernel_rfl) (by kernel_rfl) (opens_int Try.underlying5) (opensFs_cons 1 (by kernel_rfl) (by kernel_rfl) (opens_str Try.underlying9)
      (opensFs_cons 1 (by kernel_rfl) (by kernel_rfl) (opens_int Try.underlying3) (opensFs_cons 1 (by kernel_rfl) (by kernel_rfl) (opens_int Try.underlying3) (opensFs_nil _))))))
theorem St.swap01 {F0 : Nat → Prop} {w0 w : World} {A B : Res} {Rs : List Res} (h : St F0 w0 (A :: B :: Rs) w) : St F0 w0 (B :: A :: Rs) w := ⟨h.fr, h.sep.swap⟩
theorem oact_cells {w : World} {S : Nat → Prop} {cs : List Value} {x : OAct} (h : oactRd.P w S cs x) :
    cs = [.int .u8 x.1, .string (bsOf x.2.1), .int .i64 x.2.2.1, .int .i64 x.2.2.2.1] ∧ (0 ≤ x.1 ∧ x.1 ≤ 255) ∧ (-9223372036854775808 ≤ x.2.2.1 ∧ x.2.2.1 ≤ 9223372036854775807) ∧ (-9223372036854775808 ≤ x.2.2.2.1 ∧ x.2.2.2.1 ≤ 9223372036854775807) ∧ x.2.1.length ≤ 9223372036854775807 := by
  obtain ⟨_, _, rfl, ⟨rfl, h1⟩, _, _, rfl, ⟨rfl, h2⟩, _, _, rfl, ⟨rfl, h3⟩, _, _, rfl, ⟨rfl, h4⟩, rfl⟩ := h
  exact ⟨rfl, Go.bounds_u8 h1, Go.bounds_i64 h3, Go.bounds_i64 h4, h2⟩
set_option maxRecDepth 100000 in
set_option maxHeartbeats 1000000 in
theorem OutputWrites_walk (w : World) (v : Value) (l : List OAct) (hv : (sliceRd 4 oactRd).P w (fun k => k < w.heap.size) [v] l) :
    Calls Try.prog 9 #[v] w fun e w' => e = .returned (.bool true) ∧ Below w.heap.size w w' := by
  have HS := Lib.hid (St.nil_ w)
  obtain ⟨a, c, rfl, hcell⟩ := sliceRd_open (by decide) hv
  have HC := Lib.hid hcell
  clear hcell hv
  by_cases h100 : 100 < (l.length : Int)
  · go_enter Try.func9, Try.ntmps9
    go_wp2_with fail
    refine (St.call0 (HS).out speaks02).mono ?_
    rintro e w1 ⟨v, N, rfl, ⟨rfl, rfl⟩, H1⟩
    try simp only [List.cons_append, List.nil_append, List.set_cons_zero, List.set_cons_succ, bsOf_list] at H1
    have HS1 := Lib.hid H1
    clear H1
    go_wp2_with fail
    go_ret
    exact ⟨rfl, HS1.out.below⟩
  have hl : l.length ≤ 100 := by omega
  go_enter Try.func9, Try.ntmps9
  go_wp2_with fail
  refine (St.call0 (HS).out speaks02).mono ?_
  rintro e w1 ⟨v, N, rfl, ⟨rfl, rfl⟩, H1⟩
  try simp only [List.cons_append, List.nil_append, List.set_cons_zero, List.set_cons_succ, bsOf_list] at H1
  have HS1 := Lib.hid H1
  clear H1
  go_wp2_with fail
  have H1 := OutR.new ((HS1).out)
  try simp only [World.size_alloc] at H1
  have HS2 := Lib.hid H1
  clear H1
  go_loopw [4, 5, 18] (fun tv ev iv wr => ∃ (i : Nat) (st : List UInt8 × Int) (Rs : List Res), i ≤ l.length ∧ iv = .int .i64 i ∧ tv = .string (bsOf st.1) ∧ ev = .int .i64 st.2 ∧ st.1.length ≤ 500 * i ∧ (-9223372036854775808 ≤ st.2 ∧ st.2 ≤ 9223372036854775807) ∧ St (fun _ => False) w (OutR w1.heap.size st :: Rs) wr) (fun _ _ i _ => l.length - (intOf i).toNat)
  case atStart => exact ⟨0, ([], 0), [], by omega, rfl, rfl, rfl, by simp, by omega, HS2.out⟩
  case round =>
    obtain ⟨i, st, Rs, hi, rfl, rfl, rfl, hlen, hst2, hst⟩ := hrel
    have HST := Lib.hid hst
    clear hst
    by_cases hlt : i < l.length
    · obtain ⟨g, o, rfl, hbb, cs, hcl, hcs, hcx⟩ := HC.out i l[i] (List.getElem?_eq_getElem hlt)
      generalize l[i] = x at *
      obtain ⟨kd, s, n, k, u⟩ := x
      obtain ⟨rfl, hk, hn, hkk, hs⟩ := oact_cells hcx
      have c0 : wr.cell? ⟨g, o + i * 4, none⟩ = some (.int .u8 kd) := HST.out.old hbb (hcs 0 (by omega))
      have c1 : wr.cell? ⟨g, o + i * 4 + 1, none⟩ = some (.string (bsOf s)) := HST.out.old hbb (hcs 1 (by omega))
      have c2 : wr.cell? ⟨g, o + i * 4 + 2, none⟩ = some (.int .i64 n) := HST.out.old hbb (hcs 2 (by omega))
      have c3 : wr.cell? ⟨g, o + i * 4 + 3, none⟩ = some (.int .i64 k) := HST.out.old hbb (hcs 3 (by omega))
      clear hcs hcx
      --GEN
      obtain ⟨t, e⟩ := st
      simp only at hlen hst2
      by_cases h500 : 500 < (s.length : Int)
      · go_wp2_with fail
        go_ret
        exact ⟨rfl, (HST.out.alloc #[.int .u8 kd, .string (bsOf s), .int .i64 n, .int .i64 k] 59).below⟩
      have hs5 : s.length ≤ 500 := by omega
      rcases (show kd % 4 = 0 ∨ kd % 4 = 1 ∨ kd % 4 = 2 ∨ kd % 4 = 3 by omega) with hk4 | hk4 | hk4 | hk4
      · by_cases he : e = 0
        · subst he
          have HE := Lib.hid (show oput (t, 0) (bsOf s).data.toList = (t ++ s, 0) by simp [oput, bsOf_list])
          have hsum : t.length + s.length ≤ 9223372036854775807 := by omega
          go_wp2_with fail
          have HSA := Lib.hid (HST.out.alloc #[.int .u8 kd, .string (bsOf s), .int .i64 n, .int .i64 k] 59)
          refine (St.call 1 HSA.out rfl (Put_spec _ (t, 0) (bsOf s) (by rw [bsOf_size]; simp; omega))).mono ?_
          rintro e w2 ⟨v, A', N, rfl, ⟨rfl, rfl, rfl⟩, H1⟩
          have H2 : St (fun _ => False) w (BlkR wr.heap.size 59 #[.int .u8 kd, .string (bsOf s), .int .i64 n, .int .i64 k] :: OutR w1.heap.size ((t ++ s, 0)) :: Rs) w2 := by
            have h := H1
            simp only [List.cons_append, List.nil_append, List.set_cons_zero, List.set_cons_succ, HE.out] at h
            exact h
          have d0 : w2.cell? ⟨wr.heap.size, 0, none⟩ = some (.int .u8 kd) := heap_at (St.blk 0 H2 rfl) 0
          have d1 : w2.cell? ⟨wr.heap.size, 1, none⟩ = some (.string (bsOf s)) := heap_at (St.blk 0 H2 rfl) 1
          have d2 : w2.cell? ⟨wr.heap.size, 2, none⟩ = some (.int .i64 n) := heap_at (St.blk 0 H2 rfl) 2
          have d3 : w2.cell? ⟨wr.heap.size, 3, none⟩ = some (.int .i64 k) := heap_at (St.blk 0 H2 rfl) 3
          have HSB := Lib.hid H2
          clear H1 H2
          have hne : (((t ++ s).length : Nat) != (t ++ s).length) = false := by simp
          go_wp2_with fail
          refine (St.call 1 (HSB).out rfl (Len_spec _ _)).mono ?_
          rintro e w1 ⟨v, A', N, rfl, ⟨rfl, rfl, rfl⟩, H1⟩
          try simp only [List.cons_append, List.nil_append, List.set_cons_zero, List.set_cons_succ, bsOf_list] at H1
          have HSC := Lib.hid H1
          clear H1
          go_wp2_with fail
          refine (St.call 1 (HSC).out rfl (Err_spec _ _)).mono ?_
          rintro e w1 ⟨v, A', N, rfl, ⟨rfl, rfl, rfl⟩, H1⟩
          try simp only [List.cons_append, List.nil_append, List.set_cons_zero, List.set_cons_succ, bsOf_list] at H1
          have HSD := Lib.hid H1
          clear H1
          go_wp2_with fail
          go_roundw
          case rel => exact ⟨i + 1, ((t ++ s, 0)), _, by omega, by go_num, rfl, rfl, by simp; omega, by omega, (HSD.out.swap01)⟩
          case measure => simp [intOf]; omega
        · have HE := Lib.hid (show oput (t, e) (bsOf s).data.toList = (t, e) by simp [oput, he])
          have hb : (e == 0) = false := beq_eq_false_iff_ne.2 he
          go_wp2_with fail
          have HSA := Lib.hid (HST.out.alloc #[.int .u8 kd, .string (bsOf s), .int .i64 n, .int .i64 k] 59)
          refine (St.call 1 HSA.out rfl (Put_spec _ (t, e) (bsOf s) (by rw [bsOf_size]; simp; omega))).mono ?_
          rintro e w2 ⟨v, A', N, rfl, ⟨rfl, rfl, rfl⟩, H1⟩
          have H2 : St (fun _ => False) w (BlkR wr.heap.size 59 #[.int .u8 kd, .string (bsOf s), .int .i64 n, .int .i64 k] :: OutR w1.heap.size ((t, e)) :: Rs) w2 := by
            have h := H1
            simp only [List.cons_append, List.nil_append, List.set_cons_zero, List.set_cons_succ, HE.out] at h
            exact h
          have d0 : w2.cell? ⟨wr.heap.size, 0, none⟩ = some (.int .u8 kd) := heap_at (St.blk 0 H2 rfl) 0
          have d1 : w2.cell? ⟨wr.heap.size, 1, none⟩ = some (.string (bsOf s)) := heap_at (St.blk 0 H2 rfl) 1
          have d2 : w2.cell? ⟨wr.heap.size, 2, none⟩ = some (.int .i64 n) := heap_at (St.blk 0 H2 rfl) 2
          have d3 : w2.cell? ⟨wr.heap.size, 3, none⟩ = some (.int .i64 k) := heap_at (St.blk 0 H2 rfl) 3
          have HSB := Lib.hid H2
          clear H1 H2
          go_wp2_with fail
          refine (St.call 1 (HSB).out rfl (Len_spec _ _)).mono ?_
          rintro e w1 ⟨v, A', N, rfl, ⟨rfl, rfl, rfl⟩, H1⟩
          try simp only [List.cons_append, List.nil_append, List.set_cons_zero, List.set_cons_succ, bsOf_list] at H1
          have HSC := Lib.hid H1
          clear H1
          go_wp2_with fail
          refine (St.call 1 (HSC).out rfl (Err_spec _ _)).mono ?_
          rintro e w1 ⟨v, A', N, rfl, ⟨rfl, rfl, rfl⟩, H1⟩
          try simp only [List.cons_append, List.nil_append, List.set_cons_zero, List.set_cons_succ, bsOf_list] at H1
          have HSD := Lib.hid H1
          clear H1
          go_wp2_with fail
          go_roundw
          case rel => exact ⟨i + 1, ((t, e)), _, by omega, by go_num, rfl, rfl, by simp; omega, by omega, (HSD.out.swap01)⟩
          case measure => simp [intOf]; omega
      · by_cases he : e = 0
        · subst he
          have HY := Lib.hid (show byteCells [UInt8.ofNat (n % 256).toNat] = [.int .u8 (n % 256)] by simp [byteCells, UInt8.toNat_ofNat']; omega)
          have HE := Lib.hid (show oput (t, 0) [UInt8.ofNat (n % 256).toNat] = (t ++ [UInt8.ofNat (n % 256).toNat], 0) by simp [oput])
          have hsum : t.length + [UInt8.ofNat (n % 256).toNat].length ≤ 9223372036854775807 := by simp; omega
          go_wp2_with fail
          have HSA := Lib.hid (HST.out.alloc #[.int .u8 kd, .string (bsOf s), .int .i64 n, .int .i64 k] 59)
          refine (St.call 1 HSA.out rfl (ByteI_spec _ (t, 0) (n % 256) (by omega) (by omega) (by simp; omega))).mono ?_
          rintro e w2 ⟨v, A', N, rfl, ⟨rfl, rfl, rfl⟩, H1⟩
          have H2 : St (fun _ => False) w (BlkR wr.heap.size 59 #[.int .u8 kd, .string (bsOf s), .int .i64 n, .int .i64 k] :: OutR w1.heap.size ((t ++ [UInt8.ofNat (n % 256).toNat], 0)) :: Rs) w2 := by
            have h := H1
            simp only [List.cons_append, List.nil_append, List.set_cons_zero, List.set_cons_succ, HE.out] at h
            exact h
          have d0 : w2.cell? ⟨wr.heap.size, 0, none⟩ = some (.int .u8 kd) := heap_at (St.blk 0 H2 rfl) 0
          have d1 : w2.cell? ⟨wr.heap.size, 1, none⟩ = some (.string (bsOf s)) := heap_at (St.blk 0 H2 rfl) 1
          have d2 : w2.cell? ⟨wr.heap.size, 2, none⟩ = some (.int .i64 n) := heap_at (St.blk 0 H2 rfl) 2
          have d3 : w2.cell? ⟨wr.heap.size, 3, none⟩ = some (.int .i64 k) := heap_at (St.blk 0 H2 rfl) 3
          have HSB := Lib.hid H2
          clear H1 H2
          have hcv := row_string (P := Try.prog) (w2.alloc (.cells #[.int .u8 (n % 256)] 5)) (src := 43) (dst := 9) (l := [UInt8.ofNat (n % 256).toNat]) Try.underlying43 Try.underlying5 Try.underlying9 (by rw [HY.out]; exact World.ownsRow_lit w2 #[.int .u8 (n % 256)] 1 (Nat.zero_le _) (by decide) rfl)
          have HSB2 := Lib.hid (St.del 0 (HSB.out.alloc #[.int .u8 (n % 256)] 5) rfl)
          rw [show (⟨[UInt8.ofNat (n % 256).toNat].toArray⟩ : ByteArray) = bsOf [UInt8.ofNat (n % 256).toNat] from rfl] at hcv
          have hs1 : [UInt8.ofNat (n % 256).toNat].length ≤ 500 := by simp
          generalize [UInt8.ofNat (n % 256).toNat] = s1 at *
          have hne : (((t ++ s1).length : Nat) != (t ++ s1).length) = false := by simp
          go_wp2_with fail
          refine (St.call 1 (HSB2).out rfl (Len_spec _ _)).mono ?_
          rintro e w1 ⟨v, A', N, rfl, ⟨rfl, rfl, rfl⟩, H1⟩
          try simp only [List.cons_append, List.nil_append, List.set_cons_zero, List.set_cons_succ, bsOf_list] at H1
          have HSC := Lib.hid H1
          clear H1
          go_wp2_with fail
          refine (St.call 1 (HSC).out rfl (Err_spec _ _)).mono ?_
          rintro e w1 ⟨v, A', N, rfl, ⟨rfl, rfl, rfl⟩, H1⟩
          try simp only [List.cons_append, List.nil_append, List.set_cons_zero, List.set_cons_succ, bsOf_list] at H1
          have HSD := Lib.hid H1
          clear H1
          go_wp2_with fail
          go_roundw
          case rel => exact ⟨i + 1, ((t ++ s1, 0)), _, by omega, by go_num, rfl, rfl, by simp; omega, by omega, (HSD.out.swap01)⟩
          case measure => simp [intOf]; omega
        · have HY := Lib.hid (show byteCells [UInt8.ofNat (n % 256).toNat] = [.int .u8 (n % 256)] by simp [byteCells, UInt8.toNat_ofNat']; omega)
          have HE := Lib.hid (show oput (t, e) [UInt8.ofNat (n % 256).toNat] = (t, e) by simp [oput, he])
          have hb : (e == 0) = false := beq_eq_false_iff_ne.2 he
          go_wp2_with fail
          have HSA := Lib.hid (HST.out.alloc #[.int .u8 kd, .string (bsOf s), .int .i64 n, .int .i64 k] 59)
          refine (St.call 1 HSA.out rfl (ByteI_spec _ (t, e) (n % 256) (by omega) (by omega) (by simp; omega))).mono ?_
          rintro e w2 ⟨v, A', N, rfl, ⟨rfl, rfl, rfl⟩, H1⟩
          have H2 : St (fun _ => False) w (BlkR wr.heap.size 59 #[.int .u8 kd, .string (bsOf s), .int .i64 n, .int .i64 k] :: OutR w1.heap.size ((t, e)) :: Rs) w2 := by
            have h := H1
            simp only [List.cons_append, List.nil_append, List.set_cons_zero, List.set_cons_succ, HE.out] at h
            exact h
          have d0 : w2.cell? ⟨wr.heap.size, 0, none⟩ = some (.int .u8 kd) := heap_at (St.blk 0 H2 rfl) 0
          have d1 : w2.cell? ⟨wr.heap.size, 1, none⟩ = some (.string (bsOf s)) := heap_at (St.blk 0 H2 rfl) 1
          have d2 : w2.cell? ⟨wr.heap.size, 2, none⟩ = some (.int .i64 n) := heap_at (St.blk 0 H2 rfl) 2
          have d3 : w2.cell? ⟨wr.heap.size, 3, none⟩ = some (.int .i64 k) := heap_at (St.blk 0 H2 rfl) 3
          have HSB := Lib.hid H2
          clear H1 H2
          have hcv := row_string (P := Try.prog) (w2.alloc (.cells #[.int .u8 (n % 256)] 5)) (src := 43) (dst := 9) (l := [UInt8.ofNat (n % 256).toNat]) Try.underlying43 Try.underlying5 Try.underlying9 (by rw [HY.out]; exact World.ownsRow_lit w2 #[.int .u8 (n % 256)] 1 (Nat.zero_le _) (by decide) rfl)
          have HSB2 := Lib.hid (St.del 0 (HSB.out.alloc #[.int .u8 (n % 256)] 5) rfl)
          go_wp2_with fail
          refine (St.call 1 (HSB2).out rfl (Len_spec _ _)).mono ?_
          rintro e w1 ⟨v, A', N, rfl, ⟨rfl, rfl, rfl⟩, H1⟩
          try simp only [List.cons_append, List.nil_append, List.set_cons_zero, List.set_cons_succ, bsOf_list] at H1
          have HSC := Lib.hid H1
          clear H1
          go_wp2_with fail
          refine (St.call 1 (HSC).out rfl (Err_spec _ _)).mono ?_
          rintro e w1 ⟨v, A', N, rfl, ⟨rfl, rfl, rfl⟩, H1⟩
          try simp only [List.cons_append, List.nil_append, List.set_cons_zero, List.set_cons_succ, bsOf_list] at H1
          have HSD := Lib.hid H1
          clear H1
          go_wp2_with fail
          go_roundw
          case rel => exact ⟨i + 1, ((t, e)), _, by omega, by go_num, rfl, rfl, by simp; omega, by omega, (HSD.out.swap01)⟩
          case measure => simp [intOf]; omega
      · by_cases hf : fits n k = true
        · have hsz : 1 ≤ k ∧ k ≤ 8 := by simp [fits] at hf; omega
          obtain ⟨kk, rfl⟩ : ∃ kk : Nat, k = kk := ⟨k.toNat, by omega⟩
          have hkk8 : kk ≤ 8 := by omega
          have HF := Lib.hid hf
          clear hf hsz
          by_cases he : e = 0
          · subst he
            have HE := Lib.hid (show oint (t, 0) n kk = (t ++ be n kk, 0) by unfold oint; rw [if_pos HF.out]; simp [oput])
            have hbl := be_length n kk
            have hsum : t.length + (be n kk).length ≤ 9223372036854775807 := by omega
            go_wp2_with fail
            have HSA := Lib.hid (HST.out.alloc #[.int .u8 kd, .string (bsOf s), .int .i64 n, .int .i64 kk] 59)
            refine (St.call 1 HSA.out rfl (OutInt_spec _ (t, 0) n kk hn.1 hn.2 (by simp; omega))).mono ?_
            rintro e w2 ⟨v, A', N, rfl, ⟨rfl, rfl, rfl⟩, H1⟩
            have H2 : St (fun _ => False) w (BlkR wr.heap.size 59 #[.int .u8 kd, .string (bsOf s), .int .i64 n, .int .i64 kk] :: OutR w1.heap.size ((t ++ be n kk, 0)) :: Rs) w2 := by
              have h := H1
              simp only [List.cons_append, List.nil_append, List.set_cons_zero, List.set_cons_succ, HE.out] at h
              exact h
            have d0 : w2.cell? ⟨wr.heap.size, 0, none⟩ = some (.int .u8 kd) := heap_at (St.blk 0 H2 rfl) 0
            have d1 : w2.cell? ⟨wr.heap.size, 1, none⟩ = some (.string (bsOf s)) := heap_at (St.blk 0 H2 rfl) 1
            have d2 : w2.cell? ⟨wr.heap.size, 2, none⟩ = some (.int .i64 n) := heap_at (St.blk 0 H2 rfl) 2
            have d3 : w2.cell? ⟨wr.heap.size, 3, none⟩ = some (.int .i64 kk) := heap_at (St.blk 0 H2 rfl) 3
            have HSB := Lib.hid H2
            clear H1 H2
            go_wp2_with fail
            refine (St.call0 HSB.out (RFits_any n kk hn.1 hn.2)).mono ?_
            rintro e1 w3 ⟨v, N, rfl, ⟨rfl, rfl⟩, H1⟩
            rw [HF.out]
            (try simp only [List.cons_append, List.nil_append] at H1)
            have w3d0 : w3.cell? ⟨wr.heap.size, 0, none⟩ = some (.int .u8 kd) := heap_at (St.blk 0 H1 rfl) 0
            have w3d1 : w3.cell? ⟨wr.heap.size, 1, none⟩ = some (.string (bsOf s)) := heap_at (St.blk 0 H1 rfl) 1
            have w3d2 : w3.cell? ⟨wr.heap.size, 2, none⟩ = some (.int .i64 n) := heap_at (St.blk 0 H1 rfl) 2
            have w3d3 : w3.cell? ⟨wr.heap.size, 3, none⟩ = some (.int .i64 kk) := heap_at (St.blk 0 H1 rfl) 3
            have HSB3 := Lib.hid H1
            clear H1
            go_wp2_with fail
            refine (St.call0 HSB3.out (RBytes_any n kk hn.1 hn.2 hkk8)).mono ?_
            rintro e1 w4 ⟨v, N, rfl, ⟨rfl, rfl⟩, H1⟩
            generalize be n kk = s1 at *
            have hne : (((t ++ s1).length : Nat) != (t ++ s1).length) = false := by simp
            (try simp only [List.cons_append, List.nil_append] at H1)
            have w4d0 : w4.cell? ⟨wr.heap.size, 0, none⟩ = some (.int .u8 kd) := heap_at (St.blk 0 H1 rfl) 0
            have w4d1 : w4.cell? ⟨wr.heap.size, 1, none⟩ = some (.string (bsOf s)) := heap_at (St.blk 0 H1 rfl) 1
            have w4d2 : w4.cell? ⟨wr.heap.size, 2, none⟩ = some (.int .i64 n) := heap_at (St.blk 0 H1 rfl) 2
            have w4d3 : w4.cell? ⟨wr.heap.size, 3, none⟩ = some (.int .i64 kk) := heap_at (St.blk 0 H1 rfl) 3
            have HSB4 := Lib.hid H1
            clear H1
            go_wp2_with fail
            refine (St.call 1 (HSB4).out rfl (Len_spec _ _)).mono ?_
            rintro e w1 ⟨v, A', N, rfl, ⟨rfl, rfl, rfl⟩, H1⟩
            try simp only [List.cons_append, List.nil_append, List.set_cons_zero, List.set_cons_succ, bsOf_list] at H1
            have HSC := Lib.hid H1
            clear H1
            go_wp2_with fail
            refine (St.call 1 (HSC).out rfl (Err_spec _ _)).mono ?_
            rintro e w1 ⟨v, A', N, rfl, ⟨rfl, rfl, rfl⟩, H1⟩
            try simp only [List.cons_append, List.nil_append, List.set_cons_zero, List.set_cons_succ, bsOf_list] at H1
            have HSD := Lib.hid H1
            clear H1
            go_wp2_with fail
            go_roundw
            case rel => exact ⟨i + 1, ((t ++ s1, 0)), _, by omega, by go_num, rfl, rfl, by simp; omega, by omega, (HSD.out.swap01)⟩
            case measure => simp [intOf]; omega
          · have hb : (e == 0) = false := beq_eq_false_iff_ne.2 he
            have HE := Lib.hid (show oint (t, e) n kk = (t, e) by unfold oint; rw [if_pos HF.out]; simp [oput, he])
            go_wp2_with fail
            have HSA := Lib.hid (HST.out.alloc #[.int .u8 kd, .string (bsOf s), .int .i64 n, .int .i64 kk] 59)
            refine (St.call 1 HSA.out rfl (OutInt_spec _ (t, e) n kk hn.1 hn.2 (by simp; omega))).mono ?_
            rintro e w2 ⟨v, A', N, rfl, ⟨rfl, rfl, rfl⟩, H1⟩
            have H2 : St (fun _ => False) w (BlkR wr.heap.size 59 #[.int .u8 kd, .string (bsOf s), .int .i64 n, .int .i64 kk] :: OutR w1.heap.size ((t, e)) :: Rs) w2 := by
              have h := H1
              simp only [List.cons_append, List.nil_append, List.set_cons_zero, List.set_cons_succ, HE.out] at h
              exact h
            have d0 : w2.cell? ⟨wr.heap.size, 0, none⟩ = some (.int .u8 kd) := heap_at (St.blk 0 H2 rfl) 0
            have d1 : w2.cell? ⟨wr.heap.size, 1, none⟩ = some (.string (bsOf s)) := heap_at (St.blk 0 H2 rfl) 1
            have d2 : w2.cell? ⟨wr.heap.size, 2, none⟩ = some (.int .i64 n) := heap_at (St.blk 0 H2 rfl) 2
            have d3 : w2.cell? ⟨wr.heap.size, 3, none⟩ = some (.int .i64 kk) := heap_at (St.blk 0 H2 rfl) 3
            have HSB := Lib.hid H2
            clear H1 H2
            go_wp2_with fail
            refine (St.call0 HSB.out (RFits_any n kk hn.1 hn.2)).mono ?_
            rintro e1 w3 ⟨v, N, rfl, ⟨rfl, rfl⟩, H1⟩
            rw [HF.out]
            (try simp only [List.cons_append, List.nil_append] at H1)
            have w3d0 : w3.cell? ⟨wr.heap.size, 0, none⟩ = some (.int .u8 kd) := heap_at (St.blk 0 H1 rfl) 0
            have w3d1 : w3.cell? ⟨wr.heap.size, 1, none⟩ = some (.string (bsOf s)) := heap_at (St.blk 0 H1 rfl) 1
            have w3d2 : w3.cell? ⟨wr.heap.size, 2, none⟩ = some (.int .i64 n) := heap_at (St.blk 0 H1 rfl) 2
            have w3d3 : w3.cell? ⟨wr.heap.size, 3, none⟩ = some (.int .i64 kk) := heap_at (St.blk 0 H1 rfl) 3
            have HSB3 := Lib.hid H1
            clear H1
            go_wp2_with fail
            refine (St.call0 HSB3.out (RBytes_any n kk hn.1 hn.2 hkk8)).mono ?_
            rintro e1 w4 ⟨v, N, rfl, ⟨rfl, rfl⟩, H1⟩
            (try simp only [List.cons_append, List.nil_append] at H1)
            have w4d0 : w4.cell? ⟨wr.heap.size, 0, none⟩ = some (.int .u8 kd) := heap_at (St.blk 0 H1 rfl) 0
            have w4d1 : w4.cell? ⟨wr.heap.size, 1, none⟩ = some (.string (bsOf s)) := heap_at (St.blk 0 H1 rfl) 1
            have w4d2 : w4.cell? ⟨wr.heap.size, 2, none⟩ = some (.int .i64 n) := heap_at (St.blk 0 H1 rfl) 2
            have w4d3 : w4.cell? ⟨wr.heap.size, 3, none⟩ = some (.int .i64 kk) := heap_at (St.blk 0 H1 rfl) 3
            have HSB4 := Lib.hid H1
            clear H1
            go_wp2_with fail
            refine (St.call 1 (HSB4).out rfl (Len_spec _ _)).mono ?_
            rintro e w1 ⟨v, A', N, rfl, ⟨rfl, rfl, rfl⟩, H1⟩
            try simp only [List.cons_append, List.nil_append, List.set_cons_zero, List.set_cons_succ, bsOf_list] at H1
            have HSC := Lib.hid H1
            clear H1
            go_wp2_with fail
            refine (St.call 1 (HSC).out rfl (Err_spec _ _)).mono ?_
            rintro e w1 ⟨v, A', N, rfl, ⟨rfl, rfl, rfl⟩, H1⟩
            try simp only [List.cons_append, List.nil_append, List.set_cons_zero, List.set_cons_succ, bsOf_list] at H1
            have HSD := Lib.hid H1
            clear H1
            go_wp2_with fail
            go_roundw
            case rel => exact ⟨i + 1, ((t, e)), _, by omega, by go_num, rfl, rfl, by simp; omega, by omega, (HSD.out.swap01)⟩
            case measure => simp [intOf]; omega
        · have HF := Lib.hid (show fits n k = false by simpa using hf)
          clear hf
          by_cases he : e = 0
          · subst he
            have HE := Lib.hid (show oint (t, 0) n k = (t, 11) by unfold oint; rw [if_neg (by rw [HF.out]; decide)]; simp [ofail])
            go_wp2_with fail
            have HSA := Lib.hid (HST.out.alloc #[.int .u8 kd, .string (bsOf s), .int .i64 n, .int .i64 k] 59)
            refine (St.call 1 HSA.out rfl (OutInt_spec _ (t, 0) n k hn.1 hn.2 (by simp; omega))).mono ?_
            rintro e w2 ⟨v, A', N, rfl, ⟨rfl, rfl, rfl⟩, H1⟩
            have H2 : St (fun _ => False) w (BlkR wr.heap.size 59 #[.int .u8 kd, .string (bsOf s), .int .i64 n, .int .i64 k] :: OutR w1.heap.size ((t, 11)) :: Rs) w2 := by
              have h := H1
              simp only [List.cons_append, List.nil_append, List.set_cons_zero, List.set_cons_succ, HE.out] at h
              exact h
            have d0 : w2.cell? ⟨wr.heap.size, 0, none⟩ = some (.int .u8 kd) := heap_at (St.blk 0 H2 rfl) 0
            have d1 : w2.cell? ⟨wr.heap.size, 1, none⟩ = some (.string (bsOf s)) := heap_at (St.blk 0 H2 rfl) 1
            have d2 : w2.cell? ⟨wr.heap.size, 2, none⟩ = some (.int .i64 n) := heap_at (St.blk 0 H2 rfl) 2
            have d3 : w2.cell? ⟨wr.heap.size, 3, none⟩ = some (.int .i64 k) := heap_at (St.blk 0 H2 rfl) 3
            have HSB := Lib.hid H2
            clear H1 H2
            go_wp2_with fail
            refine (St.call0 HSB.out (RFits_any n k hn.1 hn.2)).mono ?_
            rintro e1 w3 ⟨v, N, rfl, ⟨rfl, rfl⟩, H1⟩
            rw [HF.out]
            (try simp only [List.cons_append, List.nil_append] at H1)
            have w3d0 : w3.cell? ⟨wr.heap.size, 0, none⟩ = some (.int .u8 kd) := heap_at (St.blk 0 H1 rfl) 0
            have w3d1 : w3.cell? ⟨wr.heap.size, 1, none⟩ = some (.string (bsOf s)) := heap_at (St.blk 0 H1 rfl) 1
            have w3d2 : w3.cell? ⟨wr.heap.size, 2, none⟩ = some (.int .i64 n) := heap_at (St.blk 0 H1 rfl) 2
            have w3d3 : w3.cell? ⟨wr.heap.size, 3, none⟩ = some (.int .i64 k) := heap_at (St.blk 0 H1 rfl) 3
            have HSB3 := Lib.hid H1
            clear H1
            go_wp2_with fail
            refine (St.call 1 (HSB3).out rfl (Len_spec _ _)).mono ?_
            rintro e w1 ⟨v, A', N, rfl, ⟨rfl, rfl, rfl⟩, H1⟩
            try simp only [List.cons_append, List.nil_append, List.set_cons_zero, List.set_cons_succ, bsOf_list] at H1
            have HSC := Lib.hid H1
            clear H1
            go_wp2_with fail
            refine (St.call 1 (HSC).out rfl (Err_spec _ _)).mono ?_
            rintro e w1 ⟨v, A', N, rfl, ⟨rfl, rfl, rfl⟩, H1⟩
            try simp only [List.cons_append, List.nil_append, List.set_cons_zero, List.set_cons_succ, bsOf_list] at H1
            have HSD := Lib.hid H1
            clear H1
            go_wp2_with fail
            go_roundw
            case rel => exact ⟨i + 1, ((t, 11)), _, by omega, by go_num, rfl, rfl, by simp; omega, by omega, (HSD.out.swap01)⟩
            case measure => simp [intOf]; omega
          · have hb : (e == 0) = false := beq_eq_false_iff_ne.2 he
            have HE := Lib.hid (show oint (t, e) n k = (t, e) by unfold oint; rw [if_neg (by rw [HF.out]; decide)]; simp [ofail, he])
            go_wp2_with fail
            have HSA := Lib.hid (HST.out.alloc #[.int .u8 kd, .string (bsOf s), .int .i64 n, .int .i64 k] 59)
            refine (St.call 1 HSA.out rfl (OutInt_spec _ (t, e) n k hn.1 hn.2 (by simp; omega))).mono ?_
            rintro e w2 ⟨v, A', N, rfl, ⟨rfl, rfl, rfl⟩, H1⟩
            have H2 : St (fun _ => False) w (BlkR wr.heap.size 59 #[.int .u8 kd, .string (bsOf s), .int .i64 n, .int .i64 k] :: OutR w1.heap.size ((t, e)) :: Rs) w2 := by
              have h := H1
              simp only [List.cons_append, List.nil_append, List.set_cons_zero, List.set_cons_succ, HE.out] at h
              exact h
            have d0 : w2.cell? ⟨wr.heap.size, 0, none⟩ = some (.int .u8 kd) := heap_at (St.blk 0 H2 rfl) 0
            have d1 : w2.cell? ⟨wr.heap.size, 1, none⟩ = some (.string (bsOf s)) := heap_at (St.blk 0 H2 rfl) 1
            have d2 : w2.cell? ⟨wr.heap.size, 2, none⟩ = some (.int .i64 n) := heap_at (St.blk 0 H2 rfl) 2
            have d3 : w2.cell? ⟨wr.heap.size, 3, none⟩ = some (.int .i64 k) := heap_at (St.blk 0 H2 rfl) 3
            have HSB := Lib.hid H2
            clear H1 H2
            go_wp2_with fail
            refine (St.call0 HSB.out (RFits_any n k hn.1 hn.2)).mono ?_
            rintro e1 w3 ⟨v, N, rfl, ⟨rfl, rfl⟩, H1⟩
            rw [HF.out]
            (try simp only [List.cons_append, List.nil_append] at H1)
            have w3d0 : w3.cell? ⟨wr.heap.size, 0, none⟩ = some (.int .u8 kd) := heap_at (St.blk 0 H1 rfl) 0
            have w3d1 : w3.cell? ⟨wr.heap.size, 1, none⟩ = some (.string (bsOf s)) := heap_at (St.blk 0 H1 rfl) 1
            have w3d2 : w3.cell? ⟨wr.heap.size, 2, none⟩ = some (.int .i64 n) := heap_at (St.blk 0 H1 rfl) 2
            have w3d3 : w3.cell? ⟨wr.heap.size, 3, none⟩ = some (.int .i64 k) := heap_at (St.blk 0 H1 rfl) 3
            have HSB3 := Lib.hid H1
            clear H1
            go_wp2_with fail
            refine (St.call 1 (HSB3).out rfl (Len_spec _ _)).mono ?_
            rintro e w1 ⟨v, A', N, rfl, ⟨rfl, rfl, rfl⟩, H1⟩
            try simp only [List.cons_append, List.nil_append, List.set_cons_zero, List.set_cons_succ, bsOf_list] at H1
            have HSC := Lib.hid H1
            clear H1
            go_wp2_with fail
            refine (St.call 1 (HSC).out rfl (Err_spec _ _)).mono ?_
            rintro e w1 ⟨v, A', N, rfl, ⟨rfl, rfl, rfl⟩, H1⟩
            try simp only [List.cons_append, List.nil_append, List.set_cons_zero, List.set_cons_succ, bsOf_list] at H1
            have HSD := Lib.hid H1
            clear H1
            go_wp2_with fail
            go_roundw
            case rel => exact ⟨i + 1, ((t, e)), _, by omega, by go_num, rfl, rfl, by simp; omega, by omega, (HSD.out.swap01)⟩
            case measure => simp [intOf]; omega
      · by_cases hz : n = 0
        · subst hz
          go_wp2_with fail
          go_ret
          exact ⟨rfl, (HST.out.alloc #[.int .u8 kd, .string (bsOf s), .int .i64 0, .int .i64 k] 59).below⟩
        · by_cases he : e = 0
          · subst he
            have HE := Lib.hid (show ofail (t, 0) n = (t, n) by simp [ofail])
            have hb : (n == 0) = false := beq_eq_false_iff_ne.2 hz
            go_wp2_with fail
            have HSA := Lib.hid (HST.out.alloc #[.int .u8 kd, .string (bsOf s), .int .i64 n, .int .i64 k] 59)
            refine (St.call 1 HSA.out rfl (Fail_spec _ (t, 0) n)).mono ?_
            rintro e w2 ⟨v, A', N, rfl, ⟨rfl, rfl, rfl⟩, H1⟩
            have H2 : St (fun _ => False) w (BlkR wr.heap.size 59 #[.int .u8 kd, .string (bsOf s), .int .i64 n, .int .i64 k] :: OutR w1.heap.size ((t, n)) :: Rs) w2 := by
              have h := H1
              simp only [List.cons_append, List.nil_append, List.set_cons_zero, List.set_cons_succ, HE.out] at h
              exact h
            have d0 : w2.cell? ⟨wr.heap.size, 0, none⟩ = some (.int .u8 kd) := heap_at (St.blk 0 H2 rfl) 0
            have d1 : w2.cell? ⟨wr.heap.size, 1, none⟩ = some (.string (bsOf s)) := heap_at (St.blk 0 H2 rfl) 1
            have d2 : w2.cell? ⟨wr.heap.size, 2, none⟩ = some (.int .i64 n) := heap_at (St.blk 0 H2 rfl) 2
            have d3 : w2.cell? ⟨wr.heap.size, 3, none⟩ = some (.int .i64 k) := heap_at (St.blk 0 H2 rfl) 3
            have HSB := Lib.hid H2
            clear H1 H2
            go_wp2_with fail
            refine (St.call 1 (HSB).out rfl (Len_spec _ _)).mono ?_
            rintro e w1 ⟨v, A', N, rfl, ⟨rfl, rfl, rfl⟩, H1⟩
            try simp only [List.cons_append, List.nil_append, List.set_cons_zero, List.set_cons_succ, bsOf_list] at H1
            have HSC := Lib.hid H1
            clear H1
            go_wp2_with fail
            refine (St.call 1 (HSC).out rfl (Err_spec _ _)).mono ?_
            rintro e w1 ⟨v, A', N, rfl, ⟨rfl, rfl, rfl⟩, H1⟩
            try simp only [List.cons_append, List.nil_append, List.set_cons_zero, List.set_cons_succ, bsOf_list] at H1
            have HSD := Lib.hid H1
            clear H1
            go_wp2_with fail
            go_roundw
            case rel => exact ⟨i + 1, ((t, n)), _, by omega, by go_num, rfl, rfl, by simp; omega, by exact hn, (HSD.out.swap01)⟩
            case measure => simp [intOf]; omega
          · have HE := Lib.hid (show ofail (t, e) n = (t, e) by simp [ofail, he])
            have hb0 : (n == 0) = false := beq_eq_false_iff_ne.2 hz
            have hb : (e == 0) = false := beq_eq_false_iff_ne.2 he
            go_wp2_with fail
            have HSA := Lib.hid (HST.out.alloc #[.int .u8 kd, .string (bsOf s), .int .i64 n, .int .i64 k] 59)
            refine (St.call 1 HSA.out rfl (Fail_spec _ (t, e) n)).mono ?_
            rintro e w2 ⟨v, A', N, rfl, ⟨rfl, rfl, rfl⟩, H1⟩
            have H2 : St (fun _ => False) w (BlkR wr.heap.size 59 #[.int .u8 kd, .string (bsOf s), .int .i64 n, .int .i64 k] :: OutR w1.heap.size ((t, e)) :: Rs) w2 := by
              have h := H1
              simp only [List.cons_append, List.nil_append, List.set_cons_zero, List.set_cons_succ, HE.out] at h
              exact h
            have d0 : w2.cell? ⟨wr.heap.size, 0, none⟩ = some (.int .u8 kd) := heap_at (St.blk 0 H2 rfl) 0
            have d1 : w2.cell? ⟨wr.heap.size, 1, none⟩ = some (.string (bsOf s)) := heap_at (St.blk 0 H2 rfl) 1
            have d2 : w2.cell? ⟨wr.heap.size, 2, none⟩ = some (.int .i64 n) := heap_at (St.blk 0 H2 rfl) 2
            have d3 : w2.cell? ⟨wr.heap.size, 3, none⟩ = some (.int .i64 k) := heap_at (St.blk 0 H2 rfl) 3
            have HSB := Lib.hid H2
            clear H1 H2
            go_wp2_with fail
            refine (St.call 1 (HSB).out rfl (Len_spec _ _)).mono ?_
            rintro e w1 ⟨v, A', N, rfl, ⟨rfl, rfl, rfl⟩, H1⟩
            try simp only [List.cons_append, List.nil_append, List.set_cons_zero, List.set_cons_succ, bsOf_list] at H1
            have HSC := Lib.hid H1
            clear H1
            go_wp2_with fail
            refine (St.call 1 (HSC).out rfl (Err_spec _ _)).mono ?_
            rintro e w1 ⟨v, A', N, rfl, ⟨rfl, rfl, rfl⟩, H1⟩
            try simp only [List.cons_append, List.nil_append, List.set_cons_zero, List.set_cons_succ, bsOf_list] at H1
            have HSD := Lib.hid H1
            clear H1
            go_wp2_with fail
            go_roundw
            case rel => exact ⟨i + 1, ((t, e)), _, by omega, by go_num, rfl, rfl, by simp; omega, by exact hst2, (HSD.out.swap01)⟩
            case measure => simp [intOf]; omega
    · obtain ⟨t, e⟩ := st
      simp only at hlen hst2
      by_cases he : e = 0
      · subst he
        have HO := Lib.hid (show otext (t, 0) = .tuple #[.string (bsOf t), .int .i64 0] from rfl)
        have hne : (t == t) = true := by simp
        go_wp2_with fail
        refine (St.call 0 (HST).out rfl (Text_spec _ _)).mono ?_
        rintro e w1 ⟨v, A', N, rfl, ⟨hv, rfl, rfl⟩, H1⟩
        try simp only [List.cons_append, List.nil_append, List.set_cons_zero, List.set_cons_succ, bsOf_list] at H1
        have hv2 := Eq.trans hv HO.out
        clear hv
        subst hv2
        have HSC := Lib.hid H1
        clear H1
        go_wp2_with fail
        go_ret
        exact ⟨rfl, HSC.out.below⟩
      · have HO := Lib.hid (show otext (t, e) = .tuple #[.string ⟨#[]⟩, .int .i64 e] by unfold otext; rw [if_neg he])
        have hb : (e != 0) = true := bne_iff_ne.2 he
        go_wp2_with fail
        refine (St.call 0 (HST).out rfl (Text_spec _ _)).mono ?_
        rintro e w1 ⟨v, A', N, rfl, ⟨hv, rfl, rfl⟩, H1⟩
        try simp only [List.cons_append, List.nil_append, List.set_cons_zero, List.set_cons_succ, bsOf_list] at H1
        have hv2 := Eq.trans hv HO.out
        clear hv
        subst hv2
        have HSC := Lib.hid H1
        clear H1
        go_wp2_with fail
        go_ret
        exact ⟨rfl, HSC.out.below⟩
end Go.Proofs.Ytaakchnddcphkaa.Sl
