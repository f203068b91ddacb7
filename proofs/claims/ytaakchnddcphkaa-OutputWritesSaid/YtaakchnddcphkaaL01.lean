/- the statements of layer 1: what they begin with; rows of numbers. -/
import Derived.Test.YtaakchnddcphkaaR01
import Derived.Test.YtaakchnddcphkaaRd
namespace Go.Proofs.Ytaakchnddcphkaa.Sl
open Go.RowKit Go.ChangeShapes
set_option linter.unusedVariables false
set_option linter.unusedSimpArgs false
attribute [local go_sem] bsOf_toList bsOf_size
set_option maxRecDepth 100000 in
theorem speaks01 : Spec0 Try.prog 41 #[] (fun v N => v = .bool true ∧ N = []) := by
  intro w
  have HS := Lib.hid (St.nil_ w)
  have E1 : iint ⟨[255, 254], 0, 0⟩ 2 = (-2, ⟨[], 2, 0⟩) := by kernel_rfl
  have E2 : iint ⟨[], 2, 0⟩ 1 = (0, ⟨[], 2, 1⟩) := by kernel_rfl
  have E3 : iclose ⟨[], 2, 0⟩ = ⟨[], 2, 0⟩ := by kernel_rfl
  have HE := Lib.hid (And.intro E1 (And.intro E2 E3))
  clear E1 E2 E3
  go_enter Try.func41, Try.ntmps41
  go_wp2_with fail
  refine (St.call0 (HS).out (New_spec (bsOf [255, 254]) (by decide))).mono ?_
  rintro e w1 ⟨v, N, rfl, ⟨g, rfl, rfl⟩, H1⟩
  try simp only [List.cons_append, List.nil_append, List.set_cons_zero, List.set_cons_succ, bsOf_list] at H1
  have HS1 := Lib.hid H1
  clear H1
  go_wp2_with fail
  refine (St.call 0 (HS1).out rfl (IInt_spec g _ 2)).mono ?_
  rintro e w1 ⟨v, A', N, rfl, ⟨rfl, rfl, rfl⟩, H1⟩
  try simp only [List.cons_append, List.nil_append, List.set_cons_zero, List.set_cons_succ, bsOf_list] at H1
  try rw [HE.out.1] at H1
  try rw [HE.out.1]
  have HS2 := Lib.hid H1
  clear H1
  go_wp2_with fail
  refine (St.call 0 (HS2).out rfl (Left_spec g _)).mono ?_
  rintro e w1 ⟨v, A', N, rfl, ⟨rfl, rfl, rfl⟩, H1⟩
  try simp only [List.cons_append, List.nil_append, List.set_cons_zero, List.set_cons_succ, bsOf_list] at H1
  have HS3 := Lib.hid H1
  clear H1
  go_wp2_with fail
  refine (St.call 0 (HS3).out rfl (Close_spec g _)).mono ?_
  rintro e w1 ⟨v, A', N, rfl, ⟨rfl, rfl, rfl⟩, H1⟩
  try simp only [List.cons_append, List.nil_append, List.set_cons_zero, List.set_cons_succ, bsOf_list] at H1
  try rw [HE.out.2.2] at H1
  try rw [HE.out.2.2]
  have HS4 := Lib.hid H1
  clear H1
  go_wp2_with fail
  refine (St.call 0 (HS4).out rfl (IInt_spec g _ 1)).mono ?_
  rintro e w1 ⟨v, A', N, rfl, ⟨rfl, rfl, rfl⟩, H1⟩
  try simp only [List.cons_append, List.nil_append, List.set_cons_zero, List.set_cons_succ, bsOf_list] at H1
  try rw [HE.out.2.1] at H1
  try rw [HE.out.2.1]
  have HS5 := Lib.hid H1
  clear H1
  go_wp2_with fail
  refine (St.call 0 (HS5).out rfl (IErr_spec g _)).mono ?_
  rintro e w1 ⟨v, A', N, rfl, ⟨rfl, rfl, rfl⟩, H1⟩
  try simp only [List.cons_append, List.nil_append, List.set_cons_zero, List.set_cons_succ, bsOf_list] at H1
  have HS6 := Lib.hid H1
  clear H1
  go_wp2_with fail
  go_ret
  exact ⟨_, _, rfl, ⟨rfl, rfl⟩, HS6.out.drop_⟩

/-- Numbers as cells. -/
def intCells (l : List Int) : List Value := l.map (Value.int .i64)
/-- A row of numbers that is read. -/
def IntsAt (w : World) (v : Value) (l : List Int) : Prop := ∃ a c, v = .slice a l.length c ∧ ∀ i x, l[i]? = some x → ∃ b, a = some b ∧ w.cell? (b.add i) = some (.int .i64 x)
theorem IntsAt.of_row {w : World} {v : Value} {n : Nat} {l : List Int} (h : w.ownsRow 0 3 1 v n (intCells l)) : IntsAt w v l := by
  have hl : l.length = n := by have := h.1; simpa [intCells] using this
  subst hl
  rcases h.2 with ⟨rfl, h0⟩ | ⟨g, cap, cur, rfl, _⟩
  · have : l = [] := List.eq_nil_of_length_eq_zero h0
    subst this
    exact ⟨none, 0, rfl, fun i x hx => by simp at hx⟩
  · exact ⟨_, cap, rfl, fun i x hx => ⟨_, rfl, h.cells (g := g) rfl i _ (by simp [intCells, hx])⟩⟩
theorem IntsAt.of_rd {w : World} {S : Nat → Prop} {v : Value} {l : List Int} (h : (sliceRd 1 (intRd .i64)).P w S [v] l) : IntsAt w v l ∧ ∀ x ∈ l, -9223372036854775808 ≤ x ∧ x ≤ 9223372036854775807 := by
  rcases h with ⟨h, rfl⟩ | ⟨a, cap, h, _, _, _, h2⟩
  · injection h with h
    subst h
    exact ⟨⟨none, 0, rfl, fun i x hx => by simp at hx⟩, fun x hx => by simp at hx⟩
  · injection h with h
    subst h
    refine ⟨⟨_, _, rfl, fun i x hx => ⟨a, rfl, ?_⟩⟩, fun x hx => ?_⟩
    · obtain ⟨cs, h3, h4, rfl, _⟩ := h2 i x hx
      simpa using h4 0 (by omega)
    · obtain ⟨i, hi⟩ := List.getElem?_of_mem hx
      obtain ⟨cs, h3, h4, _, h5⟩ := h2 i x hi
      exact Go.bounds_i64 h5
set_option maxRecDepth 100000 in
theorem RSame_any (a b : Value) (l m : List Int) (w : World) (ha : IntsAt w a l) (hb : IntsAt w b m) (hl : l.length ≤ 9223372036854775807) :
    Calls Try.prog 44 #[a, b] w fun e w' => e = .returned (.bool (l == m)) ∧ ∃ k, w' = w.drewN k := by
  obtain ⟨pa, ca, rfl, ra⟩ := ha
  obtain ⟨pb, cb, rfl, rb⟩ := hb
  by_cases hlen : l.length = m.length
  · have HL := Lib.hid hlen
    have h0 : ((l.length : Int) != (m.length : Int)) = false := by simp [hlen]
    have RA := Lib.hid ra
    have RB := Lib.hid rb
    clear ra rb hlen
    go_enter Try.func44, Try.ntmps44
    go_wp2_with fail
    go_loopw [5] (fun iv wr => ∃ i k : Nat, i ≤ l.length ∧ iv = .int .i64 i ∧ l.take i = m.take i ∧ wr = w.drewN k) (fun i _ => l.length - (intOf i).toNat)
    case atStart => exact ⟨0, 0, by omega, rfl, by simp, rfl⟩
    case round =>
      obtain ⟨i, k, hi, rfl, ht, rfl⟩ := hrel
      by_cases hlt : i < l.length
      · obtain ⟨p, rfl, hp⟩ := RA.out i l[i] (by rw [List.getElem?_eq_getElem hlt])
        obtain ⟨q, rfl, hq⟩ := RB.out i (m[i]'(by have := HL.out; omega)) (by rw [List.getElem?_eq_getElem])
        have hp1 : (w.drewN k).cell? (p.add i) = some (.int .i64 l[i]) := hp
        have hq1 : (w.drewN k).cell? (q.add i) = some (.int .i64 (m[i]'(by have := HL.out; omega))) := hq
        have hlm : i < m.length := by have := HL.out; omega
        have hb : i ≤ 9223372036854775806 := by omega
        have T1 := Lib.hid (List.take_succ_eq_append_getElem (l := l) (i := i) hlt)
        have T2 := Lib.hid (List.take_succ_eq_append_getElem (l := m) (i := i) hlm)
        have HT := Lib.hid ht
        have HNE := Lib.hid (show l[i] ≠ m[i] → (l == m) = false from fun h => by rw [beq_eq_false_iff_ne]; intro h2; subst h2; exact h rfl)
        generalize l[i] = x at *
        generalize m[i] = y at *
        clear ht
        by_cases hxy : x = y
        · have HXY := Lib.hid hxy
          have hne : (x != y) = false := by simp [hxy]
          clear hxy
          go_wp2_with fail
          go_quiet (fail)
          go_wp2_with fail
          go_roundw
          case rel => exact ⟨i + 1, k + nq, by omega, by go_num, by rw [T1.out, T2.out, HT.out, HXY.out], rfl⟩
          case measure => simp [intOf]; omega
        · have hne : (x != y) = true := by simp [hxy]
          have HR := Lib.hid (HNE.out hxy)
          clear hxy
          go_wp2_with fail
          go_quiet (fail)
          go_wp2_with fail
          go_ret
          exact ⟨ret_bool HR.out.symm, k + nq, by rw [World.drewN_drewN]⟩
      · have HR := Lib.hid (show (l == m) = true by
          have h1 : i = l.length := by omega
          have h2 := HL.out
          rw [List.take_of_length_le (by omega), List.take_of_length_le (by omega)] at ht
          rw [ht, beq_self_eq_true])
        clear ht
        go_wp2_with fail
        go_ret
        exact ⟨ret_bool HR.out.symm, k, rfl⟩
  · have h0 : ((l.length : Int) != (m.length : Int)) = true := by simp; omega
    have HR := Lib.hid (show (l == m) = false by rw [beq_eq_false_iff_ne]; intro h; exact hlen (by rw [h]))
    clear hlen ra rb
    go_enter Try.func44, Try.ntmps44
    go_wp2_with fail
    go_ret
    exact ⟨ret_bool HR.out.symm, 0, rfl⟩
theorem infoInt : (Try.prog.info? 3).map (fun i => (i.zero, i.size, i.bytes)) = some (some (.int .i64 0), 1, 8) := by kernel_rfl
theorem intCells_append (l m : List Int) : intCells (l ++ m) = intCells l ++ intCells m := by simp [intCells]
/-- The bytes of the numbers that fit. -/
def beAll (size : Nat) (l : List Int) : List UInt8 := l.flatMap fun n => be n size
def fitting (size : Nat) (l : List Int) : List Int := l.filter fun n => fits n size
theorem beAll_snoc (size : Nat) (l : List Int) (n : Int) : beAll size (l ++ [n]) = beAll size l ++ be n size := by simp [beAll]
theorem beAll_length (size : Nat) (l : List Int) : (beAll size l).length = l.length * size := by
  induction l with
  | nil => simp [beAll]
  | cons n l ih => simp [beAll, be_length] at ih ⊢; rw [ih, Nat.add_mul]; omega
theorem fitting_snoc (size : Nat) (l : List Int) (n : Int) : fitting size (l ++ [n]) = if fits n size then fitting size l ++ [n] else fitting size l := by
  unfold fitting
  rw [List.filter_append]
  by_cases h : fits n size = true
  · simp [h]
  · simp at h; simp [h]
theorem opens_ints {H : Type} {enc : TypeId × Value → H} : Opens enc Try.prog 53 (sliceRd 1 (intRd .i64)) :=
  opens_slice 1 Try.underlying53 (by kernel_rfl) (by decide) (opens_int Try.underlying3)
theorem bsOf_append (a b : List UInt8) : bsOf a ++ bsOf b = bsOf (a ++ b) := by
  apply ByteArray.ext
  simp [bsOf]
theorem iint_be (k : Nat) (h1 : 1 ≤ k) (h8 : k ≤ 8) (n : Int) (hf : fits n k = true) (r : List UInt8) (p : Nat) : iint ⟨be n k ++ r, p, 0⟩ k = (n, ⟨r, p + k, 0⟩) := by
  have h := iint_all (be n k) p (by rw [be_length]; exact h1) (by rw [be_length]; exact h8) r
  rw [be_length, beInt_be n k h1 h8 hf] at h
  exact h
theorem beAll_cons (size : Nat) (n : Int) (l : List Int) : beAll size (n :: l) = be n size ++ beAll size l := by simp [beAll]
theorem fitting_fits {size : Nat} {l : List Int} {n : Int} (h : n ∈ fitting size l) : fits n size = true := by simpa [fitting] using (List.mem_filter.1 h).2
theorem fitting_length (size : Nat) (l : List Int) : (fitting size l).length ≤ l.length := List.length_filter_le _ _
set_option maxRecDepth 100000 in
set_option maxHeartbeats 1000000 in
theorem InputBack_walk (w : World) (v : Value) (l : List Int) (size : Int) (hv : (sliceRd 1 (intRd .i64)).P w (fun k => k < w.heap.size) [v] l) (hs0 : -9223372036854775808 ≤ size) (hs1 : size ≤ 9223372036854775807) :
    Calls Try.prog 10 #[v, .int .i64 size] w fun e w' => e = .returned (.bool true) ∧ Below w.heap.size w w' := by
  have HS := Lib.hid (St.nil_ w)
  have HR := Lib.hid (IntsAt.of_rd hv).2
  obtain ⟨a, c, rfl, hcell⟩ := sliceRd_open (by decide) hv
  have HC := Lib.hid hcell
  clear hv hcell
  by_cases h60 : 60 < (l.length : Int)
  · go_enter Try.func10, Try.ntmps10
    go_wp2_with fail
    refine (St.call0 (HS).out speaks01).mono ?_
    rintro e w1 ⟨v, N, rfl, ⟨rfl, rfl⟩, H1⟩
    try simp only [List.cons_append, List.nil_append, List.set_cons_zero, List.set_cons_succ, bsOf_list] at H1
    have HS1 := Lib.hid H1
    clear H1
    go_wp2_with fail
    go_ret
    exact ⟨rfl, HS1.out.below⟩
  by_cases hz : size < 1
  · go_enter Try.func10, Try.ntmps10
    go_wp2_with fail
    refine (St.call0 (HS).out speaks01).mono ?_
    rintro e w1 ⟨v, N, rfl, ⟨rfl, rfl⟩, H1⟩
    try simp only [List.cons_append, List.nil_append, List.set_cons_zero, List.set_cons_succ, bsOf_list] at H1
    have HS1 := Lib.hid H1
    clear H1
    go_wp2_with fail
    go_ret
    exact ⟨rfl, HS1.out.below⟩
  by_cases h8 : 8 < size
  · go_enter Try.func10, Try.ntmps10
    go_wp2_with fail
    refine (St.call0 (HS).out speaks01).mono ?_
    rintro e w1 ⟨v, N, rfl, ⟨rfl, rfl⟩, H1⟩
    try simp only [List.cons_append, List.nil_append, List.set_cons_zero, List.set_cons_succ, bsOf_list] at H1
    have HS1 := Lib.hid H1
    clear H1
    go_wp2_with fail
    go_ret
    exact ⟨rfl, HS1.out.below⟩
  obtain ⟨k, rfl⟩ : ∃ k : Nat, size = k := ⟨size.toNat, by omega⟩
  have hk1 : 1 ≤ k := by omega
  have hk8 : k ≤ 8 := by omega
  have hl60 : l.length ≤ 60 := by omega
  go_enter Try.func10, Try.ntmps10
  go_wp2_with fail
  refine (St.call0 (HS).out speaks01).mono ?_
  rintro e w1 ⟨v, N, rfl, ⟨rfl, rfl⟩, H1⟩
  try simp only [List.cons_append, List.nil_append, List.set_cons_zero, List.set_cons_succ, bsOf_list] at H1
  have HS1 := Lib.hid H1
  clear H1
  go_wp2_with fail
  have HS2 := Lib.hid (RowR.lit (T := 3) (size := 1) HS1.out #[] 0 (by decide) rfl)
  go_loopw [5, 6, 27] (fun sv wv iv wr => ∃ i : Nat, i ≤ l.length ∧ iv = .int .i64 i ∧ sv = .string (bsOf (beAll k (fitting k (l.take i)))) ∧ St (fun _ => False) w [RowR 3 1 wv (fitting k (l.take i)).length (intCells (fitting k (l.take i)))] wr) (fun _ _ i _ => l.length - (intOf i).toNat)
  case atStart => exact ⟨0, by omega, rfl, rfl, HS2.out⟩
  case round =>
    obtain ⟨i, hi, rfl, rfl, hst⟩ := hrel
    have hfl := fitting_length k (l.take i)
    have hbl := beAll_length k (fitting k (l.take i))
    by_cases hlt : i < l.length
    · obtain ⟨g0, o, rfl, hbb, cs, hcl, hcs, rfl, _⟩ := HC.out i l[i] (List.getElem?_eq_getElem hlt)
      have hcell1 : wr.cell? ⟨g0, o + i, none⟩ = some (.int .i64 l[i]) := hst.old hbb (by have h := hcs 0 (by omega); rw [Nat.mul_one] at h; exact h)
      clear hcs
      have hx := HR.out l[i] (List.getElem_mem hlt)
      have HT := Lib.hid (fitting_snoc k (l.take i) l[i])
      rw [List.take_append_getElem] at HT
      generalize l[i] = x at *
      obtain ⟨hx1, hx2⟩ := hx
      have HST := Lib.hid hst
      clear hst
      by_cases hf : fits x k = true
      · have HF := Lib.hid hf
        have HT2 := Lib.hid (show fitting k (l.take (i + 1)) = fitting k (l.take i) ++ [x] by rw [HT.out, if_pos hf])
        clear hf
        generalize fitting k (l.take i) = m at *
        have hm60 : m.length ≤ 60 := by rw [List.length_take] at hfl; omega
        have hm8 : m.length * k ≤ 60 * 8 := Nat.mul_le_mul hm60 hk8
        have hbx := be_length x k
        have hsum : (beAll k m).length + (be x k).length ≤ 9223372036854775807 := by omega
        go_wp2_with fail
        refine (St.call0 (HST).out (RFits_any x k hx1 hx2)).mono ?_
        rintro e w1 ⟨v, N, rfl, ⟨rfl, rfl⟩, H1⟩
        try simp only [List.cons_append, List.nil_append, List.set_cons_zero, List.set_cons_succ, bsOf_list] at H1
        try rw [HF.out] at H1
        try rw [HF.out]
        have HST1 := Lib.hid H1
        clear H1
        go_wp2_with fail
        refine (St.call0 HST1.out (RBytes_any x k hx1 hx2 hk8)).mono ?_
        rintro e w2 ⟨v, N, rfl, ⟨rfl, rfl⟩, H2⟩
        have HST2 := Lib.hid (show St (fun _ => False) w [RowR 3 1 u6 m.length (intCells m)] w2 from H2)
        clear H2
        go_wp2_with (at_builtin; refine wp_append_one_at w2 rfl _ _ _ rfl 3 (.int .i64 0) 8 Try.underlying53 infoInt rfl u6 m.length (intCells m) rfl (RowR.row 0 HST2.out rfl) (.int .i64 x) rfl rfl (by omega) (by omega) ?_; intro v1 w3 ho1 hg hat; have H3 := Lib.hid (RowR.grown 0 HST2.out rfl ho1 hg hat); clear ho1 hg hat)
        go_roundw
        case rel =>
          refine ⟨i + 1, by omega, by go_num, by rw [HT2.out, bsOf_append, beAll_snoc], ?_⟩
          have h := H3.out
          rw [HT2.out, intCells_append, List.length_append]
          exact h
        case measure => simp [intOf]; omega
      · have HF := Lib.hid (show fits x k = false by simpa using hf)
        have HT2 := Lib.hid (show fitting k (l.take (i + 1)) = fitting k (l.take i) by rw [HT.out, if_neg hf])
        clear hf
        generalize fitting k (l.take i) = m at *
        go_wp2_with fail
        refine (St.call0 (HST).out (RFits_any x k hx1 hx2)).mono ?_
        rintro e w1 ⟨v, N, rfl, ⟨rfl, rfl⟩, H1⟩
        try simp only [List.cons_append, List.nil_append, List.set_cons_zero, List.set_cons_succ, bsOf_list] at H1
        try rw [HF.out] at H1
        try rw [HF.out]
        have HST1 := Lib.hid H1
        clear H1
        go_wp2_with fail
        go_roundw
        case rel => exact ⟨i + 1, by omega, by go_num, by rw [HT2.out], by rw [HT2.out]; exact HST1.out⟩
        case measure => simp [intOf]; omega
    · have e1 : i = l.length := by omega
      subst e1
      rw [List.take_length] at hst hfl hbl ⊢
      have HFM := Lib.hid (fun n (h : n ∈ fitting k l) => fitting_fits h)
      generalize fitting k l = m at *
      obtain ⟨a1, c1, rfl⟩ := row_slice (RowR.row 0 hst rfl)
      have hm8 : m.length * k ≤ 60 * 8 := Nat.mul_le_mul (by omega) hk8
      have HST := Lib.hid hst
      clear hst
      go_wp2_with fail
      refine (St.call0 (HST).out (New_spec (bsOf (beAll k m)) (by rw [bsOf_size]; omega))).mono ?_
      rintro e w1 ⟨v, N, rfl, ⟨g, rfl, rfl⟩, H1⟩
      try simp only [List.cons_append, List.nil_append, List.set_cons_zero, List.set_cons_succ, bsOf_list] at H1
      have HST1 := Lib.hid H1
      clear H1
      go_wp2_with fail
      have HSU := Lib.hid (RowR.lit (T := 3) (size := 1) HST1.out #[] 0 (by decide) rfl)
      go_loopw [10, 49] (fun gv jv ws => ∃ j : Nat, j ≤ m.length ∧ jv = .int .i64 j ∧ St (fun _ => False) w [RowR 3 1 gv (m.take j).length (intCells (m.take j)), InR g ⟨beAll k (m.drop j), j * k, 0⟩, RowR 3 1 (.slice a1 m.length c1) m.length (intCells m)] ws) (fun _ j _ => m.length - (intOf j).toNat)
      case atStart => exact ⟨0, by omega, rfl, by rw [Nat.zero_mul]; exact HSU.out⟩
      case round =>
        obtain ⟨j, hj, rfl, hst⟩ := hrel
        have HSV := Lib.hid hst
        clear hst
        by_cases hjl : j < m.length
        · have HD := Lib.hid (show iint ⟨beAll k (m.drop j), j * k, 0⟩ k = (m[j], ⟨beAll k (m.drop (j + 1)), (j + 1) * k, 0⟩) by
            rw [List.drop_eq_getElem_cons hjl, beAll_cons, iint_be k hk1 hk8 _ (HFM.out _ (List.getElem_mem hjl)), Nat.add_mul, Nat.one_mul])
          have HTK := Lib.hid (List.take_succ_eq_append_getElem (l := m) (i := j) hjl)
          generalize m[j] = x at *
          have hjt : (m.take j).length = j := by rw [List.length_take]; omega
          go_wp2_with fail
          refine (St.call 1 HSV.out rfl (IInt_spec g _ k)).mono ?_
          rintro e w2 ⟨v, A', N, rfl, ⟨rfl, rfl, rfl⟩, H2⟩
          rw [HD.out] at H2
          rw [HD.out]
          have HSW := Lib.hid (show St (fun _ => False) w [RowR 3 1 u10 (m.take j).length (intCells (m.take j)), InR g ⟨beAll k (m.drop (j + 1)), (j + 1) * k, 0⟩, RowR 3 1 (.slice a1 m.length c1) m.length (intCells m)] w2 from H2)
          clear H2
          go_wp2_with (at_builtin; refine wp_append_one_at w2 rfl _ _ _ rfl 3 (.int .i64 0) 8 Try.underlying53 infoInt rfl u10 (m.take j).length (intCells (m.take j)) rfl (RowR.row 0 HSW.out rfl) (.int .i64 x) rfl rfl (by omega) (by omega) ?_; intro v1 w3 ho1 hg hat; have H3 := Lib.hid (RowR.grown 0 HSW.out rfl ho1 hg hat); clear ho1 hg hat)
          go_roundw
          case rel =>
            refine ⟨j + 1, by omega, by go_num, ?_⟩
            have h := H3.out
            rw [HTK.out, intCells_append, List.length_append]
            exact h
          case measure => simp [intOf]; omega
        · have e1 : j = m.length := by omega
          subst e1
          have H1 := HSV.out
          rw [List.take_length, List.drop_length] at H1
          have HSW := Lib.hid H1
          clear HSV H1
          go_wp2_with fail
          refine (RSame_any _ _ m m _ (IntsAt.of_row (RowR.row 0 HSW.out rfl)) (IntsAt.of_row (RowR.row 2 HSW.out rfl)) (by omega)).mono ?_
          rintro e w2 ⟨rfl, n2, rfl⟩
          rw [beq_self_eq_true]
          have HSX := Lib.hid (HSW.out.drewN n2)
          go_wp2_with fail
          refine (St.call 1 (HSX).out rfl (Close_spec g _)).mono ?_
          rintro e w1 ⟨v, A', N, rfl, ⟨rfl, rfl, rfl⟩, H1⟩
          try simp only [List.cons_append, List.nil_append, List.set_cons_zero, List.set_cons_succ, bsOf_list] at H1
          try rw [(iclose_nil _ _)] at H1
          try rw [(iclose_nil _ _)]
          have HSY := Lib.hid H1
          clear H1
          go_wp2_with fail
          go_ret
          exact ⟨rfl, HSY.out.below⟩
end Go.Proofs.Ytaakchnddcphkaa.Sl