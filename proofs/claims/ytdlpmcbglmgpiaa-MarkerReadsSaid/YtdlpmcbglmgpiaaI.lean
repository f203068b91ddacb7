/- package input: what each of its functions does to an Input, for every Input and every argument. -/
import Derived.Test.YtdlpmcbglmgpiaaO
import Derived.Lib.Strings
import Derived.Laws.BitsLemmas
namespace Go.Proofs.Ytdlpmcbglmgpiaa.Sl
open Go.RowKit
set_option linter.unusedVariables false
set_option linter.unusedSimpArgs false

/-- An Input: what wasn't read, how many bytes were, and what went wrong first. -/
structure I where
  rest : List UInt8
  pos : Nat
  err : Int
def bsOf (l : List UInt8) : ByteArray := ⟨l.toArray⟩
theorem bsOf_size (l : List UInt8) : (bsOf l).size = l.length := by simp [bsOf, ByteArray.size]
theorem bsOf_list (l : List UInt8) : (bsOf l).data.toList = l := by simp [bsOf]
theorem bsOf_toList (l : List UInt8) : (bsOf l).toList = l := ByteArray.toList_mk l
theorem bsOf_data (s : ByteArray) : bsOf s.data.toList = s := by cases s; simp [bsOf]
theorem str_extract (s : ByteArray) (a b : Nat) : s.extract a b = bsOf ((s.data.toList.drop a).take (b - a)) := by
  apply ByteArray.ext
  apply Array.ext'
  simp [bsOf, ByteArray.data_extract, List.extract_eq_take_drop]
def InR (b : Nat) (st : I) : Res where
  P := fun w G => ∃ s : ByteArray, w.heap[b]? = some (.cells #[.string s, .int .i64 st.pos, .int .i64 st.err] 126 (0, 0)) ∧ st.pos + st.rest.length = s.size ∧ s.size ≤ 9223372036854775807 ∧ s.data.toList.drop st.pos = st.rest ∧ ∀ k, G k ↔ k = b
  lt := by
    rintro w G ⟨s, h1, _, _, _, h3⟩ k hk
    rw [(h3 k).1 hk]
    exact heap_lt h1
  move := by
    rintro w w' G ⟨s, h1, h2, h3, h4, h5⟩ hm
    exact ⟨s, (hm _ ((h5 _).2 rfl)).trans h1, h2, h3, h4, h5⟩
theorem InR.kept {b : Nat} {st : I} {w w' : World} {F : Nat → Prop} (h : (InR b st).P w F) (n : Nat) (hw : w' = w.drewN n) : St F w [InR b st] w' := by
  subst hw
  exact (St.start F w (Sep.one h)).drewN n
def ifail (st : I) (e : Int) : I := if st.err = 0 then { st with err := e } else st
def itake (st : I) (n : Int) : List UInt8 × I :=
  if st.err ≠ 0 then ([], st) else if n < 0 then ([], { st with err := 4 }) else if st.rest.length < n then ([], { st with err := 1 })
  else (st.rest.take n.toNat, { st with rest := st.rest.drop n.toNat, pos := st.pos + n.toNat })

set_option maxRecDepth 100000 in
theorem New_spec (s : ByteArray) (hs : s.size ≤ 9223372036854775807) :
    Spec0 Try.prog 16 #[.string s] (fun v N => ∃ b, v = .pointer (some ⟨b, 0, none⟩) ∧ N = [InR b ⟨s.data.toList, 0, 0⟩]) := by
  intro w
  go_enter Try.func16, Try.ntmps16
  go_wp2
  go_ret
  refine ⟨_, _, rfl, ⟨_, rfl, rfl⟩, ?_⟩
  refine (((St.nil_ w).alloc #[.string s, .int .i64 0, .int .i64 0] 126).weaken 0 rfl (A' := InR w.heap.size ⟨s.data.toList, 0, 0⟩) ?_)
  rintro G ⟨h1, h2⟩
  exact ⟨s, h1, by simp, hs, rfl, h2⟩

set_option maxRecDepth 100000 in
theorem IFail_spec (b : Nat) (st : I) (e : Int) : Spec Try.prog 74 #[.pointer (some ⟨b, 0, none⟩), .int .i64 e] (InR b st) (fun v A' N => v = .tuple #[] ∧ A' = InR b (ifail st e) ∧ N = []) := by
  rintro F w ⟨s, hb, h2, h3, h4, hF⟩
  have c2 : w.cell? ⟨b, 2, none⟩ = some (.int .i64 st.err) := (heap_at hb 2).trans rfl
  have f2 : w.frozen? ⟨b, 2, none⟩ = false := heap_free hb 2
  have HB := Lib.hid hb
  have H4 := Lib.hid h4
  have H2 := Lib.hid h2
  clear hb h4 h2
  by_cases h0 : st.err = 0
  · have H0 : (st.err == 0) = true := beq_iff_eq.2 h0
    have HH := Lib.hid h0
    clear h0
    go_enter Try.func74, Try.ntmps74
    go_wp2
    go_end0
    refine ⟨_, _, _, rfl, ⟨rfl, rfl, rfl⟩, (Fr.refl F w).set (.inl ((hF b).2 rfl)) _, F, ?_, fun k hk => .inl hk, trivial⟩
    exact ⟨s, by simpa [ifail, HH.out] using heap_set HB.out 2 (.int .i64 e), by simpa [ifail, HH.out] using H2.out, h3, by simpa [ifail, HH.out] using H4.out, hF⟩
  · have H0 : (st.err == 0) = false := beq_eq_false_iff_ne.2 h0
    have HH := Lib.hid h0
    clear h0
    go_enter Try.func74, Try.ntmps74
    go_wp2
    go_end0
    refine ⟨_, _, _, rfl, ⟨rfl, rfl, rfl⟩, InR.kept (st := ifail st e) ?_ 0 rfl⟩
    rw [show ifail st e = st by simp [ifail, HH.out]]
    exact ⟨s, HB.out, H2.out, h3, H4.out, hF⟩

set_option maxRecDepth 100000 in
theorem Left_spec (b : Nat) (st : I) : Spec Try.prog 86 #[.pointer (some ⟨b, 0, none⟩)] (InR b st) (fun v A' N => v = .int .i64 st.rest.length ∧ A' = InR b st ∧ N = []) := by
  rintro F w ⟨s, hb, h2, h3, h4, hF⟩
  have c0 : w.cell? ⟨b, 0, none⟩ = some (.string s) := (heap_at hb 0).trans rfl
  have c1 : w.cell? ⟨b, 1, none⟩ = some (.int .i64 st.pos) := (heap_at hb 1).trans rfl
  have HB := Lib.hid hb
  have H4 := Lib.hid h4
  have H2 := Lib.hid h2
  have h2a : st.pos ≤ s.size := by omega
  clear hb h4 h2
  go_enter Try.func86, Try.ntmps86
  go_wp2
  go_quiet (fail)
  go_wp2
  go_ret
  have e1 : (s.size : Int) - st.pos = st.rest.length := by have := H2.out; omega
  exact ⟨_, _, _, ret_int e1, ⟨rfl, rfl, rfl⟩, InR.kept ⟨s, HB.out, H2.out, h3, H4.out, hF⟩ _ rfl⟩

set_option maxRecDepth 100000 in
theorem Take_spec (b : Nat) (st : I) (n : Int) (hn0 : -9223372036854775808 ≤ n) (hn1 : n ≤ 9223372036854775807) :
    Spec Try.prog 121 #[.pointer (some ⟨b, 0, none⟩), .int .i64 n] (InR b st) (fun v A' N => v = .string (bsOf (itake st n).1) ∧ A' = InR b (itake st n).2 ∧ N = []) := by
  rintro F w ⟨s, hb, h2, h3, h4, hF⟩
  have hA : (InR b st).P w F := ⟨s, hb, h2, h3, h4, hF⟩
  have c0 : w.cell? ⟨b, 0, none⟩ = some (.string s) := (heap_at hb 0).trans rfl
  have c1 : w.cell? ⟨b, 1, none⟩ = some (.int .i64 st.pos) := (heap_at hb 1).trans rfl
  have c2 : w.cell? ⟨b, 2, none⟩ = some (.int .i64 st.err) := (heap_at hb 2).trans rfl
  have f1 : w.frozen? ⟨b, 1, none⟩ = false := heap_free hb 1
  have HB := Lib.hid hb
  have H4 := Lib.hid h4
  have H2 := Lib.hid h2
  have HA := Lib.hid (St.start F w (Sep.one hA))
  have h2a : st.pos ≤ s.size := by omega
  have h2b : ¬ ((s.size : Int) - st.pos < n) ↔ n ≤ st.rest.length := by omega
  have H2b := Lib.hid h2b
  clear hb h4 h2 hA h2b
  by_cases h0 : st.err = 0
  · have H0 : (st.err != 0) = false := by simp [h0]
    have HH := Lib.hid h0
    clear h0
    by_cases hn : n < 0
    · have HT := Lib.hid (show itake st n = ([], ifail st 4) by simp [itake, HH.out, hn, ifail])
      go_enter Try.func121, Try.ntmps121
      go_wp2_with fail
      refine (HA.out.call 0 rfl (IFail_spec b st 4)).mono ?_
      rintro e w1 ⟨v, A', N, rfl, ⟨rfl, rfl, rfl⟩, H1⟩
      have HS1 := Lib.hid H1
      clear H1
      go_wp2_with fail
      go_ret
      exact ⟨_, _, _, rfl, ⟨by rw [HT.out]; rfl, rfl, rfl⟩, by rw [HT.out]; exact HS1.out⟩
    · by_cases hl : (st.rest.length : Int) < n
      · have hl2 : (s.size : Int) - st.pos < n := by have := H2.out; omega
        have HT := Lib.hid (show itake st n = ([], ifail st 1) by simp [itake, HH.out, hn, ifail, hl])
        go_enter Try.func121, Try.ntmps121
        go_wp2_with fail
        go_quiet (fail)
        go_wp2_with fail
        refine ((HA.out.drewN _).call 0 rfl (IFail_spec b st 1)).mono ?_
        rintro e w1 ⟨v, A', N, rfl, ⟨rfl, rfl, rfl⟩, H1⟩
        have HS1 := Lib.hid H1
        clear H1
        go_wp2_with fail
        go_ret
        exact ⟨_, _, _, rfl, ⟨by rw [HT.out]; rfl, rfl, rfl⟩, by rw [HT.out]; exact HS1.out⟩
      · have hl2 : ¬ ((s.size : Int) - st.pos < n) := by have := H2.out; omega
        obtain ⟨m, rfl⟩ : ∃ m : Nat, n = m := ⟨n.toNat, by omega⟩
        have hl3 : st.pos + m ≤ s.size := by omega
        have HT := Lib.hid (show itake st m = (st.rest.take m, { st with rest := st.rest.drop m, pos := st.pos + m }) by
          have : ¬ (st.rest.length < m) := by omega
          simp [itake, HH.out, this])
        go_enter Try.func121, Try.ntmps121
        go_wp2_with fail
        go_quiet (fail)
        go_wp2_with fail
        go_quiet (fail)
        go_wp2_with fail
        go_ret
        refine ⟨.string (s.extract st.pos (st.pos + m)), _, _, rfl, ⟨?_, rfl, rfl⟩, ?_⟩
        · rw [HT.out, str_extract, Nat.add_sub_cancel_left, H4.out]
        · rw [HT.out]
          refine ((((St.start F w (Sep.one (R := BlkR b 126 #[.string s, .int .i64 st.pos, .int .i64 st.err]) ⟨HB.out, hF⟩)).drewN _).set 0 rfl 1 (.int .i64 (st.pos + m))).drewN _).weaken 0 rfl (A' := InR b { st with rest := st.rest.drop m, pos := st.pos + m }) ?_
          rintro G ⟨k1, k2⟩
          have h2 := H2.out
          refine ⟨s, k1, ?_, h3, ?_, k2⟩
          · simp only [List.length_drop]; omega
          · simp only; rw [← H4.out, List.drop_drop]
  · have H0 : (st.err != 0) = true := bne_iff_ne.2 h0
    have HH := Lib.hid h0
    clear h0
    go_enter Try.func121, Try.ntmps121
    go_wp2_with fail
    go_ret
    refine ⟨_, _, _, rfl, ⟨?_, rfl, rfl⟩, ?_⟩
    · simp [itake, HH.out, bsOf]
    · simpa [itake, HH.out] using HA.out

theorem or8_i64 (x d : Int) (h0 : -9223372036854775808 ≤ x) (h1 : x ≤ 9223372036854775807) (hx : x % 256 = 0) (hd0 : 0 ≤ d) (hd1 : d < 256) : bits .or .i64 x d = x + d := by
  have e1 : (BitVec.ofInt 64 x).toNat = (x % 18446744073709551616).toNat := by simp [BitVec.toNat_ofInt]
  have e2 : (BitVec.ofInt 64 d).toNat = d.toNat := by simp [BitVec.toNat_ofInt]; omega
  show IntKind.i64.wrap (((BitVec.ofInt 64 x) ||| (BitVec.ofInt 64 d)).toNat : Int) = x + d
  rw [BitVec.toNat_or, e1, e2]
  generalize ha : (x % 18446744073709551616).toNat = a
  have ha2 : a % 256 = 0 := by omega
  have hq : a = 2 ^ 8 * (a / 256) := by omega
  have hb : d.toNat < 2 ^ 8 := by omega
  have ho : a ||| d.toNat = a + d.toNat := by
    rw [hq, ← Nat.two_pow_add_eq_or_of_lt hb (a / 256)]
  rw [ho, IntKind.wrap_i64]
  omega
def sgn (c : UInt8) : Int := if c.toNat < 128 then c.toNat else (c.toNat : Int) - 256
theorem sgn_wrap (c : UInt8) : wrap64 (IntKind.i8.wrap (c.toNat : Int)) = sgn c := by
  have := c.toNat_lt
  have e : IntKind.i8.wrap (c.toNat : Int) = sgn c := by
    unfold sgn
    simp [IntKind.wrap, IntKind.bits, IntKind.signed]
    split <;> split <;> omega
  rw [e]
  unfold sgn wrap64
  split <;> omega
def beInt : List UInt8 → Int
  | [] => 0
  | c :: cs => cs.foldl (fun n d => n * 256 + d.toNat) (sgn c)
theorem beInt_snoc (l : List UInt8) (d : UInt8) (h : l ≠ []) : beInt (l ++ [d]) = beInt l * 256 + d.toNat := by
  cases l with
  | nil => exact absurd rfl h
  | cons c cs => simp [beInt]
theorem fold_range (cs : List UInt8) : ∀ (n : Int) (m : Nat), 1 ≤ m → -(2 ^ (m - 1) : Int) ≤ n → n < (2 ^ (m - 1) : Int) →
    -(2 ^ (m + 8 * cs.length - 1) : Int) ≤ cs.foldl (fun n d => n * 256 + (d.toNat : Int)) n ∧ cs.foldl (fun n d => n * 256 + (d.toNat : Int)) n < (2 ^ (m + 8 * cs.length - 1) : Int) := by
  induction cs with
  | nil => intro n m _ h1 h2; exact ⟨h1, h2⟩
  | cons c cs ih =>
    intro n m hm h1 h2
    have := c.toNat_lt
    have e : (2 ^ (m + 8 - 1) : Int) = 256 * 2 ^ (m - 1) := by
      rw [show m + 8 - 1 = 8 + (m - 1) by omega, Int.pow_add]
      rfl
    have h3 := ih (n * 256 + c.toNat) (m + 8) (by omega) (by rw [e]; omega) (by rw [e]; omega)
    rw [show m + 8 * (c :: cs).length - 1 = m + 8 + 8 * cs.length - 1 by simp; omega]
    exact h3
theorem beInt_range (l : List UInt8) (h : l ≠ []) : -(2 ^ (8 * l.length - 1) : Int) ≤ beInt l ∧ beInt l < (2 ^ (8 * l.length - 1) : Int) := by
  cases l with
  | nil => exact absurd rfl h
  | cons c cs =>
    have hc := c.toNat_lt
    have := fold_range cs (sgn c) 8 (by omega) (by unfold sgn; split <;> omega) (by unfold sgn; split <;> omega)
    rw [show 8 * (c :: cs).length - 1 = 8 + 8 * cs.length - 1 by simp; omega]
    exact this
theorem beInt_range7 (l : List UInt8) (h : l ≠ []) (h7 : l.length ≤ 7) : -36028797018963968 ≤ beInt l ∧ beInt l < 36028797018963968 := by
  have hr := beInt_range l h
  have hp : (2 ^ (8 * l.length - 1) : Int) ≤ 36028797018963968 := by
    have h1 : (2 ^ (8 * l.length - 1) : Nat) ≤ 2 ^ 55 := Nat.pow_le_pow_right (by decide) (by omega)
    have h2 : ((2 ^ (8 * l.length - 1) : Nat) : Int) ≤ ((2 ^ 55 : Nat) : Int) := Int.ofNat_le.2 h1
    rw [Int.natCast_pow, Int.natCast_pow] at h2
    exact h2
  generalize (2 ^ (8 * l.length - 1) : Int) = z at *
  omega
theorem beInt_next (q d : Int) (h0 : -36028797018963968 ≤ q) (h1 : q < 36028797018963968) (hd0 : 0 ≤ d) (hd1 : d < 256) : bits .or .i64 (wrap64 (q * 256)) (wrap64 d) = q * 256 + d := by
  have e2 : wrap64 (q * 256) = q * 256 := by unfold wrap64; omega
  have e3 : wrap64 d = d := by unfold wrap64; omega
  rw [e2, e3, or8_i64 _ _ (by omega) (by omega) (by omega) hd0 hd1]
theorem bsOf_empty (l : List UInt8) : (bsOf l).toList.isEmpty = l.isEmpty := by
  have e : (bsOf l).toList = l := ByteArray.toList_mk l
  rw [e]
theorem bsOf_get (l : List UInt8) (i : Nat) (h : i < (bsOf l).size) : (bsOf l)[i] = l[i]'(by simpa [bsOf_size] using h) := by
  simp [bsOf]; rfl

def iint (st : I) (size : Int) : Int × I := if 1 ≤ size ∧ size ≤ 8 then (beInt (itake st size).1, (itake st size).2) else (0, ifail st 4)
theorem itake_len (st : I) (n : Int) : (itake st n).1.length ≤ n.toNat := by
  unfold itake
  split
  · simp
  · split
    · simp
    · split
      · simp
      · simp; omega
set_option maxRecDepth 100000 in
theorem IInt_spec (b : Nat) (st : I) (size : Int) :
    Spec Try.prog 72 #[.pointer (some ⟨b, 0, none⟩), .int .i64 size] (InR b st) (fun v A' N => v = .int .i64 (iint st size).1 ∧ A' = InR b (iint st size).2 ∧ N = []) := by
  intro F w hA
  by_cases hs : 1 ≤ size ∧ size ≤ 8
  · obtain ⟨k, rfl⟩ : ∃ k : Nat, size = k := ⟨size.toNat, by omega⟩
    have HI := Lib.hid (show iint st k = (beInt (itake st k).1, (itake st k).2) by simp only [iint, hs]; simp)
    have HA := Lib.hid (St.start F w (Sep.one hA))
    clear hA
    go_enter Try.func72, Try.ntmps72
    go_wp2_with fail
    refine (HA.out.call 0 rfl (Take_spec b st k (by omega) (by omega))).mono ?_
    rintro e w1 ⟨v, A', N, rfl, ⟨rfl, rfl, rfl⟩, H1⟩
    have HS1 := Lib.hid H1
    have hlen := itake_len st k
    clear H1
    generalize hl : (itake st k).1 = l at *
    have hne := bsOf_empty l
    have HL := Lib.hid hl
    clear hl
    cases l with
    | nil =>
      simp only [List.isEmpty_nil] at hne
      go_wp2_with fail
      go_ret
      exact ⟨_, _, _, rfl, ⟨by rw [HI.out]; rfl, rfl, rfl⟩, by rw [HI.out]; exact HS1.out⟩
    | cons c cs =>
      have hsz := bsOf_size (c :: cs)
      have h0 := bsOf_get (c :: cs) 0 (by simp [bsOf_size])
      have HG := Lib.hid (bsOf_get (c :: cs))
      have hsg := sgn_wrap c
      have hl8 : cs.length ≤ 7 := by simp at hlen; omega
      simp only [List.getElem_cons_zero, List.isEmpty_cons] at h0 hne
      go_wp2_with fail
      go_loopw [6, 7] (fun n i wr => wr = w1 ∧ ∃ j : Nat, 1 ≤ j ∧ j ≤ cs.length + 1 ∧ i = .int .i64 j ∧ n = .int .i64 (beInt ((c :: cs).take j))) (fun _ i _ => cs.length + 1 - (intOf i).toNat)
      case atStart => exact ⟨rfl, 1, by omega, by omega, rfl, by simp [beInt, hsg]⟩
      case round =>
        obtain ⟨rfl, j, hj1, hj2, rfl, rfl⟩ := hrel
        by_cases hlt : j < cs.length + 1
        · have hgj := HG.out j (by rw [hsz]; simpa using hlt)
          have hb : j ≤ 9223372036854775806 := by omega
          have hnn : (c :: cs).take j ≠ [] := by intro h; have := congrArg List.length h; simp at this; omega
          have hr := beInt_range7 ((c :: cs).take j) hnn (by simp; omega)
          generalize hq : beInt ((c :: cs).take j) = q at *
          have HQ := Lib.hid hq
          have HR := Lib.hid hr
          clear hq hr
          go_wp2_with fail
          go_roundw
          case rel =>
            refine ⟨trivial, j + 1, by omega, by omega, by go_num, ?_⟩
            have hd := ((c :: cs)[j]'(by simpa using hlt)).toNat_lt
            have e1 : (c :: cs).take (j + 1) = (c :: cs).take j ++ [(c :: cs)[j]'(by simpa using hlt)] := by
              rw [List.take_succ_eq_append_getElem (by simpa using hlt)]
            rw [e1, beInt_snoc _ _ hnn, HQ.out, beInt_next q _ HR.out.1 HR.out.2 (by omega) (by omega)]
          case measure => simp [intOf]; omega
        · have e1 : j = cs.length + 1 := by omega
          have e2 : (c :: cs).take (cs.length + 1) = c :: cs := List.take_of_length_le (by simp)
          have hb : (c :: cs).length = cs.length + 1 := rfl
          go_wp2_with fail
          go_ret
          exact ⟨_, _, _, rfl, ⟨by rw [HI.out, e1, e2]; rfl, rfl, rfl⟩, by rw [HI.out]; exact HS1.out⟩
  · have HI := Lib.hid (show iint st size = (0, ifail st 4) by simp only [iint, hs]; simp)
    have HA := Lib.hid (St.start F w (Sep.one hA))
    clear hA
    by_cases h1 : size < 1
    all_goals
      go_enter Try.func72, Try.ntmps72
      go_wp2_with fail
      refine (HA.out.call 0 rfl (IFail_spec b st 4)).mono ?_
      rintro e w1 ⟨v, A', N, rfl, ⟨rfl, rfl, rfl⟩, H1⟩
      have HS1 := Lib.hid H1
      clear H1
      go_wp2_with fail
      go_ret
      exact ⟨_, _, _, rfl, ⟨by rw [HI.out]; rfl, rfl, rfl⟩, by rw [HI.out]; exact HS1.out⟩

theorem InR.err {b : Nat} {st : I} {w : World} {F0 : Nat → Prop} {w0 : World} {Rs : List Res} (i : Nat) (h : St F0 w0 Rs w) (hi : Rs[i]? = some (InR b st)) :
    w.cell? ⟨b, 2, none⟩ = some (.int .i64 st.err) ∧ w.cell? ⟨b, 1, none⟩ = some (.int .i64 st.pos) := by
  obtain ⟨G, ⟨s, h1, _⟩, _⟩ := h.get i hi
  exact ⟨(heap_at h1 2).trans rfl, (heap_at h1 1).trans rfl⟩
theorem InR.len {b : Nat} {st : I} {w : World} {F0 : Nat → Prop} {w0 : World} {Rs : List Res} (i : Nat) (h : St F0 w0 Rs w) (hi : Rs[i]? = some (InR b st)) : st.rest.length ≤ 9223372036854775807 := by
  obtain ⟨G, ⟨s, h1, h2, h3, _⟩, _⟩ := h.get i hi
  omega
set_option maxRecDepth 100000 in
theorem IErr_spec (b : Nat) (st : I) : Spec Try.prog 19 #[.pointer (some ⟨b, 0, none⟩)] (InR b st) (fun v A' N => v = .int .i64 st.err ∧ A' = InR b st ∧ N = []) := by
  intro F w hA
  have hs := St.start F w (Sep.one hA)
  have c2 := (InR.err 0 hs rfl).1
  have HS := Lib.hid hs
  clear hs hA
  go_enter Try.func19, Try.ntmps19
  go_wp2
  go_ret
  exact ⟨_, _, _, rfl, ⟨rfl, rfl, rfl⟩, HS.out⟩
set_option maxRecDepth 100000 in
theorem At_spec (b : Nat) (st : I) : Spec Try.prog 20 #[.pointer (some ⟨b, 0, none⟩)] (InR b st) (fun v A' N => v = .int .i64 st.pos ∧ A' = InR b st ∧ N = []) := by
  intro F w hA
  have hs := St.start F w (Sep.one hA)
  have c2 := (InR.err 0 hs rfl).2
  have HS := Lib.hid hs
  clear hs hA
  go_enter Try.func20, Try.ntmps20
  go_wp2
  go_ret
  exact ⟨_, _, _, rfl, ⟨rfl, rfl, rfl⟩, HS.out⟩
def iclose (st : I) : I := if st.rest = [] then st else ifail st 2
set_option maxRecDepth 100000 in
theorem Close_spec (b : Nat) (st : I) : Spec Try.prog 26 #[.pointer (some ⟨b, 0, none⟩)] (InR b st) (fun v A' N => v = .int .i64 (iclose st).err ∧ A' = InR b (iclose st) ∧ N = []) := by
  intro F w hA
  have HS := Lib.hid (St.start F w (Sep.one hA))
  clear hA
  by_cases h : st.rest = []
  · have HC := Lib.hid (show iclose st = st by simp [iclose, h])
    have hl : st.rest.length = 0 := by simp [h]
    have HL := Lib.hid hl
    have hl2 : ¬ ((0 : Int) < st.rest.length) := by omega
    clear h hl
    go_enter Try.func26, Try.ntmps26
    go_wp2_with fail
    refine (HS.out.call 0 rfl (Left_spec b st)).mono ?_
    rintro e w1 ⟨v, A', N, rfl, ⟨rfl, rfl, rfl⟩, H1⟩
    have c2 := (InR.err 0 H1 rfl).1
    have HS1 := Lib.hid H1
    clear H1
    go_wp2_with fail
    go_ret
    exact ⟨_, _, _, rfl, ⟨by rw [HC.out]; rfl, rfl, rfl⟩, by rw [HC.out]; exact HS1.out⟩
  · have HC := Lib.hid (show iclose st = ifail st 2 by simp [iclose, h])
    have hl2 : (0 : Int) < st.rest.length := by
      have := List.length_pos_iff.2 h
      omega
    clear h
    go_enter Try.func26, Try.ntmps26
    go_wp2_with fail
    refine (HS.out.call 0 rfl (Left_spec b st)).mono ?_
    rintro e w1 ⟨v, A', N, rfl, ⟨rfl, rfl, rfl⟩, H1⟩
    have HS1 := Lib.hid H1
    clear H1
    go_wp2_with fail
    refine (HS1.out.call 0 rfl (IFail_spec b st 2)).mono ?_
    rintro e w2 ⟨v, A', N, rfl, ⟨rfl, rfl, rfl⟩, H2⟩
    have c2 := (InR.err 0 H2 rfl).1
    have HS2 := Lib.hid H2
    clear H2
    go_wp2_with fail
    go_ret
    exact ⟨_, _, _, rfl, ⟨by rw [HC.out]; rfl, rfl, rfl⟩, by rw [HC.out]; exact HS2.out⟩
def icount (st : I) (size each : Int) : Int × I :=
  if (iint st size).2.err ≠ 0 then (0, (iint st size).2)
  else if (iint st size).1 < 0 then (0, ifail (iint st size).2 4)
  else if 0 < each ∧ ((iint st size).2.rest.length : Int) / each < (iint st size).1 then (0, ifail (iint st size).2 1)
  else iint st size
set_option maxRecDepth 100000 in
theorem Count_spec (b : Nat) (st : I) (size each : Int) :
    Spec Try.prog 111 #[.pointer (some ⟨b, 0, none⟩), .int .i64 size, .int .i64 each] (InR b st) (fun v A' N => v = .int .i64 (icount st size each).1 ∧ A' = InR b (icount st size each).2 ∧ N = []) := by
  intro F w hA
  have HS := Lib.hid (St.start F w (Sep.one hA))
  clear hA
  have HC := Lib.hid (show icount st size each = _ from rfl)
  generalize hq : icount st size each = q at HC ⊢
  have HC2 := Lib.hid (show q = icount st size each from hq.symm)
  clear hq HC
  have HC3 := Lib.hid (show q = (if (iint st size).2.err ≠ 0 then (0, (iint st size).2)
    else if (iint st size).1 < 0 then (0, ifail (iint st size).2 4)
    else if 0 < each ∧ ((iint st size).2.rest.length : Int) / each < (iint st size).1 then (0, ifail (iint st size).2 1)
    else iint st size) from HC2.out)
  clear HC2
  have h1 := IInt_spec b st size
  generalize iint st size = r at *
  obtain ⟨n, st1⟩ := r
  have HN := Lib.hid h1
  clear h1
  by_cases h0 : st1.err = 0
  · have H0 : (st1.err != 0) = false := by simp [h0]
    have HH := Lib.hid h0
    clear h0
    by_cases hn : n < 0
    · have HQ := Lib.hid (show q = (0, ifail st1 4) by rw [HC3.out]; simp [HH.out, hn])
      go_enter Try.func111, Try.ntmps111
      go_wp2_with fail
      refine (HS.out.call 0 rfl HN.out).mono ?_
      rintro e w1 ⟨v, A', N, rfl, ⟨rfl, rfl, rfl⟩, H1⟩
      have c2 := (InR.err 0 H1 rfl).1
      have HS1 := Lib.hid H1
      clear H1
      go_wp2_with fail
      refine (HS1.out.call 0 rfl (IFail_spec b st1 4)).mono ?_
      rintro e w2 ⟨v, A', N, rfl, ⟨rfl, rfl, rfl⟩, H2⟩
      have HS2 := Lib.hid H2
      clear H2
      go_wp2_with fail
      go_ret
      exact ⟨_, _, _, rfl, ⟨by rw [HQ.out]; rfl, rfl, rfl⟩, by rw [HQ.out]; exact HS2.out⟩
    · by_cases he : 0 < each
      · have hd0 : 0 ≤ (st1.rest.length : Int) := by omega
        by_cases hc : (st1.rest.length : Int) / each < n
        · have HQ := Lib.hid (show q = (0, ifail st1 1) by rw [HC3.out]; simp [HH.out, hn, he, hc])
          go_enter Try.func111, Try.ntmps111
          go_wp2_with fail
          refine (HS.out.call 0 rfl HN.out).mono ?_
          rintro e w1 ⟨v, A', N, rfl, ⟨rfl, rfl, rfl⟩, H1⟩
          have c2 := (InR.err 0 H1 rfl).1
          have hb := InR.len 0 H1 rfl
          have hq1 : 0 ≤ (st1.rest.length : Int) / each := Int.ediv_nonneg hd0 (by omega)
          have hq2 : (st1.rest.length : Int) / each ≤ 9223372036854775807 := Int.le_trans (Int.ediv_le_self each hd0) (by omega)
          have HS1 := Lib.hid H1
          clear H1
          go_wp2_with fail
          refine (HS1.out.call 0 rfl (Left_spec b st1)).mono ?_
          rintro e w2 ⟨v, A', N, rfl, ⟨rfl, rfl, rfl⟩, H2⟩
          have HS2 := Lib.hid H2
          clear H2
          go_wp2_with fail
          refine (HS2.out.call 0 rfl (IFail_spec b st1 1)).mono ?_
          rintro e w2 ⟨v, A', N, rfl, ⟨rfl, rfl, rfl⟩, H3⟩
          have HS3 := Lib.hid H3
          clear H3
          go_wp2_with fail
          go_ret
          exact ⟨_, _, _, rfl, ⟨by rw [HQ.out]; rfl, rfl, rfl⟩, by rw [HQ.out]; exact HS3.out⟩
        · have HQ := Lib.hid (show q = (n, st1) by rw [HC3.out]; simp [HH.out, hn, hc])
          go_enter Try.func111, Try.ntmps111
          go_wp2_with fail
          refine (HS.out.call 0 rfl HN.out).mono ?_
          rintro e w1 ⟨v, A', N, rfl, ⟨rfl, rfl, rfl⟩, H1⟩
          have c2 := (InR.err 0 H1 rfl).1
          have hb := InR.len 0 H1 rfl
          have hq1 : 0 ≤ (st1.rest.length : Int) / each := Int.ediv_nonneg hd0 (by omega)
          have hq2 : (st1.rest.length : Int) / each ≤ 9223372036854775807 := Int.le_trans (Int.ediv_le_self each hd0) (by omega)
          have HS1 := Lib.hid H1
          clear H1
          go_wp2_with fail
          refine (HS1.out.call 0 rfl (Left_spec b st1)).mono ?_
          rintro e w2 ⟨v, A', N, rfl, ⟨rfl, rfl, rfl⟩, H2⟩
          have HS2 := Lib.hid H2
          clear H2
          go_wp2_with fail
          go_ret
          exact ⟨_, _, _, rfl, ⟨by rw [HQ.out]; rfl, rfl, rfl⟩, by rw [HQ.out]; exact HS2.out⟩
      · have HQ := Lib.hid (show q = (n, st1) by rw [HC3.out]; simp [HH.out, hn, he])
        go_enter Try.func111, Try.ntmps111
        go_wp2_with fail
        refine (HS.out.call 0 rfl HN.out).mono ?_
        rintro e w1 ⟨v, A', N, rfl, ⟨rfl, rfl, rfl⟩, H1⟩
        have c2 := (InR.err 0 H1 rfl).1
        have HS1 := Lib.hid H1
        clear H1
        go_wp2_with fail
        go_ret
        exact ⟨_, _, _, rfl, ⟨by rw [HQ.out]; rfl, rfl, rfl⟩, by rw [HQ.out]; exact HS1.out⟩
  · have H0 : (st1.err != 0) = true := bne_iff_ne.2 h0
    have HQ := Lib.hid (show q = (0, st1) by rw [HC3.out]; simp [h0])
    clear h0
    go_enter Try.func111, Try.ntmps111
    go_wp2_with fail
    refine (HS.out.call 0 rfl HN.out).mono ?_
    rintro e w1 ⟨v, A', N, rfl, ⟨rfl, rfl, rfl⟩, H1⟩
    have c2 := (InR.err 0 H1 rfl).1
    have HS1 := Lib.hid H1
    clear H1
    go_wp2_with fail
    go_ret
    exact ⟨_, _, _, rfl, ⟨by rw [HQ.out]; rfl, rfl, rfl⟩, by rw [HQ.out]; exact HS1.out⟩
theorem iint_all (l : List UInt8) (p : Nat) (h1 : 1 ≤ l.length) (h8 : l.length ≤ 8) (m : List UInt8) : iint ⟨l ++ m, p, 0⟩ l.length = (beInt l, ⟨m, p + l.length, 0⟩) := by
  have e : itake ⟨l ++ m, p, 0⟩ l.length = (l, ⟨m, p + l.length, 0⟩) := by
    unfold itake
    rw [if_neg (by simp), if_neg (by omega), if_neg (by simp only [List.length_append]; omega)]
    simp
  have hc : (1 : Int) ≤ l.length ∧ (l.length : Int) ≤ 8 := by omega
  simp only [iint, hc, e]
  simp
theorem iclose_nil (p : Nat) (e : Int) : iclose ⟨[], p, e⟩ = ⟨[], p, e⟩ := by simp [iclose]
end Go.Proofs.Ytdlpmcbglmgpiaa.Sl
