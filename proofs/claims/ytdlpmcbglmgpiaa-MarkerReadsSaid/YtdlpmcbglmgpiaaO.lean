/- package output: what each of its functions does to an Output, for every Output and every argument. -/
import Derived.Test.YtdlpmcbglmgpiaaProg
import Derived.Test.YtdlpmcbglmgpiaaB
import Derived.KernelRfl
import Derived.Deep.QuietTactic
import Derived.BigQuiet
import Derived.LoopN
import Derived.WalkSpells
import Derived.WalkLawsBesides
namespace Go.Proofs.Ytdlpmcbglmgpiaa.Sl
open Go.RowKit
set_option linter.unusedVariables false
set_option linter.unusedSimpArgs false

/-- An Output: its bytes, and what went wrong first. -/
def OutR (b : Nat) (st : List UInt8 × Int) : Res where
  P := fun w G => ∃ v, w.heap[b]? = some (.cells #[v, .int .i64 st.2] 40 (0, 0)) ∧ w.ownsRow 0 5 1 v st.1.length (byteCells st.1) ∧ ∀ k, G k ↔ k = b ∨ v.ownBlock = some k
  lt := by
    rintro w G ⟨v, h1, h2, h3⟩ k hk
    rcases (h3 k).1 hk with rfl | h
    · exact heap_lt h1
    · exact row_lt h2 k h
  move := by
    rintro w w' G ⟨v, h1, h2, h3⟩ hm
    exact ⟨v, (hm _ ((h3 _).2 (.inl rfl))).trans h1, row_move h2 (fun k hk => hm k ((h3 k).2 (.inr hk))), h3⟩
theorem infoByte : (Try.prog.info? 5).map (fun i => (i.zero, i.size, i.bytes)) = some (some (.int .u8 0), 1, 1) := by kernel_rfl
/-- A new one. -/
theorem OutR.new {F0 : Nat → Prop} {w0 w : World} {Rs : List Res} (h : St F0 w0 Rs w) : St F0 w0 (OutR w.heap.size ([], 0) :: Rs) (w.alloc (.cells #[.slice none 0 0, .int .i64 0] 40)) := by
  refine (h.alloc #[.slice none 0 0, .int .i64 0] 40).weaken 0 rfl (A' := OutR w.heap.size ([], 0)) ?_
  rintro G ⟨h1, h2⟩
  exact ⟨_, h1, World.ownsRow_nil _ _ _ _, fun k => by simp [h2 k, Value.ownBlock]⟩
/-- What a store behind an append leaves. -/
theorem OutR.stored {b : Nat} {l m : List UInt8} {w w1 : World} {v v1 : Value} {F : Nat → Prop} (hb : w.heap[b]? = some (.cells #[v, .int .i64 0] 40 (0, 0))) (ho : w.ownsRow 0 5 1 v l.length (byteCells l)) (hF : ∀ k, F k ↔ k = b ∨ v.ownBlock = some k)
    {n : Nat} (ho1 : w1.ownsRow 0 5 1 v1 n (byteCells m)) (hg : w.grownBy w1 v.ownBlock) (hat : v1.ownBlock = v.ownBlock ∨ ∃ k, v1.ownBlock = some k ∧ w.heap.size ≤ k) :
    St F w [OutR b (m, 0)] (w1.setCell ⟨b, 0, none⟩ v1) := by
  have hn : n = m.length := by have := ho1.1; simpa [byteCells] using this.symm
  subst hn
  have hne := row_ne ho hb (by decide)
  have hb1 : w1.heap[b]? = some (.cells #[v, .int .i64 0] 40 (0, 0)) := (hg.block b (heap_lt hb) hne).trans hb
  have hne1 := row_ne ho1 hb1 (by decide)
  refine ⟨((Fr.refl F w).trans (Fr.of_grown (F := F) hg (fun k hk => (hF k).2 (.inr hk))) (fun k hk => .inl hk)).set (p := ⟨b, 0, none⟩) (.inl ((hF b).2 (.inl rfl))) v1, ?_⟩
  refine ⟨fun k => k = b ∨ v1.ownBlock = some k, ⟨v1, by simpa using heap_set hb1 0 v1, row_set ho1 hne1 v1, fun _ => Iff.rfl⟩, ?_, trivial⟩
  rintro k (rfl | hk)
  · exact .inl ((hF k).2 (.inl rfl))
  · rcases hat with h | ⟨k', h, h'⟩
    · rw [h] at hk
      exact .inl ((hF k).2 (.inr hk))
    · rw [h] at hk
      injection hk with hk
      subst hk
      exact .inr h'
theorem OutR.kept {b : Nat} {st : List UInt8 × Int} {w w' : World} {F : Nat → Prop} (h : (OutR b st).P w F) (n : Nat) (hw : w' = w.drewN n) : St F w [OutR b st] w' := by
  subst hw
  exact (St.start F w (Sep.one h)).drewN n

def oput (st : List UInt8 × Int) (l : List UInt8) : List UInt8 × Int := if st.2 = 0 then (st.1 ++ l, 0) else st
def ofail (st : List UInt8 × Int) (e : Int) : List UInt8 × Int := if st.2 = 0 then (st.1, e) else st

set_option maxRecDepth 100000 in
theorem Fail_spec (b : Nat) (st : List UInt8 × Int) (e : Int) : Spec Try.prog 81 #[.pointer (some ⟨b, 0, none⟩), .int .i64 e] (OutR b st) (fun v A' N => v = .tuple #[] ∧ A' = OutR b (ofail st e) ∧ N = []) := by
  rintro F w ⟨v, hb, ho, hF⟩
  obtain ⟨l, er⟩ := st
  have c1 : w.cell? ⟨b, 1, none⟩ = some (.int .i64 er) := (heap_at hb 1).trans rfl
  have f1 : w.frozen? ⟨b, 1, none⟩ = false := heap_free hb 1
  by_cases h0 : er = 0
  · subst h0
    have HB := Lib.hid hb
    have HO := Lib.hid ho
    clear hb ho
    go_enter Try.func81, Try.ntmps81
    go_wp2
    go_end0
    refine ⟨_, _, _, rfl, ⟨rfl, rfl, rfl⟩, (Fr.refl F w).set (.inl ((hF b).2 (.inl rfl))) _, F, ?_, fun k hk => .inl hk, trivial⟩
    have hne := row_ne HO.out HB.out (by decide)
    exact ⟨v, by simpa [ofail] using heap_set HB.out 1 (.int .i64 e), row_set HO.out hne _, hF⟩
  · have HB := Lib.hid hb
    have HO := Lib.hid ho
    have H0 : (er == 0) = false := beq_eq_false_iff_ne.2 h0
    clear hb ho
    go_enter Try.func81, Try.ntmps81
    go_wp2
    go_end0
    exact ⟨_, _, _, rfl, ⟨rfl, rfl, rfl⟩, OutR.kept ⟨v, by simpa [ofail, h0] using HB.out, by simpa [ofail, h0] using HO.out, hF⟩ 0 rfl⟩

set_option maxRecDepth 100000 in
theorem Put_spec (b : Nat) (st : List UInt8 × Int) (s : ByteArray) (hl : st.1.length + s.size ≤ 140737488355328) :
    Spec Try.prog 152 #[.pointer (some ⟨b, 0, none⟩), .string s] (OutR b st) (fun v A' N => v = .tuple #[] ∧ A' = OutR b (oput st s.data.toList) ∧ N = []) := by
  rintro F w ⟨v, hb, ho, hF⟩
  obtain ⟨l, er⟩ := st
  have c0 : w.cell? ⟨b, 0, none⟩ = some v := (heap_at hb 0).trans rfl
  have c1 : w.cell? ⟨b, 1, none⟩ = some (.int .i64 er) := (heap_at hb 1).trans rfl
  by_cases h0 : er = 0
  · subst h0
    have HB := Lib.hid hb
    have HO := Lib.hid ho
    clear hb ho
    go_enter Try.func152, Try.ntmps152
    go_wp2_with (at_builtin; refine wp_append_str_at w rfl _ _ _ _ rfl 5 Try.underlying38 Try.underlying9 infoByte v l.length (byteCells l) rfl HO.out s rfl hl ?_; intro v1 w1 ho1 hg hat; obtain ⟨a1, k1, rfl⟩ := row_slice ho1; have HO1 := Lib.hid ho1; clear ho1; have HN := Lib.hid (row_ne HO.out HB.out (by decide)); have HB1 := Lib.hid (show w1.heap[b]? = _ from (hg.block b (heap_lt HB.out) HN.out).trans HB.out); have d0 : w1.cell? ⟨b, 0, none⟩ = some v := (heap_at HB1.out 0).trans rfl; have e0 : w1.frozen? ⟨b, 0, none⟩ = false := heap_free HB1.out 0; have HG := Lib.hid hg; have HAT := Lib.hid hat; clear hg hat)
    go_end0
    have ho1 := HO1.out
    rw [byteCells_str, ← byteCells_append] at ho1
    refine ⟨_, _, _, rfl, ⟨rfl, rfl, rfl⟩, ?_⟩
    have := OutR.stored HB.out HO.out hF ho1 HG.out (by rcases HAT.out with h | h; exact .inl h; exact .inr ⟨_, h, Nat.le_refl _⟩)
    simpa [oput] using this
  · have HB := Lib.hid hb
    have HO := Lib.hid ho
    have H0 : (er == 0) = false := beq_eq_false_iff_ne.2 h0
    clear hb ho
    go_enter Try.func152, Try.ntmps152
    go_wp2_with fail
    go_end0
    exact ⟨_, _, _, rfl, ⟨rfl, rfl, rfl⟩, OutR.kept ⟨v, by simpa [oput, h0] using HB.out, by simpa [oput, h0] using HO.out, hF⟩ 0 rfl⟩

set_option maxRecDepth 100000 in
theorem Byte_spec (b : Nat) (st : List UInt8 × Int) (c : UInt8) (hl : st.1.length + 1 ≤ 140737488355328) :
    Spec Try.prog 101 #[.pointer (some ⟨b, 0, none⟩), .int .u8 c.toNat] (OutR b st) (fun v A' N => v = .tuple #[] ∧ A' = OutR b (oput st [c]) ∧ N = []) := by
  rintro F w ⟨v, hb, ho, hF⟩
  obtain ⟨l, er⟩ := st
  have c0 : w.cell? ⟨b, 0, none⟩ = some v := (heap_at hb 0).trans rfl
  have c1 : w.cell? ⟨b, 1, none⟩ = some (.int .i64 er) := (heap_at hb 1).trans rfl
  by_cases h0 : er = 0
  · subst h0
    have HB := Lib.hid hb
    have HO := Lib.hid ho
    clear hb ho
    go_enter Try.func101, Try.ntmps101
    go_wp2_with (at_builtin; refine wp_append_one_at w rfl _ _ _ rfl 5 (.int .u8 0) 1 Try.underlying38 infoByte rfl v l.length (byteCells l) rfl HO.out (.int .u8 c.toNat) rfl rfl (by simpa using hl) hl ?_; intro v1 w1 ho1 hg hat; obtain ⟨a1, k1, rfl⟩ := row_slice ho1; have HO1 := Lib.hid ho1; clear ho1; have HN := Lib.hid (row_ne HO.out HB.out (by decide)); have HB1 := Lib.hid (show w1.heap[b]? = _ from (hg.block b (heap_lt HB.out) HN.out).trans HB.out); have d0 : w1.cell? ⟨b, 0, none⟩ = some v := (heap_at HB1.out 0).trans rfl; have e0 : w1.frozen? ⟨b, 0, none⟩ = false := heap_free HB1.out 0; have HG := Lib.hid hg; have HAT := Lib.hid hat; clear hg hat)
    go_end0
    have ho1 := HO1.out
    rw [show ([Value.int .u8 c.toNat] : List Value) = byteCells [c] from rfl, ← byteCells_append] at ho1
    refine ⟨_, _, _, rfl, ⟨rfl, rfl, rfl⟩, ?_⟩
    have := OutR.stored HB.out HO.out hF ho1 HG.out HAT.out
    simpa [oput] using this
  · have HB := Lib.hid hb
    have HO := Lib.hid ho
    have H0 : (er == 0) = false := beq_eq_false_iff_ne.2 h0
    clear hb ho
    go_enter Try.func101, Try.ntmps101
    go_wp2_with fail
    go_end0
    exact ⟨_, _, _, rfl, ⟨rfl, rfl, rfl⟩, OutR.kept ⟨v, by simpa [oput, h0] using HB.out, by simpa [oput, h0] using HO.out, hF⟩ 0 rfl⟩

/-- What Text answers. -/
def otext (st : List UInt8 × Int) : Value := if st.2 = 0 then .tuple #[.string ⟨st.1.toArray⟩, .int .i64 0] else .tuple #[.string ⟨#[]⟩, .int .i64 st.2]
set_option maxRecDepth 100000 in
theorem Text_spec (b : Nat) (st : List UInt8 × Int) : Spec Try.prog 23 #[.pointer (some ⟨b, 0, none⟩)] (OutR b st) (fun v A' N => v = otext st ∧ A' = OutR b st ∧ N = []) := by
  rintro F w ⟨v, hb, ho, hF⟩
  obtain ⟨l, er⟩ := st
  have c0 : w.cell? ⟨b, 0, none⟩ = some v := (heap_at hb 0).trans rfl
  have c1 : w.cell? ⟨b, 1, none⟩ = some (.int .i64 er) := (heap_at hb 1).trans rfl
  have hc := row_string (P := Try.prog) w (src := 38) (dst := 9) Try.underlying38 Try.underlying5 Try.underlying9 ho
  have HB := Lib.hid hb
  have HO := Lib.hid ho
  clear hb ho
  by_cases h0 : er = 0
  · subst h0
    go_enter Try.func23, Try.ntmps23
    go_wp2
    go_ret2
    exact ⟨_, _, _, rfl, ⟨by simp [otext], rfl, rfl⟩, OutR.kept ⟨_, HB.out, HO.out, hF⟩ 0 rfl⟩
  · have H0 : (er != 0) = true := bne_iff_ne.2 h0
    go_enter Try.func23, Try.ntmps23
    go_wp2
    go_quiet (fail)
    go_wp2
    go_ret2
    exact ⟨_, _, _, rfl, ⟨by simp [otext, h0], rfl, rfl⟩, OutR.kept ⟨_, HB.out, HO.out, hF⟩ _ rfl⟩
def fits (n size : Int) : Bool := decide (1 ≤ size) && decide (size ≤ 8) && decide (-(2 ^ (8 * size.toNat - 1) : Int) ≤ n) && decide (n ≤ (2 ^ (8 * size.toNat - 1) : Int) - 1)
theorem w64max : wrap64 (wrap64 9223372036854775808 - 1) = 9223372036854775807 := by unfold wrap64; omega
theorem ret_int {k : IntKind} {a b : Int} (h : a = b) : Ending.returned (.int k a) = .returned (.int k b) := by rw [h]
theorem ret_bool {a b : Bool} (h : a = b) : Ending.returned (.bool a) = .returned (.bool b) := by rw [h]
set_option maxRecDepth 100000 in
theorem Fits_any (n size : Int) (w : World) (h0 : -9223372036854775808 ≤ n) (h1 : n ≤ 9223372036854775807) :
    Calls Try.prog 84 #[.int .i64 n, .int .i64 size] w fun e w' => e = .returned (.bool (fits n size)) ∧ w = w' := by
  by_cases hs : 1 ≤ size ∧ size ≤ 8
  · have hk : size = 1 ∨ size = 2 ∨ size = 3 ∨ size = 4 ∨ size = 5 ∨ size = 6 ∨ size = 7 ∨ size = 8 := by omega
    rcases hk with rfl | rfl | rfl | rfl | rfl | rfl | rfl | rfl
    all_goals
      clear hs
      go_enter Try.func84, Try.ntmps84
      go_wp2
      all_goals (go_ret; exact ⟨ret_bool (by have := w64max; rw [Bool.eq_iff_iff]; simp [fits, wrap64]; omega), rfl⟩)
  · by_cases h2 : size < 1
    · go_enter Try.func84, Try.ntmps84
      go_wp2
      go_ret
      exact ⟨ret_bool (by simp [fits]; omega), rfl⟩
    · have h3 : 8 < size := by omega
      go_enter Try.func84, Try.ntmps84
      go_wp2
      go_ret
      exact ⟨ret_bool (by simp [fits]; omega), rfl⟩

def be (n : Int) (size : Nat) : List UInt8 := (List.range size).map fun i => UInt8.ofNat ((n / (2 ^ (8 * (size - 1 - i)) : Int)) % 256).toNat
def oint (st : List UInt8 × Int) (n size : Int) : List UInt8 × Int := if fits n size then oput st (be n size.toNat) else ofail st 11
theorem oput_nil (st : List UInt8 × Int) : oput st [] = st := by
  obtain ⟨l, e⟩ := st
  by_cases h : e = 0 <;> simp [oput, h]
theorem oput_oput (st : List UInt8 × Int) (a b : List UInt8) : oput (oput st a) b = oput st (a ++ b) := by
  obtain ⟨l, e⟩ := st
  by_cases h : e = 0 <;> simp [oput, h]

theorem ByteI_spec (b : Nat) (st : List UInt8 × Int) (c : Int) (h0 : 0 ≤ c) (h1 : c < 256) (hl : st.1.length + 1 ≤ 140737488355328) :
    Spec Try.prog 101 #[.pointer (some ⟨b, 0, none⟩), .int .u8 c] (OutR b st) (fun v A' N => v = .tuple #[] ∧ A' = OutR b (oput st [UInt8.ofNat c.toNat]) ∧ N = []) := by
  have h := Byte_spec b st (UInt8.ofNat c.toNat) hl
  rwa [show ((UInt8.ofNat c.toNat).toNat : Int) = c from by simp [UInt8.toNat_ofNat']; omega] at h
theorem oput_len (st : List UInt8 × Int) (a : List UInt8) : (oput st a).1.length ≤ st.1.length + a.length := by
  unfold oput; split <;> simp
set_option maxRecDepth 100000 in
theorem OutInt_spec (b : Nat) (st : List UInt8 × Int) (n size : Int) (h0 : -9223372036854775808 ≤ n) (h1 : n ≤ 9223372036854775807) (hl : st.1.length + 8 ≤ 140737488355328) :
    Spec Try.prog 82 #[.pointer (some ⟨b, 0, none⟩), .int .i64 n, .int .i64 size] (OutR b st) (fun v A' N => v = .tuple #[] ∧ A' = OutR b (oint st n size) ∧ N = []) := by
  intro F w hA
  by_cases hf : fits n size = true
  · have hs : 1 ≤ size ∧ size ≤ 8 := by simp [fits] at hf; omega
    obtain ⟨k, rfl⟩ : ∃ k : Nat, size = k := ⟨size.toNat, by omega⟩
    have HF := Lib.hid hf
    clear hf
    have HA := Lib.hid (St.start F w (Sep.one hA))
    clear hA
    go_enter Try.func82, Try.ntmps82
    go_wp2_with fail
    refine (Fits_any n k w h0 h1).mono ?_
    rintro e w' ⟨rfl, rfl⟩
    rw [HF.out]
    go_wp2_with fail
    go_loopw [6, 14] (fun _ i wr => ∃ j : Nat, j ≤ k ∧ i = .int .i64 j ∧ St F w [OutR b (oput st ((be n k).take j))] wr) (fun _ i _ => k - (intOf i).toNat)
    case atStart => exact ⟨0, by omega, rfl, by simpa [oput_nil] using HA.out⟩
    case round =>
      obtain ⟨j, hj, rfl, hst⟩ := hrel
      have HS := Lib.hid hst
      clear hst
      by_cases hlt : j < k
      · go_wp2_with fail
        have hle : ((be n k).take j).length = j := by simp [be]; omega
        have hl2 := oput_len st ((be n k).take j)
        refine (HS.out.call 0 rfl (ByteI_spec b _ _ (by omega) (by omega) (by omega))).mono ?_
        rintro e w1 ⟨v, A', N, rfl, ⟨rfl, rfl, rfl⟩, H1⟩
        have HS1 := Lib.hid H1
        clear H1 hle hl2
        go_wp2_with fail
        go_roundw
        case rel =>
          refine ⟨j + 1, by omega, by go_num, ?_⟩
          have := HS1.out
          rw [oput_oput] at this
          have e1 : (be n k).take (j + 1) = (be n k).take j ++ [UInt8.ofNat ((n / (2 ^ (8 * (k - 1 - j)) : Int)) % 256).toNat] := by
            rw [List.take_succ_eq_append_getElem (by simp [be]; omega)]
            simp [be]
          rw [e1]
          exact this
        case measure => simp [intOf]; omega
      · have e1 : j = k := by omega
        have e2 : (be n k).take k = be n k := List.take_of_length_le (by simp [be])
        go_wp2_with fail
        go_end0
        refine ⟨_, _, _, rfl, ⟨rfl, rfl, rfl⟩, ?_⟩
        have := HS.out
        rw [e1, e2] at this
        simpa [oint, HF.out] using this
  · have HF := Lib.hid (show fits n size = false by simpa using hf)
    clear hf
    have HA := Lib.hid (St.start F w (Sep.one hA))
    clear hA
    go_enter Try.func82, Try.ntmps82
    go_wp2_with fail
    refine (Fits_any n size w h0 h1).mono ?_
    rintro e w' ⟨rfl, rfl⟩
    rw [HF.out]
    go_wp2_with fail
    refine (HA.out.call 0 rfl (Fail_spec b _ 11)).mono ?_
    rintro e w1 ⟨v, A', N, rfl, ⟨rfl, rfl, rfl⟩, H1⟩
    have HS1 := Lib.hid H1
    clear H1
    go_wp2_with fail
    go_end0
    refine ⟨_, _, _, rfl, ⟨rfl, rfl, rfl⟩, ?_⟩
    simpa [oint, HF.out] using HS1.out
end Go.Proofs.Ytdlpmcbglmgpiaa.Sl
