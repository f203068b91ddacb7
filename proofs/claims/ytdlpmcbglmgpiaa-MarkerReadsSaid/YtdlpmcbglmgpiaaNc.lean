/- Steps that yield by a fact (no program in it). -/
import Derived.Test.YtdlpmcbglmgpiaaNb
namespace Go.Proofs.Ytdlpmcbglmgpiaa.Sl
open Go.RowKit
set_option linter.unusedVariables false
set_option linter.unusedSimpArgs false
section
variable {P : Program} {n : Nat} {F0 : Nat → Prop} {w0 : World} {e : Env} {Rs : List Res} {S : World → Prop} {d : Option Tmp} {ty : TypeId} {pos : String} {af : Array Edge} {gd : Option (Nat × Bool)} {v : Value} {x y ix : Operand} {t t' el : TypeId}
theorem Ex.ft {ft : FTab} {op : Op} (hft : ft.OK P) (h : pureV ft e op = some v) : Ex P n e S ⟨d, op, ty, pos, af, gd⟩ v := pureV_run hft h
theorem Ex.lenS {A : Option Addr} {m c : Nat} (hx : e.ev x = some (.slice A m c)) (hu : ∀ w, (underlying t).run P w = .ok (.slice el) w) : Ex P n e S ⟨d, .call ⟨.builtin .len, #[x], #[t]⟩, ty, pos, af, gd⟩ (.int .i64 (m : Int)) := by
  intro a w ha _
  simp [execOp, resolve, invoke, builtin, ha.ev hx, Builtin.len_, hu, goInt]
theorem Ex.lenB {l : List UInt8} (hx : e.ev x = some (.string (bsOf l))) (hu : ∀ w, (underlying t).run P w = .ok .string w) : Ex P n e S ⟨d, .call ⟨.builtin .len, #[x], #[t]⟩, ty, pos, af, gd⟩ (.int .i64 (l.length : Int)) := by
  intro a w ha _
  simp [execOp, resolve, invoke, builtin, ha.ev hx, Builtin.len_, hu, goInt, bsOf_size]
theorem Ex.lenA {k : Nat} (hx : e.ev x = some v) (hu : ∀ w, (underlying t).run P w = .ok (.array k el) w) : Ex P n e S ⟨d, .call ⟨.builtin .len, #[x], #[t]⟩, ty, pos, af, gd⟩ (.int .i64 (k : Int)) := by
  intro a w ha _
  simp [execOp, resolve, invoke, builtin, ha.ev hx, Builtin.len_, hu, goInt]
/-! Numbers -/
theorem Ex.add {p q : Int} (hx : e.ev x = some (.int .i64 p)) (hy : e.ev y = some (.int .i64 q)) (h : -9223372036854775808 ≤ p + q ∧ p + q ≤ 9223372036854775807) : Ex P n e S ⟨d, .binOp .add t x y t', ty, pos, af, gd⟩ (.int .i64 (p + q)) := by
  intro a w ha _
  simp [execOp, ha.ev hx, ha.ev hy, eqGuard, binOp, Op.intArith, IntWalk.i64_in _ h]
theorem Ex.sub {p q : Int} (hx : e.ev x = some (.int .i64 p)) (hy : e.ev y = some (.int .i64 q)) (h : -9223372036854775808 ≤ p - q ∧ p - q ≤ 9223372036854775807) : Ex P n e S ⟨d, .binOp .sub t x y t', ty, pos, af, gd⟩ (.int .i64 (p - q)) := by
  intro a w ha _
  simp [execOp, ha.ev hx, ha.ev hy, eqGuard, binOp, Op.intArith, IntWalk.i64_in _ h]
theorem Ex.mul {p q : Int} (hx : e.ev x = some (.int .i64 p)) (hy : e.ev y = some (.int .i64 q)) (h : -9223372036854775808 ≤ p * q ∧ p * q ≤ 9223372036854775807) : Ex P n e S ⟨d, .binOp .mul t x y t', ty, pos, af, gd⟩ (.int .i64 (p * q)) := by
  intro a w ha _
  simp [execOp, ha.ev hx, ha.ev hy, eqGuard, binOp, Op.intArith, IntWalk.i64_in _ h]
/-- The sum, whatever it is. -/
theorem Ex.addw {k : IntKind} {p q : Int} (hx : e.ev x = some (.int k p)) (hy : e.ev y = some (.int k q)) : Ex P n e S ⟨d, .binOp .add t x y t', ty, pos, af, gd⟩ (.int k (k.wrap (p + q))) := by
  intro a w ha _
  simp [execOp, ha.ev hx, ha.ev hy, eqGuard, binOp, Op.intArith]
theorem Ex.quo {p q : Int} (hx : e.ev x = some (.int .i64 p)) (hy : e.ev y = some (.int .i64 q)) (hq : 1 ≤ q) (h : 0 ≤ p ∧ p ≤ 9223372036854775807) : Ex P n e S ⟨d, .binOp .quo t x y t', ty, pos, af, gd⟩ (.int .i64 (p / q)) := by
  intro a w ha _
  have h0 : ¬ q = 0 := by omega
  simp [execOp, ha.ev hx, ha.ev hy, eqGuard, binOp, Op.intDiv, h0, IntWalk.i64_quo _ _ ⟨h.1, h.2, hq⟩]
theorem Ex.rem {p q : Int} (hx : e.ev x = some (.int .i64 p)) (hy : e.ev y = some (.int .i64 q)) (hq : 1 ≤ q) (h : 0 ≤ p ∧ p ≤ 9223372036854775807) : Ex P n e S ⟨d, .binOp .rem t x y t', ty, pos, af, gd⟩ (.int .i64 (p % q)) := by
  intro a w ha _
  have h0 : ¬ q = 0 := by omega
  simp [execOp, ha.ev hx, ha.ev hy, eqGuard, binOp, Op.intDiv, h0, IntWalk.rem_in _ _ h.1]
theorem Ex.neg {p : Int} (hx : e.ev x = some (.int .i64 p)) (h : -9223372036854775808 ≤ -p ∧ -p ≤ 9223372036854775807) : Ex P n e S ⟨d, .unOp .neg t x, ty, pos, af, gd⟩ (.int .i64 (-p)) := by
  intro a w ha _
  have h2 := IntWalk.i64_in _ h
  simp [execOp, ha.ev hx, Op.unary, Op.intArith, h2]
theorem Ex.conv {k k' : IntKind} {p : Int} (hx : e.ev x = some (.int k' p)) (hs : ∀ w, (underlying t).run P w = .ok (.int k') w) (hu : ∀ w, (underlying t').run P w = .ok (.int k) w) : Ex P n e S ⟨d, .convert t t' x, ty, pos, af, gd⟩ (.int k (k.wrap p)) := by
  intro a w ha _
  simp [execOp, ha.ev hx, convert, hs, hu, Conv.intToInt]
theorem Ex.conv64 {p : Int} {k' : IntKind} (hx : e.ev x = some (.int k' p)) (hs : ∀ w, (underlying t).run P w = .ok (.int k') w) (hu : ∀ w, (underlying t').run P w = .ok (.int .i64) w) (h : -9223372036854775808 ≤ p ∧ p ≤ 9223372036854775807) : Ex P n e S ⟨d, .convert t t' x, ty, pos, af, gd⟩ (.int .i64 p) := by
  have := Ex.conv (P := P) (n := n) (S := S) (d := d) (ty := ty) (pos := pos) (af := af) (gd := gd) hx hs hu
  rwa [IntWalk.i64_in _ h] at this
theorem Ex.convB {s : ByteArray} (hx : e.ev x = some (.string s)) (hs : ∀ w, (underlying t).run P w = .ok .string w) (hu : ∀ w, (underlying t').run P w = .ok .string w) : Ex P n e S ⟨d, .convert t t' x, ty, pos, af, gd⟩ (.string s) := by
  intro a w ha _
  simp [execOp, ha.ev hx, convert, hs, hu]
theorem Ex.maxy {p q : Int} {k k' : IntKind} {ts : Array TypeId} (hx : e.ev x = some (.int k p)) (hy : e.ev y = some (.int k' q)) (h : p < q) : Ex P n e S ⟨d, .call ⟨.builtin .max, #[x, y], ts⟩, ty, pos, af, gd⟩ (.int k q) := by
  intro a w ha _
  simp [execOp, resolve, invoke, builtin, ha.ev hx, ha.ev hy, Builtin.max_, Builtin.max2, h]
theorem Ex.maxx {p q : Int} {k k' : IntKind} {ts : Array TypeId} (hx : e.ev x = some (.int k p)) (hy : e.ev y = some (.int k' q)) (h : ¬ p < q) : Ex P n e S ⟨d, .call ⟨.builtin .max, #[x, y], ts⟩, ty, pos, af, gd⟩ (.int k p) := by
  intro a w ha _
  simp [execOp, resolve, invoke, builtin, ha.ev hx, ha.ev hy, Builtin.max_, Builtin.max2, h]
theorem Ex.miny {p q : Int} {k k' : IntKind} {ts : Array TypeId} (hx : e.ev x = some (.int k p)) (hy : e.ev y = some (.int k' q)) (h : q < p) : Ex P n e S ⟨d, .call ⟨.builtin .min, #[x, y], ts⟩, ty, pos, af, gd⟩ (.int k q) := by
  intro a w ha _
  simp [execOp, resolve, invoke, builtin, ha.ev hx, ha.ev hy, Builtin.min_, Builtin.min2, h]
theorem Ex.minx {p q : Int} {k k' : IntKind} {ts : Array TypeId} (hx : e.ev x = some (.int k p)) (hy : e.ev y = some (.int k' q)) (h : ¬ q < p) : Ex P n e S ⟨d, .call ⟨.builtin .min, #[x, y], ts⟩, ty, pos, af, gd⟩ (.int k p) := by
  intro a w ha _
  simp [execOp, resolve, invoke, builtin, ha.ev hx, ha.ev hy, Builtin.min_, Builtin.min2, h]
/-! Choices -/
theorem Ex.py {c : Operand} {b : Bool} (hc : e.ev c = some (.bool b)) (hb : b = true) (hx : e.ev x = some v) : Ex P n e S ⟨d, .pick c x y, ty, pos, af, gd⟩ v := by
  intro a w ha _
  subst hb
  simp [execOp, ha.ev hc, ha.ev hx, asBool]
theorem Ex.pn {c : Operand} {b : Bool} (hc : e.ev c = some (.bool b)) (hb : b = false) (hy : e.ev y = some v) : Ex P n e S ⟨d, .pick c x y, ty, pos, af, gd⟩ v := by
  intro a w ha _
  subst hb
  simp [execOp, ha.ev hc, ha.ev hy, asBool]
/-! Strings -/
theorem Ex.sEq {l m : List UInt8} (hx : e.ev x = some (.string (bsOf l))) (hy : e.ev y = some (.string (bsOf m))) : Ex P n e S ⟨d, .binOp .eql t x y t', ty, pos, af, gd⟩ (.bool (decide (l = m))) := by
  intro a w ha _
  have : (l == m) = decide (l = m) := by by_cases h : l = m <;> simp [h]
  simp [execOp, ha.ev hx, ha.ev hy, eqGuard, binOp_string_eql, bsOf_toList, this]
theorem Ex.sNe {l m : List UInt8} (hx : e.ev x = some (.string (bsOf l))) (hy : e.ev y = some (.string (bsOf m))) : Ex P n e S ⟨d, .binOp .neq t x y t', ty, pos, af, gd⟩ (.bool (!decide (l = m))) := by
  intro a w ha _
  have : (l == m) = decide (l = m) := by by_cases h : l = m <;> simp [h]
  simp [execOp, ha.ev hx, ha.ev hy, eqGuard, binOp_string_neq, bsOf_toList, this]
theorem Ex.sLt {l m : List UInt8} (hx : e.ev x = some (.string (bsOf l))) (hy : e.ev y = some (.string (bsOf m))) : Ex P n e S ⟨d, .binOp .lss t x y t', ty, pos, af, gd⟩ (.bool (Op.bytesLess l m)) := by
  intro a w ha _
  simp [execOp, ha.ev hx, ha.ev hy, eqGuard, binOp_string_lss, bsOf_toList]
theorem Ex.sGe {l m : List UInt8} (hx : e.ev x = some (.string (bsOf l))) (hy : e.ev y = some (.string (bsOf m))) : Ex P n e S ⟨d, .binOp .geq t x y t', ty, pos, af, gd⟩ (.bool (!Op.bytesLess l m)) := by
  intro a w ha _
  simp [execOp, ha.ev hx, ha.ev hy, eqGuard, binOp, Op.stringOp, bsOf_toList]
theorem Ex.sAdd {l m : List UInt8} (hx : e.ev x = some (.string (bsOf l))) (hy : e.ev y = some (.string (bsOf m))) (h : l.length + m.length ≤ 9223372036854775807) : Ex P n e S ⟨d, .binOp .add t x y t', ty, pos, af, gd⟩ (.string (bsOf (l ++ m))) := by
  intro a w ha _
  have h2 : ¬ (((bsOf l).size + (bsOf m).size : Nat) : Int) > IntKind.i64.max := by
    have e1 : IntKind.i64.max = 9223372036854775807 := by decide
    rw [e1, bsOf_size, bsOf_size]
    omega
  have h3 : bsOf l ++ bsOf m = bsOf (l ++ m) := by
    apply ByteArray.ext
    apply Array.ext'
    simp [bsOf]
  simp only [execOp, ha.ev hx, ha.ev hy, eqGuard, binOp_string_add, Op.stringOp, h2, if_false, h3]
  rfl
theorem Ex.sIx {l : List UInt8} {k : Nat} {i : Int} {c : UInt8} {q : IntKind} (hx : e.ev x = some (.string (bsOf l))) (hi : e.ev ix = some (.int q i)) (hik : i = (k : Int)) (hu : P.underlying t = some .string) (hc : l[k]? = some c) : Ex P n e S ⟨d, .index t x ix, ty, pos, af, gd⟩ (.int .u8 (c.toNat : Int)) := by
  intro a w ha _
  subst hik
  have hk := (List.getElem?_eq_some_iff.1 hc).1
  have h1 : (0 : Int) ≤ (k : Int) ∧ (k : Int) < ((bsOf l).size : Int) := by rw [bsOf_size]; omega
  have h2 : (bsOf l)[k]'(by rw [bsOf_size]; exact hk) = c := by
    have : l[k] = c := (List.getElem?_eq_some_iff.1 hc).2
    show (bsOf l).data[k] = c
    simpa [bsOf] using this
  simp only [execOp, ha.ev hx, ha.ev hi, Sem.run_bind, run_index_string w t (bsOf l) q k hu]
  rw [dif_pos h1]
  simp [h2]
inductive LoOK (e : Env) : Option Operand → Nat → Prop where
  | none : LoOK e none 0
  | some {o : Operand} {k : IntKind} {i : Int} {p : Nat} (h : e.ev o = some (.int k i)) (hi : i = (p : Int)) : LoOK e (some o) p
inductive HiOK (e : Env) (n : Nat) : Option Operand → Nat → Prop where
  | none : HiOK e n none n
  | some {o : Operand} {k : IntKind} {i : Int} {p : Nat} (h : e.ev o = some (.int k i)) (hi : i = (p : Int)) : HiOK e n (some o) p
/-- The bounds of a piece of a string. -/
theorem Ex.sSl {l : List UInt8} {lo hi : Option Operand} {p q : Nat} (hx : e.ev x = some (.string (bsOf l))) (hu : ∀ w, (underlying t).run P w = .ok .string w)
    (hlo : LoOK e lo p) (hhi : HiOK e l.length hi q) (h : p ≤ q ∧ q ≤ l.length) {m : List UInt8} (hm : (l.drop p).take (q - p) = m) :
    Ex P n e S ⟨d, .slice t x lo hi none, ty, pos, af, gd⟩ (.string (bsOf m)) := by
  intro a w ha _
  have e1 : (bsOf l).extract p q = bsOf m := by rw [str_extract, bsOf_list, hm]
  have b1 : ∀ k cd, (Instr.sliceBound (.int k (q : Int)) l.length cd).run P w = .ok q w := by
    intro k cd
    have : (0 : Int) ≤ (q : Int) ∧ (q : Int) ≤ (l.length : Int) := by omega
    simp [Instr.sliceBound, asIntOf, this]
  have b2 : ∀ k cd, (Instr.sliceBound (.int k (p : Int)) q cd).run P w = .ok p w := by
    intro k cd
    have : (0 : Int) ≤ (p : Int) ∧ (p : Int) ≤ (q : Int) := by omega
    simp [Instr.sliceBound, asIntOf, this]
  cases hlo with
  | none =>
    cases hhi with
    | none =>
      obtain rfl : l = m := by simpa using hm
      have e2 : (bsOf l).extract 0 l.length = bsOf l := by simpa using e1
      simp [execOp, ha.ev hx, Instr.sliceAt, Instr.slice, hu, Instr.sliceBounds, bsOf_size, e2]
    | some ho hi =>
      subst hi
      simp [execOp, ha.ev hx, ha.ev ho, Instr.sliceAt, Instr.slice, hu, Instr.sliceBounds, bsOf_size, b1, e1]
  | some ho hi =>
    subst hi
    cases hhi with
    | none =>
      simp [execOp, ha.ev hx, ha.ev ho, Instr.sliceAt, Instr.slice, hu, Instr.sliceBounds, bsOf_size, b2, e1]
    | some ho' hi' =>
      subst hi'
      simp [execOp, ha.ev hx, ha.ev ho, ha.ev ho', Instr.sliceAt, Instr.slice, hu, Instr.sliceBounds, bsOf_size, b1, b2, e1]
/-! Elements' places -/
theorem Ex.ixS {g o m c z k : Nat} {i : Int} {q : IntKind} (hx : e.ev x = some (.slice (some ⟨g, o, none⟩) m c)) (hi : e.ev ix = some (.int q i)) (hik : i = (k : Int)) (hu : ∀ w, (underlying t).run P w = .ok (.slice el) w) (hz : ∀ w, (sizeOf el).run P w = .ok z w) (hk : k < m) :
    Ex P n e S ⟨d, .indexAddr t x ix, ty, pos, af, gd⟩ (.pointer (some ⟨g, o + k * z, none⟩)) := by
  intro a w ha _
  subst hik
  have h1 : (0 : Int) ≤ (k : Int) ∧ (k : Int) < (m : Int) := by omega
  have h2 : (⟨g, o, none⟩ : Addr).add (k * z) = ⟨g, o + k * z, none⟩ := by unfold Addr.add; split <;> simp_all
  have h3 : (Instr.indexAt t (.slice (some ⟨g, o, none⟩) m c) (.int q (k : Int))).run P w = .ok (.pointer (some ⟨g, o + k * z, none⟩)) w := by
    simp only [Instr.indexAt, asIntOf, Sem.run_bind, Sem.run_pure, Result.andThen_ok, hu]
    rw [if_pos h1]
    simp [hz, h2]
  simp [execOp, ha.ev hx, ha.ev hi, h3]
/-! Loads -/
theorem run_loadVar1 {w : World} {ad : Addr} (ha : ∀ w, (isAgg t).run P w = .ok false w) (hc : w.cell? ad = some v) : (loadVar t ad).run P w = .ok v w := by
  simp [loadVar, ha, hc]
theorem run_loadVarS {w : World} {ad : Addr} {cs : List Value} (ha : ∀ w, (isAgg t).run P w = .ok true w) (hz : ∀ w, (sizeOf t).run P w = .ok cs.length w) (hc : ∀ j u, cs[j]? = some u → w.cell? (ad.add j) = some u) : (loadVar t ad).run P w = .ok (.agg cs.toArray) w := by
  simp [loadVar, ha, hz, run_loadCells_list w ad cs hc]
theorem Ex.ld1 {ad : Addr} (hx : e.ev x = some (.pointer (some ad))) (ha : ∀ w, (isAgg t).run P w = .ok false w) (hc : ∀ w, S w → w.cell? ad = some v) : Ex P n e S ⟨d, .load t x, ty, pos, af, gd⟩ v := by
  intro a w h hs
  simp [execOp, h.ev hx, Instr.loadAt, Instr.sureAddr, run_loadVar1 ha (hc w hs)]
theorem Ex.ldS {ad : Addr} {cs : List Value} {z : Nat} (hx : e.ev x = some (.pointer (some ad))) (ha : ∀ w, (isAgg t).run P w = .ok true w) (hz : ∀ w, (sizeOf t).run P w = .ok z w) (hl : cs.length = z) (hc : ∀ w, S w → ∀ j u, cs[j]? = some u → w.cell? (ad.add j) = some u) : Ex P n e S ⟨d, .load t x, ty, pos, af, gd⟩ (.agg cs.toArray) := by
  intro a w h hs
  subst hl
  simp [execOp, h.ev hx, Instr.loadAt, Instr.sureAddr, run_loadVarS ha hz (hc w hs)]
/-- .. of a block. -/
theorem Ex.b1 (i : Nat) {b o : Nat} {T : TypeId} {cs : Array Value} (hx : e.ev x = some (.pointer (some ⟨b, o, none⟩))) (ha : ∀ w, (isAgg t).run P w = .ok false w) (hi : Rs[i]? = some (BlkR b T cs)) (hv : cs[o]? = some v) : Ex P n e (St F0 w0 Rs) ⟨d, .load t x, ty, pos, af, gd⟩ v :=
  Ex.ld1 hx ha (fun w hw => (heap_at (hw.blk i hi) o).trans hv)
theorem Ex.bS (i : Nat) {b o z : Nat} {T : TypeId} {cs : Array Value} {us : List Value} (hx : e.ev x = some (.pointer (some ⟨b, o, none⟩))) (ha : ∀ w, (isAgg t).run P w = .ok true w) (hz : ∀ w, (sizeOf t).run P w = .ok z w) (hi : Rs[i]? = some (BlkR b T cs))
    (hv : (cs.toList.drop o).take z = us) (hl : Nat.beq us.length z = true) : Ex P n e (St F0 w0 Rs) ⟨d, .load t x, ty, pos, af, gd⟩ (.agg us.toArray) := by
  refine Ex.ldS hx ha hz (Nat.eq_of_beq_eq_true hl) (fun w hw j u hj => ?_)
  have h2 : (⟨b, o, none⟩ : Addr).add j = ⟨b, o + j, none⟩ := by unfold Addr.add; split <;> simp_all
  rw [h2, heap_at (hw.blk i hi)]
  subst hv
  rw [List.getElem?_take] at hj
  split at hj
  · rw [List.getElem?_drop] at hj
    simpa using hj
  · cases hj
/-- .. of old cells. -/
theorem Ex.o1 {g q z : Nat} (j : Nat) {cs : List Value} (hx : e.ev x = some (.pointer (some ⟨g, q + j, none⟩))) (ha : ∀ w, (isAgg t).run P w = .ok false w) (nf : ¬ F0 g ∧ g < w0.heap.size) (hc : ∀ j, j < z → w0.cell? ⟨g, q + j, none⟩ = cs[j]?) (hj : Nat.blt j z = true) (hv : cs[j]? = some v) :
    Ex P n e (St F0 w0 Rs) ⟨d, .load t x, ty, pos, af, gd⟩ v :=
  Ex.ld1 hx ha (fun w hw => hw.old2 nf ((hc j (by simpa [Nat.blt_eq] using hj)).trans hv))
theorem Ex.oS {g q z z' : Nat} (k : Nat) {cs us : List Value} (hx : e.ev x = some (.pointer (some ⟨g, q + k, none⟩))) (ha : ∀ w, (isAgg t).run P w = .ok true w) (hz : ∀ w, (sizeOf t).run P w = .ok z' w) (nf : ¬ F0 g ∧ g < w0.heap.size) (hc : ∀ j, j < z → w0.cell? ⟨g, q + j, none⟩ = cs[j]?) (hcl : cs.length = z)
    (hv : (cs.drop k).take z' = us) (hl : Nat.beq us.length z' = true) : Ex P n e (St F0 w0 Rs) ⟨d, .load t x, ty, pos, af, gd⟩ (.agg us.toArray) := by
  refine Ex.ldS hx ha hz (Nat.eq_of_beq_eq_true hl) (fun w hw j u hj => ?_)
  have h2 : (⟨g, q + k, none⟩ : Addr).add j = ⟨g, q + (k + j), none⟩ := by unfold Addr.add; split <;> simp_all [Nat.add_assoc]
  rw [h2]
  subst hv
  rw [List.getElem?_take] at hj
  split at hj
  · rw [List.getElem?_drop] at hj
    have hlt := (List.getElem?_eq_some_iff.1 hj).1
    exact hw.old2 nf ((hc (k + j) (by omega)).trans hj)
  · cases hj
/-! Structs and functions -/
/-- Where the parts of a struct lie. -/
def BOK (P : Program) (t : TypeId) (zs : Array Value) (pl : List (Nat × Nat)) : Prop := ∀ (parts : Array (Nat × Value)) (cells : Array Value) (w : World), Instr.fill (pl[·]?) zs parts.toList = some cells → (Instr.build t parts).run P w = .ok (.agg cells) w
theorem Ex.bld {zs cells : Array Value} {pl : List (Nat × Nat)} {ps : List (Nat × Operand)} {vs : List Value} (hB : BOK P t zs pl) (hv : e.evs (ps.map (·.2)) = some vs) (hf : Instr.fill (pl[·]?) zs ((ps.map (·.1)).zip vs) = some cells) : Ex P n e S ⟨d, .build t ps.toArray, ty, pos, af, gd⟩ (.agg cells) := by
  intro a w ha _
  have h1 := ha.evs hv
  have h2 : ps.map (fun p => (p.1, a.eval p.2)) = (ps.map (·.1)).zip vs := by
    rw [← h1]
    clear h1 hf hv
    induction ps with
    | nil => rfl
    | cons p ps ih => simp [ih]
  have h3 := hB (ps.map (fun p => (p.1, a.eval p.2))).toArray cells w (by simpa [h2] using hf)
  simp only [execOp, List.map_toArray, Sem.run_bind]
  rw [h3]
  rfl
theorem Ex.mkF {fn : Fn} {fs cs : List Operand} {us vs : List Value} (hf : e.evs fs = some us) (hc : e.evs cs = some vs) (h : ∀ w, (Instr.makeFunc fn us.toArray vs.toArray).run P w = .ok v w) : Ex P n e S ⟨d, .makeFunc fn fs.toArray cs.toArray, ty, pos, af, gd⟩ v := by
  intro a w ha _
  simp [execOp, List.map_toArray, ha.evs hf, ha.evs hc, h]
/-- A pointer that is there, held against none. -/
theorem Ex.pNe {ad : Addr} {b : Bool} {op : BinOp} (hop : op = .eql ∧ b = false ∨ op = .neq ∧ b = true) (hx : e.ev x = some (.pointer (some ad))) (hy : e.ev y = some (.pointer none)) (hu : ∀ w, (underlying t).run P w = .ok (.pointer el) w) : Ex P n e S ⟨d, .binOp op t x y t', ty, pos, af, gd⟩ (.bool b) := by
  intro a w ha _
  have h1 : ∀ k, (Op.equalIn (k + 1) t (.pointer (some ad)) (.pointer none)).run P w = .ok false w := by
    intro k
    simp only [Op.equalIn, Sem.run_bind, hu, Result.andThen_ok]
    rfl
  have h2 : (Op.equal t (.pointer (some ad)) (.pointer none)).run P w = .ok false w := h1 9999
  have h3 : ∀ b', (do pure (.bool (b' != (← Op.equal t (.pointer (some ad)) (.pointer none)))) : Sem Value).run P w = .ok (.bool b') w := by
    intro b'
    simp [h2]
  rcases hop with ⟨rfl, rfl⟩ | ⟨rfl, rfl⟩
  · have h4 : (binOp .eql t (.pointer (some ad)) (.pointer none)).run P w = .ok (.bool false) w := by
      simp only [binOp, Sem.run_bind, h2, Result.andThen_ok, Sem.run_pure]
    simp [execOp, ha.ev hx, ha.ev hy, eqGuard, h4]
  · have h4 : (binOp .neq t (.pointer (some ad)) (.pointer none)).run P w = .ok (.bool true) w := by
      simp only [binOp, Sem.run_bind, h2, Result.andThen_ok, Sem.run_pure]
      rfl
    simp [execOp, ha.ev hx, ha.ev hy, eqGuard, h4]
end
end Go.Proofs.Ytdlpmcbglmgpiaa.Sl
