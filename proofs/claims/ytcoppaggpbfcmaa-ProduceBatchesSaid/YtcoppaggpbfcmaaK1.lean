/- produceBatches_holds: part 1. -/
import Derived.Laws.BytesString
import Derived.Laws.Cells
import Derived.Laws.MakeOwn
import Derived.Laws.CopyRow
import Derived.Lib.Builder
import Derived.Lib.UnsafeStr
import Derived.Test.YtcoppaggpbfcmaaK0
namespace Go.Proofs.Ytcoppaggpbfcmaa.Sl
open Go.RowKit
set_option linter.unusedVariables false
set_option linter.unusedSimpArgs false
section
variable {P : Program} {n : Nat} {F0 : Nat → Prop} {w0 : World} {e : Env} {Rs : List Res} {S : World → Prop} {d : Option Tmp} {ty : TypeId} {pos : String} {af : Array Edge} {gd : Option (Nat × Bool)} {v : Value} {x y ix : Operand} {t t' el : TypeId}
theorem Ex.ft {ft : FTab} {op : Op} (hft : ft.OK P) (h : pureV ft e op = some v) : Ex P n e S ⟨d, op, ty, pos, af, gd⟩ v := pureV_run hft h
theorem Ex.lenS {A : Option Addr} {m c : Nat} (hx : e.ev x = some (.slice A m c)) (hu : ∀ w, (underlying t).run P w = .ok (.slice el) w) : Ex P n e S ⟨d, .call ⟨.builtin .len, #[x], #[t]⟩, ty, pos, af, gd⟩ (.int .i64 (m : Int)) := by
  intro a w ha _
  simp [execOp, resolve, invoke, builtin, ha.ev hx, Builtin.len_, hu, goInt]
theorem Ex.lenB {l : List UInt8} (hx : e.ev x = some (.string (bsOf l))) (hu : ∀ w, (underlying t).run P w = .ok .string w) : Ex P n e S ⟨d, .call ⟨.builtin .len, #[x], #[t]⟩, ty, pos, af, gd⟩ (.int .i64 (l.length : Int)) := by
  intro a w ha _
  simp [execOp, resolve, invoke, builtin, ha.ev hx, Builtin.len_, hu, goInt, bsOf_size]
theorem Ex.add {p q : Int} (hx : e.ev x = some (.int .i64 p)) (hy : e.ev y = some (.int .i64 q)) (h : -9223372036854775808 ≤ p + q ∧ p + q ≤ 9223372036854775807) : Ex P n e S ⟨d, .binOp .add t x y t', ty, pos, af, gd⟩ (.int .i64 (p + q)) := by
  intro a w ha _
  simp [execOp, ha.ev hx, ha.ev hy, eqGuard, binOp, Op.intArith, IntWalk.i64_in _ h]
theorem Ex.sub {p q : Int} (hx : e.ev x = some (.int .i64 p)) (hy : e.ev y = some (.int .i64 q)) (h : -9223372036854775808 ≤ p - q ∧ p - q ≤ 9223372036854775807) : Ex P n e S ⟨d, .binOp .sub t x y t', ty, pos, af, gd⟩ (.int .i64 (p - q)) := by
  intro a w ha _
  simp [execOp, ha.ev hx, ha.ev hy, eqGuard, binOp, Op.intArith, IntWalk.i64_in _ h]
theorem Ex.addw {k : IntKind} {p q : Int} (hx : e.ev x = some (.int k p)) (hy : e.ev y = some (.int k q)) : Ex P n e S ⟨d, .binOp .add t x y t', ty, pos, af, gd⟩ (.int k (k.wrap (p + q))) := by
  intro a w ha _
  simp [execOp, ha.ev hx, ha.ev hy, eqGuard, binOp, Op.intArith]
theorem Ex.quo {p q : Int} (hx : e.ev x = some (.int .i64 p)) (hy : e.ev y = some (.int .i64 q)) (hq : 1 ≤ q) (h : 0 ≤ p ∧ p ≤ 9223372036854775807) : Ex P n e S ⟨d, .binOp .quo t x y t', ty, pos, af, gd⟩ (.int .i64 (p / q)) := by
  intro a w ha _
  have h0 : ¬ q = 0 := by omega
  simp [execOp, ha.ev hx, ha.ev hy, eqGuard, binOp, Op.intDiv, h0, IntWalk.i64_quo _ _ ⟨h.1, h.2, hq⟩]
theorem Ex.rem {p q : Int} (hx : e.ev x = some (.int .i64 p)) (hy : e.ev y = some (.int .i64 q)) (hq : 1 ≤ q) (h : 0 ≤ p ∧ p ≤ 9223372036854775807) : Ex P n e S ⟨d, .binOp .rem t x y t', ty, pos, af, gd⟩ (.int .i64 (p % q)) := by
  intro a w ha _
  have h0 : ¬ q = 0 := by omega
  simp [execOp, ha.ev hx, ha.ev hy, eqGuard, binOp, Op.intDiv, h0, IntWalk.rem_in _ _ h.1]
theorem Ex.conv {k k' : IntKind} {p : Int} (hx : e.ev x = some (.int k' p)) (hs : ∀ w, (underlying t).run P w = .ok (.int k') w) (hu : ∀ w, (underlying t').run P w = .ok (.int k) w) : Ex P n e S ⟨d, .convert t t' x, ty, pos, af, gd⟩ (.int k (k.wrap p)) := by
  intro a w ha _
  simp [execOp, ha.ev hx, convert, hs, hu, Conv.intToInt]
theorem Ex.conv64 {p : Int} {k' : IntKind} (hx : e.ev x = some (.int k' p)) (hs : ∀ w, (underlying t).run P w = .ok (.int k') w) (hu : ∀ w, (underlying t').run P w = .ok (.int .i64) w) (h : -9223372036854775808 ≤ p ∧ p ≤ 9223372036854775807) : Ex P n e S ⟨d, .convert t t' x, ty, pos, af, gd⟩ (.int .i64 p) := by
  have := Ex.conv (P := P) (n := n) (S := S) (d := d) (ty := ty) (pos := pos) (af := af) (gd := gd) hx hs hu
  rwa [IntWalk.i64_in _ h] at this
theorem Ex.maxy {p q : Int} {k k' : IntKind} {ts : Array TypeId} (hx : e.ev x = some (.int k p)) (hy : e.ev y = some (.int k' q)) (h : p < q) : Ex P n e S ⟨d, .call ⟨.builtin .max, #[x, y], ts⟩, ty, pos, af, gd⟩ (.int k q) := by
  intro a w ha _
  simp [execOp, resolve, invoke, builtin, ha.ev hx, ha.ev hy, Builtin.max_, Builtin.max2, h]
theorem Ex.maxx {p q : Int} {k k' : IntKind} {ts : Array TypeId} (hx : e.ev x = some (.int k p)) (hy : e.ev y = some (.int k' q)) (h : ¬ p < q) : Ex P n e S ⟨d, .call ⟨.builtin .max, #[x, y], ts⟩, ty, pos, af, gd⟩ (.int k p) := by
  intro a w ha _
  simp [execOp, resolve, invoke, builtin, ha.ev hx, ha.ev hy, Builtin.max_, Builtin.max2, h]
theorem Ex.py {c : Operand} {b : Bool} (hc : e.ev c = some (.bool b)) (hb : b = true) (hx : e.ev x = some v) : Ex P n e S ⟨d, .pick c x y, ty, pos, af, gd⟩ v := by
  intro a w ha _
  subst hb
  simp [execOp, ha.ev hc, ha.ev hx, asBool]
theorem Ex.pn {c : Operand} {b : Bool} (hc : e.ev c = some (.bool b)) (hb : b = false) (hy : e.ev y = some v) : Ex P n e S ⟨d, .pick c x y, ty, pos, af, gd⟩ v := by
  intro a w ha _
  subst hb
  simp [execOp, ha.ev hc, ha.ev hy, asBool]
theorem Ex.sEq {l m : List UInt8} (hx : e.ev x = some (.string (bsOf l))) (hy : e.ev y = some (.string (bsOf m))) : Ex P n e S ⟨d, .binOp .eql t x y t', ty, pos, af, gd⟩ (.bool (decide (l = m))) := by
  intro a w ha _
  have : (l == m) = decide (l = m) := by by_cases h : l = m <;> simp [h]
  simp [execOp, ha.ev hx, ha.ev hy, eqGuard, binOp_string_eql, bsOf_toList, this]
theorem Ex.sGe {l m : List UInt8} (hx : e.ev x = some (.string (bsOf l))) (hy : e.ev y = some (.string (bsOf m))) : Ex P n e S ⟨d, .binOp .geq t x y t', ty, pos, af, gd⟩ (.bool (!Op.bytesLess l m)) := by
  intro a w ha _
  simp [execOp, ha.ev hx, ha.ev hy, eqGuard, binOp, Op.stringOp, bsOf_toList]
theorem Ex.sIx {l : List UInt8} {k : Nat} {i : Int} {c : UInt8} {q : IntKind} (hx : e.ev x = some (.string (bsOf l))) (hi : e.ev ix = some (.int q i)) (hik : i = (k : Int)) (hu : P.underlying t = some .string) (hc : l[k]? = some c) : Ex P n e S ⟨d, .index t x ix, ty, pos, af, gd⟩ (.int .u8 (c.toNat : Int)) := by
  intro a w ha _
  subst hik
  have hk := (List.getElem?_eq_some_iff.1 hc).1
  have h1 : (0 : Int) ≤ (k : Int) ∧ (k : Int) < ((bsOf l).size : Int) := by rw [bsOf_size]; omega
  have h2 : (bsOf l)[k]'(by rw [bsOf_size]; exact hk) = c := by
    have : l[k] = c := (List.getElem?_eq_some_iff.1 hc).2
    show (bsOf l).data[k] = c
    simpa [bsOf] using this
  simp only [execOp, ha.ev hx, ha.ev hi, Sem.run_bind, run_index_string w t (bsOf l) q k hu]
  rw [dif_pos h1]
  simp [h2]
inductive LoOK (e : Env) : Option Operand → Nat → Prop where
  | none : LoOK e none 0
  | some {o : Operand} {k : IntKind} {i : Int} {p : Nat} (h : e.ev o = some (.int k i)) (hi : i = (p : Int)) : LoOK e (some o) p
inductive HiOK (e : Env) (n : Nat) : Option Operand → Nat → Prop where
  | none : HiOK e n none n
  | some {o : Operand} {k : IntKind} {i : Int} {p : Nat} (h : e.ev o = some (.int k i)) (hi : i = (p : Int)) : HiOK e n (some o) p
theorem Ex.sSl {l : List UInt8} {lo hi : Option Operand} {p q : Nat} (hx : e.ev x = some (.string (bsOf l))) (hu : ∀ w, (underlying t).run P w = .ok .string w)
    (hlo : LoOK e lo p) (hhi : HiOK e l.length hi q) (h : p ≤ q ∧ q ≤ l.length) {m : List UInt8} (hm : (l.drop p).take (q - p) = m) :
    Ex P n e S ⟨d, .slice t x lo hi none, ty, pos, af, gd⟩ (.string (bsOf m)) := by
  intro a w ha _
  have e1 : (bsOf l).extract p q = bsOf m := by rw [str_extract, bsOf_list, hm]
  have b1 : ∀ k cd, (Instr.sliceBound (.int k (q : Int)) l.length cd).run P w = .ok q w := by
    intro k cd
    have : (0 : Int) ≤ (q : Int) ∧ (q : Int) ≤ (l.length : Int) := by omega
    simp [Instr.sliceBound, asIntOf, this]
  have b2 : ∀ k cd, (Instr.sliceBound (.int k (p : Int)) q cd).run P w = .ok p w := by
    intro k cd
    have : (0 : Int) ≤ (p : Int) ∧ (p : Int) ≤ (q : Int) := by omega
    simp [Instr.sliceBound, asIntOf, this]
  cases hlo with
  | none =>
    cases hhi with
    | none =>
      obtain rfl : l = m := by simpa using hm
      have e2 : (bsOf l).extract 0 l.length = bsOf l := by simpa using e1
      simp [execOp, ha.ev hx, Instr.sliceAt, Instr.slice, hu, Instr.sliceBounds, bsOf_size, e2]
    | some ho hi =>
      subst hi
      simp [execOp, ha.ev hx, ha.ev ho, Instr.sliceAt, Instr.slice, hu, Instr.sliceBounds, bsOf_size, b1, e1]
  | some ho hi =>
    subst hi
    cases hhi with
    | none =>
      simp [execOp, ha.ev hx, ha.ev ho, Instr.sliceAt, Instr.slice, hu, Instr.sliceBounds, bsOf_size, b2, e1]
    | some ho' hi' =>
      subst hi'
      simp [execOp, ha.ev hx, ha.ev ho, ha.ev ho', Instr.sliceAt, Instr.slice, hu, Instr.sliceBounds, bsOf_size, b1, b2, e1]
theorem Ex.ixS {g o m c z k : Nat} {i : Int} {q : IntKind} (hx : e.ev x = some (.slice (some ⟨g, o, none⟩) m c)) (hi : e.ev ix = some (.int q i)) (hik : i = (k : Int)) (hu : ∀ w, (underlying t).run P w = .ok (.slice el) w) (hz : ∀ w, (sizeOf el).run P w = .ok z w) (hk : k < m) :
    Ex P n e S ⟨d, .indexAddr t x ix, ty, pos, af, gd⟩ (.pointer (some ⟨g, o + k * z, none⟩)) := by
  intro a w ha _
  subst hik
  have h1 : (0 : Int) ≤ (k : Int) ∧ (k : Int) < (m : Int) := by omega
  have h2 : (⟨g, o, none⟩ : Addr).add (k * z) = ⟨g, o + k * z, none⟩ := by unfold Addr.add; split <;> simp_all
  have h3 : (Instr.indexAt t (.slice (some ⟨g, o, none⟩) m c) (.int q (k : Int))).run P w = .ok (.pointer (some ⟨g, o + k * z, none⟩)) w := by
    simp only [Instr.indexAt, asIntOf, Sem.run_bind, Sem.run_pure, Result.andThen_ok, hu]
    rw [if_pos h1]
    simp [hz, h2]
  simp [execOp, ha.ev hx, ha.ev hi, h3]
theorem run_loadVar1 {w : World} {ad : Addr} (ha : ∀ w, (isAgg t).run P w = .ok false w) (hc : w.cell? ad = some v) : (loadVar t ad).run P w = .ok v w := by
  simp [loadVar, ha, hc]
theorem run_loadVarS {w : World} {ad : Addr} {cs : List Value} (ha : ∀ w, (isAgg t).run P w = .ok true w) (hz : ∀ w, (sizeOf t).run P w = .ok cs.length w) (hc : ∀ j u, cs[j]? = some u → w.cell? (ad.add j) = some u) : (loadVar t ad).run P w = .ok (.agg cs.toArray) w := by
  simp [loadVar, ha, hz, run_loadCells_list w ad cs hc]
theorem Ex.ld1 {ad : Addr} (hx : e.ev x = some (.pointer (some ad))) (ha : ∀ w, (isAgg t).run P w = .ok false w) (hc : ∀ w, S w → w.cell? ad = some v) : Ex P n e S ⟨d, .load t x, ty, pos, af, gd⟩ v := by
  intro a w h hs
  simp [execOp, h.ev hx, Instr.loadAt, Instr.sureAddr, run_loadVar1 ha (hc w hs)]
theorem Ex.ldS {ad : Addr} {cs : List Value} {z : Nat} (hx : e.ev x = some (.pointer (some ad))) (ha : ∀ w, (isAgg t).run P w = .ok true w) (hz : ∀ w, (sizeOf t).run P w = .ok z w) (hl : cs.length = z) (hc : ∀ w, S w → ∀ j u, cs[j]? = some u → w.cell? (ad.add j) = some u) : Ex P n e S ⟨d, .load t x, ty, pos, af, gd⟩ (.agg cs.toArray) := by
  intro a w h hs
  subst hl
  simp [execOp, h.ev hx, Instr.loadAt, Instr.sureAddr, run_loadVarS ha hz (hc w hs)]
theorem Ex.b1 (i : Nat) {b o : Nat} {T : TypeId} {cs : Array Value} (hx : e.ev x = some (.pointer (some ⟨b, o, none⟩))) (ha : ∀ w, (isAgg t).run P w = .ok false w) (hi : Rs[i]? = some (BlkR b T cs)) (hv : cs[o]? = some v) : Ex P n e (St F0 w0 Rs) ⟨d, .load t x, ty, pos, af, gd⟩ v :=
  Ex.ld1 hx ha (fun w hw => (heap_at (hw.blk i hi) o).trans hv)
theorem Ex.bS (i : Nat) {b o z : Nat} {T : TypeId} {cs : Array Value} {us : List Value} (hx : e.ev x = some (.pointer (some ⟨b, o, none⟩))) (ha : ∀ w, (isAgg t).run P w = .ok true w) (hz : ∀ w, (sizeOf t).run P w = .ok z w) (hi : Rs[i]? = some (BlkR b T cs))
    (hv : (cs.toList.drop o).take z = us) (hl : Nat.beq us.length z = true) : Ex P n e (St F0 w0 Rs) ⟨d, .load t x, ty, pos, af, gd⟩ (.agg us.toArray) := by
  refine Ex.ldS hx ha hz (Nat.eq_of_beq_eq_true hl) (fun w hw j u hj => ?_)
  have h2 : (⟨b, o, none⟩ : Addr).add j = ⟨b, o + j, none⟩ := by unfold Addr.add; split <;> simp_all
  rw [h2, heap_at (hw.blk i hi)]
  subst hv
  rw [List.getElem?_take] at hj
  split at hj
  · rw [List.getElem?_drop] at hj
    simpa using hj
  · cases hj
theorem Ex.o1 {g q z : Nat} (j : Nat) {cs : List Value} (hx : e.ev x = some (.pointer (some ⟨g, q + j, none⟩))) (ha : ∀ w, (isAgg t).run P w = .ok false w) (nf : ¬ F0 g ∧ g < w0.heap.size) (hc : ∀ j, j < z → w0.cell? ⟨g, q + j, none⟩ = cs[j]?) (hj : Nat.blt j z = true) (hv : cs[j]? = some v) :
    Ex P n e (St F0 w0 Rs) ⟨d, .load t x, ty, pos, af, gd⟩ v :=
  Ex.ld1 hx ha (fun w hw => hw.old2 nf ((hc j (by simpa [Nat.blt_eq] using hj)).trans hv))
theorem Ex.oS {g q z z' : Nat} (k : Nat) {cs us : List Value} (hx : e.ev x = some (.pointer (some ⟨g, q + k, none⟩))) (ha : ∀ w, (isAgg t).run P w = .ok true w) (hz : ∀ w, (sizeOf t).run P w = .ok z' w) (nf : ¬ F0 g ∧ g < w0.heap.size) (hc : ∀ j, j < z → w0.cell? ⟨g, q + j, none⟩ = cs[j]?) (hcl : cs.length = z)
    (hv : (cs.drop k).take z' = us) (hl : Nat.beq us.length z' = true) : Ex P n e (St F0 w0 Rs) ⟨d, .load t x, ty, pos, af, gd⟩ (.agg us.toArray) := by
  refine Ex.ldS hx ha hz (Nat.eq_of_beq_eq_true hl) (fun w hw j u hj => ?_)
  have h2 : (⟨g, q + k, none⟩ : Addr).add j = ⟨g, q + (k + j), none⟩ := by unfold Addr.add; split <;> simp_all [Nat.add_assoc]
  rw [h2]
  subst hv
  rw [List.getElem?_take] at hj
  split at hj
  · rw [List.getElem?_drop] at hj
    have hlt := (List.getElem?_eq_some_iff.1 hj).1
    exact hw.old2 nf ((hc (k + j) (by omega)).trans hj)
  · cases hj
def BOK (P : Program) (t : TypeId) (zs : Array Value) (pl : List (Nat × Nat)) : Prop := ∀ (parts : Array (Nat × Value)) (cells : Array Value) (w : World), Instr.fill (pl[·]?) zs parts.toList = some cells → (Instr.build t parts).run P w = .ok (.agg cells) w
theorem Ex.bld {zs cells : Array Value} {pl : List (Nat × Nat)} {ps : List (Nat × Operand)} {vs : List Value} (hB : BOK P t zs pl) (hv : e.evs (ps.map (·.2)) = some vs) (hf : Instr.fill (pl[·]?) zs ((ps.map (·.1)).zip vs) = some cells) : Ex P n e S ⟨d, .build t ps.toArray, ty, pos, af, gd⟩ (.agg cells) := by
  intro a w ha _
  have h1 := ha.evs hv
  have h2 : ps.map (fun p => (p.1, a.eval p.2)) = (ps.map (·.1)).zip vs := by
    rw [← h1]
    clear h1 hf hv
    induction ps with
    | nil => rfl
    | cons p ps ih => simp [ih]
  have h3 := hB (ps.map (fun p => (p.1, a.eval p.2))).toArray cells w (by simpa [h2] using hf)
  simp only [execOp, List.map_toArray, Sem.run_bind]
  rw [h3]
  rfl
end
end Go.Proofs.Ytcoppaggpbfcmaa.Sl
namespace Go.Proofs.Ytcoppaggpbfcmaa.Sl
open Go.RowKit
set_option linter.unusedVariables false
set_option linter.unusedSimpArgs false
def envput : Option Nat → Value → Env → Env
  | none, _, e => e
  | some d, v, e => (d, v) :: e
def okd : Option Nat → Nat → Bool
  | none, _ => true
  | some d, n => Nat.blt d n
section
variable {P : Program} {n : Nat} {F0 : Nat → Prop} {w0 : World} {e : Env} {Rs : List Res} {d : Option Tmp} {ty : TypeId} {pos : String} {af : Array Edge} {gd : Option (Nat × Bool)} {v : Value} {x y : Operand} {t t' el : TypeId}
theorem Has.putd {a : Act} (h : Has n e a) (hd : okd d n = true) : Has n (envput d v e) (a.put d v) := by
  cases d with
  | none => exact h
  | some d => exact h.put hd
theorem St.setRowS {b : Nat} {T : TypeId} {cs cs' : Array Value} {w : World} (i : Nat) (h : St F0 w0 Rs w) (hi : Rs[i]? = some (BlkR b T cs)) : St F0 w0 (Rs.set i (BlkR b T cs')) (w.setRow b cs') := by
  refine h.step i hi (Ns := []) (fun G hG => ⟨⟨rfl, rfl, rfl, by simp [World.setRow], fun k hk hn => setRow_other w b k cs' (fun e => hn (e ▸ (hG.2 b).2 rfl))⟩, G, ⟨setRow_heap w b cs cs' T (0, 0) hG.1, hG.2⟩, fun k hk => .inl hk, trivial⟩)
theorem Ef.alloc {zv : Value} (hz : ∀ w, (zeroValue t).run P w = .ok zv w) (hd : okd d n = true) : Ef P n F0 w0 e Rs ⟨d, .alloc t, ty, pos, af, gd⟩ (fun e' Rs' => ∃ b, e' = envput d (.pointer (some ⟨b, 0, none⟩)) e ∧ Rs' = BlkR b t zv.cells :: Rs) := by
  intro a w K Q ha hs hk
  have h1 : (execOp a.eval ⟨d, .alloc t, ty, pos, af, gd⟩).run P w = .ok (.value (.pointer (some ⟨w.heap.size, 0, none⟩))) (w.alloc (.cells zv.cells t)) := by
    simp [execOp, Instr.alloc, hz, newVar, newRow, newObj]
    rfl
  unfold Oper.wp
  rw [h1]
  exact hk _ _ ⟨_, rfl, rfl⟩ _ _ (ha.putd hd) (hs.alloc _ _)
theorem Ef.box (hx : e.ev x = some v) (hd : okd d n = true) : Ef P n F0 w0 e Rs ⟨d, .box t x, ty, pos, af, gd⟩ (fun e' Rs' => ∃ b, e' = envput d (.pointer (some ⟨b, 0, none⟩)) e ∧ Rs' = BlkR b t v.cells :: Rs) := by
  intro a w K Q ha hs hk
  have h1 : (execOp a.eval ⟨d, .box t x, ty, pos, af, gd⟩).run P w = .ok (.value (.pointer (some ⟨w.heap.size, 0, none⟩))) (w.alloc (.cells v.cells t)) := by
    simp [execOp, ha.ev hx, Instr.box, newVar, newRow, newObj]
    rfl
  unfold Oper.wp
  rw [h1]
  exact hk _ _ ⟨_, rfl, rfl⟩ _ _ (ha.putd hd) (hs.alloc _ _)
theorem Ef.st (i : Nat) {b o z : Nat} {T : TypeId} {cs cs' : Array Value} (hx : e.ev x = some (.pointer (some ⟨b, o, none⟩))) (hy : e.ev y = some v) (hz : ∀ w, (sizeOf t).run P w = .ok z w) (hi : Rs[i]? = some (BlkR b T cs))
    (hvz : Nat.beq v.cells.size z = true) (hf : Nat.ble (o + v.cells.size) cs.size = true) (ho : v.cells.toList.all (·.oneCell') = true) (hc : (cs.toList.take o ++ v.cells.toList ++ cs.toList.drop (o + v.cells.size)).toArray = cs') :
    Ef P n F0 w0 e Rs ⟨none, .store t x y, ty, pos, af, gd⟩ (fun e' Rs' => e' = e ∧ Rs' = Rs.set i (BlkR b T cs')) := by
  intro a w K Q ha hs hk
  have hb := hs.blk i hi
  have hvz' := Nat.eq_of_beq_eq_true hvz
  have hf' := Nat.le_of_ble_eq_true hf
  have h2 := run_storeCells_at (P := P) b o T v.cells.toList 0 cs w hb (by simpa using hf') (List.all_eq_true.1 ho)
  have h1 : (execOp a.eval ⟨none, .store t x y, ty, pos, af, gd⟩).run P w = .ok .skip (w.setRow b cs') := by
    simp only [Nat.add_zero, Array.length_toList] at h2
    rw [hc] at h2
    simp [execOp, ha.ev hx, ha.ev hy, Instr.storeAt, Instr.sureAddr, storeVar, hz, hvz', h2]
  unfold Oper.wp
  rw [h1]
  exact hk _ _ ⟨rfl, rfl⟩ _ _ (ha.put0) (hs.setRowS i hi)
def CT (P : Program) (n : Nat) (e : Env) (o : Oper) (f : FuncId) (us : List Value) : Prop := ∀ a w, Has n e a → (execOp a.eval o).run P w = .ok (.enter f us.toArray) w
theorem CT.fn {f : FuncId} {xs : List Operand} {vs : List Value} {ts : Array TypeId} (hc : ∀ args w, (callFunc f args).run P w = .ok (.enter f args) w) (hv : e.evs xs = some vs) : CT P n e ⟨d, .call ⟨.value (.func f), xs.toArray, ts⟩, ty, pos, af, gd⟩ f vs := by
  intro a w ha
  simp [execOp, resolve, Act.eval, Deferred.ofValue, invoke, List.map_toArray, ha.evs hv, hc]
theorem CT.val {f : FuncId} {x : Operand} {xs : List Operand} {vs us fs cs : List Value} {ts : Array TypeId} (hx : e.ev x = some (.func (.func f) fs.toArray cs.toArray)) (hc : ∀ args w, (callFunc f args).run P w = .ok (.enter f args) w) (hv : e.evs xs = some vs) (hu : fs ++ vs ++ cs = us) : CT P n e ⟨d, .call ⟨.value x, xs.toArray, ts⟩, ty, pos, af, gd⟩ f us := by
  intro a w ha
  subst hu
  simp [execOp, resolve, ha.ev hx, Deferred.ofValue, invoke, List.map_toArray, ha.evs hv, hc]
theorem Ef.call (i : Nat) {op : Op} {f : FuncId} {vs : List Value} {A : Res} {Y : RX} {R : Value → Res → List Res → Prop} (hc : CT P n e ⟨d, op, ty, pos, af, gd⟩ f vs) (hi : Rs[i]? = some A)
    (hs : SpecX P f vs.toArray Y A R) (hr : ∀ w, St F0 w0 Rs w → Src F0 w0 Rs w i Y) (hd : okd d n = true) :
    Ef P n F0 w0 e Rs ⟨d, op, ty, pos, af, gd⟩ (fun e' Rs' => ∃ v A' N, R v A' N ∧ e' = envput d v e ∧ Rs' = N ++ Rs.set i A') := by
  intro a w K Q ha hst hk
  unfold Oper.wp
  rw [hc a w ha]
  refine (hst.callX i hi hs (hr w hst)).mono ?_
  rintro x w' ⟨v, A', N, rfl, hq, hst'⟩
  exact hk _ _ ⟨v, A', N, hq, rfl, rfl⟩ _ _ (ha.putd hd) hst'
theorem Ef.callE {op : Op} {f : FuncId} {vs : List Value} {Y : RX} {R : Value → Res → List Res → Prop} (hc : CT P n e ⟨d, op, ty, pos, af, gd⟩ f vs)
    (hs : SpecX P f vs.toArray Y EmpR R) (hr : ∀ w, St F0 w0 Rs w → Y.reads w (fun _ => False)) (hd : okd d n = true) :
    Ef P n F0 w0 e Rs ⟨d, op, ty, pos, af, gd⟩ (fun e' Rs' => ∃ v A' N, R v A' N ∧ e' = envput d v e ∧ Rs' = N ++ Rs) := by
  intro a w K Q ha hst hk
  unfold Oper.wp
  rw [hc a w ha]
  refine (hst.callE hs (hr w hst)).mono ?_
  rintro x w' ⟨v, A', N, rfl, hq, hst'⟩
  exact hk _ _ ⟨v, A', N, hq, rfl, rfl⟩ _ _ (ha.putd hd) hst'
theorem run_app {a : Act} {w : World} {sl x : Operand} {T : TypeId} {z bytes g : Nat} {zv : Value} {us cells : List Value} {q : Value} {m : Nat} (ha : Has n e a) (hu : P.underlying t = some (.slice T)) (hinfo : (P.info? T).map (fun i => (i.zero, i.size, i.bytes)) = some (some zv, z, bytes)) (hzv : zv.cells.size = z) (hp : 0 < z)
    (hs : e.ev sl = some q) (hx : e.ev x = some (.slice (some ⟨g, 0, none⟩) 1 1)) (hown : w.ownsRow 0 T z q m cells) (hl : us.length = z) (hg : w.heap[g]? = some (.cells us.toArray T (0, 0))) (ho : us.all (·.oneCell') = true) (hb : (m + 1) * bytes ≤ 140737488355328) (hm : m + 1 ≤ 140737488355328) :
    ∃ q' w', (execOp a.eval ⟨d, .call ⟨.builtin .append, #[sl, x], #[t, t]⟩, ty, pos, af, gd⟩).run P w = .ok (.value q') w' ∧ w'.ownsRow 0 T z q' (m + 1) (cells ++ us) ∧ w.grownBy w' q.ownBlock ∧ (q'.ownBlock = q.ownBlock ∨ ∃ k, q'.ownBlock = some k ∧ w.heap.size ≤ k) := by
  obtain ⟨i, hi, hzz⟩ := Option.map_eq_some_iff.1 hinfo
  simp only [Prod.mk.injEq] at hzz
  obtain ⟨h0, h1, h2⟩ := hzz
  obtain ⟨q', w', hr, k2, k3, _, k5⟩ := run_append_own_at (P := P) w 0 t ty T i zv z bytes hu hi h0 h1 h2 hzv hp q m cells hown ⟨g, 0, none⟩ 1 1 us (by omega) (fun j u hj => by
    have e1 : (⟨g, 0, none⟩ : Addr).add j = ⟨g, j, none⟩ := by unfold Addr.add; split <;> simp_all
    rw [e1, heap_at hg]
    simpa using hj) (by simpa using ho) (by simp only [maxLen]; omega) hb (Nat.zero_le _)
  refine ⟨q', w', ?_, k2, k3, k5.imp id (fun h => ⟨_, h, Nat.le_refl _⟩)⟩
  simp [execOp, resolve, invoke, builtin, ha.ev hs, ha.ev hx, hr]
theorem Ef.app1 (i : Nat) {α : Type} {E : Rd α} {sl x : Operand} {T : TypeId} {z bytes g : Nat} {zv : Value} {us : List Value} {A : Option Addr} {c : Nat} {l : List α} {u : α} {Rs' : List Res} (hu : P.underlying t = some (.slice T)) (hinfo : (P.info? T).map (fun i => (i.zero, i.size, i.bytes)) = some (some zv, z, bytes)) (hzv : zv.cells.size = z) (hp : 0 < z)
    (hs : e.ev sl = some (.slice A l.length c)) (hx : e.ev x = some (.slice (some ⟨g, 0, none⟩) 1 1)) (hR : Rs = BlkR g T us.toArray :: Rs') (hi : Rs'[i]? = some (OwnR T z E (.slice A l.length c) l)) (hl : us.length = z) (ho : us.all (·.oneCell') = true) (hE : ∀ w S, E.P w S us u) (hb : (l.length + 1) * bytes ≤ 140737488355328) (hm : l.length + 1 ≤ 140737488355328) (hd : okd d n = true) :
    Ef P n F0 w0 e Rs ⟨d, .call ⟨.builtin .append, #[sl, x], #[t, t]⟩, ty, pos, af, gd⟩ (fun e' R => ∃ A' c', e' = envput d (.slice A' (l ++ [u]).length c') e ∧ R = Rs'.set i (OwnR T z E (.slice A' (l ++ [u]).length c') (l ++ [u]))) := by
  subst hR
  intro a w K Q ha hst hk
  obtain ⟨cells, k1, k2⟩ := OwnR.open_ (i + 1) hst (by simpa using hi)
  obtain ⟨q', w', r1, r2, r3, r4⟩ := run_app (d := d) (ty := ty) (pos := pos) (af := af) (gd := gd) ha hu hinfo hzv hp hs hx k1 hl (hst.blk 0 rfl) ho hb hm
  have h3 := k2 q' w' us u r2 r3 r4 hl hE
  have hlen : l.length + 1 = (l ++ [u]).length := by simp
  rw [hlen] at r2
  obtain ⟨A', c', rfl⟩ := row_slice r2
  unfold Oper.wp
  rw [r1]
  exact hk _ _ ⟨A', c', rfl, rfl⟩ _ _ (ha.putd hd) (h3.drop_)
theorem Ef.app2 (i j : Nat) {α : Type} {E : Rd α} {sl x : Operand} {T : TypeId} {z bytes g : Nat} {zv : Value} {us : List Value} {A : Option Addr} {c : Nat} {l : List α} {u : α} {Rs' : List Res} {B : Res} (hu : P.underlying t = some (.slice T)) (hinfo : (P.info? T).map (fun i => (i.zero, i.size, i.bytes)) = some (some zv, z, bytes)) (hzv : zv.cells.size = z) (hp : 0 < z)
    (hs : e.ev sl = some (.slice A l.length c)) (hx : e.ev x = some (.slice (some ⟨g, 0, none⟩) 1 1)) (hR : Rs = BlkR g T us.toArray :: Rs') (hi : Rs'[i]? = some (OwnR T z E (.slice A l.length c) l)) (hj : (Rs'.eraseIdx i)[j]? = some B) (hl : us.length = z) (ho : us.all (·.oneCell') = true) (hE : ∀ w G, B.P w G → E.P w G us u) (hb : (l.length + 1) * bytes ≤ 140737488355328) (hm : l.length + 1 ≤ 140737488355328) (hd : okd d n = true) :
    Ef P n F0 w0 e Rs ⟨d, .call ⟨.builtin .append, #[sl, x], #[t, t]⟩, ty, pos, af, gd⟩ (fun e' R => ∃ A' c', e' = envput d (.slice A' (l ++ [u]).length c') e ∧ R = OwnR T z E (.slice A' (l ++ [u]).length c') (l ++ [u]) :: (Rs'.eraseIdx i).eraseIdx j) := by
  subst hR
  intro a w K Q ha hst hk
  obtain ⟨cells, k1, k2⟩ := OwnR.open2 (B := B) (i + 1) (j + 1) hst (by simpa using hi) (by simpa using hj)
  obtain ⟨q', w', r1, r2, r3, r4⟩ := run_app (d := d) (ty := ty) (pos := pos) (af := af) (gd := gd) ha hu hinfo hzv hp hs hx k1 hl (hst.blk 0 rfl) ho hb hm
  have h3 := k2 q' w' us u r2 r3 r4 hl hE
  have hlen : l.length + 1 = (l ++ [u]).length := by simp
  rw [hlen] at r2
  obtain ⟨A', c', rfl⟩ := row_slice r2
  unfold Oper.wp
  rw [r1]
  have h4 := h3.del 1 (A := BlkR g T us.toArray) rfl
  exact hk _ _ ⟨A', c', rfl, rfl⟩ _ _ (ha.putd hd) h4
def SOK (P : Program) (t T : TypeId) (m z : Nat) (zs : Array Value) : Prop := ∀ (parts : Array (Nat × Value)) (cells : Array Value) (w : World), Instr.fill (fun i => some (i * z, z)) zs parts.toList = some cells → (Instr.buildSlice t m parts).run P w = .ok (.slice (some ⟨w.heap.size, 0, none⟩) m m) (w.alloc (.cells cells T))
theorem Ef.lit {T m z : Nat} {zs cells : Array Value} {ps : List (Nat × Operand)} {vs : List Value} (hB : SOK P t T m z zs) (hv : e.evs (ps.map (·.2)) = some vs) (hf : Instr.fill (fun i => some (i * z, z)) zs ((ps.map (·.1)).zip vs) = some cells) (hd : okd d n = true) :
    Ef P n F0 w0 e Rs ⟨d, .buildSlice t m ps.toArray, ty, pos, af, gd⟩ (fun e' Rs' => ∃ b, e' = envput d (.slice (some ⟨b, 0, none⟩) m m) e ∧ Rs' = BlkR b T cells :: Rs) := by
  intro a w K Q ha hs hk
  have h1 := ha.evs hv
  have h2 : ps.map (fun p => (p.1, a.eval p.2)) = (ps.map (·.1)).zip vs := by
    rw [← h1]
    clear h1 hf hv
    induction ps with
    | nil => rfl
    | cons p ps ih => simp [ih]
  have h3 := hB (ps.map (fun p => (p.1, a.eval p.2))).toArray cells w (by simpa [h2] using hf)
  unfold Oper.wp
  simp only [execOp, List.map_toArray, Sem.run_bind]
  rw [h3]
  exact hk _ _ ⟨_, rfl, rfl⟩ _ _ (ha.putd hd) (hs.alloc _ _)
theorem St.rowOf {α : Type} {E : Rd α} {b T z m : Nat} {us : List Value} {l : List α} {w : World} (h : St F0 w0 (BlkR b T us.toArray :: Rs) w) (hm : l.length = m) (hmm : m ≤ maxLen) (he : ∀ w, elems z E w (fun _ => False) us l) :
    St F0 w0 (OwnR T z E (.slice (some ⟨b, 0, none⟩) m m) l :: Rs) w := by
  subst hm
  refine h.weaken 0 rfl (fun G hG => ?_)
  have hl := elems_length (he w)
  refine ⟨us, fun _ => False, ⟨hl, .inr ⟨b, l.length, us.toArray, rfl, Nat.zero_le _, hG.1, Nat.le_refl _, hmm, by simpa using hl, ?_⟩⟩, he w, fun _ h => h.elim, fun _ _ h => h, fun k => ?_⟩
  · simp [← hl]
  · rw [hG.2 k]
    simp [Value.ownBlock, eq_comm]
end
section
variable {P : Program} {n : Nat} {F0 : Nat → Prop} {w0 : World} {e : Env} {Rs Rf : List Res} {Q : Exit → Act → World → Prop} {ops : Array Oper} {i d b o z f T : Nat} {ty t el : TypeId} {pos : String} {af : Array Edge} {gd : Option (Nat × Bool)} {v zv : Value} {x y : Operand} {l : List Nat} {xs : List Operand} {vs : List Value} {ts : Array TypeId} {Y : RX} {A B : Res} {R : Value → Res → List Res → Prop} {c : Code} {cl : Call}
theorem TL.rowOf {α : Type} {E : Rd α} {m : Nat} {us : List Value} {xs : List α} (hm : xs.length = m) (hmm : m ≤ maxLen) (he : ∀ w, elems z E w (fun _ => False) us xs) (h : TL P n F0 w0 ops l e (OwnR T z E (.slice (some ⟨b, 0, none⟩) m m) xs :: Rs) Q) : TL P n F0 w0 ops l e (BlkR b T us.toArray :: Rs) Q := fun a w ha hs => h a w ha (hs.rowOf hm hmm he)
theorem TD.rowOf {α : Type} {E : Rd α} {m : Nat} {us : List Value} {xs : List α} {l : Sch} (hm : xs.length = m) (hmm : m ≤ maxLen) (he : ∀ w, elems z E w (fun _ => False) us xs) (h : TD P n F0 w0 ops l Rf e (OwnR T z E (.slice (some ⟨b, 0, none⟩) m m) xs :: Rs) Q) : TD P n F0 w0 ops l Rf e (BlkR b T us.toArray :: Rs) Q := fun a w ha hs => h a w ha (hs.rowOf hm hmm he)
theorem TL.alloc  (ho : ops[i]? = some ⟨some d, .alloc t, ty, pos, af, gd⟩) (hw : Wd n ops e ⟨some d, .alloc t, ty, pos, af, gd⟩ true) (hz : ∀ w, (zeroValue t).run P w = .ok zv w) (hd : Nat.blt d n = true) (h : ∀ b, TL P n F0 w0 ops l ((d, .pointer (some ⟨b, 0, none⟩)) :: e) (BlkR b t zv.cells :: Rs) Q) : TL P n F0 w0 ops (i :: l) e Rs Q := by
  refine TL.ef ho hw (Ef.alloc hz hd) ?_
  rintro _ _ ⟨b, rfl, rfl⟩
  exact h b
theorem TD.alloc  {l : Sch} (ho : ops[i]? = some ⟨some d, .alloc t, ty, pos, af, gd⟩) (hw : Wd n ops e ⟨some d, .alloc t, ty, pos, af, gd⟩ true) (hz : ∀ w, (zeroValue t).run P w = .ok zv w) (hd : Nat.blt d n = true) (is : List Nat) (hf : ∀ b, Sel (BlkR b t zv.cells :: Rs) is Rf) (h : ∀ b, TD P n F0 w0 ops l Rf ((d, .pointer (some ⟨b, 0, none⟩)) :: e) (BlkR b t zv.cells :: Rs) Q) : TD P n F0 w0 ops (.e i l) Rf e Rs Q := by
  refine TD.ef ho hw (Ef.alloc hz hd) ?_
  rintro _ _ ⟨b, rfl, rfl⟩
  exact ⟨Rf, fun w hw => hw.sel is (hf b), fun _ h => h, h b⟩
theorem TL.box  (ho : ops[i]? = some ⟨some d, .box t x, ty, pos, af, gd⟩) (hw : Wd n ops e ⟨some d, .box t x, ty, pos, af, gd⟩ true) (hx : e.ev x = some v) (hd : Nat.blt d n = true) (h : ∀ b, TL P n F0 w0 ops l ((d, .pointer (some ⟨b, 0, none⟩)) :: e) (BlkR b t v.cells :: Rs) Q) : TL P n F0 w0 ops (i :: l) e Rs Q := by
  refine TL.ef ho hw (Ef.box hx hd) ?_
  rintro _ _ ⟨b, rfl, rfl⟩
  exact h b
theorem TD.box  {l : Sch} (ho : ops[i]? = some ⟨some d, .box t x, ty, pos, af, gd⟩) (hw : Wd n ops e ⟨some d, .box t x, ty, pos, af, gd⟩ true) (hx : e.ev x = some v) (hd : Nat.blt d n = true) (is : List Nat) (hf : ∀ b, Sel (BlkR b t v.cells :: Rs) is Rf) (h : ∀ b, TD P n F0 w0 ops l Rf ((d, .pointer (some ⟨b, 0, none⟩)) :: e) (BlkR b t v.cells :: Rs) Q) : TD P n F0 w0 ops (.e i l) Rf e Rs Q := by
  refine TD.ef ho hw (Ef.box hx hd) ?_
  rintro _ _ ⟨b, rfl, rfl⟩
  exact ⟨Rf, fun w hw => hw.sel is (hf b), fun _ h => h, h b⟩
theorem TL.lit {m : Nat} {zs cells : Array Value} {ps : List (Nat × Operand)} (ho : ops[i]? = some ⟨some d, .buildSlice t m ps.toArray, ty, pos, af, gd⟩) (hw : Wd n ops e ⟨some d, .buildSlice t m ps.toArray, ty, pos, af, gd⟩ true) (hB : SOK P t T m z zs) (hv : e.evs (ps.map (·.2)) = some vs) (hf' : Instr.fill (fun i => some (i * z, z)) zs ((ps.map (·.1)).zip vs) = some cells) (hd : Nat.blt d n = true) (h : ∀ b, TL P n F0 w0 ops l ((d, .slice (some ⟨b, 0, none⟩) m m) :: e) (BlkR b T cells :: Rs) Q) : TL P n F0 w0 ops (i :: l) e Rs Q := by
  refine TL.ef ho hw (Ef.lit hB hv hf' hd) ?_
  rintro _ _ ⟨b, rfl, rfl⟩
  exact h b
theorem TD.lit {m : Nat} {zs cells : Array Value} {ps : List (Nat × Operand)} {l : Sch} (ho : ops[i]? = some ⟨some d, .buildSlice t m ps.toArray, ty, pos, af, gd⟩) (hw : Wd n ops e ⟨some d, .buildSlice t m ps.toArray, ty, pos, af, gd⟩ true) (hB : SOK P t T m z zs) (hv : e.evs (ps.map (·.2)) = some vs) (hf' : Instr.fill (fun i => some (i * z, z)) zs ((ps.map (·.1)).zip vs) = some cells) (hd : Nat.blt d n = true) (is : List Nat) (hf : ∀ b, Sel (BlkR b T cells :: Rs) is Rf) (h : ∀ b, TD P n F0 w0 ops l Rf ((d, .slice (some ⟨b, 0, none⟩) m m) :: e) (BlkR b T cells :: Rs) Q) : TD P n F0 w0 ops (.e i l) Rf e Rs Q := by
  refine TD.ef ho hw (Ef.lit hB hv hf' hd) ?_
  rintro _ _ ⟨b, rfl, rfl⟩
  exact ⟨Rf, fun w hw => hw.sel is (hf b), fun _ h => h, h b⟩
theorem TL.st0 {cs cs' : Array Value}  (ho : ops[i]? = some ⟨none, .store t x y, ty, pos, af, gd⟩) (hw : Wd n ops e ⟨none, .store t x y, ty, pos, af, gd⟩ true) (hx : e.ev x = some (.pointer (some ⟨b, o, none⟩))) (hy : e.ev y = some v) (hz : ∀ w, (sizeOf t).run P w = .ok z w) (hvz : Nat.beq v.cells.size z = true) (hf' : Nat.ble (o + v.cells.size) cs.size = true) (ho' : v.cells.toList.all (·.oneCell') = true) (hc : (cs.toList.take o ++ v.cells.toList ++ cs.toList.drop (o + v.cells.size)).toArray = cs') (h : TL P n F0 w0 ops l e (BlkR b T cs' :: Rs) Q) : TL P n F0 w0 ops (i :: l) e (BlkR b T cs :: Rs) Q := by
  refine TL.ef ho hw (Ef.st 0 hx hy hz rfl hvz hf' ho' hc) ?_
  rintro _ _ ⟨rfl, rfl⟩
  exact h
theorem TD.st0 {cs cs' : Array Value}  {l : Sch} (ho : ops[i]? = some ⟨none, .store t x y, ty, pos, af, gd⟩) (hw : Wd n ops e ⟨none, .store t x y, ty, pos, af, gd⟩ true) (hx : e.ev x = some (.pointer (some ⟨b, o, none⟩))) (hy : e.ev y = some v) (hz : ∀ w, (sizeOf t).run P w = .ok z w) (hvz : Nat.beq v.cells.size z = true) (hf' : Nat.ble (o + v.cells.size) cs.size = true) (ho' : v.cells.toList.all (·.oneCell') = true) (hc : (cs.toList.take o ++ v.cells.toList ++ cs.toList.drop (o + v.cells.size)).toArray = cs') (is : List Nat) (hf : Sel (BlkR b T cs' :: Rs) is Rf) (h : TD P n F0 w0 ops l Rf e (BlkR b T cs' :: Rs) Q) : TD P n F0 w0 ops (.e i l) Rf e (BlkR b T cs :: Rs) Q := by
  refine TD.ef ho hw (Ef.st 0 hx hy hz rfl hvz hf' ho' hc) ?_
  rintro _ _ ⟨rfl, rfl⟩
  exact ⟨Rf, fun w hw => hw.sel is (hf), fun _ h => h, h⟩
theorem TL.c0  (ho : ops[i]? = some ⟨some d, .call cl, ty, pos, af, gd⟩) (hw : Wd n ops e ⟨some d, .call cl, ty, pos, af, gd⟩ true) (hc : CT P n e ⟨some d, .call cl, ty, pos, af, gd⟩ f vs) (hs : SpecX P f vs.toArray Y A (fun v' A' N => v' = v ∧ A' = B ∧ N = [])) (hr : ∀ w, St F0 w0 (A :: Rs) w → Src F0 w0 (A :: Rs) w 0 Y) (hd : Nat.blt d n = true) (h : TL P n F0 w0 ops l ((d, v) :: e) (B :: Rs) Q) : TL P n F0 w0 ops (i :: l) e (A :: Rs) Q := by
  refine TL.ef ho hw (Ef.call 0 hc rfl hs hr hd) ?_
  rintro _ _ ⟨_, _, _, ⟨rfl, rfl, rfl⟩, rfl, rfl⟩
  exact h
theorem TD.c0  {l : Sch} (ho : ops[i]? = some ⟨some d, .call cl, ty, pos, af, gd⟩) (hw : Wd n ops e ⟨some d, .call cl, ty, pos, af, gd⟩ true) (hc : CT P n e ⟨some d, .call cl, ty, pos, af, gd⟩ f vs) (hs : SpecX P f vs.toArray Y A (fun v' A' N => v' = v ∧ A' = B ∧ N = [])) (hr : ∀ w, St F0 w0 (A :: Rs) w → Src F0 w0 (A :: Rs) w 0 Y) (hd : Nat.blt d n = true) (is : List Nat) (hf : Sel (B :: Rs) is Rf) (h : TD P n F0 w0 ops l Rf ((d, v) :: e) (B :: Rs) Q) : TD P n F0 w0 ops (.e i l) Rf e (A :: Rs) Q := by
  refine TD.ef ho hw (Ef.call 0 hc rfl hs hr hd) ?_
  rintro _ _ ⟨_, _, _, ⟨rfl, rfl, rfl⟩, rfl, rfl⟩
  exact ⟨Rf, fun w hw => hw.sel is (hf), fun _ h => h, h⟩
theorem TL.cg0  (ho : ops[i]? = some ⟨some d, .call cl, ty, pos, af, gd⟩) (hw : Wd n ops e ⟨some d, .call cl, ty, pos, af, gd⟩ true) (hc : CT P n e ⟨some d, .call cl, ty, pos, af, gd⟩ f vs) (hs : SpecX P f vs.toArray Y A R) (hr : ∀ w, St F0 w0 (A :: Rs) w → Src F0 w0 (A :: Rs) w 0 Y) (hd : Nat.blt d n = true) (h : ∀ v A' N, R v A' N → TL P n F0 w0 ops l ((d, v) :: e) (N ++ A' :: Rs) Q) : TL P n F0 w0 ops (i :: l) e (A :: Rs) Q := by
  refine TL.ef ho hw (Ef.call 0 hc rfl hs hr hd) ?_
  rintro _ _ ⟨v, A', N, hR, rfl, rfl⟩
  exact h v A' N hR
theorem TD.cg0  {l : Sch} (ho : ops[i]? = some ⟨some d, .call cl, ty, pos, af, gd⟩) (hw : Wd n ops e ⟨some d, .call cl, ty, pos, af, gd⟩ true) (hc : CT P n e ⟨some d, .call cl, ty, pos, af, gd⟩ f vs) (hs : SpecX P f vs.toArray Y A R) (hr : ∀ w, St F0 w0 (A :: Rs) w → Src F0 w0 (A :: Rs) w 0 Y) (hd : Nat.blt d n = true) (is : List Nat) (hf : ∀ v A' N, R v A' N → Sel (N ++ A' :: Rs) is Rf) (h : ∀ v A' N, R v A' N → TD P n F0 w0 ops l Rf ((d, v) :: e) (N ++ A' :: Rs) Q) : TD P n F0 w0 ops (.e i l) Rf e (A :: Rs) Q := by
  refine TD.ef ho hw (Ef.call 0 hc rfl hs hr hd) ?_
  rintro _ _ ⟨v, A', N, hR, rfl, rfl⟩
  exact ⟨Rf, fun w hw => hw.sel is (hf v A' N hR), fun _ h => h, h v A' N hR⟩
theorem TL.st1 {cs cs' : Array Value} {R0 : Res} (ho : ops[i]? = some ⟨none, .store t x y, ty, pos, af, gd⟩) (hw : Wd n ops e ⟨none, .store t x y, ty, pos, af, gd⟩ true) (hx : e.ev x = some (.pointer (some ⟨b, o, none⟩))) (hy : e.ev y = some v) (hz : ∀ w, (sizeOf t).run P w = .ok z w) (hvz : Nat.beq v.cells.size z = true) (hf' : Nat.ble (o + v.cells.size) cs.size = true) (ho' : v.cells.toList.all (·.oneCell') = true) (hc : (cs.toList.take o ++ v.cells.toList ++ cs.toList.drop (o + v.cells.size)).toArray = cs') (h : TL P n F0 w0 ops l e (R0 :: BlkR b T cs' :: Rs) Q) : TL P n F0 w0 ops (i :: l) e (R0 :: BlkR b T cs :: Rs) Q := by
  refine TL.ef ho hw (Ef.st 1 hx hy hz rfl hvz hf' ho' hc) ?_
  rintro _ _ ⟨rfl, rfl⟩
  exact h
theorem TD.st1 {cs cs' : Array Value} {R0 : Res} {l : Sch} (ho : ops[i]? = some ⟨none, .store t x y, ty, pos, af, gd⟩) (hw : Wd n ops e ⟨none, .store t x y, ty, pos, af, gd⟩ true) (hx : e.ev x = some (.pointer (some ⟨b, o, none⟩))) (hy : e.ev y = some v) (hz : ∀ w, (sizeOf t).run P w = .ok z w) (hvz : Nat.beq v.cells.size z = true) (hf' : Nat.ble (o + v.cells.size) cs.size = true) (ho' : v.cells.toList.all (·.oneCell') = true) (hc : (cs.toList.take o ++ v.cells.toList ++ cs.toList.drop (o + v.cells.size)).toArray = cs') (is : List Nat) (hf : Sel (R0 :: BlkR b T cs' :: Rs) is Rf) (h : TD P n F0 w0 ops l Rf e (R0 :: BlkR b T cs' :: Rs) Q) : TD P n F0 w0 ops (.e i l) Rf e (R0 :: BlkR b T cs :: Rs) Q := by
  refine TD.ef ho hw (Ef.st 1 hx hy hz rfl hvz hf' ho' hc) ?_
  rintro _ _ ⟨rfl, rfl⟩
  exact ⟨Rf, fun w hw => hw.sel is (hf), fun _ h => h, h⟩
theorem TL.c1 {R0 : Res} (ho : ops[i]? = some ⟨some d, .call cl, ty, pos, af, gd⟩) (hw : Wd n ops e ⟨some d, .call cl, ty, pos, af, gd⟩ true) (hc : CT P n e ⟨some d, .call cl, ty, pos, af, gd⟩ f vs) (hs : SpecX P f vs.toArray Y A (fun v' A' N => v' = v ∧ A' = B ∧ N = [])) (hr : ∀ w, St F0 w0 (R0 :: A :: Rs) w → Src F0 w0 (R0 :: A :: Rs) w 1 Y) (hd : Nat.blt d n = true) (h : TL P n F0 w0 ops l ((d, v) :: e) (R0 :: B :: Rs) Q) : TL P n F0 w0 ops (i :: l) e (R0 :: A :: Rs) Q := by
  refine TL.ef ho hw (Ef.call 1 hc rfl hs hr hd) ?_
  rintro _ _ ⟨_, _, _, ⟨rfl, rfl, rfl⟩, rfl, rfl⟩
  exact h
theorem TD.c1 {R0 : Res} {l : Sch} (ho : ops[i]? = some ⟨some d, .call cl, ty, pos, af, gd⟩) (hw : Wd n ops e ⟨some d, .call cl, ty, pos, af, gd⟩ true) (hc : CT P n e ⟨some d, .call cl, ty, pos, af, gd⟩ f vs) (hs : SpecX P f vs.toArray Y A (fun v' A' N => v' = v ∧ A' = B ∧ N = [])) (hr : ∀ w, St F0 w0 (R0 :: A :: Rs) w → Src F0 w0 (R0 :: A :: Rs) w 1 Y) (hd : Nat.blt d n = true) (is : List Nat) (hf : Sel (R0 :: B :: Rs) is Rf) (h : TD P n F0 w0 ops l Rf ((d, v) :: e) (R0 :: B :: Rs) Q) : TD P n F0 w0 ops (.e i l) Rf e (R0 :: A :: Rs) Q := by
  refine TD.ef ho hw (Ef.call 1 hc rfl hs hr hd) ?_
  rintro _ _ ⟨_, _, _, ⟨rfl, rfl, rfl⟩, rfl, rfl⟩
  exact ⟨Rf, fun w hw => hw.sel is (hf), fun _ h => h, h⟩
theorem TL.cg1 {R0 : Res} (ho : ops[i]? = some ⟨some d, .call cl, ty, pos, af, gd⟩) (hw : Wd n ops e ⟨some d, .call cl, ty, pos, af, gd⟩ true) (hc : CT P n e ⟨some d, .call cl, ty, pos, af, gd⟩ f vs) (hs : SpecX P f vs.toArray Y A R) (hr : ∀ w, St F0 w0 (R0 :: A :: Rs) w → Src F0 w0 (R0 :: A :: Rs) w 1 Y) (hd : Nat.blt d n = true) (h : ∀ v A' N, R v A' N → TL P n F0 w0 ops l ((d, v) :: e) (N ++ R0 :: A' :: Rs) Q) : TL P n F0 w0 ops (i :: l) e (R0 :: A :: Rs) Q := by
  refine TL.ef ho hw (Ef.call 1 hc rfl hs hr hd) ?_
  rintro _ _ ⟨v, A', N, hR, rfl, rfl⟩
  exact h v A' N hR
theorem TD.cg1 {R0 : Res} {l : Sch} (ho : ops[i]? = some ⟨some d, .call cl, ty, pos, af, gd⟩) (hw : Wd n ops e ⟨some d, .call cl, ty, pos, af, gd⟩ true) (hc : CT P n e ⟨some d, .call cl, ty, pos, af, gd⟩ f vs) (hs : SpecX P f vs.toArray Y A R) (hr : ∀ w, St F0 w0 (R0 :: A :: Rs) w → Src F0 w0 (R0 :: A :: Rs) w 1 Y) (hd : Nat.blt d n = true) (is : List Nat) (hf : ∀ v A' N, R v A' N → Sel (N ++ R0 :: A' :: Rs) is Rf) (h : ∀ v A' N, R v A' N → TD P n F0 w0 ops l Rf ((d, v) :: e) (N ++ R0 :: A' :: Rs) Q) : TD P n F0 w0 ops (.e i l) Rf e (R0 :: A :: Rs) Q := by
  refine TD.ef ho hw (Ef.call 1 hc rfl hs hr hd) ?_
  rintro _ _ ⟨v, A', N, hR, rfl, rfl⟩
  exact ⟨Rf, fun w hw => hw.sel is (hf v A' N hR), fun _ h => h, h v A' N hR⟩
theorem TL.st2 {cs cs' : Array Value} {R0 R1 : Res} (ho : ops[i]? = some ⟨none, .store t x y, ty, pos, af, gd⟩) (hw : Wd n ops e ⟨none, .store t x y, ty, pos, af, gd⟩ true) (hx : e.ev x = some (.pointer (some ⟨b, o, none⟩))) (hy : e.ev y = some v) (hz : ∀ w, (sizeOf t).run P w = .ok z w) (hvz : Nat.beq v.cells.size z = true) (hf' : Nat.ble (o + v.cells.size) cs.size = true) (ho' : v.cells.toList.all (·.oneCell') = true) (hc : (cs.toList.take o ++ v.cells.toList ++ cs.toList.drop (o + v.cells.size)).toArray = cs') (h : TL P n F0 w0 ops l e (R0 :: R1 :: BlkR b T cs' :: Rs) Q) : TL P n F0 w0 ops (i :: l) e (R0 :: R1 :: BlkR b T cs :: Rs) Q := by
  refine TL.ef ho hw (Ef.st 2 hx hy hz rfl hvz hf' ho' hc) ?_
  rintro _ _ ⟨rfl, rfl⟩
  exact h
theorem TD.st2 {cs cs' : Array Value} {R0 R1 : Res} {l : Sch} (ho : ops[i]? = some ⟨none, .store t x y, ty, pos, af, gd⟩) (hw : Wd n ops e ⟨none, .store t x y, ty, pos, af, gd⟩ true) (hx : e.ev x = some (.pointer (some ⟨b, o, none⟩))) (hy : e.ev y = some v) (hz : ∀ w, (sizeOf t).run P w = .ok z w) (hvz : Nat.beq v.cells.size z = true) (hf' : Nat.ble (o + v.cells.size) cs.size = true) (ho' : v.cells.toList.all (·.oneCell') = true) (hc : (cs.toList.take o ++ v.cells.toList ++ cs.toList.drop (o + v.cells.size)).toArray = cs') (is : List Nat) (hf : Sel (R0 :: R1 :: BlkR b T cs' :: Rs) is Rf) (h : TD P n F0 w0 ops l Rf e (R0 :: R1 :: BlkR b T cs' :: Rs) Q) : TD P n F0 w0 ops (.e i l) Rf e (R0 :: R1 :: BlkR b T cs :: Rs) Q := by
  refine TD.ef ho hw (Ef.st 2 hx hy hz rfl hvz hf' ho' hc) ?_
  rintro _ _ ⟨rfl, rfl⟩
  exact ⟨Rf, fun w hw => hw.sel is (hf), fun _ h => h, h⟩
theorem TL.c2 {R0 R1 : Res} (ho : ops[i]? = some ⟨some d, .call cl, ty, pos, af, gd⟩) (hw : Wd n ops e ⟨some d, .call cl, ty, pos, af, gd⟩ true) (hc : CT P n e ⟨some d, .call cl, ty, pos, af, gd⟩ f vs) (hs : SpecX P f vs.toArray Y A (fun v' A' N => v' = v ∧ A' = B ∧ N = [])) (hr : ∀ w, St F0 w0 (R0 :: R1 :: A :: Rs) w → Src F0 w0 (R0 :: R1 :: A :: Rs) w 2 Y) (hd : Nat.blt d n = true) (h : TL P n F0 w0 ops l ((d, v) :: e) (R0 :: R1 :: B :: Rs) Q) : TL P n F0 w0 ops (i :: l) e (R0 :: R1 :: A :: Rs) Q := by
  refine TL.ef ho hw (Ef.call 2 hc rfl hs hr hd) ?_
  rintro _ _ ⟨_, _, _, ⟨rfl, rfl, rfl⟩, rfl, rfl⟩
  exact h
theorem TD.c2 {R0 R1 : Res} {l : Sch} (ho : ops[i]? = some ⟨some d, .call cl, ty, pos, af, gd⟩) (hw : Wd n ops e ⟨some d, .call cl, ty, pos, af, gd⟩ true) (hc : CT P n e ⟨some d, .call cl, ty, pos, af, gd⟩ f vs) (hs : SpecX P f vs.toArray Y A (fun v' A' N => v' = v ∧ A' = B ∧ N = [])) (hr : ∀ w, St F0 w0 (R0 :: R1 :: A :: Rs) w → Src F0 w0 (R0 :: R1 :: A :: Rs) w 2 Y) (hd : Nat.blt d n = true) (is : List Nat) (hf : Sel (R0 :: R1 :: B :: Rs) is Rf) (h : TD P n F0 w0 ops l Rf ((d, v) :: e) (R0 :: R1 :: B :: Rs) Q) : TD P n F0 w0 ops (.e i l) Rf e (R0 :: R1 :: A :: Rs) Q := by
  refine TD.ef ho hw (Ef.call 2 hc rfl hs hr hd) ?_
  rintro _ _ ⟨_, _, _, ⟨rfl, rfl, rfl⟩, rfl, rfl⟩
  exact ⟨Rf, fun w hw => hw.sel is (hf), fun _ h => h, h⟩
theorem TL.st3 {cs cs' : Array Value} {R0 R1 R2 : Res} (ho : ops[i]? = some ⟨none, .store t x y, ty, pos, af, gd⟩) (hw : Wd n ops e ⟨none, .store t x y, ty, pos, af, gd⟩ true) (hx : e.ev x = some (.pointer (some ⟨b, o, none⟩))) (hy : e.ev y = some v) (hz : ∀ w, (sizeOf t).run P w = .ok z w) (hvz : Nat.beq v.cells.size z = true) (hf' : Nat.ble (o + v.cells.size) cs.size = true) (ho' : v.cells.toList.all (·.oneCell') = true) (hc : (cs.toList.take o ++ v.cells.toList ++ cs.toList.drop (o + v.cells.size)).toArray = cs') (h : TL P n F0 w0 ops l e (R0 :: R1 :: R2 :: BlkR b T cs' :: Rs) Q) : TL P n F0 w0 ops (i :: l) e (R0 :: R1 :: R2 :: BlkR b T cs :: Rs) Q := by
  refine TL.ef ho hw (Ef.st 3 hx hy hz rfl hvz hf' ho' hc) ?_
  rintro _ _ ⟨rfl, rfl⟩
  exact h
theorem TD.st3 {cs cs' : Array Value} {R0 R1 R2 : Res} {l : Sch} (ho : ops[i]? = some ⟨none, .store t x y, ty, pos, af, gd⟩) (hw : Wd n ops e ⟨none, .store t x y, ty, pos, af, gd⟩ true) (hx : e.ev x = some (.pointer (some ⟨b, o, none⟩))) (hy : e.ev y = some v) (hz : ∀ w, (sizeOf t).run P w = .ok z w) (hvz : Nat.beq v.cells.size z = true) (hf' : Nat.ble (o + v.cells.size) cs.size = true) (ho' : v.cells.toList.all (·.oneCell') = true) (hc : (cs.toList.take o ++ v.cells.toList ++ cs.toList.drop (o + v.cells.size)).toArray = cs') (is : List Nat) (hf : Sel (R0 :: R1 :: R2 :: BlkR b T cs' :: Rs) is Rf) (h : TD P n F0 w0 ops l Rf e (R0 :: R1 :: R2 :: BlkR b T cs' :: Rs) Q) : TD P n F0 w0 ops (.e i l) Rf e (R0 :: R1 :: R2 :: BlkR b T cs :: Rs) Q := by
  refine TD.ef ho hw (Ef.st 3 hx hy hz rfl hvz hf' ho' hc) ?_
  rintro _ _ ⟨rfl, rfl⟩
  exact ⟨Rf, fun w hw => hw.sel is (hf), fun _ h => h, h⟩
theorem TL.c3 {R0 R1 R2 : Res} (ho : ops[i]? = some ⟨some d, .call cl, ty, pos, af, gd⟩) (hw : Wd n ops e ⟨some d, .call cl, ty, pos, af, gd⟩ true) (hc : CT P n e ⟨some d, .call cl, ty, pos, af, gd⟩ f vs) (hs : SpecX P f vs.toArray Y A (fun v' A' N => v' = v ∧ A' = B ∧ N = [])) (hr : ∀ w, St F0 w0 (R0 :: R1 :: R2 :: A :: Rs) w → Src F0 w0 (R0 :: R1 :: R2 :: A :: Rs) w 3 Y) (hd : Nat.blt d n = true) (h : TL P n F0 w0 ops l ((d, v) :: e) (R0 :: R1 :: R2 :: B :: Rs) Q) : TL P n F0 w0 ops (i :: l) e (R0 :: R1 :: R2 :: A :: Rs) Q := by
  refine TL.ef ho hw (Ef.call 3 hc rfl hs hr hd) ?_
  rintro _ _ ⟨_, _, _, ⟨rfl, rfl, rfl⟩, rfl, rfl⟩
  exact h
theorem TD.c3 {R0 R1 R2 : Res} {l : Sch} (ho : ops[i]? = some ⟨some d, .call cl, ty, pos, af, gd⟩) (hw : Wd n ops e ⟨some d, .call cl, ty, pos, af, gd⟩ true) (hc : CT P n e ⟨some d, .call cl, ty, pos, af, gd⟩ f vs) (hs : SpecX P f vs.toArray Y A (fun v' A' N => v' = v ∧ A' = B ∧ N = [])) (hr : ∀ w, St F0 w0 (R0 :: R1 :: R2 :: A :: Rs) w → Src F0 w0 (R0 :: R1 :: R2 :: A :: Rs) w 3 Y) (hd : Nat.blt d n = true) (is : List Nat) (hf : Sel (R0 :: R1 :: R2 :: B :: Rs) is Rf) (h : TD P n F0 w0 ops l Rf ((d, v) :: e) (R0 :: R1 :: R2 :: B :: Rs) Q) : TD P n F0 w0 ops (.e i l) Rf e (R0 :: R1 :: R2 :: A :: Rs) Q := by
  refine TD.ef ho hw (Ef.call 3 hc rfl hs hr hd) ?_
  rintro _ _ ⟨_, _, _, ⟨rfl, rfl, rfl⟩, rfl, rfl⟩
  exact ⟨Rf, fun w hw => hw.sel is (hf), fun _ h => h, h⟩
theorem TL.st4 {cs cs' : Array Value} {R0 R1 R2 R3 : Res} (ho : ops[i]? = some ⟨none, .store t x y, ty, pos, af, gd⟩) (hw : Wd n ops e ⟨none, .store t x y, ty, pos, af, gd⟩ true) (hx : e.ev x = some (.pointer (some ⟨b, o, none⟩))) (hy : e.ev y = some v) (hz : ∀ w, (sizeOf t).run P w = .ok z w) (hvz : Nat.beq v.cells.size z = true) (hf' : Nat.ble (o + v.cells.size) cs.size = true) (ho' : v.cells.toList.all (·.oneCell') = true) (hc : (cs.toList.take o ++ v.cells.toList ++ cs.toList.drop (o + v.cells.size)).toArray = cs') (h : TL P n F0 w0 ops l e (R0 :: R1 :: R2 :: R3 :: BlkR b T cs' :: Rs) Q) : TL P n F0 w0 ops (i :: l) e (R0 :: R1 :: R2 :: R3 :: BlkR b T cs :: Rs) Q := by
  refine TL.ef ho hw (Ef.st 4 hx hy hz rfl hvz hf' ho' hc) ?_
  rintro _ _ ⟨rfl, rfl⟩
  exact h
theorem TD.st4 {cs cs' : Array Value} {R0 R1 R2 R3 : Res} {l : Sch} (ho : ops[i]? = some ⟨none, .store t x y, ty, pos, af, gd⟩) (hw : Wd n ops e ⟨none, .store t x y, ty, pos, af, gd⟩ true) (hx : e.ev x = some (.pointer (some ⟨b, o, none⟩))) (hy : e.ev y = some v) (hz : ∀ w, (sizeOf t).run P w = .ok z w) (hvz : Nat.beq v.cells.size z = true) (hf' : Nat.ble (o + v.cells.size) cs.size = true) (ho' : v.cells.toList.all (·.oneCell') = true) (hc : (cs.toList.take o ++ v.cells.toList ++ cs.toList.drop (o + v.cells.size)).toArray = cs') (is : List Nat) (hf : Sel (R0 :: R1 :: R2 :: R3 :: BlkR b T cs' :: Rs) is Rf) (h : TD P n F0 w0 ops l Rf e (R0 :: R1 :: R2 :: R3 :: BlkR b T cs' :: Rs) Q) : TD P n F0 w0 ops (.e i l) Rf e (R0 :: R1 :: R2 :: R3 :: BlkR b T cs :: Rs) Q := by
  refine TD.ef ho hw (Ef.st 4 hx hy hz rfl hvz hf' ho' hc) ?_
  rintro _ _ ⟨rfl, rfl⟩
  exact ⟨Rf, fun w hw => hw.sel is (hf), fun _ h => h, h⟩
theorem TL.c4 {R0 R1 R2 R3 : Res} (ho : ops[i]? = some ⟨some d, .call cl, ty, pos, af, gd⟩) (hw : Wd n ops e ⟨some d, .call cl, ty, pos, af, gd⟩ true) (hc : CT P n e ⟨some d, .call cl, ty, pos, af, gd⟩ f vs) (hs : SpecX P f vs.toArray Y A (fun v' A' N => v' = v ∧ A' = B ∧ N = [])) (hr : ∀ w, St F0 w0 (R0 :: R1 :: R2 :: R3 :: A :: Rs) w → Src F0 w0 (R0 :: R1 :: R2 :: R3 :: A :: Rs) w 4 Y) (hd : Nat.blt d n = true) (h : TL P n F0 w0 ops l ((d, v) :: e) (R0 :: R1 :: R2 :: R3 :: B :: Rs) Q) : TL P n F0 w0 ops (i :: l) e (R0 :: R1 :: R2 :: R3 :: A :: Rs) Q := by
  refine TL.ef ho hw (Ef.call 4 hc rfl hs hr hd) ?_
  rintro _ _ ⟨_, _, _, ⟨rfl, rfl, rfl⟩, rfl, rfl⟩
  exact h
theorem TD.c4 {R0 R1 R2 R3 : Res} {l : Sch} (ho : ops[i]? = some ⟨some d, .call cl, ty, pos, af, gd⟩) (hw : Wd n ops e ⟨some d, .call cl, ty, pos, af, gd⟩ true) (hc : CT P n e ⟨some d, .call cl, ty, pos, af, gd⟩ f vs) (hs : SpecX P f vs.toArray Y A (fun v' A' N => v' = v ∧ A' = B ∧ N = [])) (hr : ∀ w, St F0 w0 (R0 :: R1 :: R2 :: R3 :: A :: Rs) w → Src F0 w0 (R0 :: R1 :: R2 :: R3 :: A :: Rs) w 4 Y) (hd : Nat.blt d n = true) (is : List Nat) (hf : Sel (R0 :: R1 :: R2 :: R3 :: B :: Rs) is Rf) (h : TD P n F0 w0 ops l Rf ((d, v) :: e) (R0 :: R1 :: R2 :: R3 :: B :: Rs) Q) : TD P n F0 w0 ops (.e i l) Rf e (R0 :: R1 :: R2 :: R3 :: A :: Rs) Q := by
  refine TD.ef ho hw (Ef.call 4 hc rfl hs hr hd) ?_
  rintro _ _ ⟨_, _, _, ⟨rfl, rfl, rfl⟩, rfl, rfl⟩
  exact ⟨Rf, fun w hw => hw.sel is (hf), fun _ h => h, h⟩
theorem TL.st5 {cs cs' : Array Value} {R0 R1 R2 R3 R4 : Res} (ho : ops[i]? = some ⟨none, .store t x y, ty, pos, af, gd⟩) (hw : Wd n ops e ⟨none, .store t x y, ty, pos, af, gd⟩ true) (hx : e.ev x = some (.pointer (some ⟨b, o, none⟩))) (hy : e.ev y = some v) (hz : ∀ w, (sizeOf t).run P w = .ok z w) (hvz : Nat.beq v.cells.size z = true) (hf' : Nat.ble (o + v.cells.size) cs.size = true) (ho' : v.cells.toList.all (·.oneCell') = true) (hc : (cs.toList.take o ++ v.cells.toList ++ cs.toList.drop (o + v.cells.size)).toArray = cs') (h : TL P n F0 w0 ops l e (R0 :: R1 :: R2 :: R3 :: R4 :: BlkR b T cs' :: Rs) Q) : TL P n F0 w0 ops (i :: l) e (R0 :: R1 :: R2 :: R3 :: R4 :: BlkR b T cs :: Rs) Q := by
  refine TL.ef ho hw (Ef.st 5 hx hy hz rfl hvz hf' ho' hc) ?_
  rintro _ _ ⟨rfl, rfl⟩
  exact h
theorem TD.st5 {cs cs' : Array Value} {R0 R1 R2 R3 R4 : Res} {l : Sch} (ho : ops[i]? = some ⟨none, .store t x y, ty, pos, af, gd⟩) (hw : Wd n ops e ⟨none, .store t x y, ty, pos, af, gd⟩ true) (hx : e.ev x = some (.pointer (some ⟨b, o, none⟩))) (hy : e.ev y = some v) (hz : ∀ w, (sizeOf t).run P w = .ok z w) (hvz : Nat.beq v.cells.size z = true) (hf' : Nat.ble (o + v.cells.size) cs.size = true) (ho' : v.cells.toList.all (·.oneCell') = true) (hc : (cs.toList.take o ++ v.cells.toList ++ cs.toList.drop (o + v.cells.size)).toArray = cs') (is : List Nat) (hf : Sel (R0 :: R1 :: R2 :: R3 :: R4 :: BlkR b T cs' :: Rs) is Rf) (h : TD P n F0 w0 ops l Rf e (R0 :: R1 :: R2 :: R3 :: R4 :: BlkR b T cs' :: Rs) Q) : TD P n F0 w0 ops (.e i l) Rf e (R0 :: R1 :: R2 :: R3 :: R4 :: BlkR b T cs :: Rs) Q := by
  refine TD.ef ho hw (Ef.st 5 hx hy hz rfl hvz hf' ho' hc) ?_
  rintro _ _ ⟨rfl, rfl⟩
  exact ⟨Rf, fun w hw => hw.sel is (hf), fun _ h => h, h⟩
theorem TL.c5 {R0 R1 R2 R3 R4 : Res} (ho : ops[i]? = some ⟨some d, .call cl, ty, pos, af, gd⟩) (hw : Wd n ops e ⟨some d, .call cl, ty, pos, af, gd⟩ true) (hc : CT P n e ⟨some d, .call cl, ty, pos, af, gd⟩ f vs) (hs : SpecX P f vs.toArray Y A (fun v' A' N => v' = v ∧ A' = B ∧ N = [])) (hr : ∀ w, St F0 w0 (R0 :: R1 :: R2 :: R3 :: R4 :: A :: Rs) w → Src F0 w0 (R0 :: R1 :: R2 :: R3 :: R4 :: A :: Rs) w 5 Y) (hd : Nat.blt d n = true) (h : TL P n F0 w0 ops l ((d, v) :: e) (R0 :: R1 :: R2 :: R3 :: R4 :: B :: Rs) Q) : TL P n F0 w0 ops (i :: l) e (R0 :: R1 :: R2 :: R3 :: R4 :: A :: Rs) Q := by
  refine TL.ef ho hw (Ef.call 5 hc rfl hs hr hd) ?_
  rintro _ _ ⟨_, _, _, ⟨rfl, rfl, rfl⟩, rfl, rfl⟩
  exact h
theorem TD.c5 {R0 R1 R2 R3 R4 : Res} {l : Sch} (ho : ops[i]? = some ⟨some d, .call cl, ty, pos, af, gd⟩) (hw : Wd n ops e ⟨some d, .call cl, ty, pos, af, gd⟩ true) (hc : CT P n e ⟨some d, .call cl, ty, pos, af, gd⟩ f vs) (hs : SpecX P f vs.toArray Y A (fun v' A' N => v' = v ∧ A' = B ∧ N = [])) (hr : ∀ w, St F0 w0 (R0 :: R1 :: R2 :: R3 :: R4 :: A :: Rs) w → Src F0 w0 (R0 :: R1 :: R2 :: R3 :: R4 :: A :: Rs) w 5 Y) (hd : Nat.blt d n = true) (is : List Nat) (hf : Sel (R0 :: R1 :: R2 :: R3 :: R4 :: B :: Rs) is Rf) (h : TD P n F0 w0 ops l Rf ((d, v) :: e) (R0 :: R1 :: R2 :: R3 :: R4 :: B :: Rs) Q) : TD P n F0 w0 ops (.e i l) Rf e (R0 :: R1 :: R2 :: R3 :: R4 :: A :: Rs) Q := by
  refine TD.ef ho hw (Ef.call 5 hc rfl hs hr hd) ?_
  rintro _ _ ⟨_, _, _, ⟨rfl, rfl, rfl⟩, rfl, rfl⟩
  exact ⟨Rf, fun w hw => hw.sel is (hf), fun _ h => h, h⟩
theorem TL.cg5 {R0 R1 R2 R3 R4 : Res} (ho : ops[i]? = some ⟨some d, .call cl, ty, pos, af, gd⟩) (hw : Wd n ops e ⟨some d, .call cl, ty, pos, af, gd⟩ true) (hc : CT P n e ⟨some d, .call cl, ty, pos, af, gd⟩ f vs) (hs : SpecX P f vs.toArray Y A R) (hr : ∀ w, St F0 w0 (R0 :: R1 :: R2 :: R3 :: R4 :: A :: Rs) w → Src F0 w0 (R0 :: R1 :: R2 :: R3 :: R4 :: A :: Rs) w 5 Y) (hd : Nat.blt d n = true) (h : ∀ v A' N, R v A' N → TL P n F0 w0 ops l ((d, v) :: e) (N ++ R0 :: R1 :: R2 :: R3 :: R4 :: A' :: Rs) Q) : TL P n F0 w0 ops (i :: l) e (R0 :: R1 :: R2 :: R3 :: R4 :: A :: Rs) Q := by
  refine TL.ef ho hw (Ef.call 5 hc rfl hs hr hd) ?_
  rintro _ _ ⟨v, A', N, hR, rfl, rfl⟩
  exact h v A' N hR
theorem TD.cg5 {R0 R1 R2 R3 R4 : Res} {l : Sch} (ho : ops[i]? = some ⟨some d, .call cl, ty, pos, af, gd⟩) (hw : Wd n ops e ⟨some d, .call cl, ty, pos, af, gd⟩ true) (hc : CT P n e ⟨some d, .call cl, ty, pos, af, gd⟩ f vs) (hs : SpecX P f vs.toArray Y A R) (hr : ∀ w, St F0 w0 (R0 :: R1 :: R2 :: R3 :: R4 :: A :: Rs) w → Src F0 w0 (R0 :: R1 :: R2 :: R3 :: R4 :: A :: Rs) w 5 Y) (hd : Nat.blt d n = true) (is : List Nat) (hf : ∀ v A' N, R v A' N → Sel (N ++ R0 :: R1 :: R2 :: R3 :: R4 :: A' :: Rs) is Rf) (h : ∀ v A' N, R v A' N → TD P n F0 w0 ops l Rf ((d, v) :: e) (N ++ R0 :: R1 :: R2 :: R3 :: R4 :: A' :: Rs) Q) : TD P n F0 w0 ops (.e i l) Rf e (R0 :: R1 :: R2 :: R3 :: R4 :: A :: Rs) Q := by
  refine TD.ef ho hw (Ef.call 5 hc rfl hs hr hd) ?_
  rintro _ _ ⟨v, A', N, hR, rfl, rfl⟩
  exact ⟨Rf, fun w hw => hw.sel is (hf v A' N hR), fun _ h => h, h v A' N hR⟩
theorem TL.st6 {cs cs' : Array Value} {R0 R1 R2 R3 R4 R5 : Res} (ho : ops[i]? = some ⟨none, .store t x y, ty, pos, af, gd⟩) (hw : Wd n ops e ⟨none, .store t x y, ty, pos, af, gd⟩ true) (hx : e.ev x = some (.pointer (some ⟨b, o, none⟩))) (hy : e.ev y = some v) (hz : ∀ w, (sizeOf t).run P w = .ok z w) (hvz : Nat.beq v.cells.size z = true) (hf' : Nat.ble (o + v.cells.size) cs.size = true) (ho' : v.cells.toList.all (·.oneCell') = true) (hc : (cs.toList.take o ++ v.cells.toList ++ cs.toList.drop (o + v.cells.size)).toArray = cs') (h : TL P n F0 w0 ops l e (R0 :: R1 :: R2 :: R3 :: R4 :: R5 :: BlkR b T cs' :: Rs) Q) : TL P n F0 w0 ops (i :: l) e (R0 :: R1 :: R2 :: R3 :: R4 :: R5 :: BlkR b T cs :: Rs) Q := by
  refine TL.ef ho hw (Ef.st 6 hx hy hz rfl hvz hf' ho' hc) ?_
  rintro _ _ ⟨rfl, rfl⟩
  exact h
theorem TD.st6 {cs cs' : Array Value} {R0 R1 R2 R3 R4 R5 : Res} {l : Sch} (ho : ops[i]? = some ⟨none, .store t x y, ty, pos, af, gd⟩) (hw : Wd n ops e ⟨none, .store t x y, ty, pos, af, gd⟩ true) (hx : e.ev x = some (.pointer (some ⟨b, o, none⟩))) (hy : e.ev y = some v) (hz : ∀ w, (sizeOf t).run P w = .ok z w) (hvz : Nat.beq v.cells.size z = true) (hf' : Nat.ble (o + v.cells.size) cs.size = true) (ho' : v.cells.toList.all (·.oneCell') = true) (hc : (cs.toList.take o ++ v.cells.toList ++ cs.toList.drop (o + v.cells.size)).toArray = cs') (is : List Nat) (hf : Sel (R0 :: R1 :: R2 :: R3 :: R4 :: R5 :: BlkR b T cs' :: Rs) is Rf) (h : TD P n F0 w0 ops l Rf e (R0 :: R1 :: R2 :: R3 :: R4 :: R5 :: BlkR b T cs' :: Rs) Q) : TD P n F0 w0 ops (.e i l) Rf e (R0 :: R1 :: R2 :: R3 :: R4 :: R5 :: BlkR b T cs :: Rs) Q := by
  refine TD.ef ho hw (Ef.st 6 hx hy hz rfl hvz hf' ho' hc) ?_
  rintro _ _ ⟨rfl, rfl⟩
  exact ⟨Rf, fun w hw => hw.sel is (hf), fun _ h => h, h⟩
theorem TL.c6 {R0 R1 R2 R3 R4 R5 : Res} (ho : ops[i]? = some ⟨some d, .call cl, ty, pos, af, gd⟩) (hw : Wd n ops e ⟨some d, .call cl, ty, pos, af, gd⟩ true) (hc : CT P n e ⟨some d, .call cl, ty, pos, af, gd⟩ f vs) (hs : SpecX P f vs.toArray Y A (fun v' A' N => v' = v ∧ A' = B ∧ N = [])) (hr : ∀ w, St F0 w0 (R0 :: R1 :: R2 :: R3 :: R4 :: R5 :: A :: Rs) w → Src F0 w0 (R0 :: R1 :: R2 :: R3 :: R4 :: R5 :: A :: Rs) w 6 Y) (hd : Nat.blt d n = true) (h : TL P n F0 w0 ops l ((d, v) :: e) (R0 :: R1 :: R2 :: R3 :: R4 :: R5 :: B :: Rs) Q) : TL P n F0 w0 ops (i :: l) e (R0 :: R1 :: R2 :: R3 :: R4 :: R5 :: A :: Rs) Q := by
  refine TL.ef ho hw (Ef.call 6 hc rfl hs hr hd) ?_
  rintro _ _ ⟨_, _, _, ⟨rfl, rfl, rfl⟩, rfl, rfl⟩
  exact h
theorem TD.c6 {R0 R1 R2 R3 R4 R5 : Res} {l : Sch} (ho : ops[i]? = some ⟨some d, .call cl, ty, pos, af, gd⟩) (hw : Wd n ops e ⟨some d, .call cl, ty, pos, af, gd⟩ true) (hc : CT P n e ⟨some d, .call cl, ty, pos, af, gd⟩ f vs) (hs : SpecX P f vs.toArray Y A (fun v' A' N => v' = v ∧ A' = B ∧ N = [])) (hr : ∀ w, St F0 w0 (R0 :: R1 :: R2 :: R3 :: R4 :: R5 :: A :: Rs) w → Src F0 w0 (R0 :: R1 :: R2 :: R3 :: R4 :: R5 :: A :: Rs) w 6 Y) (hd : Nat.blt d n = true) (is : List Nat) (hf : Sel (R0 :: R1 :: R2 :: R3 :: R4 :: R5 :: B :: Rs) is Rf) (h : TD P n F0 w0 ops l Rf ((d, v) :: e) (R0 :: R1 :: R2 :: R3 :: R4 :: R5 :: B :: Rs) Q) : TD P n F0 w0 ops (.e i l) Rf e (R0 :: R1 :: R2 :: R3 :: R4 :: R5 :: A :: Rs) Q := by
  refine TD.ef ho hw (Ef.call 6 hc rfl hs hr hd) ?_
  rintro _ _ ⟨_, _, _, ⟨rfl, rfl, rfl⟩, rfl, rfl⟩
  exact ⟨Rf, fun w hw => hw.sel is (hf), fun _ h => h, h⟩
theorem TL.st7 {cs cs' : Array Value} {R0 R1 R2 R3 R4 R5 R6 : Res} (ho : ops[i]? = some ⟨none, .store t x y, ty, pos, af, gd⟩) (hw : Wd n ops e ⟨none, .store t x y, ty, pos, af, gd⟩ true) (hx : e.ev x = some (.pointer (some ⟨b, o, none⟩))) (hy : e.ev y = some v) (hz : ∀ w, (sizeOf t).run P w = .ok z w) (hvz : Nat.beq v.cells.size z = true) (hf' : Nat.ble (o + v.cells.size) cs.size = true) (ho' : v.cells.toList.all (·.oneCell') = true) (hc : (cs.toList.take o ++ v.cells.toList ++ cs.toList.drop (o + v.cells.size)).toArray = cs') (h : TL P n F0 w0 ops l e (R0 :: R1 :: R2 :: R3 :: R4 :: R5 :: R6 :: BlkR b T cs' :: Rs) Q) : TL P n F0 w0 ops (i :: l) e (R0 :: R1 :: R2 :: R3 :: R4 :: R5 :: R6 :: BlkR b T cs :: Rs) Q := by
  refine TL.ef ho hw (Ef.st 7 hx hy hz rfl hvz hf' ho' hc) ?_
  rintro _ _ ⟨rfl, rfl⟩
  exact h
theorem TD.st7 {cs cs' : Array Value} {R0 R1 R2 R3 R4 R5 R6 : Res} {l : Sch} (ho : ops[i]? = some ⟨none, .store t x y, ty, pos, af, gd⟩) (hw : Wd n ops e ⟨none, .store t x y, ty, pos, af, gd⟩ true) (hx : e.ev x = some (.pointer (some ⟨b, o, none⟩))) (hy : e.ev y = some v) (hz : ∀ w, (sizeOf t).run P w = .ok z w) (hvz : Nat.beq v.cells.size z = true) (hf' : Nat.ble (o + v.cells.size) cs.size = true) (ho' : v.cells.toList.all (·.oneCell') = true) (hc : (cs.toList.take o ++ v.cells.toList ++ cs.toList.drop (o + v.cells.size)).toArray = cs') (is : List Nat) (hf : Sel (R0 :: R1 :: R2 :: R3 :: R4 :: R5 :: R6 :: BlkR b T cs' :: Rs) is Rf) (h : TD P n F0 w0 ops l Rf e (R0 :: R1 :: R2 :: R3 :: R4 :: R5 :: R6 :: BlkR b T cs' :: Rs) Q) : TD P n F0 w0 ops (.e i l) Rf e (R0 :: R1 :: R2 :: R3 :: R4 :: R5 :: R6 :: BlkR b T cs :: Rs) Q := by
  refine TD.ef ho hw (Ef.st 7 hx hy hz rfl hvz hf' ho' hc) ?_
  rintro _ _ ⟨rfl, rfl⟩
  exact ⟨Rf, fun w hw => hw.sel is (hf), fun _ h => h, h⟩
theorem TL.c7 {R0 R1 R2 R3 R4 R5 R6 : Res} (ho : ops[i]? = some ⟨some d, .call cl, ty, pos, af, gd⟩) (hw : Wd n ops e ⟨some d, .call cl, ty, pos, af, gd⟩ true) (hc : CT P n e ⟨some d, .call cl, ty, pos, af, gd⟩ f vs) (hs : SpecX P f vs.toArray Y A (fun v' A' N => v' = v ∧ A' = B ∧ N = [])) (hr : ∀ w, St F0 w0 (R0 :: R1 :: R2 :: R3 :: R4 :: R5 :: R6 :: A :: Rs) w → Src F0 w0 (R0 :: R1 :: R2 :: R3 :: R4 :: R5 :: R6 :: A :: Rs) w 7 Y) (hd : Nat.blt d n = true) (h : TL P n F0 w0 ops l ((d, v) :: e) (R0 :: R1 :: R2 :: R3 :: R4 :: R5 :: R6 :: B :: Rs) Q) : TL P n F0 w0 ops (i :: l) e (R0 :: R1 :: R2 :: R3 :: R4 :: R5 :: R6 :: A :: Rs) Q := by
  refine TL.ef ho hw (Ef.call 7 hc rfl hs hr hd) ?_
  rintro _ _ ⟨_, _, _, ⟨rfl, rfl, rfl⟩, rfl, rfl⟩
  exact h
theorem TD.c7 {R0 R1 R2 R3 R4 R5 R6 : Res} {l : Sch} (ho : ops[i]? = some ⟨some d, .call cl, ty, pos, af, gd⟩) (hw : Wd n ops e ⟨some d, .call cl, ty, pos, af, gd⟩ true) (hc : CT P n e ⟨some d, .call cl, ty, pos, af, gd⟩ f vs) (hs : SpecX P f vs.toArray Y A (fun v' A' N => v' = v ∧ A' = B ∧ N = [])) (hr : ∀ w, St F0 w0 (R0 :: R1 :: R2 :: R3 :: R4 :: R5 :: R6 :: A :: Rs) w → Src F0 w0 (R0 :: R1 :: R2 :: R3 :: R4 :: R5 :: R6 :: A :: Rs) w 7 Y) (hd : Nat.blt d n = true) (is : List Nat) (hf : Sel (R0 :: R1 :: R2 :: R3 :: R4 :: R5 :: R6 :: B :: Rs) is Rf) (h : TD P n F0 w0 ops l Rf ((d, v) :: e) (R0 :: R1 :: R2 :: R3 :: R4 :: R5 :: R6 :: B :: Rs) Q) : TD P n F0 w0 ops (.e i l) Rf e (R0 :: R1 :: R2 :: R3 :: R4 :: R5 :: R6 :: A :: Rs) Q := by
  refine TD.ef ho hw (Ef.call 7 hc rfl hs hr hd) ?_
  rintro _ _ ⟨_, _, _, ⟨rfl, rfl, rfl⟩, rfl, rfl⟩
  exact ⟨Rf, fun w hw => hw.sel is (hf), fun _ h => h, h⟩
theorem TL.st8 {cs cs' : Array Value} {R0 R1 R2 R3 R4 R5 R6 R7 : Res} (ho : ops[i]? = some ⟨none, .store t x y, ty, pos, af, gd⟩) (hw : Wd n ops e ⟨none, .store t x y, ty, pos, af, gd⟩ true) (hx : e.ev x = some (.pointer (some ⟨b, o, none⟩))) (hy : e.ev y = some v) (hz : ∀ w, (sizeOf t).run P w = .ok z w) (hvz : Nat.beq v.cells.size z = true) (hf' : Nat.ble (o + v.cells.size) cs.size = true) (ho' : v.cells.toList.all (·.oneCell') = true) (hc : (cs.toList.take o ++ v.cells.toList ++ cs.toList.drop (o + v.cells.size)).toArray = cs') (h : TL P n F0 w0 ops l e (R0 :: R1 :: R2 :: R3 :: R4 :: R5 :: R6 :: R7 :: BlkR b T cs' :: Rs) Q) : TL P n F0 w0 ops (i :: l) e (R0 :: R1 :: R2 :: R3 :: R4 :: R5 :: R6 :: R7 :: BlkR b T cs :: Rs) Q := by
  refine TL.ef ho hw (Ef.st 8 hx hy hz rfl hvz hf' ho' hc) ?_
  rintro _ _ ⟨rfl, rfl⟩
  exact h
theorem TD.st8 {cs cs' : Array Value} {R0 R1 R2 R3 R4 R5 R6 R7 : Res} {l : Sch} (ho : ops[i]? = some ⟨none, .store t x y, ty, pos, af, gd⟩) (hw : Wd n ops e ⟨none, .store t x y, ty, pos, af, gd⟩ true) (hx : e.ev x = some (.pointer (some ⟨b, o, none⟩))) (hy : e.ev y = some v) (hz : ∀ w, (sizeOf t).run P w = .ok z w) (hvz : Nat.beq v.cells.size z = true) (hf' : Nat.ble (o + v.cells.size) cs.size = true) (ho' : v.cells.toList.all (·.oneCell') = true) (hc : (cs.toList.take o ++ v.cells.toList ++ cs.toList.drop (o + v.cells.size)).toArray = cs') (is : List Nat) (hf : Sel (R0 :: R1 :: R2 :: R3 :: R4 :: R5 :: R6 :: R7 :: BlkR b T cs' :: Rs) is Rf) (h : TD P n F0 w0 ops l Rf e (R0 :: R1 :: R2 :: R3 :: R4 :: R5 :: R6 :: R7 :: BlkR b T cs' :: Rs) Q) : TD P n F0 w0 ops (.e i l) Rf e (R0 :: R1 :: R2 :: R3 :: R4 :: R5 :: R6 :: R7 :: BlkR b T cs :: Rs) Q := by
  refine TD.ef ho hw (Ef.st 8 hx hy hz rfl hvz hf' ho' hc) ?_
  rintro _ _ ⟨rfl, rfl⟩
  exact ⟨Rf, fun w hw => hw.sel is (hf), fun _ h => h, h⟩
theorem TL.c8 {R0 R1 R2 R3 R4 R5 R6 R7 : Res} (ho : ops[i]? = some ⟨some d, .call cl, ty, pos, af, gd⟩) (hw : Wd n ops e ⟨some d, .call cl, ty, pos, af, gd⟩ true) (hc : CT P n e ⟨some d, .call cl, ty, pos, af, gd⟩ f vs) (hs : SpecX P f vs.toArray Y A (fun v' A' N => v' = v ∧ A' = B ∧ N = [])) (hr : ∀ w, St F0 w0 (R0 :: R1 :: R2 :: R3 :: R4 :: R5 :: R6 :: R7 :: A :: Rs) w → Src F0 w0 (R0 :: R1 :: R2 :: R3 :: R4 :: R5 :: R6 :: R7 :: A :: Rs) w 8 Y) (hd : Nat.blt d n = true) (h : TL P n F0 w0 ops l ((d, v) :: e) (R0 :: R1 :: R2 :: R3 :: R4 :: R5 :: R6 :: R7 :: B :: Rs) Q) : TL P n F0 w0 ops (i :: l) e (R0 :: R1 :: R2 :: R3 :: R4 :: R5 :: R6 :: R7 :: A :: Rs) Q := by
  refine TL.ef ho hw (Ef.call 8 hc rfl hs hr hd) ?_
  rintro _ _ ⟨_, _, _, ⟨rfl, rfl, rfl⟩, rfl, rfl⟩
  exact h
theorem TD.c8 {R0 R1 R2 R3 R4 R5 R6 R7 : Res} {l : Sch} (ho : ops[i]? = some ⟨some d, .call cl, ty, pos, af, gd⟩) (hw : Wd n ops e ⟨some d, .call cl, ty, pos, af, gd⟩ true) (hc : CT P n e ⟨some d, .call cl, ty, pos, af, gd⟩ f vs) (hs : SpecX P f vs.toArray Y A (fun v' A' N => v' = v ∧ A' = B ∧ N = [])) (hr : ∀ w, St F0 w0 (R0 :: R1 :: R2 :: R3 :: R4 :: R5 :: R6 :: R7 :: A :: Rs) w → Src F0 w0 (R0 :: R1 :: R2 :: R3 :: R4 :: R5 :: R6 :: R7 :: A :: Rs) w 8 Y) (hd : Nat.blt d n = true) (is : List Nat) (hf : Sel (R0 :: R1 :: R2 :: R3 :: R4 :: R5 :: R6 :: R7 :: B :: Rs) is Rf) (h : TD P n F0 w0 ops l Rf ((d, v) :: e) (R0 :: R1 :: R2 :: R3 :: R4 :: R5 :: R6 :: R7 :: B :: Rs) Q) : TD P n F0 w0 ops (.e i l) Rf e (R0 :: R1 :: R2 :: R3 :: R4 :: R5 :: R6 :: R7 :: A :: Rs) Q := by
  refine TD.ef ho hw (Ef.call 8 hc rfl hs hr hd) ?_
  rintro _ _ ⟨_, _, _, ⟨rfl, rfl, rfl⟩, rfl, rfl⟩
  exact ⟨Rf, fun w hw => hw.sel is (hf), fun _ h => h, h⟩
theorem TL.st9 {cs cs' : Array Value} {R0 R1 R2 R3 R4 R5 R6 R7 R8 : Res} (ho : ops[i]? = some ⟨none, .store t x y, ty, pos, af, gd⟩) (hw : Wd n ops e ⟨none, .store t x y, ty, pos, af, gd⟩ true) (hx : e.ev x = some (.pointer (some ⟨b, o, none⟩))) (hy : e.ev y = some v) (hz : ∀ w, (sizeOf t).run P w = .ok z w) (hvz : Nat.beq v.cells.size z = true) (hf' : Nat.ble (o + v.cells.size) cs.size = true) (ho' : v.cells.toList.all (·.oneCell') = true) (hc : (cs.toList.take o ++ v.cells.toList ++ cs.toList.drop (o + v.cells.size)).toArray = cs') (h : TL P n F0 w0 ops l e (R0 :: R1 :: R2 :: R3 :: R4 :: R5 :: R6 :: R7 :: R8 :: BlkR b T cs' :: Rs) Q) : TL P n F0 w0 ops (i :: l) e (R0 :: R1 :: R2 :: R3 :: R4 :: R5 :: R6 :: R7 :: R8 :: BlkR b T cs :: Rs) Q := by
  refine TL.ef ho hw (Ef.st 9 hx hy hz rfl hvz hf' ho' hc) ?_
  rintro _ _ ⟨rfl, rfl⟩
  exact h
theorem TD.st9 {cs cs' : Array Value} {R0 R1 R2 R3 R4 R5 R6 R7 R8 : Res} {l : Sch} (ho : ops[i]? = some ⟨none, .store t x y, ty, pos, af, gd⟩) (hw : Wd n ops e ⟨none, .store t x y, ty, pos, af, gd⟩ true) (hx : e.ev x = some (.pointer (some ⟨b, o, none⟩))) (hy : e.ev y = some v) (hz : ∀ w, (sizeOf t).run P w = .ok z w) (hvz : Nat.beq v.cells.size z = true) (hf' : Nat.ble (o + v.cells.size) cs.size = true) (ho' : v.cells.toList.all (·.oneCell') = true) (hc : (cs.toList.take o ++ v.cells.toList ++ cs.toList.drop (o + v.cells.size)).toArray = cs') (is : List Nat) (hf : Sel (R0 :: R1 :: R2 :: R3 :: R4 :: R5 :: R6 :: R7 :: R8 :: BlkR b T cs' :: Rs) is Rf) (h : TD P n F0 w0 ops l Rf e (R0 :: R1 :: R2 :: R3 :: R4 :: R5 :: R6 :: R7 :: R8 :: BlkR b T cs' :: Rs) Q) : TD P n F0 w0 ops (.e i l) Rf e (R0 :: R1 :: R2 :: R3 :: R4 :: R5 :: R6 :: R7 :: R8 :: BlkR b T cs :: Rs) Q := by
  refine TD.ef ho hw (Ef.st 9 hx hy hz rfl hvz hf' ho' hc) ?_
  rintro _ _ ⟨rfl, rfl⟩
  exact ⟨Rf, fun w hw => hw.sel is (hf), fun _ h => h, h⟩
theorem TL.c9 {R0 R1 R2 R3 R4 R5 R6 R7 R8 : Res} (ho : ops[i]? = some ⟨some d, .call cl, ty, pos, af, gd⟩) (hw : Wd n ops e ⟨some d, .call cl, ty, pos, af, gd⟩ true) (hc : CT P n e ⟨some d, .call cl, ty, pos, af, gd⟩ f vs) (hs : SpecX P f vs.toArray Y A (fun v' A' N => v' = v ∧ A' = B ∧ N = [])) (hr : ∀ w, St F0 w0 (R0 :: R1 :: R2 :: R3 :: R4 :: R5 :: R6 :: R7 :: R8 :: A :: Rs) w → Src F0 w0 (R0 :: R1 :: R2 :: R3 :: R4 :: R5 :: R6 :: R7 :: R8 :: A :: Rs) w 9 Y) (hd : Nat.blt d n = true) (h : TL P n F0 w0 ops l ((d, v) :: e) (R0 :: R1 :: R2 :: R3 :: R4 :: R5 :: R6 :: R7 :: R8 :: B :: Rs) Q) : TL P n F0 w0 ops (i :: l) e (R0 :: R1 :: R2 :: R3 :: R4 :: R5 :: R6 :: R7 :: R8 :: A :: Rs) Q := by
  refine TL.ef ho hw (Ef.call 9 hc rfl hs hr hd) ?_
  rintro _ _ ⟨_, _, _, ⟨rfl, rfl, rfl⟩, rfl, rfl⟩
  exact h
theorem TD.c9 {R0 R1 R2 R3 R4 R5 R6 R7 R8 : Res} {l : Sch} (ho : ops[i]? = some ⟨some d, .call cl, ty, pos, af, gd⟩) (hw : Wd n ops e ⟨some d, .call cl, ty, pos, af, gd⟩ true) (hc : CT P n e ⟨some d, .call cl, ty, pos, af, gd⟩ f vs) (hs : SpecX P f vs.toArray Y A (fun v' A' N => v' = v ∧ A' = B ∧ N = [])) (hr : ∀ w, St F0 w0 (R0 :: R1 :: R2 :: R3 :: R4 :: R5 :: R6 :: R7 :: R8 :: A :: Rs) w → Src F0 w0 (R0 :: R1 :: R2 :: R3 :: R4 :: R5 :: R6 :: R7 :: R8 :: A :: Rs) w 9 Y) (hd : Nat.blt d n = true) (is : List Nat) (hf : Sel (R0 :: R1 :: R2 :: R3 :: R4 :: R5 :: R6 :: R7 :: R8 :: B :: Rs) is Rf) (h : TD P n F0 w0 ops l Rf ((d, v) :: e) (R0 :: R1 :: R2 :: R3 :: R4 :: R5 :: R6 :: R7 :: R8 :: B :: Rs) Q) : TD P n F0 w0 ops (.e i l) Rf e (R0 :: R1 :: R2 :: R3 :: R4 :: R5 :: R6 :: R7 :: R8 :: A :: Rs) Q := by
  refine TD.ef ho hw (Ef.call 9 hc rfl hs hr hd) ?_
  rintro _ _ ⟨_, _, _, ⟨rfl, rfl, rfl⟩, rfl, rfl⟩
  exact ⟨Rf, fun w hw => hw.sel is (hf), fun _ h => h, h⟩
theorem TL.st10 {cs cs' : Array Value} {R0 R1 R2 R3 R4 R5 R6 R7 R8 R9 : Res} (ho : ops[i]? = some ⟨none, .store t x y, ty, pos, af, gd⟩) (hw : Wd n ops e ⟨none, .store t x y, ty, pos, af, gd⟩ true) (hx : e.ev x = some (.pointer (some ⟨b, o, none⟩))) (hy : e.ev y = some v) (hz : ∀ w, (sizeOf t).run P w = .ok z w) (hvz : Nat.beq v.cells.size z = true) (hf' : Nat.ble (o + v.cells.size) cs.size = true) (ho' : v.cells.toList.all (·.oneCell') = true) (hc : (cs.toList.take o ++ v.cells.toList ++ cs.toList.drop (o + v.cells.size)).toArray = cs') (h : TL P n F0 w0 ops l e (R0 :: R1 :: R2 :: R3 :: R4 :: R5 :: R6 :: R7 :: R8 :: R9 :: BlkR b T cs' :: Rs) Q) : TL P n F0 w0 ops (i :: l) e (R0 :: R1 :: R2 :: R3 :: R4 :: R5 :: R6 :: R7 :: R8 :: R9 :: BlkR b T cs :: Rs) Q := by
  refine TL.ef ho hw (Ef.st 10 hx hy hz rfl hvz hf' ho' hc) ?_
  rintro _ _ ⟨rfl, rfl⟩
  exact h
theorem TD.st10 {cs cs' : Array Value} {R0 R1 R2 R3 R4 R5 R6 R7 R8 R9 : Res} {l : Sch} (ho : ops[i]? = some ⟨none, .store t x y, ty, pos, af, gd⟩) (hw : Wd n ops e ⟨none, .store t x y, ty, pos, af, gd⟩ true) (hx : e.ev x = some (.pointer (some ⟨b, o, none⟩))) (hy : e.ev y = some v) (hz : ∀ w, (sizeOf t).run P w = .ok z w) (hvz : Nat.beq v.cells.size z = true) (hf' : Nat.ble (o + v.cells.size) cs.size = true) (ho' : v.cells.toList.all (·.oneCell') = true) (hc : (cs.toList.take o ++ v.cells.toList ++ cs.toList.drop (o + v.cells.size)).toArray = cs') (is : List Nat) (hf : Sel (R0 :: R1 :: R2 :: R3 :: R4 :: R5 :: R6 :: R7 :: R8 :: R9 :: BlkR b T cs' :: Rs) is Rf) (h : TD P n F0 w0 ops l Rf e (R0 :: R1 :: R2 :: R3 :: R4 :: R5 :: R6 :: R7 :: R8 :: R9 :: BlkR b T cs' :: Rs) Q) : TD P n F0 w0 ops (.e i l) Rf e (R0 :: R1 :: R2 :: R3 :: R4 :: R5 :: R6 :: R7 :: R8 :: R9 :: BlkR b T cs :: Rs) Q := by
  refine TD.ef ho hw (Ef.st 10 hx hy hz rfl hvz hf' ho' hc) ?_
  rintro _ _ ⟨rfl, rfl⟩
  exact ⟨Rf, fun w hw => hw.sel is (hf), fun _ h => h, h⟩
theorem TL.c10 {R0 R1 R2 R3 R4 R5 R6 R7 R8 R9 : Res} (ho : ops[i]? = some ⟨some d, .call cl, ty, pos, af, gd⟩) (hw : Wd n ops e ⟨some d, .call cl, ty, pos, af, gd⟩ true) (hc : CT P n e ⟨some d, .call cl, ty, pos, af, gd⟩ f vs) (hs : SpecX P f vs.toArray Y A (fun v' A' N => v' = v ∧ A' = B ∧ N = [])) (hr : ∀ w, St F0 w0 (R0 :: R1 :: R2 :: R3 :: R4 :: R5 :: R6 :: R7 :: R8 :: R9 :: A :: Rs) w → Src F0 w0 (R0 :: R1 :: R2 :: R3 :: R4 :: R5 :: R6 :: R7 :: R8 :: R9 :: A :: Rs) w 10 Y) (hd : Nat.blt d n = true) (h : TL P n F0 w0 ops l ((d, v) :: e) (R0 :: R1 :: R2 :: R3 :: R4 :: R5 :: R6 :: R7 :: R8 :: R9 :: B :: Rs) Q) : TL P n F0 w0 ops (i :: l) e (R0 :: R1 :: R2 :: R3 :: R4 :: R5 :: R6 :: R7 :: R8 :: R9 :: A :: Rs) Q := by
  refine TL.ef ho hw (Ef.call 10 hc rfl hs hr hd) ?_
  rintro _ _ ⟨_, _, _, ⟨rfl, rfl, rfl⟩, rfl, rfl⟩
  exact h
theorem TD.c10 {R0 R1 R2 R3 R4 R5 R6 R7 R8 R9 : Res} {l : Sch} (ho : ops[i]? = some ⟨some d, .call cl, ty, pos, af, gd⟩) (hw : Wd n ops e ⟨some d, .call cl, ty, pos, af, gd⟩ true) (hc : CT P n e ⟨some d, .call cl, ty, pos, af, gd⟩ f vs) (hs : SpecX P f vs.toArray Y A (fun v' A' N => v' = v ∧ A' = B ∧ N = [])) (hr : ∀ w, St F0 w0 (R0 :: R1 :: R2 :: R3 :: R4 :: R5 :: R6 :: R7 :: R8 :: R9 :: A :: Rs) w → Src F0 w0 (R0 :: R1 :: R2 :: R3 :: R4 :: R5 :: R6 :: R7 :: R8 :: R9 :: A :: Rs) w 10 Y) (hd : Nat.blt d n = true) (is : List Nat) (hf : Sel (R0 :: R1 :: R2 :: R3 :: R4 :: R5 :: R6 :: R7 :: R8 :: R9 :: B :: Rs) is Rf) (h : TD P n F0 w0 ops l Rf ((d, v) :: e) (R0 :: R1 :: R2 :: R3 :: R4 :: R5 :: R6 :: R7 :: R8 :: R9 :: B :: Rs) Q) : TD P n F0 w0 ops (.e i l) Rf e (R0 :: R1 :: R2 :: R3 :: R4 :: R5 :: R6 :: R7 :: R8 :: R9 :: A :: Rs) Q := by
  refine TD.ef ho hw (Ef.call 10 hc rfl hs hr hd) ?_
  rintro _ _ ⟨_, _, _, ⟨rfl, rfl, rfl⟩, rfl, rfl⟩
  exact ⟨Rf, fun w hw => hw.sel is (hf), fun _ h => h, h⟩
theorem TL.st11 {cs cs' : Array Value} {R0 R1 R2 R3 R4 R5 R6 R7 R8 R9 R10 : Res} (ho : ops[i]? = some ⟨none, .store t x y, ty, pos, af, gd⟩) (hw : Wd n ops e ⟨none, .store t x y, ty, pos, af, gd⟩ true) (hx : e.ev x = some (.pointer (some ⟨b, o, none⟩))) (hy : e.ev y = some v) (hz : ∀ w, (sizeOf t).run P w = .ok z w) (hvz : Nat.beq v.cells.size z = true) (hf' : Nat.ble (o + v.cells.size) cs.size = true) (ho' : v.cells.toList.all (·.oneCell') = true) (hc : (cs.toList.take o ++ v.cells.toList ++ cs.toList.drop (o + v.cells.size)).toArray = cs') (h : TL P n F0 w0 ops l e (R0 :: R1 :: R2 :: R3 :: R4 :: R5 :: R6 :: R7 :: R8 :: R9 :: R10 :: BlkR b T cs' :: Rs) Q) : TL P n F0 w0 ops (i :: l) e (R0 :: R1 :: R2 :: R3 :: R4 :: R5 :: R6 :: R7 :: R8 :: R9 :: R10 :: BlkR b T cs :: Rs) Q := by
  refine TL.ef ho hw (Ef.st 11 hx hy hz rfl hvz hf' ho' hc) ?_
  rintro _ _ ⟨rfl, rfl⟩
  exact h
theorem TD.st11 {cs cs' : Array Value} {R0 R1 R2 R3 R4 R5 R6 R7 R8 R9 R10 : Res} {l : Sch} (ho : ops[i]? = some ⟨none, .store t x y, ty, pos, af, gd⟩) (hw : Wd n ops e ⟨none, .store t x y, ty, pos, af, gd⟩ true) (hx : e.ev x = some (.pointer (some ⟨b, o, none⟩))) (hy : e.ev y = some v) (hz : ∀ w, (sizeOf t).run P w = .ok z w) (hvz : Nat.beq v.cells.size z = true) (hf' : Nat.ble (o + v.cells.size) cs.size = true) (ho' : v.cells.toList.all (·.oneCell') = true) (hc : (cs.toList.take o ++ v.cells.toList ++ cs.toList.drop (o + v.cells.size)).toArray = cs') (is : List Nat) (hf : Sel (R0 :: R1 :: R2 :: R3 :: R4 :: R5 :: R6 :: R7 :: R8 :: R9 :: R10 :: BlkR b T cs' :: Rs) is Rf) (h : TD P n F0 w0 ops l Rf e (R0 :: R1 :: R2 :: R3 :: R4 :: R5 :: R6 :: R7 :: R8 :: R9 :: R10 :: BlkR b T cs' :: Rs) Q) : TD P n F0 w0 ops (.e i l) Rf e (R0 :: R1 :: R2 :: R3 :: R4 :: R5 :: R6 :: R7 :: R8 :: R9 :: R10 :: BlkR b T cs :: Rs) Q := by
  refine TD.ef ho hw (Ef.st 11 hx hy hz rfl hvz hf' ho' hc) ?_
  rintro _ _ ⟨rfl, rfl⟩
  exact ⟨Rf, fun w hw => hw.sel is (hf), fun _ h => h, h⟩
theorem TL.c11 {R0 R1 R2 R3 R4 R5 R6 R7 R8 R9 R10 : Res} (ho : ops[i]? = some ⟨some d, .call cl, ty, pos, af, gd⟩) (hw : Wd n ops e ⟨some d, .call cl, ty, pos, af, gd⟩ true) (hc : CT P n e ⟨some d, .call cl, ty, pos, af, gd⟩ f vs) (hs : SpecX P f vs.toArray Y A (fun v' A' N => v' = v ∧ A' = B ∧ N = [])) (hr : ∀ w, St F0 w0 (R0 :: R1 :: R2 :: R3 :: R4 :: R5 :: R6 :: R7 :: R8 :: R9 :: R10 :: A :: Rs) w → Src F0 w0 (R0 :: R1 :: R2 :: R3 :: R4 :: R5 :: R6 :: R7 :: R8 :: R9 :: R10 :: A :: Rs) w 11 Y) (hd : Nat.blt d n = true) (h : TL P n F0 w0 ops l ((d, v) :: e) (R0 :: R1 :: R2 :: R3 :: R4 :: R5 :: R6 :: R7 :: R8 :: R9 :: R10 :: B :: Rs) Q) : TL P n F0 w0 ops (i :: l) e (R0 :: R1 :: R2 :: R3 :: R4 :: R5 :: R6 :: R7 :: R8 :: R9 :: R10 :: A :: Rs) Q := by
  refine TL.ef ho hw (Ef.call 11 hc rfl hs hr hd) ?_
  rintro _ _ ⟨_, _, _, ⟨rfl, rfl, rfl⟩, rfl, rfl⟩
  exact h
theorem TD.c11 {R0 R1 R2 R3 R4 R5 R6 R7 R8 R9 R10 : Res} {l : Sch} (ho : ops[i]? = some ⟨some d, .call cl, ty, pos, af, gd⟩) (hw : Wd n ops e ⟨some d, .call cl, ty, pos, af, gd⟩ true) (hc : CT P n e ⟨some d, .call cl, ty, pos, af, gd⟩ f vs) (hs : SpecX P f vs.toArray Y A (fun v' A' N => v' = v ∧ A' = B ∧ N = [])) (hr : ∀ w, St F0 w0 (R0 :: R1 :: R2 :: R3 :: R4 :: R5 :: R6 :: R7 :: R8 :: R9 :: R10 :: A :: Rs) w → Src F0 w0 (R0 :: R1 :: R2 :: R3 :: R4 :: R5 :: R6 :: R7 :: R8 :: R9 :: R10 :: A :: Rs) w 11 Y) (hd : Nat.blt d n = true) (is : List Nat) (hf : Sel (R0 :: R1 :: R2 :: R3 :: R4 :: R5 :: R6 :: R7 :: R8 :: R9 :: R10 :: B :: Rs) is Rf) (h : TD P n F0 w0 ops l Rf ((d, v) :: e) (R0 :: R1 :: R2 :: R3 :: R4 :: R5 :: R6 :: R7 :: R8 :: R9 :: R10 :: B :: Rs) Q) : TD P n F0 w0 ops (.e i l) Rf e (R0 :: R1 :: R2 :: R3 :: R4 :: R5 :: R6 :: R7 :: R8 :: R9 :: R10 :: A :: Rs) Q := by
  refine TD.ef ho hw (Ef.call 11 hc rfl hs hr hd) ?_
  rintro _ _ ⟨_, _, _, ⟨rfl, rfl, rfl⟩, rfl, rfl⟩
  exact ⟨Rf, fun w hw => hw.sel is (hf), fun _ h => h, h⟩
theorem TL.st12 {cs cs' : Array Value} {R0 R1 R2 R3 R4 R5 R6 R7 R8 R9 R10 R11 : Res} (ho : ops[i]? = some ⟨none, .store t x y, ty, pos, af, gd⟩) (hw : Wd n ops e ⟨none, .store t x y, ty, pos, af, gd⟩ true) (hx : e.ev x = some (.pointer (some ⟨b, o, none⟩))) (hy : e.ev y = some v) (hz : ∀ w, (sizeOf t).run P w = .ok z w) (hvz : Nat.beq v.cells.size z = true) (hf' : Nat.ble (o + v.cells.size) cs.size = true) (ho' : v.cells.toList.all (·.oneCell') = true) (hc : (cs.toList.take o ++ v.cells.toList ++ cs.toList.drop (o + v.cells.size)).toArray = cs') (h : TL P n F0 w0 ops l e (R0 :: R1 :: R2 :: R3 :: R4 :: R5 :: R6 :: R7 :: R8 :: R9 :: R10 :: R11 :: BlkR b T cs' :: Rs) Q) : TL P n F0 w0 ops (i :: l) e (R0 :: R1 :: R2 :: R3 :: R4 :: R5 :: R6 :: R7 :: R8 :: R9 :: R10 :: R11 :: BlkR b T cs :: Rs) Q := by
  refine TL.ef ho hw (Ef.st 12 hx hy hz rfl hvz hf' ho' hc) ?_
  rintro _ _ ⟨rfl, rfl⟩
  exact h
theorem TD.st12 {cs cs' : Array Value} {R0 R1 R2 R3 R4 R5 R6 R7 R8 R9 R10 R11 : Res} {l : Sch} (ho : ops[i]? = some ⟨none, .store t x y, ty, pos, af, gd⟩) (hw : Wd n ops e ⟨none, .store t x y, ty, pos, af, gd⟩ true) (hx : e.ev x = some (.pointer (some ⟨b, o, none⟩))) (hy : e.ev y = some v) (hz : ∀ w, (sizeOf t).run P w = .ok z w) (hvz : Nat.beq v.cells.size z = true) (hf' : Nat.ble (o + v.cells.size) cs.size = true) (ho' : v.cells.toList.all (·.oneCell') = true) (hc : (cs.toList.take o ++ v.cells.toList ++ cs.toList.drop (o + v.cells.size)).toArray = cs') (is : List Nat) (hf : Sel (R0 :: R1 :: R2 :: R3 :: R4 :: R5 :: R6 :: R7 :: R8 :: R9 :: R10 :: R11 :: BlkR b T cs' :: Rs) is Rf) (h : TD P n F0 w0 ops l Rf e (R0 :: R1 :: R2 :: R3 :: R4 :: R5 :: R6 :: R7 :: R8 :: R9 :: R10 :: R11 :: BlkR b T cs' :: Rs) Q) : TD P n F0 w0 ops (.e i l) Rf e (R0 :: R1 :: R2 :: R3 :: R4 :: R5 :: R6 :: R7 :: R8 :: R9 :: R10 :: R11 :: BlkR b T cs :: Rs) Q := by
  refine TD.ef ho hw (Ef.st 12 hx hy hz rfl hvz hf' ho' hc) ?_
  rintro _ _ ⟨rfl, rfl⟩
  exact ⟨Rf, fun w hw => hw.sel is (hf), fun _ h => h, h⟩
theorem TL.c12 {R0 R1 R2 R3 R4 R5 R6 R7 R8 R9 R10 R11 : Res} (ho : ops[i]? = some ⟨some d, .call cl, ty, pos, af, gd⟩) (hw : Wd n ops e ⟨some d, .call cl, ty, pos, af, gd⟩ true) (hc : CT P n e ⟨some d, .call cl, ty, pos, af, gd⟩ f vs) (hs : SpecX P f vs.toArray Y A (fun v' A' N => v' = v ∧ A' = B ∧ N = [])) (hr : ∀ w, St F0 w0 (R0 :: R1 :: R2 :: R3 :: R4 :: R5 :: R6 :: R7 :: R8 :: R9 :: R10 :: R11 :: A :: Rs) w → Src F0 w0 (R0 :: R1 :: R2 :: R3 :: R4 :: R5 :: R6 :: R7 :: R8 :: R9 :: R10 :: R11 :: A :: Rs) w 12 Y) (hd : Nat.blt d n = true) (h : TL P n F0 w0 ops l ((d, v) :: e) (R0 :: R1 :: R2 :: R3 :: R4 :: R5 :: R6 :: R7 :: R8 :: R9 :: R10 :: R11 :: B :: Rs) Q) : TL P n F0 w0 ops (i :: l) e (R0 :: R1 :: R2 :: R3 :: R4 :: R5 :: R6 :: R7 :: R8 :: R9 :: R10 :: R11 :: A :: Rs) Q := by
  refine TL.ef ho hw (Ef.call 12 hc rfl hs hr hd) ?_
  rintro _ _ ⟨_, _, _, ⟨rfl, rfl, rfl⟩, rfl, rfl⟩
  exact h
theorem TD.c12 {R0 R1 R2 R3 R4 R5 R6 R7 R8 R9 R10 R11 : Res} {l : Sch} (ho : ops[i]? = some ⟨some d, .call cl, ty, pos, af, gd⟩) (hw : Wd n ops e ⟨some d, .call cl, ty, pos, af, gd⟩ true) (hc : CT P n e ⟨some d, .call cl, ty, pos, af, gd⟩ f vs) (hs : SpecX P f vs.toArray Y A (fun v' A' N => v' = v ∧ A' = B ∧ N = [])) (hr : ∀ w, St F0 w0 (R0 :: R1 :: R2 :: R3 :: R4 :: R5 :: R6 :: R7 :: R8 :: R9 :: R10 :: R11 :: A :: Rs) w → Src F0 w0 (R0 :: R1 :: R2 :: R3 :: R4 :: R5 :: R6 :: R7 :: R8 :: R9 :: R10 :: R11 :: A :: Rs) w 12 Y) (hd : Nat.blt d n = true) (is : List Nat) (hf : Sel (R0 :: R1 :: R2 :: R3 :: R4 :: R5 :: R6 :: R7 :: R8 :: R9 :: R10 :: R11 :: B :: Rs) is Rf) (h : TD P n F0 w0 ops l Rf ((d, v) :: e) (R0 :: R1 :: R2 :: R3 :: R4 :: R5 :: R6 :: R7 :: R8 :: R9 :: R10 :: R11 :: B :: Rs) Q) : TD P n F0 w0 ops (.e i l) Rf e (R0 :: R1 :: R2 :: R3 :: R4 :: R5 :: R6 :: R7 :: R8 :: R9 :: R10 :: R11 :: A :: Rs) Q := by
  refine TD.ef ho hw (Ef.call 12 hc rfl hs hr hd) ?_
  rintro _ _ ⟨_, _, _, ⟨rfl, rfl, rfl⟩, rfl, rfl⟩
  exact ⟨Rf, fun w hw => hw.sel is (hf), fun _ h => h, h⟩
theorem TL.st13 {cs cs' : Array Value} {R0 R1 R2 R3 R4 R5 R6 R7 R8 R9 R10 R11 R12 : Res} (ho : ops[i]? = some ⟨none, .store t x y, ty, pos, af, gd⟩) (hw : Wd n ops e ⟨none, .store t x y, ty, pos, af, gd⟩ true) (hx : e.ev x = some (.pointer (some ⟨b, o, none⟩))) (hy : e.ev y = some v) (hz : ∀ w, (sizeOf t).run P w = .ok z w) (hvz : Nat.beq v.cells.size z = true) (hf' : Nat.ble (o + v.cells.size) cs.size = true) (ho' : v.cells.toList.all (·.oneCell') = true) (hc : (cs.toList.take o ++ v.cells.toList ++ cs.toList.drop (o + v.cells.size)).toArray = cs') (h : TL P n F0 w0 ops l e (R0 :: R1 :: R2 :: R3 :: R4 :: R5 :: R6 :: R7 :: R8 :: R9 :: R10 :: R11 :: R12 :: BlkR b T cs' :: Rs) Q) : TL P n F0 w0 ops (i :: l) e (R0 :: R1 :: R2 :: R3 :: R4 :: R5 :: R6 :: R7 :: R8 :: R9 :: R10 :: R11 :: R12 :: BlkR b T cs :: Rs) Q := by
  refine TL.ef ho hw (Ef.st 13 hx hy hz rfl hvz hf' ho' hc) ?_
  rintro _ _ ⟨rfl, rfl⟩
  exact h
theorem TD.st13 {cs cs' : Array Value} {R0 R1 R2 R3 R4 R5 R6 R7 R8 R9 R10 R11 R12 : Res} {l : Sch} (ho : ops[i]? = some ⟨none, .store t x y, ty, pos, af, gd⟩) (hw : Wd n ops e ⟨none, .store t x y, ty, pos, af, gd⟩ true) (hx : e.ev x = some (.pointer (some ⟨b, o, none⟩))) (hy : e.ev y = some v) (hz : ∀ w, (sizeOf t).run P w = .ok z w) (hvz : Nat.beq v.cells.size z = true) (hf' : Nat.ble (o + v.cells.size) cs.size = true) (ho' : v.cells.toList.all (·.oneCell') = true) (hc : (cs.toList.take o ++ v.cells.toList ++ cs.toList.drop (o + v.cells.size)).toArray = cs') (is : List Nat) (hf : Sel (R0 :: R1 :: R2 :: R3 :: R4 :: R5 :: R6 :: R7 :: R8 :: R9 :: R10 :: R11 :: R12 :: BlkR b T cs' :: Rs) is Rf) (h : TD P n F0 w0 ops l Rf e (R0 :: R1 :: R2 :: R3 :: R4 :: R5 :: R6 :: R7 :: R8 :: R9 :: R10 :: R11 :: R12 :: BlkR b T cs' :: Rs) Q) : TD P n F0 w0 ops (.e i l) Rf e (R0 :: R1 :: R2 :: R3 :: R4 :: R5 :: R6 :: R7 :: R8 :: R9 :: R10 :: R11 :: R12 :: BlkR b T cs :: Rs) Q := by
  refine TD.ef ho hw (Ef.st 13 hx hy hz rfl hvz hf' ho' hc) ?_
  rintro _ _ ⟨rfl, rfl⟩
  exact ⟨Rf, fun w hw => hw.sel is (hf), fun _ h => h, h⟩
theorem TL.c13 {R0 R1 R2 R3 R4 R5 R6 R7 R8 R9 R10 R11 R12 : Res} (ho : ops[i]? = some ⟨some d, .call cl, ty, pos, af, gd⟩) (hw : Wd n ops e ⟨some d, .call cl, ty, pos, af, gd⟩ true) (hc : CT P n e ⟨some d, .call cl, ty, pos, af, gd⟩ f vs) (hs : SpecX P f vs.toArray Y A (fun v' A' N => v' = v ∧ A' = B ∧ N = [])) (hr : ∀ w, St F0 w0 (R0 :: R1 :: R2 :: R3 :: R4 :: R5 :: R6 :: R7 :: R8 :: R9 :: R10 :: R11 :: R12 :: A :: Rs) w → Src F0 w0 (R0 :: R1 :: R2 :: R3 :: R4 :: R5 :: R6 :: R7 :: R8 :: R9 :: R10 :: R11 :: R12 :: A :: Rs) w 13 Y) (hd : Nat.blt d n = true) (h : TL P n F0 w0 ops l ((d, v) :: e) (R0 :: R1 :: R2 :: R3 :: R4 :: R5 :: R6 :: R7 :: R8 :: R9 :: R10 :: R11 :: R12 :: B :: Rs) Q) : TL P n F0 w0 ops (i :: l) e (R0 :: R1 :: R2 :: R3 :: R4 :: R5 :: R6 :: R7 :: R8 :: R9 :: R10 :: R11 :: R12 :: A :: Rs) Q := by
  refine TL.ef ho hw (Ef.call 13 hc rfl hs hr hd) ?_
  rintro _ _ ⟨_, _, _, ⟨rfl, rfl, rfl⟩, rfl, rfl⟩
  exact h
theorem TD.c13 {R0 R1 R2 R3 R4 R5 R6 R7 R8 R9 R10 R11 R12 : Res} {l : Sch} (ho : ops[i]? = some ⟨some d, .call cl, ty, pos, af, gd⟩) (hw : Wd n ops e ⟨some d, .call cl, ty, pos, af, gd⟩ true) (hc : CT P n e ⟨some d, .call cl, ty, pos, af, gd⟩ f vs) (hs : SpecX P f vs.toArray Y A (fun v' A' N => v' = v ∧ A' = B ∧ N = [])) (hr : ∀ w, St F0 w0 (R0 :: R1 :: R2 :: R3 :: R4 :: R5 :: R6 :: R7 :: R8 :: R9 :: R10 :: R11 :: R12 :: A :: Rs) w → Src F0 w0 (R0 :: R1 :: R2 :: R3 :: R4 :: R5 :: R6 :: R7 :: R8 :: R9 :: R10 :: R11 :: R12 :: A :: Rs) w 13 Y) (hd : Nat.blt d n = true) (is : List Nat) (hf : Sel (R0 :: R1 :: R2 :: R3 :: R4 :: R5 :: R6 :: R7 :: R8 :: R9 :: R10 :: R11 :: R12 :: B :: Rs) is Rf) (h : TD P n F0 w0 ops l Rf ((d, v) :: e) (R0 :: R1 :: R2 :: R3 :: R4 :: R5 :: R6 :: R7 :: R8 :: R9 :: R10 :: R11 :: R12 :: B :: Rs) Q) : TD P n F0 w0 ops (.e i l) Rf e (R0 :: R1 :: R2 :: R3 :: R4 :: R5 :: R6 :: R7 :: R8 :: R9 :: R10 :: R11 :: R12 :: A :: Rs) Q := by
  refine TD.ef ho hw (Ef.call 13 hc rfl hs hr hd) ?_
  rintro _ _ ⟨_, _, _, ⟨rfl, rfl, rfl⟩, rfl, rfl⟩
  exact ⟨Rf, fun w hw => hw.sel is (hf), fun _ h => h, h⟩
theorem TL.cge  (ho : ops[i]? = some ⟨some d, .call cl, ty, pos, af, gd⟩) (hw : Wd n ops e ⟨some d, .call cl, ty, pos, af, gd⟩ true) (hc : CT P n e ⟨some d, .call cl, ty, pos, af, gd⟩ f vs) (hs : SpecX P f vs.toArray Y EmpR R) (hr : ∀ w, St F0 w0 Rs w → Y.reads w (fun _ => False)) (hd : Nat.blt d n = true) (h : ∀ v A' N, R v A' N → TL P n F0 w0 ops l ((d, v) :: e) (N ++ Rs) Q) : TL P n F0 w0 ops (i :: l) e Rs Q := by
  refine TL.ef ho hw (Ef.callE hc hs hr hd) ?_
  rintro _ _ ⟨v, A', N, hR, rfl, rfl⟩
  exact h v A' N hR
theorem TD.cge  {l : Sch} (ho : ops[i]? = some ⟨some d, .call cl, ty, pos, af, gd⟩) (hw : Wd n ops e ⟨some d, .call cl, ty, pos, af, gd⟩ true) (hc : CT P n e ⟨some d, .call cl, ty, pos, af, gd⟩ f vs) (hs : SpecX P f vs.toArray Y EmpR R) (hr : ∀ w, St F0 w0 Rs w → Y.reads w (fun _ => False)) (hd : Nat.blt d n = true) (is : List Nat) (hf : ∀ v A' N, R v A' N → Sel (N ++ Rs) is Rf) (h : ∀ v A' N, R v A' N → TD P n F0 w0 ops l Rf ((d, v) :: e) (N ++ Rs) Q) : TD P n F0 w0 ops (.e i l) Rf e Rs Q := by
  refine TD.ef ho hw (Ef.callE hc hs hr hd) ?_
  rintro _ _ ⟨v, A', N, hR, rfl, rfl⟩
  exact ⟨Rf, fun w hw => hw.sel is (hf v A' N hR), fun _ h => h, h v A' N hR⟩
theorem TL.ce  (ho : ops[i]? = some ⟨some d, .call cl, ty, pos, af, gd⟩) (hw : Wd n ops e ⟨some d, .call cl, ty, pos, af, gd⟩ true) (hc : CT P n e ⟨some d, .call cl, ty, pos, af, gd⟩ f vs) (hs : SpecX P f vs.toArray Y EmpR (fun v' A' N => v' = v ∧ A' = EmpR ∧ N = [])) (hr : ∀ w, St F0 w0 Rs w → Y.reads w (fun _ => False)) (hd : Nat.blt d n = true) (h : TL P n F0 w0 ops l ((d, v) :: e) Rs Q) : TL P n F0 w0 ops (i :: l) e Rs Q := by
  refine TL.ef ho hw (Ef.callE hc hs hr hd) ?_
  rintro _ _ ⟨_, _, _, ⟨rfl, rfl, rfl⟩, rfl, rfl⟩
  exact h
theorem TD.ce  {l : Sch} (ho : ops[i]? = some ⟨some d, .call cl, ty, pos, af, gd⟩) (hw : Wd n ops e ⟨some d, .call cl, ty, pos, af, gd⟩ true) (hc : CT P n e ⟨some d, .call cl, ty, pos, af, gd⟩ f vs) (hs : SpecX P f vs.toArray Y EmpR (fun v' A' N => v' = v ∧ A' = EmpR ∧ N = [])) (hr : ∀ w, St F0 w0 Rs w → Y.reads w (fun _ => False)) (hd : Nat.blt d n = true) (is : List Nat) (hf : Sel Rs is Rf) (h : TD P n F0 w0 ops l Rf ((d, v) :: e) Rs Q) : TD P n F0 w0 ops (.e i l) Rf e Rs Q := by
  refine TD.ef ho hw (Ef.callE hc hs hr hd) ?_
  rintro _ _ ⟨_, _, _, ⟨rfl, rfl, rfl⟩, rfl, rfl⟩
  exact ⟨Rf, fun w hw => hw.sel is (hf), fun _ h => h, h⟩
end
end Go.Proofs.Ytcoppaggpbfcmaa.Sl
namespace Go.Proofs.Ytcoppaggpbfcmaa.Sl
open Go.RowKit
set_option linter.unusedVariables false
set_option linter.unusedSimpArgs false
theorem bn_t {b : Bool} (h : b = false) : (!b) = true := by rw [h]; rfl
theorem bn_f {b : Bool} (h : b = true) : (!b) = false := by rw [h]; rfl
theorem ifT {α : Type} {c : Prop} [Decidable c] {x y z : α} (hc : c) (h : (if c then x else y) = z) : x = z := by rwa [if_pos hc] at h
theorem ifF {α : Type} {c : Prop} [Decidable c] {x y z : α} (hc : ¬ c) (h : (if c then x else y) = z) : y = z := by rwa [if_neg hc] at h
theorem sl_drop {α : Type} (l : List α) (p : Nat) : (l.drop p).take (l.length - p) = l.drop p := by rw [← List.length_drop, List.take_length]
section
variable {P : Program} {n : Nat} {F0 : Nat → Prop} {w0 : World} {e : Env} {Rs Rf : List Res} {Q : Exit → Act → World → Prop} {ops : Array Oper} {i d : Nat} {ty t t' el : TypeId} {pos : String} {af : Array Edge} {gd : Option (Nat × Bool)} {v v' : Value} {x y : Operand} {l : List Nat} {lo : Sch} {c : Code} {S : World → Prop}
theorem Ex.bEq {d : Option Tmp} {a b p q : Bool} (hx : e.ev x = some (.bool a)) (ha : a = p) (hy : e.ev y = some (.bool b)) (hb : b = q) (hu : ∀ w, (underlying t).run P w = .ok .bool w) : Ex P n e S ⟨d, .binOp .eql t x y t', ty, pos, af, gd⟩ (.bool (p == q)) := by
  intro A w h _
  subst ha hb
  have h1 : ∀ k, (Op.equalIn (k + 1) t (.bool a) (.bool b)).run P w = .ok (a == b) w := by
    intro k
    simp only [Op.equalIn, Sem.run_bind, hu, Result.andThen_ok]
    rfl
  have h2 : (Op.equal t (.bool a) (.bool b)).run P w = .ok (a == b) w := h1 9999
  have h4 : (binOp .eql t (.bool a) (.bool b)).run P w = .ok (.bool (a == b)) w := by
    simp only [binOp, Sem.run_bind, h2, Result.andThen_ok, Sem.run_pure]
  simp only [execOp, h.ev hx, h.ev hy, eqGuard]
  simp [h4]
theorem Ex.bNe {d : Option Tmp} {a b p q : Bool} (hx : e.ev x = some (.bool a)) (ha : a = p) (hy : e.ev y = some (.bool b)) (hb : b = q) (hu : ∀ w, (underlying t).run P w = .ok .bool w) : Ex P n e S ⟨d, .binOp .neq t x y t', ty, pos, af, gd⟩ (.bool (!(p == q))) := by
  intro A w h _
  subst ha hb
  have h1 : ∀ k, (Op.equalIn (k + 1) t (.bool a) (.bool b)).run P w = .ok (a == b) w := by
    intro k
    simp only [Op.equalIn, Sem.run_bind, hu, Result.andThen_ok]
    rfl
  have h2 : (Op.equal t (.bool a) (.bool b)).run P w = .ok (a == b) w := h1 9999
  have h4 : (binOp .neq t (.bool a) (.bool b)).run P w = .ok (.bool (!(a == b))) w := by
    simp only [binOp, Sem.run_bind, h2, Result.andThen_ok, Sem.run_pure]
  simp only [execOp, h.ev hx, h.ev hy, eqGuard]
  simp [h4]
theorem TL.sel (is : List Nat) {Rs' : List Res} (hr : Sel Rs is Rs') (h : TL P n F0 w0 ops l e Rs' Q) : TL P n F0 w0 ops l e Rs Q := fun a w ha hs => h a w ha (hs.sel is hr)
theorem TD.sel (is : List Nat) {Rs' : List Res} (hr : Sel Rs is Rs') (h : TD P n F0 w0 ops lo Rf e Rs' Q) : TD P n F0 w0 ops lo Rf e Rs Q := fun a w ha hs => h a w ha (hs.sel is hr)
theorem T.sel (is : List Nat) {Rs' : List Res} (hr : Sel Rs is Rs') (h : T P n F0 w0 e Rs' c Q) : T P n F0 w0 e Rs c Q := fun a w ha hs => h a w ha (hs.sel is hr)
theorem X.sel {z : Exit} (is : List Nat) {Rs' : List Res} (hr : Sel Rs is Rs') (h : X n F0 w0 e Rs' z Q) : X n F0 w0 e Rs z Q := fun a w ha hs => h a w ha (hs.sel is hr)
theorem Has.as {a : Act} (ha : Has n e a) (hv : e.get d = some v) (h : v = v') : Has n ((d, v') :: e) a := ha.sub (fun t u hu => by
  simp only [Env.get] at hu
  cases hb : Nat.beq d t with
  | true =>
    rw [hb] at hu
    obtain rfl := Nat.eq_of_beq_eq_true hb
    injection hu with hu
    rw [hv, h, hu]
  | false => rw [hb] at hu; exact hu)
theorem TL.as (hv : e.get d = some v) (h : v = v') (k : TL P n F0 w0 ops l ((d, v') :: e) Rs Q) : TL P n F0 w0 ops l e Rs Q := fun a w ha hs => k a w (ha.as hv h) hs
theorem TD.as (hv : e.get d = some v) (h : v = v') (k : TD P n F0 w0 ops lo Rf ((d, v') :: e) Rs Q) : TD P n F0 w0 ops lo Rf e Rs Q := fun a w ha hs => k a w (ha.as hv h) hs
theorem TL.nilrow {α : Type} (T' : TypeId) (size : Nat) (E : Rd α) (h : TL P n F0 w0 ops l e (OwnR T' size E (.slice none 0 0) [] :: Rs) Q) : TL P n F0 w0 ops l e Rs Q := fun a w ha hs => h a w ha (OwnR.nil T' size E hs)
theorem TD.nilrow {α : Type} (T' : TypeId) (size : Nat) (E : Rd α) (h : TD P n F0 w0 ops lo Rf e (OwnR T' size E (.slice none 0 0) [] :: Rs) Q) : TD P n F0 w0 ops lo Rf e Rs Q := fun a w ha hs => h a w ha (OwnR.nil T' size E hs)
theorem X.nilrd {α : Type} {z : Exit} (size : Nat) (E : Rd α) (h : X n F0 w0 e (RdR (sliceRd size E) [.slice none 0 0] [] :: Rs) z Q) : X n F0 w0 e Rs z Q := fun a w ha hs => h a w ha (RdR.nil size E hs)
theorem X.shut {α : Type} {z : Exit} {E : Rd α} {size : Nat} {T : TypeId} {u : Value} {xs : List α} (hp : 0 < size) (i : Nat) (hi : Rs[i]? = some (OwnR T size E u xs)) (h : X n F0 w0 e (Rs.set i (RdR (sliceRd size E) [u] xs)) z Q) : X n F0 w0 e Rs z Q := fun a w ha hs => h a w ha (OwnR.shut hp i hs hi)
theorem OutR.of_blk {b : Nat} {w : World} {G : Nat → Prop} (h : (BlkR b 87 #[.slice none 0 0, .int .i64 0]).P w G) : (OutR b ([], 0)).P w G := by
  obtain ⟨h1, h2⟩ := h
  exact ⟨_, h1, World.ownsRow_nil _ _ _ _, fun k => by simp [h2 k, Value.ownBlock]⟩
theorem TL.newout {zv : Value} (ho : ops[i]? = some ⟨some d, .alloc t, ty, pos, af, gd⟩) (hw : Wd n ops e ⟨some d, .alloc t, ty, pos, af, gd⟩ true) (hz : ∀ w, (zeroValue t).run P w = .ok zv w) (hd : Nat.blt d n = true)
    (h : ∀ b, TL P n F0 w0 ops l ((d, .pointer (some ⟨b, 0, none⟩)) :: e) (OutR b ([], 0) :: Rs) Q) (ht : t = 87 := by rfl) (hzv : zv = .agg #[.slice none 0 0, .int .i64 0] := by rfl) : TL P n F0 w0 ops (i :: l) e Rs Q := by
  refine TL.alloc ho hw hz hd (fun b => ?_)
  intro a w ha hs
  subst ht hzv
  exact h b a w ha (hs.weaken 0 rfl (fun G hG => OutR.of_blk hG))
theorem TD.newout {zv : Value} (ho : ops[i]? = some ⟨some d, .alloc t, ty, pos, af, gd⟩) (hw : Wd n ops e ⟨some d, .alloc t, ty, pos, af, gd⟩ true) (hz : ∀ w, (zeroValue t).run P w = .ok zv w) (hd : Nat.blt d n = true) (is : List Nat) (hf : ∀ b, Sel (OutR b ([], 0) :: Rs) is Rf)
    (h : ∀ b, TD P n F0 w0 ops lo Rf ((d, .pointer (some ⟨b, 0, none⟩)) :: e) (OutR b ([], 0) :: Rs) Q) (ht : t = 87 := by rfl) (hzv : zv = .agg #[.slice none 0 0, .int .i64 0] := by rfl) : TD P n F0 w0 ops (.e i lo) Rf e Rs Q := by
  refine TD.ef ho hw (Ef.alloc hz hd) ?_
  rintro _ _ ⟨b, rfl, rfl⟩
  subst ht hzv
  have key : ∀ w, St F0 w0 (BlkR b 87 #[.slice none 0 0, .int .i64 0] :: Rs) w → St F0 w0 (OutR b ([], 0) :: Rs) w := fun w hs => hs.weaken 0 rfl (fun G hG => OutR.of_blk hG)
  exact ⟨Rf, fun w hs => (key w hs).sel is (hf b), fun _ h => h, fun a w ha hs => h b a w ha (key w hs)⟩
section
variable {α : Type} {E : Rd α} {sl : Operand} {T z bytes g ii jj : Nat} {zv : Value} {A : Option Addr} {cp : Nat} {Rs' : List Res} {B : Res}
theorem TL.app1 (ii : Nat) {us : List Value} {u : α} {l : List α} {lr : List Nat} (ho : ops[i]? = some ⟨some d, .call ⟨.builtin .append, #[sl, x], #[t, t]⟩, ty, pos, af, gd⟩) (hw : Wd n ops e ⟨some d, .call ⟨.builtin .append, #[sl, x], #[t, t]⟩, ty, pos, af, gd⟩ true)
    (hu : P.underlying t = some (.slice T)) (hinfo : (P.info? T).map (fun i => (i.zero, i.size, i.bytes)) = some (some zv, z, bytes)) (hzv : zv.cells.size = z) (hp : 0 < z)
    (hs : e.ev sl = some (.slice A l.length cp)) (hx : e.ev x = some (.slice (some ⟨g, 0, none⟩) 1 1)) (hR : Rs = BlkR g T us.toArray :: Rs') (hi : Rs'[ii]? = some (OwnR T z E (.slice A l.length cp) l)) (hl : us.length = z) (hq : us.all (·.oneCell') = true) (hE : ∀ w S, E.P w S us u) (hb : (l.length + 1) * bytes ≤ 140737488355328) (hm : l.length + 1 ≤ 140737488355328) (hd : Nat.blt d n = true)
    (h : ∀ A' c', TL P n F0 w0 ops lr ((d, .slice A' (l ++ [u]).length c') :: e) (Rs'.set ii (OwnR T z E (.slice A' (l ++ [u]).length c') (l ++ [u]))) Q) : TL P n F0 w0 ops (i :: lr) e Rs Q := by
  refine TL.ef ho hw (Ef.app1 ii hu hinfo hzv hp hs hx hR hi hl hq hE hb hm hd) ?_
  rintro _ _ ⟨A', c', rfl, rfl⟩
  exact h A' c'
theorem TL.app2 (ii jj : Nat) {us : List Value} {u : α} {l : List α} {lr : List Nat} (ho : ops[i]? = some ⟨some d, .call ⟨.builtin .append, #[sl, x], #[t, t]⟩, ty, pos, af, gd⟩) (hw : Wd n ops e ⟨some d, .call ⟨.builtin .append, #[sl, x], #[t, t]⟩, ty, pos, af, gd⟩ true)
    (hu : P.underlying t = some (.slice T)) (hinfo : (P.info? T).map (fun i => (i.zero, i.size, i.bytes)) = some (some zv, z, bytes)) (hzv : zv.cells.size = z) (hp : 0 < z)
    (hs : e.ev sl = some (.slice A l.length cp)) (hx : e.ev x = some (.slice (some ⟨g, 0, none⟩) 1 1)) (hR : Rs = BlkR g T us.toArray :: Rs') (hi : Rs'[ii]? = some (OwnR T z E (.slice A l.length cp) l)) (hj : (Rs'.eraseIdx ii)[jj]? = some B) (hl : us.length = z) (hq : us.all (·.oneCell') = true) (hE : ∀ w G, B.P w G → E.P w G us u) (hb : (l.length + 1) * bytes ≤ 140737488355328) (hm : l.length + 1 ≤ 140737488355328) (hd : Nat.blt d n = true)
    (h : ∀ A' c', TL P n F0 w0 ops lr ((d, .slice A' (l ++ [u]).length c') :: e) (OwnR T z E (.slice A' (l ++ [u]).length c') (l ++ [u]) :: (Rs'.eraseIdx ii).eraseIdx jj) Q) : TL P n F0 w0 ops (i :: lr) e Rs Q := by
  refine TL.ef ho hw (Ef.app2 ii jj hu hinfo hzv hp hs hx hR hi hj hl hq hE hb hm hd) ?_
  rintro _ _ ⟨A', c', rfl, rfl⟩
  exact h A' c'
theorem TD.app1 (ii : Nat) {us : List Value} {u : α} {l : List α} {lr : Sch} (ho : ops[i]? = some ⟨some d, .call ⟨.builtin .append, #[sl, x], #[t, t]⟩, ty, pos, af, gd⟩) (hw : Wd n ops e ⟨some d, .call ⟨.builtin .append, #[sl, x], #[t, t]⟩, ty, pos, af, gd⟩ true)
    (hu : P.underlying t = some (.slice T)) (hinfo : (P.info? T).map (fun i => (i.zero, i.size, i.bytes)) = some (some zv, z, bytes)) (hzv : zv.cells.size = z) (hp : 0 < z)
    (hs : e.ev sl = some (.slice A l.length cp)) (hx : e.ev x = some (.slice (some ⟨g, 0, none⟩) 1 1)) (hR : Rs = BlkR g T us.toArray :: Rs') (hi : Rs'[ii]? = some (OwnR T z E (.slice A l.length cp) l)) (hl : us.length = z) (hq : us.all (·.oneCell') = true) (hE : ∀ w S, E.P w S us u) (hb : (l.length + 1) * bytes ≤ 140737488355328) (hm : l.length + 1 ≤ 140737488355328) (hd : Nat.blt d n = true)
    (is : List Nat) (hf : ∀ A' c', Sel (Rs'.set ii (OwnR T z E (.slice A' (l ++ [u]).length c') (l ++ [u]))) is Rf)
    (h : ∀ A' c', TD P n F0 w0 ops lr Rf ((d, .slice A' (l ++ [u]).length c') :: e) (Rs'.set ii (OwnR T z E (.slice A' (l ++ [u]).length c') (l ++ [u]))) Q) : TD P n F0 w0 ops (.e i lr) Rf e Rs Q := by
  refine TD.ef ho hw (Ef.app1 ii hu hinfo hzv hp hs hx hR hi hl hq hE hb hm hd) ?_
  rintro _ _ ⟨A', c', rfl, rfl⟩
  exact ⟨Rf, fun w hw => hw.sel is (hf A' c'), fun _ h => h, h A' c'⟩
theorem TD.app2 (ii jj : Nat) {us : List Value} {u : α} {l : List α} {lr : Sch} (ho : ops[i]? = some ⟨some d, .call ⟨.builtin .append, #[sl, x], #[t, t]⟩, ty, pos, af, gd⟩) (hw : Wd n ops e ⟨some d, .call ⟨.builtin .append, #[sl, x], #[t, t]⟩, ty, pos, af, gd⟩ true)
    (hu : P.underlying t = some (.slice T)) (hinfo : (P.info? T).map (fun i => (i.zero, i.size, i.bytes)) = some (some zv, z, bytes)) (hzv : zv.cells.size = z) (hp : 0 < z)
    (hs : e.ev sl = some (.slice A l.length cp)) (hx : e.ev x = some (.slice (some ⟨g, 0, none⟩) 1 1)) (hR : Rs = BlkR g T us.toArray :: Rs') (hi : Rs'[ii]? = some (OwnR T z E (.slice A l.length cp) l)) (hj : (Rs'.eraseIdx ii)[jj]? = some B) (hl : us.length = z) (hq : us.all (·.oneCell') = true) (hE : ∀ w G, B.P w G → E.P w G us u) (hb : (l.length + 1) * bytes ≤ 140737488355328) (hm : l.length + 1 ≤ 140737488355328) (hd : Nat.blt d n = true)
    (is : List Nat) (hf : ∀ A' c', Sel (OwnR T z E (.slice A' (l ++ [u]).length c') (l ++ [u]) :: (Rs'.eraseIdx ii).eraseIdx jj) is Rf)
    (h : ∀ A' c', TD P n F0 w0 ops lr Rf ((d, .slice A' (l ++ [u]).length c') :: e) (OwnR T z E (.slice A' (l ++ [u]).length c') (l ++ [u]) :: (Rs'.eraseIdx ii).eraseIdx jj) Q) : TD P n F0 w0 ops (.e i lr) Rf e Rs Q := by
  refine TD.ef ho hw (Ef.app2 ii jj hu hinfo hzv hp hs hx hR hi hj hl hq hE hb hm hd) ?_
  rintro _ _ ⟨A', c', rfl, rfl⟩
  exact ⟨Rf, fun w hw => hw.sel is (hf A' c'), fun _ h => h, h A' c'⟩
end
variable (P n F0 w0) in
def RV (e : Env) (Rs : List Res) (r : ResultVar) (v : Value) : Prop := ∀ a w, Has n e a → St F0 w0 Rs w → (resv a.tmps r).run P w = .ok v w
theorem RV.tm {k : Nat} (hv : e.get k = some v) : RV P n F0 w0 e Rs (.tmp k) v := by
  intro a w ha hs
  have h2 := ha.at_ k v hv
  simp [resv, h2]
theorem RV.cS (i : Nat) {k b T : Nat} {us : Array Value} {z : Nat} (hk : e.get k = some (.pointer (some ⟨b, 0, none⟩))) (ha : ∀ w, (isAgg t).run P w = .ok true w) (hz : ∀ w, (sizeOf t).run P w = .ok z w) (hi : Rs[i]? = some (BlkR b T us)) (hl : us.size = z) : RV P n F0 w0 e Rs (.cell k t) (.agg us) := by
  intro a w h hs
  have h2 := h.at_ k _ hk
  have hb := hs.blk i hi
  have h3 := run_loadVarS (P := P) (t := t) (w := w) (ad := ⟨b, 0, none⟩) (cs := us.toList) ha (by intro w; rw [hz]; simp [hl]) (fun j u hj => by
    have e1 : (⟨b, 0, none⟩ : Addr).add j = ⟨b, j, none⟩ := by unfold Addr.add; split <;> simp_all
    rw [e1, heap_at hb]
    simpa using hj)
  simp [resv, h2, asAddr, h3]
theorem RV.c1 (i : Nat) {k b T : Nat} {us : Array Value} (hk : e.get k = some (.pointer (some ⟨b, 0, none⟩))) (ha : ∀ w, (isAgg t).run P w = .ok false w) (hi : Rs[i]? = some (BlkR b T us)) (hv : us[0]? = some v) : RV P n F0 w0 e Rs (.cell k t) v := by
  intro a w h hs
  have h2 := h.at_ k _ hk
  have hb := hs.blk i hi
  have h3 := run_loadVar1 (P := P) (t := t) (w := w) (ad := ⟨b, 0, none⟩) ha ((heap_at hb 0).trans hv)
  simp [resv, h2, asAddr, h3]
section
variable {f : Func} {R : Value → Res → List Res → Prop} {A' : Res} {Ns : List Res} {r1 r2 r3 r4 : ResultVar} {v1 v2 v3 v4 : Value} {z : Exit}
theorem X.fin (hR : R v A' Ns) (is : List Nat) (hr : Sel Rs is (A' :: Ns)) (hx : z = .ret ∨ z = .normal) (h : ∀ a w, Has n e a → St F0 w0 Rs w → (results f a.tmps).run P w = .ok v w) : X n F0 w0 e Rs z (bodyPost P f (Post R F0 w0)) := by
  intro a w ha hs
  have h : bodyPost P f (Post R F0 w0) .ret a w := ⟨ha.df, v, h a w ha hs, v, A', Ns, rfl, hR, hs.sel is hr⟩
  rcases hx with rfl | rfl <;> exact h
theorem X.done1 (is : List Nat) (hf : f.results = #[r1]) (h1 : RV P n F0 w0 e Rs r1 v1) (hR : R v1 A' Ns) (hr : Sel Rs is (A' :: Ns)) (hx : z = .ret ∨ z = .normal) : X n F0 w0 e Rs z (bodyPost P f (Post R F0 w0)) :=
  X.fin hR is hr hx (fun a w ha hs => by rw [results_eq, hf]; simp [h1 a w ha hs])
theorem X.done2 (is : List Nat) (hf : f.results = #[r1, r2]) (h1 : RV P n F0 w0 e Rs r1 v1) (h2 : RV P n F0 w0 e Rs r2 v2) (hR : R (.tuple #[v1, v2]) A' Ns) (hr : Sel Rs is (A' :: Ns)) (hx : z = .ret ∨ z = .normal) : X n F0 w0 e Rs z (bodyPost P f (Post R F0 w0)) :=
  X.fin hR is hr hx (fun a w ha hs => by rw [results_eq, hf]; simp [h1 a w ha hs, h2 a w ha hs])
theorem X.done3 (is : List Nat) (hf : f.results = #[r1, r2, r3]) (h1 : RV P n F0 w0 e Rs r1 v1) (h2 : RV P n F0 w0 e Rs r2 v2) (h3 : RV P n F0 w0 e Rs r3 v3) (hR : R (.tuple #[v1, v2, v3]) A' Ns) (hr : Sel Rs is (A' :: Ns)) (hx : z = .ret ∨ z = .normal) : X n F0 w0 e Rs z (bodyPost P f (Post R F0 w0)) :=
  X.fin hR is hr hx (fun a w ha hs => by rw [results_eq, hf]; simp [h1 a w ha hs, h2 a w ha hs, h3 a w ha hs])
end
theorem BOK.mk {zv : Value} {fs : Array Field} {pl : List (Nat × Nat)} {zs : Array Value} (hz : ∀ w, (zeroValue t).run P w = .ok zv w) (hu : ∀ w, (underlying t).run P w = .ok (.struct fs) w) (hp : ∀ w, (fs.mapM (fun f => do pure (f.offset, ← sizeOf f.type)) : Sem (Array (Nat × Nat))).run P w = .ok pl.toArray w) (hzs : zv.cells = zs := by rfl) : BOK P t zs pl := by
  intro parts cells w h
  subst hzs
  simp only [Instr.build, Sem.run_bind, hz, Result.andThen_ok, hu, hp]
  have h2 : (fun (i : Nat) => (pl.toArray)[i]?) = (fun (i : Nat) => pl[i]?) := by funext i; simp
  simp [h2, h]
theorem SOK.mk {T m z : Nat} {zv : Value} {zs : Array Value} (hu : ∀ w, (underlying t).run P w = .ok (.slice T) w) (hz : ∀ w, (sizeOf T).run P w = .ok z w) (hzv : ∀ w, (zeroValue T).run P w = .ok zv w) (hm : 0 < m * z ∧ m * z ≤ 16777216) (hzs : (Array.range (m * z)).map (fun i => zv.cells[i % zv.cells.size]!) = zs) : SOK P t T m z zs := by
  intro parts cells w h
  have h1 : ¬ (m * z > 2 ^ 24) := by omega
  have h2 : ¬ (m * z = 0) := by omega
  subst hzs
  simp only [Instr.buildSlice, Sem.run_bind, hu, hz, Result.andThen_ok, h1, if_false, h2, hzv, Sem.run_pure]
  simp [h, newRow]
end
end Go.Proofs.Ytcoppaggpbfcmaa.Sl
namespace Go.Proofs.Ytcoppaggpbfcmaa.Sl
open Go.RowKit
set_option linter.unusedVariables false
set_option linter.unusedSimpArgs false
def eqV : Value → Value → Option Bool
  | .int k a, .int k' b => if k = k' then some (decide (a = b)) else none
  | .bool a, .bool b => some (decide (a = b))
  | .string a, .string b => some (decide (a.toList = b.toList))
  | _, _ => none
def eqL : List Value → List Value → Option Bool
  | [], [] => some true
  | x :: xs, y :: ys => match eqV x y with
    | some true => eqL xs ys
    | some false => some false
    | none => none
  | _, _ => none
theorem eqV_b {a b : Bool} (h : a = b) : eqV (.bool a) (.bool b) = some true := by simp [eqV, h]
theorem eqV_bn {a b : Bool} (h : ¬ a = b) : eqV (.bool a) (.bool b) = some false := by simp [eqV, h]
theorem eqV_s {l m : List UInt8} (h : l = m) : eqV (.string (bsOf l)) (.string (bsOf m)) = some true := by simp [eqV, h]
theorem eqV_sn {l m : List UInt8} (h : ¬ l = m) : eqV (.string (bsOf l)) (.string (bsOf m)) = some false := by simp [eqV, bsOf_toList, h]
theorem eqL_t {x y : Value} {xs ys : List Value} {b : Bool} (h : eqV x y = some true) (r : eqL xs ys = some b) : eqL (x :: xs) (y :: ys) = some b := by simp [eqL, h, r]
theorem eqL_f {x y : Value} {xs ys : List Value} (h : eqV x y = some false) : eqL (x :: xs) (y :: ys) = some false := by simp [eqL, h]
theorem eqL_append : ∀ {xs ys xs' ys' : List Value} {b : Bool}, xs.length = ys.length → eqL (xs ++ xs') (ys ++ ys') = some b → ∃ c, eqL xs ys = some c ∧ (if c then eqL xs' ys' else some false) = some b
  | [], [], xs', ys', b, _, h => ⟨true, rfl, by simpa using h⟩
  | x :: xs, y :: ys, xs', ys', b, hl, h => by
    simp only [List.cons_append, eqL] at h ⊢
    cases hv : eqV x y with
    | none => rw [hv] at h; cases h
    | some c =>
      cases c with
      | true =>
        rw [hv] at h
        exact eqL_append (by simpa using hl) h
      | false =>
        rw [hv] at h
        exact ⟨false, rfl, by simpa using h⟩
def okD : TypeDesc → Value → Bool
  | .int _, .int _ _ => true
  | .bool, .bool _ => true
  | .string, .string _ => true
  | _, _ => false
def oksD : List TypeDesc → List Value → Bool
  | [], [] => true
  | d :: ds, v :: vs => okD d v && oksD ds vs
  | _, _ => false
theorem oksD_length : ∀ {ds : List TypeDesc} {vs : List Value}, oksD ds vs = true → vs.length = ds.length
  | [], [], _ => rfl
  | d :: ds, v :: vs, h => by
    simp only [oksD, Bool.and_eq_true] at h
    simp [oksD_length h.2]
theorem oksD_app : ∀ {ds ds' : List TypeDesc} {vs : List Value}, oksD (ds ++ ds') vs = true → oksD ds (vs.take ds.length) = true ∧ oksD ds' (vs.drop ds.length) = true
  | [], ds', vs, h => by simpa [oksD] using h
  | d :: ds, ds', [], h => by simp [oksD] at h
  | d :: ds, ds', v :: vs, h => by
    simp only [List.cons_append, oksD, Bool.and_eq_true] at h
    have := oksD_app h.2
    simp [oksD, h.1, this]
def mkV (agg : Bool) (xs : List Value) : Value := if agg then .agg xs.toArray else xs.headD undef
structure Flat (P : Program) (k : Nat) (t : TypeId) (ds : List TypeDesc) (agg : Bool) : Prop where
  ia : ∀ w, (isAgg t).run P w = .ok agg w
  sz : ∀ w, (sizeOf t).run P w = .ok ds.length w
  one : agg = false → ds.length = 1
  eq : ∀ (d : Nat) (xs ys : List Value) (b : Bool) (w : World), k ≤ d → oksD ds xs = true → oksD ds ys = true → eqL xs ys = some b → (Op.equalIn d t (mkV agg xs) (mkV agg ys)).run P w = .ok b w
section
variable {P : Program} {t : TypeId}
theorem eqL_one {x y : Value} {b : Bool} (h : eqL [x] [y] = some b) : eqV x y = some b := by
  simp only [eqL] at h
  cases hv : eqV x y with
  | none => rw [hv] at h; cases h
  | some c => cases c <;> (rw [hv] at h; exact h)
theorem len1 {xs : List Value} (h : xs.length = 1) : ∃ x, xs = [x] := by
  match xs, h with
  | [x], _ => exact ⟨x, rfl⟩
theorem equal_one {d0 : TypeDesc} (hu : P.underlying t = some d0) (d : Nat) (x y : Value) (b : Bool) (w : World) (hx : okD d0 x = true) (hy : okD d0 y = true) (h : eqV x y = some b) : (Op.equalIn (d + 1) t x y).run P w = .ok b w := by
  cases d0 <;> cases x <;> first | (simp [okD] at hx; done) | skip
  all_goals cases y <;> first | (simp [okD] at hy; done) | skip
  · simp only [eqV, Option.some.injEq] at h
    subst h
    rw [run_equalIn_bool' w d t _ _ hu]
    rfl
  · rename_i q k a k' b'
    simp only [eqV] at h
    split at h
    · rename_i hk
      subst hk
      injection h with h
      subst h
      rw [run_equalIn_int w d t k _ a b' hu]
      rfl
    · cases h
  · simp only [eqV, Option.some.injEq] at h
    subst h
    rw [run_equalIn_string w d t _ _ hu]
    congr 1
    rename_i p q
    by_cases hpq : p.toList = q.toList <;> simp [hpq]
theorem Flat.one_ {d0 : TypeDesc} (ia : ∀ w, (isAgg t).run P w = .ok false w) (sz : ∀ w, (sizeOf t).run P w = .ok 1 w) (hu : P.underlying t = some d0) : Flat P 1 t [d0] false := by
  refine ⟨ia, sz, fun _ => rfl, ?_⟩
  intro d xs ys b w hd hx hy h
  obtain ⟨x, rfl⟩ := len1 (by simpa using oksD_length hx)
  obtain ⟨y, rfl⟩ := len1 (by simpa using oksD_length hy)
  obtain ⟨d, rfl⟩ : ∃ d', d = d' + 1 := ⟨d - 1, by omega⟩
  exact equal_one hu d x y b w (by simpa [oksD] using hx) (by simpa [oksD] using hy) (eqL_one h)
def FlatFs (P : Program) (k : Nat) : Nat → List Field → List TypeDesc → Prop
  | _, [], ds => ds = []
  | off, f :: fs, ds => f.name ≠ "_" ∧ f.offset = off ∧ ∃ d1 d2 agg, ds = d1 ++ d2 ∧ Flat P k f.type d1 agg ∧ FlatFs P k (off + d1.length) fs d2
theorem part_run {ty : TypeId} {ds : List TypeDesc} {agg : Bool} {k : Nat} (hf : Flat P k ty ds agg) (xs : List Value) (off : Nat) (w : World) (hl : off + ds.length ≤ xs.length) : (part ty xs.toArray off).run P w = .ok (mkV agg ((xs.drop off).take ds.length)) w := by
  cases agg with
  | true =>
    have h1 := hf.ia w
    simp only [part, Sem.run_bind, h1, Result.andThen_ok, if_true, hf.sz w, Sem.run_pure, mkV]
    congr 2
    apply Array.ext'
    simp [List.extract_eq_take_drop]
  | false =>
    have h1 := hf.ia w
    have h2 := hf.one rfl
    have h3 : off < xs.length := by omega
    have h4 : ((xs.drop off).take 1).headD undef = xs[off] := by
      rw [List.drop_eq_getElem_cons h3]
      rfl
    simp only [part, Sem.run_bind, h1, Result.andThen_ok, Bool.false_eq_true, if_false, mkV, h2, h4]
    simp [h3]
theorem fields_run {k : Nat} : ∀ {fs : List Field} {ds : List TypeDesc} {off : Nat}, FlatFs P k off fs ds → ∀ (d : Nat) (xs ys : List Value) (b : Bool) (w : World), k ≤ d → xs.length = off + ds.length → ys.length = off + ds.length →
    oksD ds (xs.drop off) = true → oksD ds (ys.drop off) = true → eqL (xs.drop off) (ys.drop off) = some b → (Op.eqFields d xs.toArray ys.toArray fs).run P w = .ok b w
  | [], ds, off, hf, d, xs, ys, b, w, hd, hx, hy, ox, oy, h => by
    obtain rfl : ds = [] := hf
    rw [List.drop_of_length_le (by simp at hx; omega), List.drop_of_length_le (by simp at hy; omega)] at h
    injection h with h
    subst h
    rfl
  | f :: fs, ds, off, hf, d, xs, ys, b, w, hd, hx, hy, ox, oy, h => by
    obtain ⟨hn, ho, d1, d2, agg, rfl, hF, hr⟩ := hf
    rw [List.length_append] at hx hy
    have ox' := oksD_app ox
    have oy' := oksD_app oy
    have e1 : xs.drop off = (xs.drop off).take d1.length ++ xs.drop (off + d1.length) := by rw [← List.drop_drop, List.take_append_drop]
    have e2 : ys.drop off = (ys.drop off).take d1.length ++ ys.drop (off + d1.length) := by rw [← List.drop_drop, List.take_append_drop]
    rw [e1, e2] at h
    obtain ⟨c, h1, h2⟩ := eqL_append (by simp; omega) h
    have p1 := part_run hF xs off w (by omega)
    have p2 := part_run hF ys off w (by omega)
    have q1 := hF.eq d _ _ c w hd ox'.1 oy'.1 h1
    simp only [Op.eqFields, hn, ne_eq, not_false_eq_true, if_true, Sem.run_bind, ho, p1, Result.andThen_ok, p2, q1, Sem.run_ite]
    cases c with
    | false =>
      simp only [Bool.false_eq_true, if_false] at h2
      injection h2 with h2
      subst h2
      rfl
    | true =>
      simp only [if_true] at h2
      have h3 := fields_run hr d xs ys b w hd (by omega) (by omega) (by rw [← List.drop_drop]; exact ox'.2) (by rw [← List.drop_drop]; exact oy'.2) h2
      simpa using h3
theorem Flat.struct {k : Nat} {fs : Array Field} {ds : List TypeDesc} (ia : ∀ w, (isAgg t).run P w = .ok true w) {z : Nat} (sz : ∀ w, (sizeOf t).run P w = .ok z w) (hz : ds.length = z) (hu : P.underlying t = some (.struct fs)) (hp : P.stoodInHeld t = false) (hf : FlatFs P k 0 fs.toList ds) : Flat P (k + 1) t ds true := by
  subst hz
  refine ⟨ia, sz, fun h => (by cases h), ?_⟩
  intro d xs ys b w hd hx hy h
  obtain ⟨d, rfl⟩ : ∃ d', d = d' + 1 := ⟨d - 1, by omega⟩
  have e : P.fieldsOf t = fs := by simp [Program.fieldsOf, hu]
  simp only [mkV, if_true]
  rw [run_equalIn_agg w d t _ _ (by rw [e]; exact hu) hp, e]
  exact fields_run hf d xs ys b w (by omega) (by simpa using oksD_length hx) (by simpa using oksD_length hy) hx hy h
theorem Flat.mono {k k' : Nat} {ds : List TypeDesc} {agg : Bool} (h : Flat P k t ds agg) (hk : k ≤ k') : Flat P k' t ds agg := ⟨h.ia, h.sz, h.one, fun d xs ys b w hd => h.eq d xs ys b w (by omega)⟩
end
section
variable {P : Program} {n : Nat} {F0 : Nat → Prop} {w0 : World} {e : Env} {Rs Rf : List Res} {Q : Exit → Act → World → Prop} {ops : Array Oper} {d : Option Tmp} {i : Nat} {ty t t' el : TypeId} {pos : String} {af : Array Edge} {gd : Option (Nat × Bool)} {v v' : Value} {x y : Operand} {l : List Nat} {lo : Sch} {c : Code} {S : World → Prop}
theorem Ex.aEq {k : Nat} {ds : List TypeDesc} {us vs : List Value} {b : Bool} (hF : Flat P k t ds true) (hk : Nat.ble k 10000 = true) (hG : P.eqGuardType P.depth t = false) (hx : e.ev x = some (.agg us.toArray)) (hy : e.ev y = some (.agg vs.toArray)) (ou : oksD ds us = true) (ov : oksD ds vs = true) (h : eqL us vs = some b) :
    Ex P n e S ⟨d, .binOp .eql t x y t', ty, pos, af, gd⟩ (.bool b) := by
  intro a w ha _
  have h1 := hF.eq 10000 us vs b w (Nat.le_of_ble_eq_true hk) ou ov h
  simp only [mkV, if_true] at h1
  simp only [execOp, ha.ev hx, ha.ev hy, Sem.run_bind]
  rw [run_eqGuard_agg w .eql t x y _ _ hG]
  simp only [Result.andThen_ok]
  rw [run_eql_struct w t _ _, h1]
  rfl
theorem Ex.aNe {k : Nat} {ds : List TypeDesc} {us vs : List Value} {b : Bool} (hF : Flat P k t ds true) (hk : Nat.ble k 10000 = true) (hG : P.eqGuardType P.depth t = false) (hx : e.ev x = some (.agg us.toArray)) (hy : e.ev y = some (.agg vs.toArray)) (ou : oksD ds us = true) (ov : oksD ds vs = true) (h : eqL us vs = some b) :
    Ex P n e S ⟨d, .binOp .neq t x y t', ty, pos, af, gd⟩ (.bool (!b)) := by
  intro a w ha _
  have h1 := hF.eq 10000 us vs b w (Nat.le_of_ble_eq_true hk) ou ov h
  simp only [mkV, if_true] at h1
  simp only [execOp, ha.ev hx, ha.ev hy, Sem.run_bind]
  rw [run_eqGuard_agg w .neq t x y _ _ hG]
  simp only [Result.andThen_ok]
  rw [run_neq_struct w t _ _, h1]
  rfl
theorem Wd.gu {op : Op} {j k : Nat} {want : Bool} (hj : (ops[j]?).bind (·.dst) = some k) (hv : e.get k = some undef) : Wd n ops e ⟨d, op, ty, pos, af, some (j, want)⟩ false := by
  intro a h
  simp only [Region.wanted, yielded, hj, Option.bind_some, h.at_ k _ hv]
  rfl
end
def RowK {α : Type} (B : Res) (E : Rd α) (g q : Nat) (cs : List Value) (x : α) : Res where
  P := fun w G => B.P w G ∧ G g ∧ (∀ j, j < cs.length → w.cell? ⟨g, q + j, none⟩ = cs[j]?) ∧ E.P w G cs x
  lt := fun h => B.lt h.1
  move := fun {w w' G} h hm => ⟨B.move h.1 hm, h.2.1, fun j hj => by
    rw [← h.2.2.1 j hj]
    simp only [World.cell?, hm g h.2.1], E.move h.2.2.2 hm⟩
section
variable {P : Program} {n : Nat} {F0 : Nat → Prop} {w0 w : World} {e : Env} {Rs Rf : List Res} {Q : Exit → Act → World → Prop} {ops : Array Oper} {d : Option Tmp} {i : Nat} {ty t t' el : TypeId} {pos : String} {af : Array Edge} {gd : Option (Nat × Bool)} {v v' : Value} {y z : Operand} {l : List Nat} {lo : Sch} {c : Code} {S : World → Prop}
variable {α : Type} {E : Rd α} {B : Res} {A : Option Addr} {m cp size k : Nat} {xs : List α} {x : α}
theorem foc_P {G : Nat → Prop} (hG : B.P w G) (hB : (RX.of (sliceRd size E) [.slice A m cp] xs).P w G) (hp : 0 < size) (hx : xs[k]? = some x) : ∃ g o cs, A = some ⟨g, o, none⟩ ∧ cs.length = size ∧ (∃ S, E.P w S cs x) ∧ (RowK B E g (o + k * size) cs x).P w G := by
  rcases hB with ⟨h, rfl⟩ | ⟨a, cap, h, _, _, hb, h2⟩
  · simp at hx
  · injection h with h
    injection h with h3 h4 h5
    subst h3
    have hl : 0 < xs.length := by have := (List.getElem?_eq_some_iff.1 hx).1; omega
    obtain ⟨cs0, k1, k2, _⟩ := h2 0 xs[0] (List.getElem?_eq_getElem hl)
    have k3 := k2 0 hp
    rw [List.getElem?_eq_getElem (by omega)] at k3
    have k4 : a.add (0 * size + 0) = a := by simp [Addr.add]
    rw [k4] at k3
    have k5 := spot_none k3
    obtain ⟨cs, k6, k7, k8⟩ := h2 k x hx
    refine ⟨a.block, a.off, cs, by rw [← k5], k6, ⟨G, k8⟩, hG, hb hl, fun j hj => ?_, k8⟩
    rw [← k7 j (by omega), k5, WideShapes.add_plain, Nat.add_assoc]
theorem St.foc (i : Nat) (h : St F0 w0 Rs w) (hi : Rs[i]? = some B) (hB : ∀ w G, B.P w G → (RX.of (sliceRd size E) [.slice A m cp] xs).P w G) (hp : 0 < size) (hx : xs[k]? = some x) :
    ∃ g o cs, A = some ⟨g, o, none⟩ ∧ cs.length = size ∧ (∃ w S, E.P w S cs x) ∧ St F0 w0 (Rs.set i (RowK B E g (o + k * size) cs x)) w := by
  obtain ⟨f, hs⟩ := h
  obtain ⟨G, h1, h2, h3⟩ := Sep.pick i hi hs
  obtain ⟨g, o, cs, k1, k2, ⟨S, k3⟩, k4⟩ := foc_P h1 (hB w G h1) hp hx
  exact ⟨g, o, cs, k1, k2, ⟨w, S, k3⟩, f, Sep.back i hi k4 h2 h3⟩
theorem T.foc (i : Nat) (hi : Rs[i]? = some B) (hB : ∀ w G, B.P w G → (RX.of (sliceRd size E) [.slice A m cp] xs).P w G) (hp : 0 < size) (hx : xs[k]? = some x)
    (h : ∀ g o cs, A = some ⟨g, o, none⟩ → cs.length = size → (∃ w S, E.P w S cs x) → T P n F0 w0 e (Rs.set i (RowK B E g (o + k * size) cs x)) c Q) : T P n F0 w0 e Rs c Q := by
  intro a w ha hs
  obtain ⟨g, o, cs, k1, k2, k3, k4⟩ := hs.foc i hi hB hp hx
  exact h g o cs k1 k2 k3 a w ha k4
theorem TL.foc (i : Nat) (hi : Rs[i]? = some B) (hB : ∀ w G, B.P w G → (RX.of (sliceRd size E) [.slice A m cp] xs).P w G) (hp : 0 < size) (hx : xs[k]? = some x)
    (h : ∀ g o cs, A = some ⟨g, o, none⟩ → cs.length = size → (∃ w S, E.P w S cs x) → TL P n F0 w0 ops l e (Rs.set i (RowK B E g (o + k * size) cs x)) Q) : TL P n F0 w0 ops l e Rs Q := by
  intro a w ha hs
  obtain ⟨g, o, cs, k1, k2, k3, k4⟩ := hs.foc i hi hB hp hx
  exact h g o cs k1 k2 k3 a w ha k4
theorem St.unf {q g : Nat} {cs : List Value} (i : Nat) (h : St F0 w0 Rs w) (hi : Rs[i]? = some (RowK B E g q cs x)) : St F0 w0 (Rs.set i B) w := h.weaken i hi (fun G hG => hG.1)
theorem T.unf {q g : Nat} {cs : List Value} (i : Nat) (hi : Rs[i]? = some (RowK B E g q cs x)) (h : T P n F0 w0 e (Rs.set i B) c Q) : T P n F0 w0 e Rs c Q := fun a w ha hs => h a w ha (hs.unf i hi)
theorem TL.unf {q g : Nat} {cs : List Value} (i : Nat) (hi : Rs[i]? = some (RowK B E g q cs x)) (h : TL P n F0 w0 ops l e (Rs.set i B) Q) : TL P n F0 w0 ops l e Rs Q := fun a w ha hs => h a w ha (hs.unf i hi)
theorem X.unf {q g : Nat} {cs : List Value} {o : Exit} (i : Nat) (hi : Rs[i]? = some (RowK B E g q cs x)) (h : X n F0 w0 e (Rs.set i B) o Q) : X n F0 w0 e Rs o Q := fun a w ha hs => h a w ha (hs.unf i hi)
theorem Ex.k1 {q g : Nat} {cs : List Value} (i j : Nat) (hy : e.ev y = some (.pointer (some ⟨g, q + j, none⟩))) (ha : ∀ w, (isAgg t).run P w = .ok false w) (hi : Rs[i]? = some B) (hB : ∀ w G, B.P w G → ∀ j, j < cs.length → w.cell? ⟨g, q + j, none⟩ = cs[j]?) (hv : cs[j]? = some v) : Ex P n e (St F0 w0 Rs) ⟨d, .load t y, ty, pos, af, gd⟩ v :=
  Ex.ld1 hy ha (fun w hw => by
    obtain ⟨G, h1, _⟩ := hw.get i hi
    exact (hB w G h1 j (List.getElem?_eq_some_iff.1 hv).1).trans hv)
theorem Ex.kS {q g z' : Nat} {cs us : List Value} (i kk : Nat) (hy : e.ev y = some (.pointer (some ⟨g, q + kk, none⟩))) (ha : ∀ w, (isAgg t).run P w = .ok true w) (hz : ∀ w, (sizeOf t).run P w = .ok z' w) (hi : Rs[i]? = some B) (hB : ∀ w G, B.P w G → ∀ j, j < cs.length → w.cell? ⟨g, q + j, none⟩ = cs[j]?)
    (hv : (cs.drop kk).take z' = us) (hl : Nat.beq us.length z' = true) : Ex P n e (St F0 w0 Rs) ⟨d, .load t y, ty, pos, af, gd⟩ (.agg us.toArray) := by
  refine Ex.ldS hy ha hz (Nat.eq_of_beq_eq_true hl) (fun w hw j u hj => ?_)
  obtain ⟨G, h1, _⟩ := hw.get i hi
  have h2 : (⟨g, q + kk, none⟩ : Addr).add j = ⟨g, q + (kk + j), none⟩ := by unfold Addr.add; split <;> simp_all [Nat.add_assoc]
  rw [h2]
  subst hv
  rw [List.getElem?_take] at hj
  split at hj
  · rw [List.getElem?_drop] at hj
    exact (hB w G h1 (kk + j) (List.getElem?_eq_some_iff.1 hj).1).trans hj
  · cases hj
end
end Go.Proofs.Ytcoppaggpbfcmaa.Sl
namespace Go.Proofs.Ytcoppaggpbfcmaa.Sl
open Go.RowKit
set_option linter.unusedVariables false
set_option linter.unusedSimpArgs false
def RX.blk (b : Nat) (T : TypeId) (cs : Array Value) : RX := ⟨fun w S => w.heap[b]? = some (.cells cs T (0, 0)) ∧ S b, fun h k => ⟨h.1, k _ h.2⟩, fun h k => ⟨(k _ h.2).trans h.1, h.2⟩⟩
section
variable {P : Program} {n : Nat} {F0 : Nat → Prop} {w0 w : World} {e : Env} {Rs Rf : List Res} {Q : Exit → Act → World → Prop} {ops : Array Oper} {d : Option Tmp} {i : Nat} {ty t t' el : TypeId} {pos : String} {af : Array Edge} {gd : Option (Nat × Bool)} {v v' : Value} {x y z : Operand} {l : List Nat} {lo : Sch} {c : Code} {S : World → Prop}
end
end Go.Proofs.Ytcoppaggpbfcmaa.Sl
namespace Go.Proofs.Ytcoppaggpbfcmaa.Sl
open Go.RowKit
set_option linter.unusedVariables false
set_option linter.unusedSimpArgs false
section
variable {P : Program} {n : Nat} {F0 : Nat → Prop} {w0 w : World} {e : Env} {Rs : List Res} {d : Option Tmp} {ty t t' el : TypeId} {pos : String} {af : Array Edge} {gd : Option (Nat × Bool)} {x y : Operand} {S : World → Prop}
theorem Ex.remK {k : IntKind} {p q : Int} (hx : e.ev x = some (.int k p)) (hy : e.ev y = some (.int k q)) (hq : 1 ≤ q) (h : 0 ≤ p) : Ex P n e S ⟨d, .binOp .rem t x y t', ty, pos, af, gd⟩ (.int k (p % q)) := by
  intro a w ha _
  have h0 : ¬ q = 0 := by omega
  simp [execOp, ha.ev hx, ha.ev hy, eqGuard, binOp, Op.intDiv, h0, IntWalk.rem_in _ _ h]
end
end Go.Proofs.Ytcoppaggpbfcmaa.Sl
namespace Go.Proofs.Ytcoppaggpbfcmaa.Sl
open Go.RowKit
set_option linter.unusedVariables false
section
variable {P : Program} {n : Nat} {F0 : Nat → Prop} {w0 : World} {e e' : Env} {Rs Rs' : List Res} {Q : Exit → Act → World → Prop} {c : Code} {d : Nat} {v v' : Value}
def JK (n : Nat) (F0 : Nat → Prop) (w0 : World) (R : Env → List Res → Prop) (a : Act) (w : World) : Prop := ∃ e Rs, R e Rs ∧ Has n e a ∧ St F0 w0 Rs w
theorem T.jq (R : Env → List Res → Prop) (h : T P n F0 w0 e Rs c (Exit.then (JK n F0 w0 R) Q)) (k : ∀ e' Rs', R e' Rs' → X n F0 w0 e' Rs' .normal Q) : T P n F0 w0 e Rs c Q := by
  intro a w ha hs
  refine wp_mono (h a w ha hs) ?_
  intro x a' w' hx
  cases x <;> first | exact hx | skip
  obtain ⟨e', Rs', hR, ha', hs'⟩ := hx
  exact k e' Rs' hR a' w' ha' hs'
theorem X.jq {R : Env → List Res → Prop} (is : List Nat) (hR : R e' Rs') (he : Sub e' e) (hr : Sel Rs is Rs') : X n F0 w0 e Rs .normal (Exit.then (JK n F0 w0 R) Q) := fun a w ha hs => ⟨e', Rs', hR, ha.sub he.get, hs.sel is hr⟩
theorem X.as {z : Exit} (hv : e.get d = some v) (h : v = v') (k : X n F0 w0 ((d, v') :: e) Rs z Q) : X n F0 w0 e Rs z Q := fun a w ha hs => k a w (ha.as hv h) hs
end
end Go.Proofs.Ytcoppaggpbfcmaa.Sl
namespace Go.Proofs.Ytcoppaggpbfcmaa.Sl
open Go.RowKit
set_option linter.unusedVariables false
set_option linter.unusedSimpArgs false
section
variable {P : Program} {n : Nat} {F0 : Nat → Prop} {w0 : World} {e : Env} {Rs : List Res} {S : World → Prop} {d : Option Tmp} {ty : TypeId} {pos : String} {af : Array Edge} {gd : Option (Nat × Bool)} {v : Value} {x y ix : Operand} {t t' el : TypeId}
theorem Ex.ixP {g o m z k : Nat} {i : Int} {q : IntKind} (hx : e.ev x = some (.pointer (some ⟨g, o, none⟩))) (hi : e.ev ix = some (.int q i)) (hik : i = (k : Int)) (hu : ∀ w, (underlying t).run P w = .ok (.array m el) w) (hz : ∀ w, (sizeOf el).run P w = .ok z w) (hk : k < m) :
    Ex P n e S ⟨d, .indexAddr t x ix, ty, pos, af, gd⟩ (.pointer (some ⟨g, o + k * z, none⟩)) := by
  intro a w ha _
  subst hik
  have h1 : (0 : Int) ≤ (k : Int) ∧ (k : Int) < (m : Int) := by omega
  have h2 : (⟨g, o, none⟩ : Addr).add (k * z) = ⟨g, o + k * z, none⟩ := by unfold Addr.add; split <;> simp_all
  have h3 : (Instr.indexAt t (.pointer (some ⟨g, o, none⟩)) (.int q (k : Int))).run P w = .ok (.pointer (some ⟨g, o + k * z, none⟩)) w := by
    simp only [Instr.indexAt, asIntOf, Sem.run_bind, Sem.run_pure, Result.andThen_ok, hu, Instr.sureAddr]
    rw [if_pos h1]
    simp only [Sem.run_bind, hz, Result.andThen_ok, Int.toNat_natCast, h2, Sem.run_pure]
  simp [execOp, ha.ev hx, ha.ev hi, h3]
theorem Ex.ixL {g o m c z k : Nat} {i : Int} {q : IntKind} (hx : e.ev x = some (.slice (some ⟨g, o, none⟩) m c)) (hi : e.ev ix = some (.int q i)) (hik : i = (k : Int)) (hu : ∀ w, (underlying t).run P w = .ok (.slice el) w) (hz : ∀ w, (sizeOf el).run P w = .ok z w) (hk : k < m) {r : Nat} (hr : o + k * z = r) :
    Ex P n e S ⟨d, .indexAddr t x ix, ty, pos, af, gd⟩ (.pointer (some ⟨g, r, none⟩)) := by
  subst hr
  exact Ex.ixS hx hi hik hu hz hk
end
end Go.Proofs.Ytcoppaggpbfcmaa.Sl
namespace Go.Proofs.Ytcoppaggpbfcmaa.Sl
open Go.RowKit Go.Deep Go.ChangeShapes
set_option linter.unusedVariables false
set_option linter.unusedSimpArgs false
def oldRd {α : Type} (w0 : World) (S : Nat → Prop) (E : Rd α) : Rd α where
  P := fun w G cs x => ∀ W : World, (∀ k, G k → W.heap[k]? = w.heap[k]?) → (∀ k, S k → W.heap[k]? = w0.heap[k]?) → E.P W (fun k => G k ∨ S k) cs x
  mono := fun h hS W h1 h2 => E.mono (h W (fun k hk => h1 k (hS k hk)) h2) (fun k hk => hk.imp (hS k) id)
  move := fun h hm W h1 h2 => h W (fun k hk => (h1 k hk).trans (hm k hk)) h2
def RX.old (w0 : World) (S : Nat → Prop) (X : RX) : RX where
  P := fun w G => ∀ W : World, (∀ k, G k → W.heap[k]? = w.heap[k]?) → (∀ k, S k → W.heap[k]? = w0.heap[k]?) → X.P W (fun k => G k ∨ S k)
  mono := fun h hS W h1 h2 => X.mono (h W (fun k hk => h1 k (hS k hk)) h2) (fun k hk => hk.imp (hS k) id)
  move := fun h hm W h1 h2 => h W (fun k hk => (h1 k hk).trans (hm k hk)) h2
section
variable {α : Type} {w0 w w1 : World} {S G F : Nat → Prop} {E : Rd α} {cs : List Value} {x : α} {X Y : RX} {size : Nat}
end
structure RO where
  α : Type
  E : Rd α
  cs : List Value
  x : α
def RO.res (w0 : World) (S : Nat → Prop) (o : RO) : Res := RdR (oldRd w0 S o.E) o.cs o.x
section
variable {P : Program} {n : Nat} {F0 : Nat → Prop} {w0 w : World} {S : Nat → Prop} {e : Env} {Rs Rs' Rf Bs : List Res} {L : List RO} {B : Res} {Xr Y : RX}
theorem Sep.split : ∀ {Bs Rs : List Res} {w : World} {F : Nat → Prop}, Sep (Bs ++ Rs) w F → ∃ G, Sep Bs w G ∧ (∀ k, G k → F k) ∧ (∀ k, G k → k < w.heap.size) ∧ Sep Rs w (fun k => F k ∧ ¬ G k)
  | [], Rs, w, F, h => ⟨fun _ => False, trivial, fun _ h => h.elim, fun _ h => h.elim, h.mono (fun k hk => ⟨hk, fun h => h⟩)⟩
  | B :: Bs, Rs, w, F, ⟨G1, h1, h2, h3⟩ => by
    obtain ⟨G, k1, k2, k3, k4⟩ := Sep.split h3
    refine ⟨fun k => G1 k ∨ G k, ⟨G1, h1, fun k hk => .inl hk, k1.mono (fun k hk => ⟨.inr hk, (k2 k hk).2⟩)⟩, fun k hk => hk.elim (h2 k) (fun h => (k2 k h).1), fun k hk => hk.elim (B.lt h1 k) (k3 k), k4.mono (fun k hk => ⟨hk.1.1, fun h => h.elim hk.1.2 hk.2⟩)⟩
theorem Sep.each : ∀ {L : List RO} {w1 : World} {S1 F : Nat → Prop}, Sep (L.map (RO.res w1 S1)) w F → ∀ o, o ∈ L → ∃ G, (RdR (oldRd w1 S1 o.E) o.cs o.x).P w G ∧ ∀ k, G k → F k
  | a :: L, w1, S1, F, ⟨G, h1, h2, h3⟩, o, ho => by
    rcases List.mem_cons.1 ho with rfl | ho
    · exact ⟨G, h1, h2⟩
    · obtain ⟨G', k1, k2⟩ := Sep.each h3 o ho
      exact ⟨G', k1, fun k hk => (k2 k hk).1⟩
variable {d : Option Tmp} {ty : TypeId} {pos : String} {af : Array Edge} {gd : Option (Nat × Bool)} {R : Value → Res → List RO → Prop}
variable {Q : Exit → Act → World → Prop} {ops : Array Oper} {i dd : Nat} {cl : Call} {f : FuncId} {vs : List Value}
variable {α : Type} {E : Rd α} {size : Nat} {T : TypeId} {u : Value} {xs : List α}
end
end Go.Proofs.Ytcoppaggpbfcmaa.Sl
namespace Go.Proofs.Ytcoppaggpbfcmaa.Sl
open Go.RowKit
set_option linter.unusedVariables false
set_option linter.unusedSimpArgs false
section
variable {α : Type} {size : Nat} {E : Rd α} {w : World} {S : Nat → Prop}
theorem elems_set : ∀ {xs : List α} {cs new : List Value} {k : Nat} {x x' : α}, elems size E w S cs xs → xs[k]? = some x → new.length = size → E.P w S new x' → elems size E w S (cs.take (k * size) ++ new ++ cs.drop ((k + 1) * size)) (xs.set k x')
  | [], _, _, k, _, _, _, hk, _, _ => by simp at hk
  | y :: ys, cs, new, 0, x, x', ⟨h0, _, h2⟩, _, hn, hx => by
    rw [Nat.zero_mul, List.take_zero, List.nil_append, Nat.zero_add, Nat.one_mul]
    exact ⟨by rw [List.take_append_of_le_length (by omega), List.take_of_length_le (by omega)]; exact hn, by rw [List.take_append_of_le_length (by omega), List.take_of_length_le (by omega)]; exact hx,
      by rw [List.drop_append_of_le_length (by omega), List.drop_of_length_le (by omega)]; exact h2⟩
  | y :: ys, cs, new, k + 1, x, x', ⟨h0, h1, h2⟩, hk, hn, hx => by
    have hle : size ≤ cs.length := by rw [List.length_take] at h0; omega
    have ih := elems_set (k := k) (x := x) h2 (by simpa using hk) hn hx
    have hc : cs = cs.take size ++ cs.drop size := (List.take_append_drop size cs).symm
    have e0 : (cs.take size).length = size := h0
    have e1 : cs.take ((k + 1) * size) = cs.take size ++ (cs.drop size).take (k * size) := by
      conv => lhs; rw [hc]
      rw [List.take_append, e0, show (k + 1) * size - size = k * size by rw [Nat.add_mul]; omega, List.take_of_length_le (by rw [e0, Nat.add_mul]; omega)]
    have e2 : cs.drop ((k + 1 + 1) * size) = (cs.drop size).drop ((k + 1) * size) := by
      rw [List.drop_drop, show size + (k + 1) * size = (k + 1 + 1) * size by rw [Nat.add_mul (k + 1)]; omega]
    rw [e1, e2, List.append_assoc, List.append_assoc, ← List.append_assoc ((cs.drop size).take (k * size))]
    exact ⟨by rw [List.take_append_of_le_length (by omega), List.take_of_length_le (by omega)]; exact h0, by rw [List.take_append_of_le_length (by omega), List.take_of_length_le (by omega)]; exact h1,
      by rw [List.drop_append_of_le_length (by omega), List.drop_of_length_le (by omega), List.nil_append]; exact ih⟩
theorem OwnR.stored {T m c g o k off q : Nat} {G : Nat → Prop} {xs : List α} {x x' : α} {us : List Value} (h : (OwnR T size E (.slice (some ⟨g, o, none⟩) m c) xs).P w G) (hk : xs[k]? = some x) (hq : q = o + k * size + off) (hl : off + us.length ≤ size)
    (hE : ∀ w S cs, cs.length = size → E.P w S cs x → E.P w S (cs.take off ++ us ++ cs.drop (off + us.length)) x') :
    ∃ cur, w.heap[g]? = some (.cells cur T (0, 0)) ∧ q + us.length ≤ cur.size ∧ (∀ k, k = g → G k) ∧ (OwnR T size E (.slice (some ⟨g, o, none⟩) m c) (xs.set k x')).P (w.setRow g (cur.toList.take q ++ us ++ cur.toList.drop (q + us.length)).toArray) G := by
  obtain ⟨cells, S, ⟨hlen, hown⟩, h2, h3, h4, h5⟩ := h
  rcases hown with ⟨hv, _⟩ | ⟨g', cap, cur, hv, hb0, hg, hnc, hcm, hcs, htk⟩
  · cases hv
  injection hv with hv1 hv2 hv3
  injection hv1 with hv1
  injection hv1 with hv4 hv5
  subst hv4 hv5 hv2 hv3
  have hkl : k < xs.length := (List.getElem?_eq_some_iff.1 hk).1
  have hks : (k + 1) * size ≤ xs.length * size := Nat.mul_le_mul_right _ hkl
  have hcap : xs.length * size ≤ c * size := Nat.mul_le_mul_right _ hnc
  have hk1 : (k + 1) * size = k * size + size := by rw [Nat.add_mul, Nat.one_mul]
  have hfit : q + us.length ≤ cur.size := by rw [hcs]; omega
  refine ⟨cur, hg, hfit, fun k hk => by subst hk; exact (h5 _).2 (.inl rfl), ?_⟩
  obtain ⟨c1, c2⟩ := elems_get h2 hk
  have hgS : ¬ S g := h4 g rfl
  have hnew : ((cells.drop (k * size)).take size).take off ++ us ++ ((cells.drop (k * size)).take size).drop (off + us.length) = ((cells.drop (k * size)).take size).take off ++ us ++ ((cells.drop (k * size)).take size).drop (off + us.length) := rfl
  have hset := elems_set h2 hk (new := ((cells.drop (k * size)).take size).take off ++ us ++ ((cells.drop (k * size)).take size).drop (off + us.length)) (by simp only [List.length_append, List.length_take, List.length_drop] at c1 ⊢; omega) (hE w S _ c1 c2)
  have hset' : elems size E (w.setRow g (cur.toList.take q ++ us ++ cur.toList.drop (q + us.length)).toArray) S _ (xs.set k x') := elems_move hset (fun k hk => setRow_other w g k _ (fun e => hgS (e ▸ hk)))
  refine ⟨_, S, ⟨?_, .inr ⟨g, c, _, by rw [List.length_set], hb0, setRow_heap w g cur _ T (0, 0) hg, by rw [List.length_set]; exact hnc, hcm, ?_, ?_⟩⟩, hset', fun k hk => by rw [size_setRow]; exact h3 k hk, h4, h5⟩
  · have := elems_length hset
    exact this
  · simp only [List.size_toArray, List.length_append, List.length_take, List.length_drop, Array.length_toList]
    omega
  · rw [List.length_set]
    have hcl : cur.toList.length = c * size := by simpa using hcs
    have hcells : cells.length = xs.length * size := hlen
    have d1 : (cells.drop (k * size)).take size = (cells.drop (k * size)).take size := rfl
    have hq2 : q + us.length ≤ xs.length * size := by omega
    have r1 : cells.take (k * size) ++ ((cells.drop (k * size)).take size).take off = cells.take q := by
      rw [List.take_take, Nat.min_eq_left (by omega), ← List.take_add, show k * size + off = q by omega]
    have r2 : ((cells.drop (k * size)).take size).drop (off + us.length) ++ cells.drop ((k + 1) * size) = cells.drop (q + us.length) := by
      have e1 : cells.drop ((k + 1) * size) = (cells.drop (k * size)).drop size := by rw [List.drop_drop, hk1]
      have e2 : cells.drop (q + us.length) = (cells.drop (k * size)).drop (off + us.length) := by rw [List.drop_drop, show k * size + (off + us.length) = q + us.length by omega]
      rw [e1, e2, ← List.drop_append_of_le_length (by omega), List.take_append_drop]
    have r3 : cells.take (k * size) ++ (((cells.drop (k * size)).take size).take off ++ us ++ ((cells.drop (k * size)).take size).drop (off + us.length)) ++ cells.drop ((k + 1) * size) = cells.take q ++ us ++ cells.drop (q + us.length) := by
      rw [← r1, ← r2]
      simp only [List.append_assoc]
    rw [r3, ← htk, List.drop_take, List.take_take, Nat.min_eq_left (by omega)]
    have l1 : (cur.toList.take q ++ us).length = q + us.length := by rw [List.length_append, List.length_take]; omega
    rw [List.toList_toArray, List.take_append, l1, List.take_of_length_le (by omega)]
end
section
variable {P : Program} {n : Nat} {F0 : Nat → Prop} {w0 : World} {e : Env} {Rs Rf : List Res} {Q : Exit → Act → World → Prop} {ops : Array Oper} {d : Option Tmp} {i : Nat} {ty t t' el : TypeId} {pos : String} {af : Array Edge} {gd : Option (Nat × Bool)} {v v' : Value} {x y : Operand} {l : List Nat} {lo : Sch} {c : Code} {S : World → Prop}
theorem TD.unf {α : Type} {E : Rd α} {B : Res} {q g : Nat} {cs : List Value} {u : α} (i : Nat) (hi : Rs[i]? = some (RowK B E g q cs u)) (h : TD P n F0 w0 ops lo Rf e (Rs.set i B) Q) : TD P n F0 w0 ops lo Rf e Rs Q := fun a w ha hs => h a w ha (hs.unf i hi)
section
variable {α : Type} {E : Rd α} {T m cp size g o k off q z : Nat} {xs : List α} {u u' : α}
end
section
variable {α : Type} {E : Rd α} {T bytes k : Nat} {zv : Value} {u : α} {m : Int} {kl : IntKind} {d' : Nat}
end
def bitOp : BinOp → Bool
  | .and | .or | .xor | .andNot => true
  | _ => false
theorem Ex.bitw {bo : BinOp} {k : IntKind} {p q : Int} (hb : bitOp bo = true) (hx : e.ev x = some (.int k p)) (hy : e.ev y = some (.int k q)) : Ex P n e S ⟨d, .binOp bo t x y t', ty, pos, af, gd⟩ (.int k (Go.bits bo k p q)) := by
  intro a w ha _
  have h1 : Op.intBits bo k p q = pure (.int k (Go.bits bo k p q)) := by cases bo <;> first | rfl | exact absurd hb (by decide)
  have h2 : (binOp bo t (.int k p) (.int k q)).run P w = .ok (.int k (Go.bits bo k p q)) w := by
    cases bo <;> first | exact absurd hb (by decide) | simp only [binOp, h1, ne_eq, not_true, if_false, Sem.run_pure]
  have h3 : eqGuard bo t x y (.int k p) (.int k q) = pure () := by cases bo <;> first | exact absurd hb (by decide) | rfl
  simp only [execOp, ha.ev hx, ha.ev hy, h3, Sem.run_bind, Sem.run_pure, Result.andThen_ok, h2]
def shrK (k : IntKind) (p q : Int) : Int := p.fdiv (2 ^ min q.toNat k.bits)
theorem Ex.shr {k k' : IntKind} {p q : Int} (hx : e.ev x = some (.int k p)) (hy : e.ev y = some (.int k' q)) (hq : 0 ≤ q) : Ex P n e S ⟨d, .binOp .shr t x y t', ty, pos, af, gd⟩ (.int k (shrK k p q)) := by
  intro a w ha _
  have h0 : ¬ q < 0 := by omega
  simp [execOp, ha.ev hx, ha.ev hy, eqGuard, binOp, Op.shift, h0, shrK]
theorem Ex.notK {k : IntKind} {p : Int} (hx : e.ev x = some (.int k p)) : Ex P n e S ⟨d, .unOp .xor t x, ty, pos, af, gd⟩ (.int k (Go.bits .xor k (if k.signed then -1 else k.max) p)) := by
  intro a w ha _
  have h1 : Op.intBits .xor k (if k.signed then -1 else k.max) p = pure (.int k (Go.bits .xor k (if k.signed then -1 else k.max) p)) := rfl
  simp [execOp, ha.ev hx, Op.unary, h1]
theorem T.blen {α : Type} {E : Rd α} {A : Option Addr} {m cp size : Nat} {xs : List α} {B : Res} (i : Nat) (hi : Rs[i]? = some B) (hB : ∀ w G, B.P w G → (RX.of (sliceRd size E) [.slice A m cp] xs).P w G) (h : xs.length ≤ 9223372036854775807 → T P n F0 w0 e Rs c Q) : T P n F0 w0 e Rs c Q := by
  intro a w ha hs
  refine h ?_ a w ha hs
  obtain ⟨G, hG, _⟩ := hs.get i hi
  rcases hB w G hG with ⟨_, rfl⟩ | ⟨_, cap, _, h1, h2, _⟩
  · simp
  · have : maxLen = 9223372036854775807 := rfl
    omega
end
end Go.Proofs.Ytcoppaggpbfcmaa.Sl
namespace Go.Proofs.Ytcoppaggpbfcmaa.Sl
open Go.RowKit
set_option linter.unusedVariables false
set_option linter.unusedSimpArgs false
def tabC (l : List Int) : Array Value := (l.map (Value.int .u32)).toArray
def TabR (T g : Nat) (l : List Int) : Res where
  P := fun w G => (BlkR g T (tabC l)).P w G ∧ l.length = 256
  lt := fun h => (BlkR g T (tabC l)).lt h.1
  move := fun h hm => ⟨(BlkR g T (tabC l)).move h.1 hm, h.2⟩
theorem tabC_get {l : List Int} {k : Nat} {u : Int} (h : l[k]? = some u) : (tabC l)[k]? = some (.int .u32 u) := by
  unfold tabC
  simp [h]
section
variable {P : Program} {n : Nat} {F0 : Nat → Prop} {w0 w : World} {e : Env} {Rs Rf : List Res} {Q : Exit → Act → World → Prop} {ops : Array Oper} {d : Option Tmp} {i : Nat} {ty t t' el : TypeId} {pos : String} {af : Array Edge} {gd : Option (Nat × Bool)} {v v' : Value} {x y ix : Operand} {L : List Nat} {lo : Sch} {c : Code} {S : World → Prop}
variable {T g k : Nat} {l : List Int} {u u' : Int}
theorem tab_len (j : Nat) (h : St F0 w0 Rs w) (hj : Rs[j]? = some (TabR T g l)) : l.length = 256 := by
  obtain ⟨G, hG, _⟩ := h.get j hj
  exact hG.2
theorem tab_blk (j : Nat) (h : St F0 w0 Rs w) (hj : Rs[j]? = some (TabR T g l)) : w.heap[g]? = some (.cells (tabC l) T (0, 0)) := by
  obtain ⟨G, hG, _⟩ := h.get j hj
  exact hG.1.1
theorem Ex.tIx (j : Nat) {a : Int} {q : IntKind} (hx : e.ev x = some (.pointer (some ⟨g, 0, none⟩))) (hi : e.ev ix = some (.int q a)) (hik : a = (k : Int)) (hu : ∀ w, (underlying t).run P w = .ok (.array 256 el) w) (hz : ∀ w, (sizeOf el).run P w = .ok 1 w) (hj : Rs[j]? = some (TabR T g l)) (hk : l[k]? = some u) :
    Ex P n e (St F0 w0 Rs) ⟨d, .indexAddr t x ix, ty, pos, af, gd⟩ (.pointer (some ⟨g, k, none⟩)) := by
  intro A w ha hs
  have h1 := tab_len j hs hj
  have h2 : k < 256 := by rw [← h1]; exact (List.getElem?_eq_some_iff.1 hk).1
  have h3 := Ex.ixP (S := fun _ => True) (d := d) (ty := ty) (pos := pos) (af := af) (gd := gd) hx hi hik hu hz h2 A w ha trivial
  rwa [show 0 + k * 1 = k by omega] at h3
theorem Ex.tLd (j : Nat) (hx : e.ev x = some (.pointer (some ⟨g, k, none⟩))) (ha : ∀ w, (isAgg t).run P w = .ok false w) (hj : Rs[j]? = some (TabR T g l)) (hk : l[k]? = some u) :
    Ex P n e (St F0 w0 Rs) ⟨d, .load t x, ty, pos, af, gd⟩ (.int .u32 u) :=
  Ex.ld1 hx ha (fun w hw => (heap_at (tab_blk j hw hj) k).trans (tabC_get hk))
theorem Ef.tSt (j : Nat) (hx : e.ev x = some (.pointer (some ⟨g, k, none⟩))) (hy : e.ev y = some (.int .u32 u')) (hz : ∀ w, (sizeOf t).run P w = .ok 1 w) (hj : Rs[j]? = some (TabR T g l)) (hk : l[k]? = some u) :
    Ef P n F0 w0 e Rs ⟨none, .store t x y, ty, pos, af, gd⟩ (fun e' Rs' => e' = e ∧ Rs' = Rs.set j (TabR T g (l.set k u'))) := by
  intro a w K Q ha hs hk'
  have hb := tab_blk j hs hj
  have hl := tab_len j hs hj
  have hkl : k < l.length := (List.getElem?_eq_some_iff.1 hk).1
  have hc : ((tabC l).toList.take k ++ [Value.int .u32 u'] ++ (tabC l).toList.drop (k + 1)).toArray = tabC (l.set k u') := by
    unfold tabC
    rw [List.map_set, List.set_eq_take_append_cons_drop, if_pos (by rw [List.length_map]; exact hkl)]
    simp
  have h2 := run_storeCells_at (P := P) g k T [Value.int .u32 u'] 0 (tabC l) w hb (by simp [tabC]; omega) (by simp [Value.oneCell'])
  simp only [Nat.add_zero, List.length_singleton] at h2
  rw [hc] at h2
  have h1 : (execOp a.eval ⟨none, .store t x y, ty, pos, af, gd⟩).run P w = .ok .skip (w.setRow g (tabC (l.set k u'))) := by
    simp [execOp, ha.ev hx, ha.ev hy, Instr.storeAt, Instr.sureAddr, storeVar, hz, Value.cells, h2]
  unfold Oper.wp
  rw [h1]
  refine hk' _ _ ⟨rfl, rfl⟩ _ _ ha.put0 (hs.step j hj (Ns := []) (fun G hG => ?_))
  exact ⟨⟨rfl, rfl, rfl, by simp [World.setRow], fun k hk hn => setRow_other w g k _ (fun e => hn (e ▸ (hG.1.2 g).2 rfl))⟩, G, ⟨⟨setRow_heap w g _ _ T (0, 0) hG.1.1, hG.1.2⟩, by rw [List.length_set]; exact hG.2⟩, fun k hk => .inl hk, trivial⟩
theorem TL.tSt (j : Nat) (ho : ops[i]? = some ⟨none, .store t x y, ty, pos, af, gd⟩) (hw : Wd n ops e ⟨none, .store t x y, ty, pos, af, gd⟩ true) (hx : e.ev x = some (.pointer (some ⟨g, k, none⟩))) (hy : e.ev y = some (.int .u32 u')) (hz : ∀ w, (sizeOf t).run P w = .ok 1 w) (hj : Rs[j]? = some (TabR T g l)) (hk : l[k]? = some u)
    (h : TL P n F0 w0 ops L e (Rs.set j (TabR T g (l.set k u'))) Q) : TL P n F0 w0 ops (i :: L) e Rs Q := by
  refine TL.ef ho hw (Ef.tSt j hx hy hz hj hk) ?_
  rintro _ _ ⟨rfl, rfl⟩
  exact h
theorem TD.tSt (j : Nat) (ho : ops[i]? = some ⟨none, .store t x y, ty, pos, af, gd⟩) (hw : Wd n ops e ⟨none, .store t x y, ty, pos, af, gd⟩ true) (hx : e.ev x = some (.pointer (some ⟨g, k, none⟩))) (hy : e.ev y = some (.int .u32 u')) (hz : ∀ w, (sizeOf t).run P w = .ok 1 w) (hj : Rs[j]? = some (TabR T g l)) (hk : l[k]? = some u)
    (is : List Nat) (hf : Sel (Rs.set j (TabR T g (l.set k u'))) is Rf)
    (h : TD P n F0 w0 ops lo Rf e (Rs.set j (TabR T g (l.set k u'))) Q) : TD P n F0 w0 ops (.e i lo) Rf e Rs Q := by
  refine TD.ef ho hw (Ef.tSt j hx hy hz hj hk) ?_
  rintro _ _ ⟨rfl, rfl⟩
  exact ⟨Rf, fun w hw => hw.sel is hf, fun _ h => h, h⟩
theorem Ex.bldZ {m : Nat} {zs : Array Value} (hz : ∀ w, (zeroValue t).run P w = .ok (.agg zs) w) (hu : ∀ w, (underlying t).run P w = .ok (.array m el) w) (hs : ∀ w, (sizeOf el).run P w = .ok 1 w) : Ex P n e S ⟨d, .build t #[], ty, pos, af, gd⟩ (.agg zs) := by
  intro a w ha _
  have h1 : (Instr.build t #[]).run P w = .ok (.agg zs) w := by
    simp only [Instr.build, Sem.run_bind, hz, hu, hs, Result.andThen_ok]
    rfl
  simp only [execOp, Sem.run_bind]
  simp [h1]
theorem TL.tNew {zs : Array Value} {d : Nat} (ho : ops[i]? = some ⟨some d, .box t x, ty, pos, af, gd⟩) (hw : Wd n ops e ⟨some d, .box t x, ty, pos, af, gd⟩ true) (hx : e.ev x = some (.agg zs)) (hzs : zs = tabC (List.replicate 256 0)) (hd : Nat.blt d n = true)
    (h : ∀ b, TL P n F0 w0 ops L ((d, .pointer (some ⟨b, 0, none⟩)) :: e) (TabR t b (List.replicate 256 0) :: Rs) Q) : TL P n F0 w0 ops (i :: L) e Rs Q := by
  refine TL.box ho hw hx hd (fun b => ?_)
  intro a w ha hs
  subst hzs
  exact h b a w ha (hs.weaken 0 rfl (fun G hG => ⟨hG, List.length_replicate ..⟩))
end
def LW (P : Program) (c : Code) (Q : Exit → Act → World → Prop) (a : Act) (w : World) : Prop := ∀ b k cs, ∃ x a' w', Q x a' w' ∧ Arrives P (lone (b.at a (.code c :: .inLoop c :: k)) cs w) b k cs x a' w'
def TW (P : Program) (n : Nat) (F0 : Nat → Prop) (w0 : World) (e : Env) (Rs : List Res) (c : Code) (Q : Exit → Act → World → Prop) : Prop := ∀ a w, Has n e a → St F0 w0 Rs w → LW P c Q a w
section
variable {P : Program} {n : Nat} {F0 : Nat → Prop} {w0 : World} {e : Env} {Rs : List Res} {Q : Exit → Act → World → Prop} {c : Code}
theorem T.unroll0 (h : TW P n F0 w0 e Rs c Q) : T P n F0 w0 e Rs (.loop c) Q := by
  intro a w ha hs b k cs
  obtain ⟨x, a', w', hq, harr⟩ := h a w ha hs b k cs
  exact ⟨x, a', w', hq, .of_steps (.one step_loop) harr⟩
theorem TW.step (h : T P n F0 w0 e Rs c (Exit.then (LW P c Q) Q)) : TW P n F0 w0 e Rs c Q := by
  intro a w ha hs b k cs
  obtain ⟨x, a₁, w₁, hq, harr⟩ := h a w ha hs b (.inLoop c :: k) cs
  cases x with
  | normal =>
    obtain ⟨x₂, a₂, w₂, hq₂, harr₂⟩ := hq b k cs
    exact ⟨x₂, a₂, w₂, hq₂, .of_steps (Steps.trans harr (.one step_inLoop)) harr₂⟩
  | exit id => exact ⟨_, a₁, w₁, hq, .pass (x := .inLoop c) rfl (fun _ _ => .inl (by simp)) harr⟩
  | goto l => exact ⟨_, a₁, w₁, hq, .pass (x := .inLoop c) rfl (fun _ _ => .inl (by simp)) harr⟩
  | ret => exact ⟨_, a₁, w₁, hq, .pass (x := .inLoop c) rfl (fun _ _ => .inl (by simp)) harr⟩
  | panic ch => exact ⟨_, a₁, w₁, hq, .pass (x := .inLoop c) rfl (fun _ _ => .inl (by simp)) harr⟩
  | outgrown => exact ⟨_, a₁, w₁, hq, .pass (x := .inLoop c) rfl (fun _ _ => .inl (by simp)) harr⟩
theorem X.un (h : TW P n F0 w0 e Rs c Q) : X n F0 w0 e Rs .normal (Exit.then (LW P c Q) Q) := h
end
end Go.Proofs.Ytcoppaggpbfcmaa.Sl
namespace Go.Proofs.Ytcoppaggpbfcmaa.Sl
open Go.RowKit
set_option linter.unusedVariables false
set_option linter.unusedSimpArgs false
section
variable {P : Program} {n : Nat} {F0 : Nat → Prop} {w0 : World} {e : Env} {Rs Rf : List Res} {Q : Exit → Act → World → Prop} {ops : Array Oper} {i : Nat} {ty t : TypeId} {pos : String} {af : Array Edge} {gd : Option (Nat × Bool)} {x y : Operand} {L : List Nat} {lo : Sch} {b : Nat} {s : List UInt8 × Int}
theorem Ef.outZ (j : Nat) (hx : e.ev x = some (.pointer (some ⟨b, 0, none⟩))) (hy : e.ev y = some (.agg #[.slice none 0 0, .int .i64 0])) (hz : ∀ w, (sizeOf t).run P w = .ok 2 w) (hj : Rs[j]? = some (OutR b s)) :
    Ef P n F0 w0 e Rs ⟨none, .store t x y, ty, pos, af, gd⟩ (fun e' Rs' => e' = e ∧ Rs' = Rs.set j (OutR b ([], 0))) := by
  intro a w K Q ha hs hk
  obtain ⟨G, ⟨v, h1, _, _⟩, _⟩ := hs.get j hj
  have h2 := run_storeCells_at (P := P) b 0 87 [Value.slice none 0 0, .int .i64 0] 0 _ w h1 (by simp) (by intro v hv; simp at hv; rcases hv with rfl | rfl <;> rfl)
  have h3 : (execOp a.eval ⟨none, .store t x y, ty, pos, af, gd⟩).run P w = .ok .skip (w.setRow b #[.slice none 0 0, .int .i64 0]) := by
    simp at h2
    simp [execOp, ha.ev hx, ha.ev hy, Instr.storeAt, Instr.sureAddr, storeVar, hz, Value.cells, h2]
  unfold Oper.wp
  rw [h3]
  refine hk _ _ ⟨rfl, rfl⟩ _ _ ha.put0 (hs.step j hj (Ns := []) (fun G hG => ?_))
  obtain ⟨v', k1, k2, k3⟩ := hG
  refine ⟨⟨rfl, rfl, rfl, by simp [World.setRow], fun q hq hn => setRow_other w b q _ (fun e => hn (e ▸ (k3 b).2 (.inl rfl)))⟩, fun q => q = b, ⟨_, setRow_heap w b _ _ _ (0, 0) k1, World.ownsRow_nil _ _ _ _, fun q => by simp [Value.ownBlock]⟩, fun q hq => .inl ((k3 q).2 (.inl hq)), trivial⟩
theorem TL.outZ (j : Nat) (ho : ops[i]? = some ⟨none, .store t x y, ty, pos, af, gd⟩) (hw : Wd n ops e ⟨none, .store t x y, ty, pos, af, gd⟩ true) (hx : e.ev x = some (.pointer (some ⟨b, 0, none⟩))) (hy : e.ev y = some (.agg #[.slice none 0 0, .int .i64 0])) (hz : ∀ w, (sizeOf t).run P w = .ok 2 w) (hj : Rs[j]? = some (OutR b s))
    (h : TL P n F0 w0 ops L e (Rs.set j (OutR b ([], 0))) Q) : TL P n F0 w0 ops (i :: L) e Rs Q := by
  refine TL.ef ho hw (Ef.outZ j hx hy hz hj) ?_
  rintro _ _ ⟨rfl, rfl⟩
  exact h
theorem TD.outZ (j : Nat) (ho : ops[i]? = some ⟨none, .store t x y, ty, pos, af, gd⟩) (hw : Wd n ops e ⟨none, .store t x y, ty, pos, af, gd⟩ true) (hx : e.ev x = some (.pointer (some ⟨b, 0, none⟩))) (hy : e.ev y = some (.agg #[.slice none 0 0, .int .i64 0])) (hz : ∀ w, (sizeOf t).run P w = .ok 2 w) (hj : Rs[j]? = some (OutR b s))
    (is : List Nat) (hf : Sel (Rs.set j (OutR b ([], 0))) is Rf) (h : TD P n F0 w0 ops lo Rf e (Rs.set j (OutR b ([], 0))) Q) : TD P n F0 w0 ops (.e i lo) Rf e Rs Q := by
  refine TD.ef ho hw (Ef.outZ j hx hy hz hj) ?_
  rintro _ _ ⟨rfl, rfl⟩
  exact ⟨Rf, fun w hw => hw.sel is hf, fun _ h => h, h⟩
end
end Go.Proofs.Ytcoppaggpbfcmaa.Sl
namespace Go.Proofs.Ytcoppaggpbfcmaa.Sl
open Go.RowKit
set_option linter.unusedVariables false
set_option linter.unusedSimpArgs false
def BldR (b : Nat) (l : List UInt8) : Res where
  P := fun w G => ∃ p v, (p = .pointer none ∨ p = .pointer (some ⟨b, 0, none⟩)) ∧ w.heap[b]? = some (.cells #[p, v] 109 (0, 0)) ∧ w.ownsRow 0 5 1 v l.length (byteCells l) ∧ ∀ k, G k ↔ k = b ∨ v.ownBlock = some k
  lt := by
    rintro w G ⟨p, v, _, h1, h2, h3⟩ k hk
    rcases (h3 k).1 hk with rfl | h
    · exact heap_lt h1
    · exact row_lt h2 k h
  move := by
    rintro w w' G ⟨p, v, hp, h1, h2, h3⟩ hm
    exact ⟨p, v, hp, (hm _ ((h3 _).2 (.inl rfl))).trans h1, row_move h2 (fun k hk => hm k ((h3 k).2 (.inr hk))), h3⟩
theorem BldR.new {F0 : Nat → Prop} {w0 w : World} {Rs : List Res} (h : St F0 w0 Rs w) : St F0 w0 (BldR w.heap.size [] :: Rs) (w.alloc (.cells #[.pointer none, .slice none 0 0] 109)) := by
  refine (h.alloc #[.pointer none, .slice none 0 0] 109).weaken 0 rfl (A' := BldR w.heap.size []) ?_
  rintro G ⟨h1, h2⟩
  exact ⟨_, _, .inl rfl, h1, World.ownsRow_nil _ _ _ _, fun k => by simp [h2 k, Value.ownBlock]⟩
theorem fr_freeze {F : Nat → Prop} {w w' : World} (h : Fr F w w') {p : Addr} (hp : F p.block) (n : Nat) : Fr F w (w'.freeze p n) := by
  refine h.trans (G := F) ?_ (fun _ h => .inl h)
  unfold World.freeze
  split
  · exact Fr.refl _ _
  · exact ⟨rfl, rfl, rfl, by simp, fun k hk hn => by
      simp only [Array.getElem?_modify]
      rw [if_neg (fun h : p.block = k => hn (by rw [← h]; exact hp))]⟩
theorem bld_size : (Try.prog.info? 109).map (·.size) = some 2 := by kernel_rfl
theorem bld_lies : liesAt Try.prog Try.prog.depth 109 (2 / Try.prog.cellsOf 109) 0 109 1 = true := by kernel_rfl
theorem bld_shape {w : World} {b : Nat} {p v : Value} (hb : w.heap[b]? = some (.cells #[p, v] 109 (0, 0))) : w.shape? b = some (109, 2) := by simp [World.shape?, hb]
set_option maxRecDepth 100000 in
set_option maxHeartbeats 1000000 in
theorem bld_check (b : Nat) (w : World) (p v : Value) (hp : p = .pointer none ∨ p = .pointer (some ⟨b, 0, none⟩)) (hb : w.heap[b]? = some (.cells #[p, v] 109 (0, 0))) :
    Calls Try.prog 99 #[.pointer (some ⟨b, 0, none⟩)] w fun e w' => e = .returned (.tuple #[]) ∧ w'.heap[b]? = some (.cells #[.pointer (some ⟨b, 0, none⟩), v] 109 (0, 0)) ∧ Fr (fun k => k = b) w w' := by
  obtain ⟨j, hj, hjs⟩ := Option.map_eq_some_iff.1 bld_size
  have h0 : w.cell? ⟨b, 0, none⟩ = some p := (heap_at hb 0).trans rfl
  have f0 : w.frozen? ⟨b, 0, none⟩ = false := heap_free hb 0
  have hsh := bld_shape hb
  have HB := Lib.hid hb
  clear hb
  rcases hp with rfl | rfl
  · go_enter Try.func99, Try.ntmps99
    go_wp2
    rw [Lib.run_to_unsafe w ⟨b, 0, none⟩ Try.underlying107 Try.underlying189 hj (by rw [hjs]; decide) hsh (Nat.zero_lt_succ 1)]
    simp only [Result.andThen]
    rw [Oper.upon_value]
    go_wp2
    rw [run_callFunc_extern Try.func124 (by kernel_rfl) (by kernel_rfl) (by kernel_rfl) (e := Extern.AbiNoEscape.same) (by kernel_rfl)]
    rw [Lib.run_noEscape]
    simp only [Result.andThen]
    rw [Oper.upon_value]
    go_wp2
    rw [Lib.run_from_unsafe w ⟨b, 0, none⟩ Try.underlying189 Try.underlying107 hj hsh bld_lies]
    simp only [Result.andThen]
    rw [Oper.upon_value]
    go_wp2
    go_end0
    exact ⟨rfl, by simpa using heap_set HB.out 0 (.pointer (some ⟨b, 0, none⟩)), (Fr.refl (fun k => k = b) w).set (p := ⟨b, 0, none⟩) (.inl rfl) _⟩
  · go_enter Try.func99, Try.ntmps99
    go_wp2
    rw [Lib.run_neq_ptr_same w _ Try.underlying107 hj]
    go_wp2
    go_end0
    exact ⟨rfl, HB.out, Fr.refl _ _⟩
theorem BldR.stored {b : Nat} {l m : List UInt8} {w w1 w2 : World} {v v1 : Value} {F : Nat → Prop} (hw : Fr (fun k => k = b) w w1) (hF : ∀ k, F k ↔ k = b ∨ v.ownBlock = some k) (hb : w1.heap[b]? = some (.cells #[.pointer (some ⟨b, 0, none⟩), v] 109 (0, 0))) (ho : w1.ownsRow 0 5 1 v l.length (byteCells l))
    {n : Nat} (ho1 : w2.ownsRow 0 5 1 v1 n (byteCells m)) (hg : w1.grownBy w2 v.ownBlock) (hat : v1.ownBlock = v.ownBlock ∨ ∃ k, v1.ownBlock = some k ∧ w1.heap.size ≤ k) (hlt : b < w.heap.size) :
    St F w [BldR b m] (w2.setCell ⟨b, 1, none⟩ v1) := by
  have hn : n = m.length := by have := ho1.1; simpa [byteCells] using this.symm
  subst hn
  have hne := row_ne ho hb (by decide)
  have hb1 : w2.heap[b]? = some (.cells #[.pointer (some ⟨b, 0, none⟩), v] 109 (0, 0)) := (hg.block b (heap_lt hb) hne).trans hb
  have hne1 := row_ne ho1 hb1 (by decide)
  have f1 : Fr F w w1 := hw.mono (fun k hk => (hF k).2 (.inl hk))
  have f2 : Fr F w w2 := f1.trans (Fr.of_grown (F := F) hg (fun k hk => (hF k).2 (.inr hk))) (fun k hk => .inl hk)
  refine ⟨f2.set (p := ⟨b, 1, none⟩) (.inl ((hF b).2 (.inl rfl))) v1, ?_⟩
  refine ⟨fun k => k = b ∨ v1.ownBlock = some k, ⟨_, v1, .inr rfl, by simpa using heap_set hb1 1 v1, row_set ho1 hne1 v1, fun _ => Iff.rfl⟩, ?_, trivial⟩
  rintro k (rfl | hk)
  · exact .inl ((hF k).2 (.inl rfl))
  · rcases hat with h | ⟨k', h, h'⟩
    · rw [h] at hk
      exact .inl ((hF k).2 (.inr hk))
    · rw [h] at hk
      injection hk with hk
      subst hk
      exact .inr (Nat.le_trans hw.size h')
set_option maxRecDepth 100000 in
set_option maxHeartbeats 1000000 in
theorem BldWS_spec (b : Nat) (l : List UInt8) (s : ByteArray) (hl : l.length + s.size ≤ 140737488355328) :
    Spec Try.prog 57 #[.pointer (some ⟨b, 0, none⟩), .string s] (BldR b l) (fun v A' N => v = .tuple #[.int .i64 s.size, .nilIface] ∧ A' = BldR b (l ++ s.data.toList) ∧ N = []) := by
  rintro F w ⟨p, v, hp, hb, ho, hF⟩
  have hne := row_ne ho hb (by decide)
  have HB := Lib.hid hb
  have HO := Lib.hid ho
  have HP := Lib.hid hp
  clear hb ho hp
  go_enter Try.func57, Try.ntmps57
  go_wp2_with (go_at_call 99; refine (bld_check b _ p v HP.out HB.out).mono ?_)
  rintro e w1 ⟨rfl, hb1, hfr⟩
  have ho1 : w1.ownsRow 0 5 1 v l.length (byteCells l) := row_move HO.out (fun k hk => hfr.block k (row_lt HO.out k hk) (fun h => hne (h ▸ hk.symm)))
  have c0 : w1.cell? ⟨b, 0, none⟩ = some (.pointer (some ⟨b, 0, none⟩)) := (heap_at hb1 0).trans rfl
  have c1 : w1.cell? ⟨b, 1, none⟩ = some v := (heap_at hb1 1).trans rfl
  have HB1 := Lib.hid hb1
  have HO1 := Lib.hid ho1
  have HF := Lib.hid hfr
  clear hb1 ho1 hfr
  go_wp2_with (at_builtin; refine wp_append_str_at w1 rfl _ _ _ _ rfl 5 Try.underlying40 Try.underlying9 infoByte v l.length (byteCells l) rfl HO1.out s rfl hl ?_; intro v1 w2 ho2 hg hat; obtain ⟨a1, k1, rfl⟩ := row_slice ho2; have HO2 := Lib.hid ho2; clear ho2; have HN := Lib.hid (row_ne HO1.out HB1.out (by decide)); have HB2 := Lib.hid (show w2.heap[b]? = _ from (hg.block b (heap_lt HB1.out) HN.out).trans HB1.out); have d0 : w2.cell? ⟨b, 0, none⟩ = some (.pointer (some ⟨b, 0, none⟩)) := (heap_at HB2.out 0).trans rfl; have d1 : w2.cell? ⟨b, 1, none⟩ = some v := (heap_at HB2.out 1).trans rfl; have e1 : w2.frozen? ⟨b, 1, none⟩ = false := heap_free HB2.out 1; have HG := Lib.hid hg; have HAT := Lib.hid hat; clear hg hat)
  go_ret2
  have ho2 := HO2.out
  rw [byteCells_str, ← byteCells_append] at ho2
  refine ⟨_, _, _, rfl, ⟨rfl, rfl, rfl⟩, ?_⟩
  exact BldR.stored HF.out hF HB1.out HO1.out ho2 HG.out (by rcases HAT.out with h | h; exact .inl h; exact .inr ⟨_, h, Nat.le_refl _⟩) (heap_lt HB.out)
set_option maxRecDepth 100000 in
set_option maxHeartbeats 2000000 in
theorem BldStr_spec (b : Nat) (l : List UInt8) : Spec Try.prog 58 #[.pointer (some ⟨b, 0, none⟩)] (BldR b l) (fun v A' N => v = .string (bsOf l) ∧ A' = EmpR ∧ N = []) := by
  rintro F w ⟨p, v, hp, hb, ho, hF⟩
  have done : ∀ w', Fr F w w' → St F w [EmpR] w' := fun w' h => ⟨h, fun _ => False, fun _ h => h, fun _ h => h.elim, trivial⟩
  have DONE := Lib.hid done
  clear done
  have hUS0 : ∀ (W : World) (q : Option Addr), (Builtin.unsafeString_ #[167, 3] 9 #[.pointer q, .int .i64 0]).run Try.prog W = .ok (.string .empty) W := fun W q => Lib.run_unsafeString_none W _ _ _ q
  have hl0 : l = [] ∨ l ≠ [] := by cases l; exact .inl rfl; exact .inr (by simp)
  rcases ho.2 with ⟨rfl, hz⟩ | ⟨g, cap, cur, rfl, _, hg, hnc, hcm, hcs, htake⟩
  · obtain rfl : l = [] := List.length_eq_zero_iff.1 hz
    have c1 : w.drew.cell? ⟨b, 1, none⟩ = some (.slice none 0 0) := (heap_at (w := w.drew) hb 1).trans rfl
    have hSD : (Builtin.unsafeSliceData_ #[40] 167 #[.slice none 0 0]).run Try.prog w.drew = .ok (.pointer none) w.drew := rfl
    clear hb ho hp
    go_enter Try.func58, Try.ntmps58
    go_wp2
    go_region
    all_goals (go_wp2; go_ret; exact ⟨_, _, _, rfl, ⟨rfl, rfl, rfl⟩, DONE.out _ (Fr.refl F w).drew⟩)
  · have hgF : F g := (hF g).2 (.inr rfl)
    have HGF := Lib.hid hgF
    clear hgF
    rcases hl0 with rfl | hl1
    · by_cases hc0 : cap = 0
      · subst hc0
        have hb' : w.drew.heap[b]? = some (.cells #[p, .slice (some ⟨g, 0, none⟩) 0 0] 109 (0, 0)) := hb
        have c1 : w.drew.cell? ⟨b, 1, none⟩ = some (.slice (some ⟨g, 0, none⟩) 0 0) := (heap_at hb' 1).trans rfl
        have hSD : (Builtin.unsafeSliceData_ #[40] 167 #[.slice (some ⟨g, 0, none⟩) 0 0]).run Try.prog w.drew = .ok (.pointer (some ⟨w.drew.heap.size, 0, none⟩)) (w.drew.alloc (.view ⟨g, 0, none⟩ 5)) :=
          Lib.run_unsafeSliceData_zero w.drew _ _ 5 Try.underlying167 ⟨g, 0, none⟩ 0 (5, cur.size) (by have hg' : w.drew.heap[g]? = some (.cells cur 5 (0, 0)) := hg; simp [World.shape?, hg'])
        have c2 : (w.drew.alloc (.view ⟨g, 0, none⟩ 5)).cell? ⟨b, 1, none⟩ = some (.slice (some ⟨g, 0, none⟩) 0 0) := by
          have h := (Lib.alloc_old w.drew (.view ⟨g, 0, none⟩ 5) b (heap_lt hb')).trans hb'
          exact (heap_at h 1).trans rfl
        have c3 : (w.alloc (.view ⟨g, 0, none⟩ 5)).drew.cell? ⟨b, 1, none⟩ = some (.slice (some ⟨g, 0, none⟩) 0 0) := c2
        have c0 : w.cell? ⟨b, 1, none⟩ = some (.slice (some ⟨g, 0, none⟩) 0 0) := c1
        clear hb hb' ho hp hg htake hcs
        go_enter Try.func58, Try.ntmps58
        go_wp2
        go_region
        all_goals (go_wp2; go_ret; exact ⟨_, _, _, rfl, ⟨rfl, rfl, rfl⟩, DONE.out _ ((Fr.refl F w).drew.alloc _)⟩)
      · have c1 : w.drew.cell? ⟨b, 1, none⟩ = some (.slice (some ⟨g, 0, none⟩) 0 cap) := (heap_at (w := w.drew) hb 1).trans rfl
        have hSD : (Builtin.unsafeSliceData_ #[40] 167 #[.slice (some ⟨g, 0, none⟩) 0 cap]).run Try.prog w.drew = .ok (.pointer (some ⟨g, 0, none⟩)) w.drew := Lib.run_unsafeSliceData_row _ _ _ _ _ _ hc0
        clear hb ho hp hg htake hcs hc0
        go_enter Try.func58, Try.ntmps58
        go_wp2
        go_region
        all_goals (go_wp2; go_ret; exact ⟨_, _, _, rfl, ⟨rfl, rfl, rfl⟩, DONE.out _ (Fr.refl F w).drew⟩)
    · have hlen : l.length ≠ 0 := by simpa using hl1
      have c1 : w.drew.cell? ⟨b, 1, none⟩ = some (.slice (some ⟨g, 0, none⟩) l.length cap) := (heap_at (w := w.drew) hb 1).trans rfl
      have hSD : (Builtin.unsafeSliceData_ #[40] 167 #[.slice (some ⟨g, 0, none⟩) l.length cap]).run Try.prog w.drew = .ok (.pointer (some ⟨g, 0, none⟩)) w.drew := Lib.run_unsafeSliceData_row _ _ _ _ _ _ (by omega)
      have hUS : (Builtin.unsafeString_ #[167, 3] 9 #[.pointer (some ⟨g, 0, none⟩), .int .i64 l.length]).run Try.prog w.drew = .ok (.string ⟨l.toArray⟩) (w.drew.freeze ⟨g, 0, none⟩ l.length) := by
        refine Lib.run_unsafeString_row w.drew 167 3 9 5 Try.underlying167 (by kernel_rfl) g cur.size (by have hg' : w.drew.heap[g]? = some (.cells cur 5 (0, 0)) := hg; simp [World.shape?, hg']) l hl1 (by omega) (by unfold maxLen at hcm; omega) ?_
        intro j x hx
        have := ho.cells (g := g) rfl j (.int .u8 x.toNat) (by simp [byteCells, hx])
        exact this
      clear hb ho hp hg htake hcs hl1 hlen hUS0
      go_enter Try.func58, Try.ntmps58
      go_wp2
      go_region
      all_goals (go_wp2; go_ret; exact ⟨_, _, _, rfl, ⟨rfl, rfl, rfl⟩, DONE.out _ (fr_freeze (Fr.refl F w).drew (p := ⟨g, 0, none⟩) HGF.out _)⟩)
def gBWrite (st : List UInt8) (s : List UInt8) : Option (List UInt8) := if st.length + s.length ≤ 140737488355328 then some (st ++ s) else none
theorem gBWrite_spec (g : Nat) (st : List UInt8) (s : List UInt8) (r : List UInt8) (h : gBWrite st s = some r) : SpecX Try.prog 57 #[.pointer (some ⟨g, 0, none⟩), .string (bsOf s)] .triv (BldR g st) (fun v A' N => v = .tuple #[.int .i64 (bsOf s).size, .nilIface] ∧ A' = BldR g r ∧ N = []) := by
  unfold gBWrite at h
  split at h
  · rename_i h1
    obtain rfl := Option.some.inj h
    have k := BldWS_spec g st (bsOf s) (by rw [bsOf_size]; exact h1)
    rw [bsOf_list] at k
    exact SpecX.of_spec k
  · simp at h
def gBStr (st : List UInt8) : Option (List UInt8) := some st
theorem gBStr_spec (g : Nat) (st : List UInt8) (r : List UInt8) (h : gBStr st = some r) : SpecX Try.prog 58 #[.pointer (some ⟨g, 0, none⟩)] .triv (BldR g st) (fun v A' N => v = .string (bsOf r) ∧ A' = EmpR ∧ N = []) := by
  unfold gBStr at h
  obtain rfl := Option.some.inj h
  exact SpecX.of_spec (BldStr_spec g _)
end Go.Proofs.Ytcoppaggpbfcmaa.Sl
namespace Go.Proofs.Ytcoppaggpbfcmaa.Sl
open Go.RowKit
set_option linter.unusedVariables false
set_option linter.unusedSimpArgs false
section
variable {P : Program} {n : Nat} {F0 : Nat → Prop} {w0 : World} {e : Env} {Rs Rf : List Res} {Q : Exit → Act → World → Prop} {ops : Array Oper} {i d : Nat} {ty t : TypeId} {pos : String} {af : Array Edge} {gd : Option (Nat × Bool)} {l : List Nat} {lo : Sch}
theorem BldR.of_blk {b : Nat} {w : World} {G : Nat → Prop} (h : (BlkR b 109 #[.pointer none, .slice none 0 0]).P w G) : (BldR b []).P w G := by
  obtain ⟨h1, h2⟩ := h
  exact ⟨_, _, .inl rfl, h1, World.ownsRow_nil _ _ _ _, fun k => by simp [h2 k, Value.ownBlock]⟩
theorem TL.newbld {zv : Value} (ho : ops[i]? = some ⟨some d, .alloc t, ty, pos, af, gd⟩) (hw : Wd n ops e ⟨some d, .alloc t, ty, pos, af, gd⟩ true) (hz : ∀ w, (zeroValue t).run P w = .ok zv w) (hd : Nat.blt d n = true)
    (h : ∀ b, TL P n F0 w0 ops l ((d, .pointer (some ⟨b, 0, none⟩)) :: e) (BldR b [] :: Rs) Q) (ht : t = 109 := by rfl) (hzv : zv = .agg #[.pointer none, .slice none 0 0] := by rfl) : TL P n F0 w0 ops (i :: l) e Rs Q := by
  refine TL.alloc ho hw hz hd (fun b => ?_)
  intro a w ha hs
  subst ht hzv
  exact h b a w ha (hs.weaken 0 rfl (fun G hG => BldR.of_blk hG))
theorem TD.newbld {zv : Value} (ho : ops[i]? = some ⟨some d, .alloc t, ty, pos, af, gd⟩) (hw : Wd n ops e ⟨some d, .alloc t, ty, pos, af, gd⟩ true) (hz : ∀ w, (zeroValue t).run P w = .ok zv w) (hd : Nat.blt d n = true) (is : List Nat) (hf : ∀ b, Sel (BldR b [] :: Rs) is Rf)
    (h : ∀ b, TD P n F0 w0 ops lo Rf ((d, .pointer (some ⟨b, 0, none⟩)) :: e) (BldR b [] :: Rs) Q) (ht : t = 109 := by rfl) (hzv : zv = .agg #[.pointer none, .slice none 0 0] := by rfl) : TD P n F0 w0 ops (.e i lo) Rf e Rs Q := by
  refine TD.ef ho hw (Ef.alloc hz hd) ?_
  rintro _ _ ⟨b, rfl, rfl⟩
  subst ht hzv
  have key : ∀ w, St F0 w0 (BlkR b 109 #[.pointer none, .slice none 0 0] :: Rs) w → St F0 w0 (BldR b [] :: Rs) w := fun w hs => hs.weaken 0 rfl (fun G hG => BldR.of_blk hG)
  exact ⟨Rf, fun w hs => (key w hs).sel is (hf b), fun _ h => h, fun a w ha hs => h b a w ha (key w hs)⟩
end
section
variable {α : Type} {P : Program} {n : Nat} {F0 : Nat → Prop} {w0 : World} {e : Env} {Rs : List Res} {Q : Exit → Act → World → Prop} {ops : Array Oper} {l : List Nat} {c : Code} {S : Nat → Prop} {E : Rd α} {size m cp k : Nat} {A : Option Addr} {xs : List α} {x : α} {B : Res}
end
end Go.Proofs.Ytcoppaggpbfcmaa.Sl
namespace Go.Proofs.Ytcoppaggpbfcmaa.Sl
open Go.RowKit
set_option linter.unusedVariables false
set_option linter.unusedSimpArgs false
set_option maxRecDepth 100000
def ft_header : FTab := [(81, 0, 0), (81, 1, 1)]
theorem ft_header_ok : (ft_header).OK Try.prog := ⟨FOK.mk Try.runUnderlying81 rfl Try.sizeOf9 rfl, FOK.mk Try.runUnderlying81 rfl Try.sizeOf30 rfl, trivial⟩
theorem bok_header_81 : BOK Try.prog 81 #[.string ⟨#[]⟩, .bool false, .string ⟨#[]⟩] [(0, 1), (1, 2)] := BOK.mk Try.zeroValue81 Try.runUnderlying81 (by intro w; simp)
theorem sok_header_31_1 : SOK Try.prog 31 81 1 3 #[.string ⟨#[]⟩, .bool false, .string ⟨#[]⟩] := SOK.mk Try.runUnderlying31 Try.sizeOf81 Try.zeroValue81 (by decide) (by kernel_rfl)
theorem inf_header_81 : (Try.prog.info? 81).map (fun i => (i.zero, i.size, i.bytes)) = some (some (.agg #[.string ⟨#[]⟩, .bool false, .string ⟨#[]⟩]), 3, 40) := by kernel_rfl
def f_header_Read_l1 (x1 : Int) : Nat → List Hd → List Hd → Nat → I → Option (Lp (List Hd × I) (List Hd × List Hd × Nat × I))
  | 0, _, _, _, _ => none
  | m29 + 1, y18, y21, k24, st25 => if (k24 : Int) < x1 then ((gName st25).bind fun (x34, st35) => (gVaried st35).bind fun (x37, st38) => if (y21.length + 1) * 40 ≤ 140737488355328 then ((gErr st38).bind fun (x44, st45) => if x44 = 0 then (if -9223372036854775808 ≤ ((k24 : Int) + 1) ∧ ((k24 : Int) + 1) ≤ 9223372036854775807 then (f_header_Read_l1 x1 m29 y18 (y21 ++ [(⟨x34, x37⟩ : Hd)]) (k24 + 1) st45) else none) else (some (Lp.ret ([], st45)))) else none) else (some (Lp.go (y18, y21, k24, st25)))
def f_header_Read (st : I)  : Option (List Hd × I) := (gVInt st).bind fun (x1, st2) => (gErr st2).bind fun (x4, st5) => if x4 = 0 then (if x1 < 0 then ((gIFail st5 4).bind fun st9 => some ([], st9)) else ((gLeft st5).bind fun (x11, st12) => if 0 ≤ x11 ∧ x11 ≤ 9223372036854775807 then (if x1 > (x11 / 2) then ((gIFail st12 1).bind fun st16 => some ([], st16)) else ((f_header_Read_l1 x1 ((x1).toNat + 1) [] [] 0 st12).bind fun e => match e with | .ret r => some r | .go (y49, y52, k55, st56) => some (y52, st56))) else none)) else some ([], st5)
set_option maxRecDepth 100000 in
set_option maxHeartbeats 4000000 in
theorem f_header_Read_spec (g : Nat) (st : I)  (r : List Hd × I) (h : f_header_Read st  = some r) : SpecX Try.prog 129 #[.pointer (some ⟨g, 0, none⟩)] .triv (InR g st) (fun v A' N => ∃ (A57 : Option Addr) (c58 : Nat), v = .slice A57 r.1.length c58 ∧ A' = InR g r.2 ∧ N = [RdR (sliceRd 3 Hd_rd) [.slice A57 r.1.length c58] r.1]) := by
  refine enterA Try.func129 rfl Try.ntmps129 rfl ?_
  intro F w hX
  unfold f_header_Read at h
  refine T.seq (T.region rfl ?_)
  refine TL.run ft_header_ok [0] rfl rfl ?_
  refine TL.nil (X.seq (T.seq (T.region rfl ?_)))
  obtain ⟨⟨x1, st2⟩, hx3, h⟩ := Option.bind_eq_some_iff.1 h
  try dsimp only at h
  refine TL.run ft_header_ok [0] rfl rfl ?_
  refine TL.c0 rfl .u (.fn Try.call127 rfl) (gVInt_spec g st _ hx3) (fun _ hs => (Src.triv _)) rfl ?_
  refine TL.run ft_header_ok [2] rfl rfl ?_
  refine TL.nil (X.seq (T.seq (T.block (T.seq (T.region rfl ?_)))))
  obtain ⟨⟨x4, st5⟩, hx6, h⟩ := Option.bind_eq_some_iff.1 h
  try dsimp only at h
  refine TL.run ft_header_ok [0] rfl rfl ?_
  refine TL.c0 rfl .u (.fn Try.call61 rfl) (gErr_spec g st2 _ hx6) (fun _ hs => (Src.triv _)) rfl ?_
  refine TL.run ft_header_ok [2, 3] rfl rfl ?_
  by_cases c7 : x4 = 0
  · replace h := ifT c7 h
    refine TL.nil (X.seq ?_)
    refine T.no rfl (bn_f (decide_eq_true c7)) ?_
    refine T.seq (T.region rfl ?_)
    refine TL.run ft_header_ok [0, 1, 2] rfl rfl ?_
    by_cases c8 : x1 < 0
    · replace h := ifT c8 h
      refine TL.nil (X.seq ?_)
      refine T.yes rfl (decide_eq_true c8) ?_
      refine T.seq (T.region rfl ?_)
      obtain ⟨st9, hx10, h⟩ := Option.bind_eq_some_iff.1 h
      refine TL.run ft_header_ok [0] rfl rfl ?_
      refine TL.c0 rfl .u (.fn Try.call62 rfl) (gIFail_spec g st5 4 _ hx10) (fun _ hs => (Src.triv _)) rfl ?_
      refine TL.nil (X.seq (T.seq (T.region rfl ?_)))
      refine TL.run ft_header_ok [0] rfl rfl ?_
      obtain rfl := Option.some.inj h
      refine TL.nil (X.seq (T.ret (X.rb (X.rs ?_))))
      refine X.nilrd 3 Hd_rd ?_
      exact X.done1 [1, 0] Try.results129 (RV.tm rfl) ⟨_, _, rfl, rfl, rfl⟩ (by rfl) (.inl rfl)
    · replace h := ifF c8 h
      refine TL.nil (X.seq ?_)
      refine T.no rfl (decide_eq_false c8) ?_
      refine T.seq (T.region rfl ?_)
      obtain ⟨⟨x11, st12⟩, hx13, h⟩ := Option.bind_eq_some_iff.1 h
      try dsimp only at h
      refine TL.run ft_header_ok [0, 1] rfl rfl ?_
      refine TL.c0 rfl .u (.fn Try.call64 rfl) (gLeft_spec g st5 _ hx13) (fun _ hs => (Src.triv _)) rfl ?_
      replace h := guard_some h
      obtain ⟨c14, h⟩ := h
      refine TL.q rfl .u (Ex.quo rfl rfl (by omega) c14) rfl ?_
      refine TL.run ft_header_ok [4, 5] rfl rfl ?_
      by_cases c15 : x1 > (x11 / 2)
      · replace h := ifT c15 h
        refine TL.nil (X.seq ?_)
        refine T.yes rfl (decide_eq_true c15) ?_
        refine T.seq (T.region rfl ?_)
        obtain ⟨st16, hx17, h⟩ := Option.bind_eq_some_iff.1 h
        refine TL.run ft_header_ok [0] rfl rfl ?_
        refine TL.c0 rfl .u (.fn Try.call62 rfl) (gIFail_spec g st12 1 _ hx17) (fun _ hs => (Src.triv _)) rfl ?_
        refine TL.nil (X.seq (T.seq (T.region rfl ?_)))
        refine TL.run ft_header_ok [0] rfl rfl ?_
        obtain rfl := Option.some.inj h
        refine TL.nil (X.seq (T.ret (X.rb (X.rs ?_))))
        refine X.nilrd 3 Hd_rd ?_
        exact X.done1 [1, 0] Try.results129 (RV.tm rfl) ⟨_, _, rfl, rfl, rfl⟩ (by rfl) (.inl rfl)
      · replace h := ifF c15 h
        refine TL.nil (X.seq ?_)
        refine T.no rfl (decide_eq_false c15) ?_
        refine T.skip (X.blk (X.seq (T.seq (T.region rfl ?_))))
        refine TL.run ft_header_ok [0] rfl rfl ?_
        refine TL.nil (X.seq (T.seq (T.seq (T.region rfl ?_))))
        refine TL.run ft_header_ok [0, 1] rfl rfl ?_
        refine TL.nil (X.seq (T.block ?_))
        refine T.nilrow 81 3 Hd_rd ?_
        refine T.nilrow 81 3 Hd_rd ?_
        obtain ⟨E26, hE27, hO28⟩ := Option.bind_eq_some_iff.1 h
        refine T.lp (fun m e Rs => ∃ (y18 : List Hd) (A19 : Option Addr) (c20 : Nat) (y21 : List Hd) (A22 : Option Addr) (c23 : Nat) (k24 : Nat) (st25 : I), e = [(0, .pointer (some ⟨g, 0, none⟩)), (2, .slice A19 y18.length c20), (4, .slice A22 y21.length c23), (25, .int .i64 x1), (26, .int .i64 (k24 : Int))] ∧ Rs = [OwnR 81 3 Hd_rd (.slice A19 y18.length c20) y18, OwnR 81 3 Hd_rd (.slice A22 y21.length c23) y21, InR g st25] ∧ f_header_Read_l1 x1 m y18 y21 k24 st25 = some E26) ((x1).toNat + 1) [0, 0, 0] ⟨[], none, 0, [], none, 0, 0, st12, rfl, rfl, by exact hE27⟩ (by rfl) (by rfl) ?_
        rintro m29 _ _ ⟨y18, A19, c20, y21, A22, c23, k24, st25, rfl, rfl, hl31⟩
        clear hE27 h
        cases m29 with
        | zero =>
          rw [f_header_Read_l1] at hl31
          cases hl31
        | succ m29 =>
          have h := hl31
          clear hl31
          rw [f_header_Read_l1] at h
          refine T.seq (T.region rfl ?_)
          refine TL.run ft_header_ok [0] rfl rfl ?_
          by_cases c33 : (k24 : Int) < x1
          · replace h := ifT c33 h
            refine TL.nil (X.seq (T.seq ?_))
            refine T.yes rfl (decide_eq_true c33) ?_
            refine T.skip (X.seq (T.seq (T.block (T.seq (T.region rfl ?_)))))
            obtain ⟨⟨x34, st35⟩, hx36, h⟩ := Option.bind_eq_some_iff.1 h
            try dsimp only at h
            refine TL.run ft_header_ok [0] rfl rfl ?_
            refine TL.c2 rfl .u (.fn Try.call125 rfl) (gName_spec g st25 _ hx36) (fun _ hs => (Src.triv _)) rfl ?_
            refine TL.run ft_header_ok [2] rfl rfl ?_
            refine TL.nil (X.seq (T.seq (T.region rfl ?_)))
            obtain ⟨⟨x37, st38⟩, hx39, h⟩ := Option.bind_eq_some_iff.1 h
            try dsimp only at h
            refine TL.run ft_header_ok [0, 1, 2] rfl rfl ?_
            refine TL.c2 rfl .u (.fn Try.call128 rfl) (gVaried_spec g st35 _ hx39) (fun _ hs => (Src.triv _)) rfl ?_
            refine TL.q rfl .u (Ex.bld (cells := #[.string (bsOf x34), .bool x37.null, .string (bsOf x37.data)]) bok_header_81 rfl (by kernel_rfl)) rfl ?_
            refine TL.lit (cells := #[.string (bsOf x34), .bool x37.null, .string (bsOf x37.data)]) rfl .u sok_header_31_1 rfl (by kernel_rfl) rfl (fun b40 => ?_)
            replace h := guard_some h
            obtain ⟨c41, h⟩ := h
            refine TL.app1 1 rfl .u (us := [.string (bsOf x34), .bool x37.null, .string (bsOf x37.data)]) (u := (⟨x34, x37⟩ : Hd)) (l := y21) (E := Hd_rd) Try.underlying31 inf_header_81 rfl (by decide) rfl rfl rfl rfl rfl rfl (fun _ _ => rfl) (by have hq := c41; omega) (by have hq := c41; omega) rfl (fun A42 c43 => ?_)
            refine TL.sel [0, 0, 0] rfl ?_
            refine TL.run ft_header_ok [7] rfl rfl ?_
            refine TL.nil (X.seq (T.seq (T.region rfl ?_)))
            obtain ⟨⟨x44, st45⟩, hx46, h⟩ := Option.bind_eq_some_iff.1 h
            try dsimp only at h
            refine TL.run ft_header_ok [0] rfl rfl ?_
            refine TL.c2 rfl .u (.fn Try.call61 rfl) (gErr_spec g st38 _ hx46) (fun _ hs => (Src.triv _)) rfl ?_
            refine TL.run ft_header_ok [2] rfl rfl ?_
            by_cases c47 : x44 = 0
            · replace h := ifT c47 h
              refine TL.nil (X.seq ?_)
              refine T.no rfl (bn_f (decide_eq_true c47)) ?_
              replace h := guard_some h
              obtain ⟨c48, h⟩ := h
              refine T.skip (X.blk (X.seq (T.region rfl ?_)))
              refine TL.q rfl .u (Ex.add rfl rfl c48) rfl ?_
              refine TL.run ft_header_ok [1] rfl rfl ?_
              exact TL.nil (X.back (m' := m29) [0, 0, 0] (by omega) ⟨y18, A19, c20, (y21 ++ [(⟨x34, x37⟩ : Hd)]), A42, c43, k24 + 1, st45, rfl, rfl, h⟩ (by rfl) (by rfl))
            · replace h := ifF c47 h
              refine TL.nil (X.seq ?_)
              refine T.yes rfl (bn_t (decide_eq_false c47)) ?_
              refine T.seq (T.region rfl ?_)
              refine TL.run ft_header_ok [0] rfl rfl ?_
              obtain rfl := Option.some.inj h
              replace h := hO28
              clear hO28
              try dsimp only at h
              obtain rfl := Option.some.inj h
              refine TL.nil (X.seq (T.ret (X.rb (X.rs (X.rs (X.rb (X.rs ?_)))))))
              refine X.nilrd 3 Hd_rd ?_
              exact X.done1 [3, 0] Try.results129 (RV.tm rfl) ⟨_, _, rfl, rfl, rfl⟩ (by rfl) (.inl rfl)
          · replace h := ifF c33 h
            refine TL.nil (X.seq (T.seq ?_))
            refine T.no rfl (decide_eq_false c33) ?_
            obtain rfl := Option.some.inj h
            replace h := hO28
            clear hO28
            try dsimp only at h
            refine T.exit (X.exs (X.exs (X.ex (X.seq (T.seq (T.region rfl ?_))))))
            refine TL.run ft_header_ok [0, 1] rfl rfl ?_
            obtain rfl := Option.some.inj h
            refine TL.nil (X.seq (T.ret ?_))
            refine X.shut (by decide) 1 rfl ?_
            refine X.sel [0, 0, 0] rfl ?_
            exact X.done1 [2, 1] Try.results129 (RV.tm rfl) ⟨_, _, rfl, rfl, rfl⟩ (by rfl) (.inl rfl)
  · replace h := ifF c7 h
    refine TL.nil (X.seq ?_)
    refine T.yes rfl (bn_t (decide_eq_false c7)) ?_
    refine T.seq (T.region rfl ?_)
    refine TL.run ft_header_ok [0] rfl rfl ?_
    obtain rfl := Option.some.inj h
    refine TL.nil (X.seq (T.ret (X.rb (X.rs ?_))))
    refine X.nilrd 3 Hd_rd ?_
    exact X.done1 [1, 0] Try.results129 (RV.tm rfl) ⟨_, _, rfl, rfl, rfl⟩ (by rfl) (.inl rfl)
def f_header_Write_l1 : List Hd → (List UInt8 × Int) → Option (List UInt8 × Int)
  | [], st6 => some st6
  | x11 :: xs, st6 => (gPutName st6 x11.fKey).bind fun st16 => (gPutVaried st16 x11.fValue).bind fun st18 => f_header_Write_l1 xs st18
def f_header_Write (st : List UInt8 × Int) (a1 : List Hd) : Option (List UInt8 × Int) := (gPutInt st (a1.length : Int)).bind fun st3 => (f_header_Write_l1 a1 st3).bind fun st21 => some st21
set_option maxRecDepth 100000 in
set_option maxHeartbeats 4000000 in
theorem f_header_Write_spec (g : Nat) (st : List UInt8 × Int) (a1 : List Hd) (A1 : Option Addr) (c2 : Nat) (r : List UInt8 × Int) (h : f_header_Write st a1 = some r) : SpecX Try.prog 119 #[.pointer (some ⟨g, 0, none⟩), .slice A1 a1.length c2] (RX.of (sliceRd 3 Hd_rd) [.slice A1 a1.length c2] a1) (OutR g st) (fun v A' N => v = .tuple #[] ∧ A' = OutR g r ∧ N = []) := by
  refine enterA Try.func119 rfl Try.ntmps119 rfl ?_
  intro F w hX
  unfold f_header_Write at h
  refine T.seq (T.region rfl ?_)
  refine TL.run ft_header_ok [0, 1] rfl rfl ?_
  refine TL.q rfl .u (Ex.lenS rfl Try.runUnderlying31) rfl ?_
  obtain ⟨st3, hx4, h⟩ := Option.bind_eq_some_iff.1 h
  refine TL.c0 rfl .u (.fn Try.call117 rfl) (gPutInt_spec g st (a1.length : Int) _ hx4) (fun _ hs => (Src.triv _)) rfl ?_
  refine TL.nil (X.seq (T.seq (T.region rfl ?_)))
  refine TL.run ft_header_ok [0] rfl rfl ?_
  refine TL.q rfl .u (Ex.lenS rfl Try.runUnderlying31) rfl ?_
  refine TL.run ft_header_ok [2] rfl rfl ?_
  refine TL.nil (X.seq (T.block ?_))
  obtain ⟨E7, hE8, hO9⟩ := Option.bind_eq_some_iff.1 h
  have hk13len := RX.len_le hX
  refine T.lp (fun m e Rs => ∃ (k5 : Nat) (st6 : List UInt8 × Int), k5 + m = a1.length ∧ e = [(0, .pointer (some ⟨g, 0, none⟩)), (10, .slice A1 a1.length c2), (11, .int .i64 (a1.length : Int)), (12, .int .i64 (k5 : Int))] ∧ Rs = [OutR g st6] ∧ f_header_Write_l1 (a1.drop k5) st6 = some E7) (a1.length) [0] ⟨0, st3, by simp, rfl, rfl, by rw [List.drop_zero]; exact hE8⟩ (by rfl) (by rfl) ?_
  rintro m10 _ _ ⟨k5, st6, hk13, rfl, rfl, hl12⟩
  clear hE8 h
  cases m10 with
  | zero =>
    have h := hl12
    clear hl12
    rw [List.drop_of_length_le (by omega), f_header_Write_l1] at h
    have hk13ge : ¬ ((k5 : Int) < (a1.length : Int)) := by omega
    refine T.seq (T.region rfl ?_)
    refine TL.run ft_header_ok [0] rfl rfl ?_
    refine TL.nil (X.seq (T.seq ?_))
    refine T.no rfl (decide_eq_false hk13ge) ?_
    obtain rfl := Option.some.inj h
    replace h := hO9
    clear hO9
    try dsimp only at h
    obtain rfl := Option.some.inj h
    exact T.exit (X.exs (X.exs (X.ex (X.done0 [0] Try.results119 ⟨rfl, rfl, rfl⟩ (by rfl) (.inr rfl)))))
  | succ m10 =>
    have h := hl12
    clear hl12
    obtain ⟨x11, hxx11⟩ : ∃ x, a1[k5]? = some x := ⟨_, List.getElem?_eq_getElem (by omega)⟩
    rw [drop_cons hxx11, f_header_Write_l1] at h
    have hk13lt : (k5 : Int) < (a1.length : Int) := by omega
    refine T.seq (T.region rfl ?_)
    refine TL.run ft_header_ok [0] rfl rfl ?_
    refine TL.nil (X.seq (T.seq ?_))
    refine T.yes rfl (decide_eq_true hk13lt) ?_
    obtain ⟨gz14, oz14, rfl, z14cs, z14cl, z14cc, z14nf, z14r⟩ := RX.elem (by decide) hX hxx11
    obtain ⟨z14S, z14r, z14rr⟩ := z14r
    obtain rfl : z14cs = [.string (bsOf x11.fKey), .bool x11.fValue.null, .string (bsOf x11.fValue.data)] := z14r
    refine T.skip (X.seq (T.seq (T.block (T.seq (T.region rfl ?_)))))
    refine TL.q rfl .u (Ex.ixS (k := k5) rfl rfl rfl Try.runUnderlying31 Try.sizeOf81 (List.getElem?_eq_some_iff.1 hxx11).1) rfl ?_
    refine TL.q rfl .u (Ex.oS (us := [.string (bsOf x11.fKey), .bool x11.fValue.null, .string (bsOf x11.fValue.data)]) 0 rfl Try.isAgg81 Try.sizeOf81 z14nf z14cc rfl rfl rfl) rfl ?_
    refine TL.alloc rfl .u Try.zeroValue81 rfl (fun b15 => ?_)
    refine TL.st0 (cs' := #[.string (bsOf x11.fKey), .bool x11.fValue.null, .string (bsOf x11.fValue.data)]) rfl .u rfl rfl Try.sizeOf81 rfl rfl rfl rfl ?_
    refine TL.nil (X.seq (T.seq (T.region rfl ?_)))
    refine TL.run ft_header_ok [0, 1] rfl rfl ?_
    refine TL.q rfl .u (Ex.b1 0 rfl Try.isAgg9 rfl rfl) rfl ?_
    obtain ⟨st16, hx17, h⟩ := Option.bind_eq_some_iff.1 h
    refine TL.c1 rfl .u (.fn Try.call82 rfl) (gPutName_spec g st6 x11.fKey _ hx17) (fun _ hs => (Src.triv _)) rfl ?_
    refine TL.nil (X.seq (T.region rfl ?_))
    refine TL.run ft_header_ok [0, 1] rfl rfl ?_
    refine TL.q rfl .u (Ex.bS (us := [.bool x11.fValue.null, .string (bsOf x11.fValue.data)]) 0 rfl Try.isAgg30 Try.sizeOf30 rfl rfl rfl) rfl ?_
    obtain ⟨st18, hx19, h⟩ := Option.bind_eq_some_iff.1 h
    refine TL.c1 rfl .u (.fn Try.call118 rfl) (gPutVaried_spec g st16 x11.fValue _ hx19) (fun _ hs => (Src.triv _)) rfl ?_
    refine TL.nil (X.blk (X.seq (T.region rfl ?_)))
    refine TL.q rfl .u (Ex.add rfl rfl (by omega)) rfl ?_
    refine TL.run ft_header_ok [1] rfl rfl ?_
    exact TL.nil (X.back (m' := m10) [1] (by omega) ⟨k5 + 1, st18, by omega, rfl, rfl, h⟩ (by rfl) (by rfl))
end Go.Proofs.Ytcoppaggpbfcmaa.Sl
namespace Go.Proofs.Ytcoppaggpbfcmaa.Sl
open Go.RowKit
set_option linter.unusedVariables false
set_option linter.unusedSimpArgs false
set_option maxRecDepth 100000
def ft_record : FTab := [(33, 0, 0), (33, 1, 1), (33, 2, 2), (33, 3, 4), (33, 4, 6), (81, 1, 1)]
theorem ft_record_ok : (ft_record).OK Try.prog := ⟨FOK.mk Try.runUnderlying33 rfl Try.sizeOf3 rfl, FOK.mk Try.runUnderlying33 rfl Try.sizeOf3 rfl, FOK.mk Try.runUnderlying33 rfl Try.sizeOf30 rfl, FOK.mk Try.runUnderlying33 rfl Try.sizeOf30 rfl, FOK.mk Try.runUnderlying33 rfl Try.sizeOf31 rfl, FOK.mk Try.runUnderlying81 rfl Try.sizeOf30 rfl, trivial⟩
theorem bok_record_33 : BOK Try.prog 33 #[.int .i64 0, .int .i64 0, .bool false, .string ⟨#[]⟩, .bool false, .string ⟨#[]⟩, .slice none 0 0] [(0, 1), (1, 1), (2, 2), (4, 2), (6, 1)] := BOK.mk Try.zeroValue33 Try.runUnderlying33 (by intro w; simp)
theorem sok_record_183_1 : SOK Try.prog 183 30 1 2 #[.bool false, .string ⟨#[]⟩] := SOK.mk Try.runUnderlying183 Try.sizeOf30 Try.zeroValue30 (by decide) (by kernel_rfl)
theorem sok_record_183_2 : SOK Try.prog 183 30 2 2 #[.bool false, .string ⟨#[]⟩, .bool false, .string ⟨#[]⟩] := SOK.mk Try.runUnderlying183 Try.sizeOf30 Try.zeroValue30 (by decide) (by kernel_rfl)
def f_record_rights_l1 : List Bl → Bool → Option (Lp Bool Bool)
  | [], y3 => some (Lp.go y3)
  | x9 :: xs, y3 => (gRight x9).bind fun x14 => if x14 = true then (f_record_rights_l1 xs y3) else some (Lp.ret false)
def f_record_rights (a0 : List Bl) : Option (Bool) := (f_record_rights_l1 a0 false).bind fun e => match e with | .ret r => some r | .go y17 => some true
set_option maxRecDepth 100000 in
set_option maxHeartbeats 4000000 in
theorem f_record_rights_spec (a0 : List Bl) (A1 : Option Addr) (c2 : Nat) (r : Bool) (h : f_record_rights a0 = some r) : SpecX Try.prog 87 #[.slice A1 a0.length c2] (RX.of (sliceRd 2 Bl_rd) [.slice A1 a0.length c2] a0) (EmpR) (fun v A' N => v = .bool r ∧ A' = EmpR ∧ N = []) := by
  refine enterA Try.func87 rfl Try.ntmps87 rfl ?_
  intro F w hX
  unfold f_record_rights at h
  refine T.seq (T.region rfl ?_)
  refine TL.run ft_record_ok [0] rfl rfl ?_
  refine TL.nil (X.seq (T.seq (T.seq (T.region rfl ?_))))
  refine TL.run ft_record_ok [0] rfl rfl ?_
  refine TL.q rfl .u (Ex.lenS rfl Try.runUnderlying183) rfl ?_
  refine TL.run ft_record_ok [2] rfl rfl ?_
  refine TL.nil (X.seq (T.block ?_))
  obtain ⟨E5, hE6, hO7⟩ := Option.bind_eq_some_iff.1 h
  have hk11len := RX.len_le hX
  refine T.lp (fun m e Rs => ∃ (y3 : Bool) (k4 : Nat), k4 + m = a0.length ∧ e = [(2, .bool y3), (5, .slice A1 a0.length c2), (6, .int .i64 (a0.length : Int)), (7, .int .i64 (k4 : Int))] ∧ Rs = [EmpR] ∧ f_record_rights_l1 (a0.drop k4) y3 = some E5) (a0.length) [0] ⟨false, 0, by simp, rfl, rfl, by rw [List.drop_zero]; exact hE6⟩ (by rfl) (by rfl) ?_
  rintro m8 _ _ ⟨y3, k4, hk11, rfl, rfl, hl10⟩
  clear hE6 h
  cases m8 with
  | zero =>
    have h := hl10
    clear hl10
    rw [List.drop_of_length_le (by omega), f_record_rights_l1] at h
    have hk11ge : ¬ ((k4 : Int) < (a0.length : Int)) := by omega
    refine T.seq (T.region rfl ?_)
    refine TL.run ft_record_ok [0] rfl rfl ?_
    refine TL.nil (X.seq (T.seq ?_))
    refine T.no rfl (decide_eq_false hk11ge) ?_
    obtain rfl := Option.some.inj h
    replace h := hO7
    clear hO7
    try dsimp only at h
    refine T.exit (X.exs (X.exs (X.ex (X.seq (T.seq (T.region rfl ?_))))))
    refine TL.run ft_record_ok [0] rfl rfl ?_
    obtain rfl := Option.some.inj h
    exact TL.nil (X.seq (T.ret (X.done1 [0] Try.results87 (RV.tm rfl) ⟨rfl, rfl, rfl⟩ (by rfl) (.inl rfl))))
  | succ m8 =>
    have h := hl10
    clear hl10
    obtain ⟨x9, hxx9⟩ : ∃ x, a0[k4]? = some x := ⟨_, List.getElem?_eq_getElem (by omega)⟩
    rw [drop_cons hxx9, f_record_rights_l1] at h
    have hk11lt : (k4 : Int) < (a0.length : Int) := by omega
    refine T.seq (T.region rfl ?_)
    refine TL.run ft_record_ok [0] rfl rfl ?_
    refine TL.nil (X.seq (T.seq ?_))
    refine T.yes rfl (decide_eq_true hk11lt) ?_
    obtain ⟨gz12, oz12, rfl, z12cs, z12cl, z12cc, z12nf, z12r⟩ := RX.elem (by decide) hX hxx9
    obtain ⟨z12S, z12r, z12rr⟩ := z12r
    obtain rfl : z12cs = [.bool x9.null, .string (bsOf x9.data)] := z12r
    refine T.skip (X.seq (T.seq (T.block (T.seq (T.region rfl ?_)))))
    refine TL.q rfl .u (Ex.ixS (k := k4) rfl rfl rfl Try.runUnderlying183 Try.sizeOf30 (List.getElem?_eq_some_iff.1 hxx9).1) rfl ?_
    refine TL.q rfl .u (Ex.oS (us := [.bool x9.null, .string (bsOf x9.data)]) 0 rfl Try.isAgg30 Try.sizeOf30 z12nf z12cc rfl rfl rfl) rfl ?_
    refine TL.alloc rfl .u Try.zeroValue30 rfl (fun b13 => ?_)
    refine TL.st0 (cs' := #[.bool x9.null, .string (bsOf x9.data)]) rfl .u rfl rfl Try.sizeOf30 rfl rfl rfl rfl ?_
    refine TL.nil (X.seq (T.seq (T.region rfl ?_)))
    refine TL.q rfl .u (Ex.bS (us := [.bool x9.null, .string (bsOf x9.data)]) 0 rfl Try.isAgg30 Try.sizeOf30 rfl rfl rfl) rfl ?_
    obtain ⟨x14, hx15, h⟩ := Option.bind_eq_some_iff.1 h
    refine TL.ce rfl .u (.fn Try.call108 rfl) (gRight_spec x9 _ hx15) (fun _ hs => (RX.reads_triv _ _)) rfl ?_
    refine TL.run ft_record_ok [2] rfl rfl ?_
    by_cases c16 : x14 = true
    · replace h := ifT c16 h
      refine TL.nil (X.seq ?_)
      refine T.no rfl (bn_f c16) ?_
      refine T.skip (X.blk (X.seq (T.region rfl ?_)))
      refine TL.q rfl .u (Ex.add rfl rfl (by omega)) rfl ?_
      refine TL.run ft_record_ok [1] rfl rfl ?_
      exact TL.nil (X.back (m' := m8) [1] (by omega) ⟨y3, k4 + 1, by omega, rfl, rfl, h⟩ (by rfl) (by rfl))
    · replace h := ifF c16 h
      replace c16 := eq_false_of_ne_true c16
      refine TL.nil (X.seq ?_)
      refine T.yes rfl (bn_t c16) ?_
      refine T.seq (T.region rfl ?_)
      refine TL.run ft_record_ok [0] rfl rfl ?_
      obtain rfl := Option.some.inj h
      replace h := hO7
      clear hO7
      try dsimp only at h
      obtain rfl := Option.some.inj h
      exact TL.nil (X.seq (T.ret (X.rb (X.rs (X.rs (X.rb (X.rs (X.done1 [1] Try.results87 (RV.tm rfl) ⟨rfl, rfl, rfl⟩ (by rfl) (.inl rfl)))))))))
def f_record_Right_l1 : List Hd → Int → Option (Lp Int Int)
  | [], y12 => some (Lp.go y12)
  | x18 :: xs, y12 => (f_record_rights [x18.fValue]).bind fun x24 => if x24 = true then (f_record_Right_l1 xs y12) else some (Lp.ret 4)
def f_record_Right (a0 : Rec) : Option (Int) := if a0.fOffset < 0 then some 11 else ((gFits a0.fOffset 4).bind fun x5 => if x5 = true then ((f_record_rights [a0.fKey, a0.fValue]).bind fun x9 => if x9 = true then ((f_record_Right_l1 a0.fHeaders 0).bind fun e => match e with | .ret r => some r | .go y27 => some 0) else some 4) else some 11)
set_option maxRecDepth 100000 in
set_option maxHeartbeats 4000000 in
theorem f_record_Right_spec (a0 : Rec) (A1 : Option Addr) (c2 : Nat) (r : Int) (h : f_record_Right a0 = some r) : SpecX Try.prog 47 #[.agg #[.int .i64 a0.fTime, .int .i64 a0.fOffset, .bool a0.fKey.null, .string (bsOf a0.fKey.data), .bool a0.fValue.null, .string (bsOf a0.fValue.data), .slice A1 a0.fHeaders.length c2]] (RX.of (sliceRd 3 Hd_rd) [.slice A1 a0.fHeaders.length c2] a0.fHeaders) (EmpR) (fun v A' N => v = .int .i64 r ∧ A' = EmpR ∧ N = []) := by
  refine enterA Try.func47 rfl Try.ntmps47 rfl ?_
  intro F w hX
  unfold f_record_Right at h
  refine T.seq (T.region rfl ?_)
  refine TL.box rfl .u rfl rfl (fun b3 => ?_)
  refine TL.run ft_record_ok [1] rfl rfl ?_
  refine TL.nil (X.seq (T.seq (T.seq (T.region rfl ?_))))
  refine TL.run ft_record_ok [0] rfl rfl ?_
  refine TL.q rfl .u (Ex.b1 0 rfl Try.isAgg3 rfl rfl) rfl ?_
  by_cases c4 : a0.fOffset < 0
  · replace h := ifT c4 h
    refine TL.run ft_record_ok [2, 3] rfl rfl ?_
    refine TL.no rfl (.gn rfl rfl (decide_eq_true c4)) rfl ?_
    refine TL.no rfl (.gn rfl rfl (decide_eq_true c4)) rfl ?_
    refine TL.no rfl (.gn rfl rfl (decide_eq_true c4)) rfl ?_
    refine TL.no rfl (.gn rfl rfl (decide_eq_true c4)) rfl ?_
    refine TL.q rfl .u (Ex.py rfl (decide_eq_true c4) rfl) rfl ?_
    refine TL.nil (X.seq ?_)
    refine T.yes rfl rfl ?_
    refine T.seq (T.region rfl ?_)
    refine TL.run ft_record_ok [0] rfl rfl ?_
    obtain rfl := Option.some.inj h
    exact TL.nil (X.seq (T.ret (X.rs (X.done1 [1] Try.results47 (RV.tm rfl) ⟨rfl, rfl, rfl⟩ (by rfl) (.inl rfl)))))
  · replace h := ifF c4 h
    refine TL.run ft_record_ok [2, 3] rfl rfl ?_
    refine TL.q rfl (.g rfl rfl (decide_eq_false c4)) (Ex.ft ft_record_ok rfl) rfl ?_
    refine TL.q rfl (.g rfl rfl (decide_eq_false c4)) (Ex.b1 0 rfl Try.isAgg3 rfl rfl) rfl ?_
    obtain ⟨x5, hx6, h⟩ := Option.bind_eq_some_iff.1 h
    refine TL.ce rfl (.g rfl rfl (decide_eq_false c4)) (.fn Try.call86 rfl) (SpecX.pure (fun w => gFits_spec a0.fOffset 4 _ hx6 w)) (fun _ _ => RX.reads_triv _ _) rfl ?_
    refine TL.q rfl (.g rfl rfl (decide_eq_false c4)) (Ex.ft ft_record_ok rfl) rfl ?_
    refine TL.q rfl .u (Ex.pn rfl (decide_eq_false c4) rfl) rfl ?_
    by_cases c7 : x5 = true
    · replace h := ifT c7 h
      refine TL.nil (X.seq ?_)
      refine T.no rfl (bn_f c7) ?_
      refine T.skip (X.seq (T.seq (T.seq (T.region rfl ?_))))
      refine TL.run ft_record_ok [0] rfl rfl ?_
      refine TL.q rfl .u (Ex.bS (us := [.bool a0.fKey.null, .string (bsOf a0.fKey.data)]) 0 rfl Try.isAgg30 Try.sizeOf30 rfl rfl rfl) rfl ?_
      refine TL.run ft_record_ok [2] rfl rfl ?_
      refine TL.q rfl .u (Ex.bS (us := [.bool a0.fValue.null, .string (bsOf a0.fValue.data)]) 0 rfl Try.isAgg30 Try.sizeOf30 rfl rfl rfl) rfl ?_
      refine TL.lit (cells := #[.bool a0.fKey.null, .string (bsOf a0.fKey.data), .bool a0.fValue.null, .string (bsOf a0.fValue.data)]) rfl .u sok_record_183_2 rfl (by kernel_rfl) rfl (fun b8 => ?_)
      refine TL.rowOf (us := [.bool a0.fKey.null, .string (bsOf a0.fKey.data), .bool a0.fValue.null, .string (bsOf a0.fValue.data)]) (xs := [a0.fKey, a0.fValue]) (E := Bl_rd) (z := 2) rfl (Nat.le_of_ble_eq_true rfl) (fun _ => ⟨rfl, rfl, ⟨rfl, rfl, rfl⟩⟩) ?_
      obtain ⟨x9, hx10, h⟩ := Option.bind_eq_some_iff.1 h
      refine TL.ce rfl .u (.fn Try.call87 rfl) (f_record_rights_spec [a0.fKey, a0.fValue] _ _ _ hx10) (fun _ hs => (SrcE.res 0 hs rfl (fun w G h => own_reads (by decide) w G h))) rfl ?_
      refine TL.run ft_record_ok [6] rfl rfl ?_
      by_cases c11 : x9 = true
      · replace h := ifT c11 h
        refine TL.nil (X.seq ?_)
        refine T.no rfl (bn_f c11) ?_
        refine T.skip (X.seq (T.seq (T.seq (T.region rfl ?_))))
        refine TL.run ft_record_ok [0] rfl rfl ?_
        refine TL.q rfl .u (Ex.b1 1 rfl Try.isAgg31 rfl rfl) rfl ?_
        refine TL.q rfl .u (Ex.lenS rfl Try.runUnderlying31) rfl ?_
        refine TL.run ft_record_ok [3] rfl rfl ?_
        refine TL.nil (X.seq (T.block ?_))
        obtain ⟨E14, hE15, hO16⟩ := Option.bind_eq_some_iff.1 h
        have hk20len := RX.len_le hX
        refine T.lp (fun m e Rs => ∃ (y12 : Int) (k13 : Nat), k13 + m = a0.fHeaders.length ∧ e = [(2, .int .i64 y12), (22, .slice A1 a0.fHeaders.length c2), (23, .int .i64 (a0.fHeaders.length : Int)), (24, .int .i64 (k13 : Int))] ∧ Rs = [OwnR 30 2 Bl_rd (.slice (some ⟨b8, 0, none⟩) 2 2) [a0.fKey, a0.fValue], BlkR b3 33 #[.int .i64 a0.fTime, .int .i64 a0.fOffset, .bool a0.fKey.null, .string (bsOf a0.fKey.data), .bool a0.fValue.null, .string (bsOf a0.fValue.data), .slice A1 a0.fHeaders.length c2], EmpR] ∧ f_record_Right_l1 (a0.fHeaders.drop k13) y12 = some E14) (a0.fHeaders.length) [0, 0, 0] ⟨0, 0, by simp, rfl, rfl, by rw [List.drop_zero]; exact hE15⟩ (by rfl) (by rfl) ?_
        rintro m17 _ _ ⟨y12, k13, hk20, rfl, rfl, hl19⟩
        clear hE15 h
        cases m17 with
        | zero =>
          have h := hl19
          clear hl19
          rw [List.drop_of_length_le (by omega), f_record_Right_l1] at h
          have hk20ge : ¬ ((k13 : Int) < (a0.fHeaders.length : Int)) := by omega
          refine T.seq (T.region rfl ?_)
          refine TL.run ft_record_ok [0] rfl rfl ?_
          refine TL.nil (X.seq (T.seq ?_))
          refine T.no rfl (decide_eq_false hk20ge) ?_
          obtain rfl := Option.some.inj h
          replace h := hO16
          clear hO16
          try dsimp only at h
          refine T.exit (X.exs (X.exs (X.ex (X.seq (T.seq (T.region rfl ?_))))))
          refine TL.run ft_record_ok [0] rfl rfl ?_
          obtain rfl := Option.some.inj h
          exact TL.nil (X.seq (T.ret (X.done1 [2] Try.results47 (RV.tm rfl) ⟨rfl, rfl, rfl⟩ (by rfl) (.inl rfl))))
        | succ m17 =>
          have h := hl19
          clear hl19
          obtain ⟨x18, hxx18⟩ : ∃ x, a0.fHeaders[k13]? = some x := ⟨_, List.getElem?_eq_getElem (by omega)⟩
          rw [drop_cons hxx18, f_record_Right_l1] at h
          have hk20lt : (k13 : Int) < (a0.fHeaders.length : Int) := by omega
          refine T.seq (T.region rfl ?_)
          refine TL.run ft_record_ok [0] rfl rfl ?_
          refine TL.nil (X.seq (T.seq ?_))
          refine T.yes rfl (decide_eq_true hk20lt) ?_
          obtain ⟨gz21, oz21, rfl, z21cs, z21cl, z21cc, z21nf, z21r⟩ := RX.elem (by decide) hX hxx18
          obtain ⟨z21S, z21r, z21rr⟩ := z21r
          obtain rfl : z21cs = [.string (bsOf x18.fKey), .bool x18.fValue.null, .string (bsOf x18.fValue.data)] := z21r
          refine T.skip (X.seq (T.seq (T.block (T.seq (T.region rfl ?_)))))
          refine TL.q rfl .u (Ex.ixS (k := k13) rfl rfl rfl Try.runUnderlying31 Try.sizeOf81 (List.getElem?_eq_some_iff.1 hxx18).1) rfl ?_
          refine TL.q rfl .u (Ex.oS (us := [.string (bsOf x18.fKey), .bool x18.fValue.null, .string (bsOf x18.fValue.data)]) 0 rfl Try.isAgg81 Try.sizeOf81 z21nf z21cc rfl rfl rfl) rfl ?_
          refine TL.alloc rfl .u Try.zeroValue81 rfl (fun b22 => ?_)
          refine TL.st0 (cs' := #[.string (bsOf x18.fKey), .bool x18.fValue.null, .string (bsOf x18.fValue.data)]) rfl .u rfl rfl Try.sizeOf81 rfl rfl rfl rfl ?_
          refine TL.nil (X.seq (T.seq (T.region rfl ?_)))
          refine TL.run ft_record_ok [0] rfl rfl ?_
          refine TL.q rfl .u (Ex.bS (us := [.bool x18.fValue.null, .string (bsOf x18.fValue.data)]) 0 rfl Try.isAgg30 Try.sizeOf30 rfl rfl rfl) rfl ?_
          refine TL.lit (cells := #[.bool x18.fValue.null, .string (bsOf x18.fValue.data)]) rfl .u sok_record_183_1 rfl (by rfl) rfl (fun b23 => ?_)
          refine TL.rowOf (us := [.bool x18.fValue.null, .string (bsOf x18.fValue.data)]) (xs := [x18.fValue]) (E := Bl_rd) (z := 2) rfl (Nat.le_of_ble_eq_true rfl) (fun _ => ⟨rfl, rfl, rfl⟩) ?_
          obtain ⟨x24, hx25, h⟩ := Option.bind_eq_some_iff.1 h
          refine TL.ce rfl .u (.fn Try.call87 rfl) (f_record_rights_spec [x18.fValue] _ _ _ hx25) (fun _ hs => (SrcE.res 0 hs rfl (fun w G h => own_reads (by decide) w G h))) rfl ?_
          refine TL.run ft_record_ok [4] rfl rfl ?_
          by_cases c26 : x24 = true
          · replace h := ifT c26 h
            refine TL.nil (X.seq ?_)
            refine T.no rfl (bn_f c26) ?_
            refine T.skip (X.blk (X.seq (T.region rfl ?_)))
            refine TL.q rfl .u (Ex.add rfl rfl (by omega)) rfl ?_
            refine TL.run ft_record_ok [1] rfl rfl ?_
            exact TL.nil (X.back (m' := m17) [2, 2, 2] (by omega) ⟨y12, k13 + 1, by omega, rfl, rfl, h⟩ (by rfl) (by rfl))
          · replace h := ifF c26 h
            replace c26 := eq_false_of_ne_true c26
            refine TL.nil (X.seq ?_)
            refine T.yes rfl (bn_t c26) ?_
            refine T.seq (T.region rfl ?_)
            refine TL.run ft_record_ok [0] rfl rfl ?_
            obtain rfl := Option.some.inj h
            replace h := hO16
            clear hO16
            try dsimp only at h
            obtain rfl := Option.some.inj h
            exact TL.nil (X.seq (T.ret (X.rb (X.rs (X.rs (X.rb (X.rs (X.done1 [4] Try.results47 (RV.tm rfl) ⟨rfl, rfl, rfl⟩ (by rfl) (.inl rfl)))))))))
      · replace h := ifF c11 h
        replace c11 := eq_false_of_ne_true c11
        refine TL.nil (X.seq ?_)
        refine T.yes rfl (bn_t c11) ?_
        refine T.seq (T.region rfl ?_)
        refine TL.run ft_record_ok [0] rfl rfl ?_
        obtain rfl := Option.some.inj h
        exact TL.nil (X.seq (T.ret (X.rs (X.done1 [2] Try.results47 (RV.tm rfl) ⟨rfl, rfl, rfl⟩ (by rfl) (.inl rfl)))))
    · replace h := ifF c7 h
      replace c7 := eq_false_of_ne_true c7
      refine TL.nil (X.seq ?_)
      refine T.yes rfl (bn_t c7) ?_
      refine T.seq (T.region rfl ?_)
      refine TL.run ft_record_ok [0] rfl rfl ?_
      obtain rfl := Option.some.inj h
      exact TL.nil (X.seq (T.ret (X.rs (X.done1 [1] Try.results47 (RV.tm rfl) ⟨rfl, rfl, rfl⟩ (by rfl) (.inl rfl)))))
def f_record_Read (st : I)  : Option (Rec × I) := (gName st).bind fun (x2, st3) => (gErr st3).bind fun (x5, st6) => if x5 = 0 then ((gNew x2).bind fun st9 => (gInt st9 1).bind fun (x12, st13) => if x12 = 0 then ((gVLong st13).bind fun (x16, st17) => (gVInt st17).bind fun (x19, st20) => if x19 < 0 then ((gIFail st20 11).bind fun st24 => (gVaried st24).bind fun (x26, st27) => (gVaried st27).bind fun (x29, st30) => (f_header_Read st30).bind fun (x32, st35) => (gClose st35).bind fun (x37, st38) => if x37 = 0 then (some ((⟨x16, x19, x26, x29, x32⟩ : Rec), st6)) else ((gIFail st6 x37).bind fun st41 => some ((⟨0, 0, (⟨false, []⟩ : Bl), (⟨false, []⟩ : Bl), []⟩ : Rec), st41))) else ((gVaried st20).bind fun (x43, st44) => (gVaried st44).bind fun (x46, st47) => (f_header_Read st47).bind fun (x49, st52) => (gClose st52).bind fun (x54, st55) => if x54 = 0 then (some ((⟨x16, x19, x43, x46, x49⟩ : Rec), st6)) else ((gIFail st6 x54).bind fun st58 => some ((⟨0, 0, (⟨false, []⟩ : Bl), (⟨false, []⟩ : Bl), []⟩ : Rec), st58)))) else ((gIFail st13 8).bind fun st60 => (gVLong st60).bind fun (x62, st63) => (gVInt st63).bind fun (x65, st66) => if x65 < 0 then ((gIFail st66 11).bind fun st70 => (gVaried st70).bind fun (x72, st73) => (gVaried st73).bind fun (x75, st76) => (f_header_Read st76).bind fun (x78, st81) => (gClose st81).bind fun (x83, st84) => if x83 = 0 then (some ((⟨x62, x65, x72, x75, x78⟩ : Rec), st6)) else ((gIFail st6 x83).bind fun st87 => some ((⟨0, 0, (⟨false, []⟩ : Bl), (⟨false, []⟩ : Bl), []⟩ : Rec), st87))) else ((gVaried st66).bind fun (x89, st90) => (gVaried st90).bind fun (x92, st93) => (f_header_Read st93).bind fun (x95, st98) => (gClose st98).bind fun (x100, st101) => if x100 = 0 then (some ((⟨x62, x65, x89, x92, x95⟩ : Rec), st6)) else ((gIFail st6 x100).bind fun st104 => some ((⟨0, 0, (⟨false, []⟩ : Bl), (⟨false, []⟩ : Bl), []⟩ : Rec), st104))))) else (some ((⟨0, 0, (⟨false, []⟩ : Bl), (⟨false, []⟩ : Bl), []⟩ : Rec), st6))
set_option maxRecDepth 100000 in
set_option maxHeartbeats 4000000 in
theorem f_record_Read_spec (g : Nat) (st : I)  (r : Rec × I) (h : f_record_Read st  = some r) : SpecX Try.prog 102 #[.pointer (some ⟨g, 0, none⟩)] .triv (InR g st) (fun v A' N => ∃ (A106 : Option Addr) (c107 : Nat), v = .agg #[.int .i64 r.1.fTime, .int .i64 r.1.fOffset, .bool r.1.fKey.null, .string (bsOf r.1.fKey.data), .bool r.1.fValue.null, .string (bsOf r.1.fValue.data), .slice A106 r.1.fHeaders.length c107] ∧ A' = InR g r.2 ∧ N = [RdR (sliceRd 3 Hd_rd) [.slice A106 r.1.fHeaders.length c107] r.1.fHeaders]) := by
  refine enterA Try.func102 rfl Try.ntmps102 rfl ?_
  intro F w hX
  unfold f_record_Read at h
  refine T.seq (T.region rfl ?_)
  refine TL.alloc rfl .u Try.zeroValue33 rfl (fun b1 => ?_)
  refine TL.nil (X.seq (T.seq (T.region rfl ?_)))
  obtain ⟨⟨x2, st3⟩, hx4, h⟩ := Option.bind_eq_some_iff.1 h
  try dsimp only at h
  refine TL.run ft_record_ok [0] rfl rfl ?_
  refine TL.c1 rfl .u (.fn Try.call125 rfl) (gName_spec g st _ hx4) (fun _ hs => (Src.triv _)) rfl ?_
  refine TL.run ft_record_ok [2] rfl rfl ?_
  refine TL.nil (X.seq (T.seq (T.seq (T.region rfl ?_))))
  obtain ⟨⟨x5, st6⟩, hx7, h⟩ := Option.bind_eq_some_iff.1 h
  try dsimp only at h
  refine TL.run ft_record_ok [0] rfl rfl ?_
  refine TL.c1 rfl .u (.fn Try.call61 rfl) (gErr_spec g st3 _ hx7) (fun _ hs => (Src.triv _)) rfl ?_
  refine TL.run ft_record_ok [2] rfl rfl ?_
  by_cases c8 : x5 = 0
  · replace h := ifT c8 h
    refine TL.nil (X.seq ?_)
    refine T.no rfl (bn_f (decide_eq_true c8)) ?_
    refine T.skip (X.seq (T.seq (T.region rfl ?_)))
    obtain ⟨st9, hx10, h⟩ := Option.bind_eq_some_iff.1 h
    refine TL.run ft_record_ok [0] rfl rfl ?_
    refine TL.cge rfl .u (.fn Try.call20 rfl) (gNew_spec x2 _ hx10) (fun _ hs => (RX.reads_triv _ _)) rfl ?_
    rintro _ _ _ ⟨b11, rfl, rfl, rfl⟩
    refine TL.sel [0, 0, 0] rfl ?_
    refine TL.run ft_record_ok [2] rfl rfl ?_
    refine TL.nil (X.seq (T.seq (T.seq (T.region rfl ?_))))
    obtain ⟨⟨x12, st13⟩, hx14, h⟩ := Option.bind_eq_some_iff.1 h
    try dsimp only at h
    refine TL.run ft_record_ok [0] rfl rfl ?_
    refine TL.c0 rfl .u (.fn Try.call71 rfl) (gInt_spec b11 st9 1 _ hx14) (fun _ hs => (Src.triv _)) rfl ?_
    refine TL.run ft_record_ok [2] rfl rfl ?_
    by_cases c15 : x12 = 0
    · replace h := ifT c15 h
      refine TL.nil (X.seq ?_)
      refine T.no rfl (bn_f (decide_eq_true c15)) ?_
      refine T.skip (X.seq (T.seq (T.region rfl ?_)))
      obtain ⟨⟨x16, st17⟩, hx18, h⟩ := Option.bind_eq_some_iff.1 h
      try dsimp only at h
      refine TL.run ft_record_ok [0] rfl rfl ?_
      refine TL.c0 rfl .u (.fn Try.call126 rfl) (gVLong_spec b11 st13 _ hx18) (fun _ hs => (Src.triv _)) rfl ?_
      obtain ⟨⟨x19, st20⟩, hx21, h⟩ := Option.bind_eq_some_iff.1 h
      try dsimp only at h
      refine TL.run ft_record_ok [2] rfl rfl ?_
      refine TL.c0 rfl .u (.fn Try.call127 rfl) (gVInt_spec b11 st17 _ hx21) (fun _ hs => (Src.triv _)) rfl ?_
      refine TL.q rfl .u (Ex.bld (cells := #[.int .i64 x16, .int .i64 x19, .bool false, .string ⟨#[]⟩, .bool false, .string ⟨#[]⟩, .slice none 0 0]) bok_record_33 rfl (by kernel_rfl)) rfl ?_
      refine TL.alloc rfl .u Try.zeroValue33 rfl (fun b22 => ?_)
      refine TL.st0 (cs' := #[.int .i64 x16, .int .i64 x19, .bool false, .string ⟨#[]⟩, .bool false, .string ⟨#[]⟩, .slice none 0 0]) rfl .u rfl rfl Try.sizeOf33 rfl rfl rfl rfl ?_
      refine TL.nil (X.seq (T.seq (T.seq (T.region rfl ?_))))
      refine TL.run ft_record_ok [0] rfl rfl ?_
      refine TL.q rfl .u (Ex.b1 0 rfl Try.isAgg3 rfl rfl) rfl ?_
      refine TL.run ft_record_ok [2] rfl rfl ?_
      by_cases c23 : x19 < 0
      · replace h := ifT c23 h
        refine TL.nil (X.seq ?_)
        refine T.yes rfl (decide_eq_true c23) ?_
        refine T.region rfl ?_
        obtain ⟨st24, hx25, h⟩ := Option.bind_eq_some_iff.1 h
        refine TL.run ft_record_ok [0] rfl rfl ?_
        refine TL.c1 rfl .u (.fn Try.call62 rfl) (gIFail_spec b11 st20 11 _ hx25) (fun _ hs => (Src.triv _)) rfl ?_
        refine TL.nil (X.seq (T.seq (T.region rfl ?_)))
        obtain ⟨⟨x26, st27⟩, hx28, h⟩ := Option.bind_eq_some_iff.1 h
        try dsimp only at h
        refine TL.run ft_record_ok [0] rfl rfl ?_
        refine TL.c1 rfl .u (.fn Try.call128 rfl) (gVaried_spec b11 st24 _ hx28) (fun _ hs => (Src.triv _)) rfl ?_
        refine TL.run ft_record_ok [2] rfl rfl ?_
        refine TL.st0 (cs' := #[.int .i64 x16, .int .i64 x19, .bool x26.null, .string (bsOf x26.data), .bool false, .string ⟨#[]⟩, .slice none 0 0]) rfl .u rfl rfl Try.sizeOf30 rfl rfl rfl rfl ?_
        refine TL.nil (X.seq (T.seq (T.region rfl ?_)))
        obtain ⟨⟨x29, st30⟩, hx31, h⟩ := Option.bind_eq_some_iff.1 h
        try dsimp only at h
        refine TL.run ft_record_ok [0] rfl rfl ?_
        refine TL.c1 rfl .u (.fn Try.call128 rfl) (gVaried_spec b11 st27 _ hx31) (fun _ hs => (Src.triv _)) rfl ?_
        refine TL.run ft_record_ok [2] rfl rfl ?_
        refine TL.st0 (cs' := #[.int .i64 x16, .int .i64 x19, .bool x26.null, .string (bsOf x26.data), .bool x29.null, .string (bsOf x29.data), .slice none 0 0]) rfl .u rfl rfl Try.sizeOf30 rfl rfl rfl rfl ?_
        refine TL.nil (X.seq (T.seq (T.region rfl ?_)))
        obtain ⟨⟨x32, st35⟩, hx36, h⟩ := Option.bind_eq_some_iff.1 h
        try dsimp only at h
        refine TL.run ft_record_ok [0] rfl rfl ?_
        refine TL.cg1 rfl .u (.fn Try.call129 rfl) (f_header_Read_spec b11 st30 _ hx36) (fun _ hs => (Src.triv _)) rfl ?_
        rintro _ _ _ ⟨A33, c34, rfl, rfl, rfl⟩
        refine TL.sel [0, 0, 0, 0, 0] rfl ?_
        refine TL.run ft_record_ok [2] rfl rfl ?_
        refine TL.st1 (cs' := #[.int .i64 x16, .int .i64 x19, .bool x26.null, .string (bsOf x26.data), .bool x29.null, .string (bsOf x29.data), .slice A33 x32.length c34]) rfl .u rfl rfl Try.sizeOf31 rfl rfl rfl rfl ?_
        refine TL.nil (X.seq (T.seq (T.seq (T.region rfl ?_))))
        obtain ⟨⟨x37, st38⟩, hx39, h⟩ := Option.bind_eq_some_iff.1 h
        try dsimp only at h
        refine TL.run ft_record_ok [0] rfl rfl ?_
        refine TL.c2 rfl .u (.fn Try.call22 rfl) (gClose_spec b11 st35 _ hx39) (fun _ hs => (Src.triv _)) rfl ?_
        refine TL.run ft_record_ok [2] rfl rfl ?_
        refine TL.nil (X.seq (T.seq (T.region rfl ?_)))
        refine TL.run ft_record_ok [0, 1] rfl rfl ?_
        by_cases c40 : x37 = 0
        · replace h := ifT c40 h
          refine TL.nil (X.seq ?_)
          refine T.no rfl (bn_f (decide_eq_true c40)) ?_
          refine T.skip (X.seq (T.seq (T.region rfl ?_)))
          refine TL.q rfl .u (Ex.bS (us := [.int .i64 x16, .int .i64 x19, .bool x26.null, .string (bsOf x26.data), .bool x29.null, .string (bsOf x29.data), .slice A33 x32.length c34]) 1 rfl Try.isAgg33 Try.sizeOf33 rfl rfl rfl) rfl ?_
          refine TL.st3 (cs' := #[.int .i64 x16, .int .i64 x19, .bool x26.null, .string (bsOf x26.data), .bool x29.null, .string (bsOf x29.data), .slice A33 x32.length c34]) rfl .u rfl rfl Try.sizeOf33 rfl rfl rfl rfl ?_
          obtain rfl := Option.some.inj h
          exact TL.nil (X.seq (T.ret (X.done1 [4, 0] Try.results102 (RV.cS (us := #[.int .i64 x16, .int .i64 x19, .bool x26.null, .string (bsOf x26.data), .bool x29.null, .string (bsOf x29.data), .slice A33 x32.length c34]) 3 rfl Try.isAgg33 Try.sizeOf33 rfl rfl) ⟨_, _, rfl, rfl, rfl⟩ (by rfl) (.inl rfl))))
        · replace h := ifF c40 h
          refine TL.nil (X.seq ?_)
          refine T.yes rfl (bn_t (decide_eq_false c40)) ?_
          refine T.seq (T.region rfl ?_)
          obtain ⟨st41, hx42, h⟩ := Option.bind_eq_some_iff.1 h
          refine TL.run ft_record_ok [0, 1] rfl rfl ?_
          refine TL.c4 rfl .u (.fn Try.call62 rfl) (gIFail_spec g st6 x37 _ hx42) (fun _ hs => (Src.triv _)) rfl ?_
          refine TL.nil (X.seq (T.seq (T.region rfl ?_)))
          refine TL.q rfl .u (Ex.bld (cells := #[.int .i64 0, .int .i64 0, .bool false, .string ⟨#[]⟩, .bool false, .string ⟨#[]⟩, .slice none 0 0]) bok_record_33 rfl (by kernel_rfl)) rfl ?_
          refine TL.st3 (cs' := #[.int .i64 0, .int .i64 0, .bool false, .string ⟨#[]⟩, .bool false, .string ⟨#[]⟩, .slice none 0 0]) rfl .u rfl rfl Try.sizeOf33 rfl rfl rfl rfl ?_
          obtain rfl := Option.some.inj h
          refine TL.nil (X.seq (T.ret (X.rs ?_)))
          refine X.nilrd 3 Hd_rd ?_
          exact X.done1 [5, 0] Try.results102 (RV.cS (us := #[.int .i64 0, .int .i64 0, .bool false, .string ⟨#[]⟩, .bool false, .string ⟨#[]⟩, .slice none 0 0]) 4 rfl Try.isAgg33 Try.sizeOf33 rfl rfl) ⟨_, _, rfl, rfl, rfl⟩ (by rfl) (.inl rfl)
      · replace h := ifF c23 h
        refine TL.nil (X.seq ?_)
        refine T.no rfl (decide_eq_false c23) ?_
        refine T.skip (X.seq (T.seq (T.region rfl ?_)))
        obtain ⟨⟨x43, st44⟩, hx45, h⟩ := Option.bind_eq_some_iff.1 h
        try dsimp only at h
        refine TL.run ft_record_ok [0] rfl rfl ?_
        refine TL.c1 rfl .u (.fn Try.call128 rfl) (gVaried_spec b11 st20 _ hx45) (fun _ hs => (Src.triv _)) rfl ?_
        refine TL.run ft_record_ok [2] rfl rfl ?_
        refine TL.st0 (cs' := #[.int .i64 x16, .int .i64 x19, .bool x43.null, .string (bsOf x43.data), .bool false, .string ⟨#[]⟩, .slice none 0 0]) rfl .u rfl rfl Try.sizeOf30 rfl rfl rfl rfl ?_
        refine TL.nil (X.seq (T.seq (T.region rfl ?_)))
        obtain ⟨⟨x46, st47⟩, hx48, h⟩ := Option.bind_eq_some_iff.1 h
        try dsimp only at h
        refine TL.run ft_record_ok [0] rfl rfl ?_
        refine TL.c1 rfl .u (.fn Try.call128 rfl) (gVaried_spec b11 st44 _ hx48) (fun _ hs => (Src.triv _)) rfl ?_
        refine TL.run ft_record_ok [2] rfl rfl ?_
        refine TL.st0 (cs' := #[.int .i64 x16, .int .i64 x19, .bool x43.null, .string (bsOf x43.data), .bool x46.null, .string (bsOf x46.data), .slice none 0 0]) rfl .u rfl rfl Try.sizeOf30 rfl rfl rfl rfl ?_
        refine TL.nil (X.seq (T.seq (T.region rfl ?_)))
        obtain ⟨⟨x49, st52⟩, hx53, h⟩ := Option.bind_eq_some_iff.1 h
        try dsimp only at h
        refine TL.run ft_record_ok [0] rfl rfl ?_
        refine TL.cg1 rfl .u (.fn Try.call129 rfl) (f_header_Read_spec b11 st47 _ hx53) (fun _ hs => (Src.triv _)) rfl ?_
        rintro _ _ _ ⟨A50, c51, rfl, rfl, rfl⟩
        refine TL.sel [0, 0, 0, 0, 0] rfl ?_
        refine TL.run ft_record_ok [2] rfl rfl ?_
        refine TL.st1 (cs' := #[.int .i64 x16, .int .i64 x19, .bool x43.null, .string (bsOf x43.data), .bool x46.null, .string (bsOf x46.data), .slice A50 x49.length c51]) rfl .u rfl rfl Try.sizeOf31 rfl rfl rfl rfl ?_
        refine TL.nil (X.seq (T.seq (T.seq (T.region rfl ?_))))
        obtain ⟨⟨x54, st55⟩, hx56, h⟩ := Option.bind_eq_some_iff.1 h
        try dsimp only at h
        refine TL.run ft_record_ok [0] rfl rfl ?_
        refine TL.c2 rfl .u (.fn Try.call22 rfl) (gClose_spec b11 st52 _ hx56) (fun _ hs => (Src.triv _)) rfl ?_
        refine TL.run ft_record_ok [2] rfl rfl ?_
        refine TL.nil (X.seq (T.seq (T.region rfl ?_)))
        refine TL.run ft_record_ok [0, 1] rfl rfl ?_
        by_cases c57 : x54 = 0
        · replace h := ifT c57 h
          refine TL.nil (X.seq ?_)
          refine T.no rfl (bn_f (decide_eq_true c57)) ?_
          refine T.skip (X.seq (T.seq (T.region rfl ?_)))
          refine TL.q rfl .u (Ex.bS (us := [.int .i64 x16, .int .i64 x19, .bool x43.null, .string (bsOf x43.data), .bool x46.null, .string (bsOf x46.data), .slice A50 x49.length c51]) 1 rfl Try.isAgg33 Try.sizeOf33 rfl rfl rfl) rfl ?_
          refine TL.st3 (cs' := #[.int .i64 x16, .int .i64 x19, .bool x43.null, .string (bsOf x43.data), .bool x46.null, .string (bsOf x46.data), .slice A50 x49.length c51]) rfl .u rfl rfl Try.sizeOf33 rfl rfl rfl rfl ?_
          obtain rfl := Option.some.inj h
          exact TL.nil (X.seq (T.ret (X.done1 [4, 0] Try.results102 (RV.cS (us := #[.int .i64 x16, .int .i64 x19, .bool x43.null, .string (bsOf x43.data), .bool x46.null, .string (bsOf x46.data), .slice A50 x49.length c51]) 3 rfl Try.isAgg33 Try.sizeOf33 rfl rfl) ⟨_, _, rfl, rfl, rfl⟩ (by rfl) (.inl rfl))))
        · replace h := ifF c57 h
          refine TL.nil (X.seq ?_)
          refine T.yes rfl (bn_t (decide_eq_false c57)) ?_
          refine T.seq (T.region rfl ?_)
          obtain ⟨st58, hx59, h⟩ := Option.bind_eq_some_iff.1 h
          refine TL.run ft_record_ok [0, 1] rfl rfl ?_
          refine TL.c4 rfl .u (.fn Try.call62 rfl) (gIFail_spec g st6 x54 _ hx59) (fun _ hs => (Src.triv _)) rfl ?_
          refine TL.nil (X.seq (T.seq (T.region rfl ?_)))
          refine TL.q rfl .u (Ex.bld (cells := #[.int .i64 0, .int .i64 0, .bool false, .string ⟨#[]⟩, .bool false, .string ⟨#[]⟩, .slice none 0 0]) bok_record_33 rfl (by kernel_rfl)) rfl ?_
          refine TL.st3 (cs' := #[.int .i64 0, .int .i64 0, .bool false, .string ⟨#[]⟩, .bool false, .string ⟨#[]⟩, .slice none 0 0]) rfl .u rfl rfl Try.sizeOf33 rfl rfl rfl rfl ?_
          obtain rfl := Option.some.inj h
          refine TL.nil (X.seq (T.ret (X.rs ?_)))
          refine X.nilrd 3 Hd_rd ?_
          exact X.done1 [5, 0] Try.results102 (RV.cS (us := #[.int .i64 0, .int .i64 0, .bool false, .string ⟨#[]⟩, .bool false, .string ⟨#[]⟩, .slice none 0 0]) 4 rfl Try.isAgg33 Try.sizeOf33 rfl rfl) ⟨_, _, rfl, rfl, rfl⟩ (by rfl) (.inl rfl)
    · replace h := ifF c15 h
      refine TL.nil (X.seq ?_)
      refine T.yes rfl (bn_t (decide_eq_false c15)) ?_
      refine T.region rfl ?_
      obtain ⟨st60, hx61, h⟩ := Option.bind_eq_some_iff.1 h
      refine TL.run ft_record_ok [0] rfl rfl ?_
      refine TL.c0 rfl .u (.fn Try.call62 rfl) (gIFail_spec b11 st13 8 _ hx61) (fun _ hs => (Src.triv _)) rfl ?_
      refine TL.nil (X.seq (T.seq (T.region rfl ?_)))
      obtain ⟨⟨x62, st63⟩, hx64, h⟩ := Option.bind_eq_some_iff.1 h
      try dsimp only at h
      refine TL.run ft_record_ok [0] rfl rfl ?_
      refine TL.c0 rfl .u (.fn Try.call126 rfl) (gVLong_spec b11 st60 _ hx64) (fun _ hs => (Src.triv _)) rfl ?_
      obtain ⟨⟨x65, st66⟩, hx67, h⟩ := Option.bind_eq_some_iff.1 h
      try dsimp only at h
      refine TL.run ft_record_ok [2] rfl rfl ?_
      refine TL.c0 rfl .u (.fn Try.call127 rfl) (gVInt_spec b11 st63 _ hx67) (fun _ hs => (Src.triv _)) rfl ?_
      refine TL.q rfl .u (Ex.bld (cells := #[.int .i64 x62, .int .i64 x65, .bool false, .string ⟨#[]⟩, .bool false, .string ⟨#[]⟩, .slice none 0 0]) bok_record_33 rfl (by kernel_rfl)) rfl ?_
      refine TL.alloc rfl .u Try.zeroValue33 rfl (fun b68 => ?_)
      refine TL.st0 (cs' := #[.int .i64 x62, .int .i64 x65, .bool false, .string ⟨#[]⟩, .bool false, .string ⟨#[]⟩, .slice none 0 0]) rfl .u rfl rfl Try.sizeOf33 rfl rfl rfl rfl ?_
      refine TL.nil (X.seq (T.seq (T.seq (T.region rfl ?_))))
      refine TL.run ft_record_ok [0] rfl rfl ?_
      refine TL.q rfl .u (Ex.b1 0 rfl Try.isAgg3 rfl rfl) rfl ?_
      refine TL.run ft_record_ok [2] rfl rfl ?_
      by_cases c69 : x65 < 0
      · replace h := ifT c69 h
        refine TL.nil (X.seq ?_)
        refine T.yes rfl (decide_eq_true c69) ?_
        refine T.region rfl ?_
        obtain ⟨st70, hx71, h⟩ := Option.bind_eq_some_iff.1 h
        refine TL.run ft_record_ok [0] rfl rfl ?_
        refine TL.c1 rfl .u (.fn Try.call62 rfl) (gIFail_spec b11 st66 11 _ hx71) (fun _ hs => (Src.triv _)) rfl ?_
        refine TL.nil (X.seq (T.seq (T.region rfl ?_)))
        obtain ⟨⟨x72, st73⟩, hx74, h⟩ := Option.bind_eq_some_iff.1 h
        try dsimp only at h
        refine TL.run ft_record_ok [0] rfl rfl ?_
        refine TL.c1 rfl .u (.fn Try.call128 rfl) (gVaried_spec b11 st70 _ hx74) (fun _ hs => (Src.triv _)) rfl ?_
        refine TL.run ft_record_ok [2] rfl rfl ?_
        refine TL.st0 (cs' := #[.int .i64 x62, .int .i64 x65, .bool x72.null, .string (bsOf x72.data), .bool false, .string ⟨#[]⟩, .slice none 0 0]) rfl .u rfl rfl Try.sizeOf30 rfl rfl rfl rfl ?_
        refine TL.nil (X.seq (T.seq (T.region rfl ?_)))
        obtain ⟨⟨x75, st76⟩, hx77, h⟩ := Option.bind_eq_some_iff.1 h
        try dsimp only at h
        refine TL.run ft_record_ok [0] rfl rfl ?_
        refine TL.c1 rfl .u (.fn Try.call128 rfl) (gVaried_spec b11 st73 _ hx77) (fun _ hs => (Src.triv _)) rfl ?_
        refine TL.run ft_record_ok [2] rfl rfl ?_
        refine TL.st0 (cs' := #[.int .i64 x62, .int .i64 x65, .bool x72.null, .string (bsOf x72.data), .bool x75.null, .string (bsOf x75.data), .slice none 0 0]) rfl .u rfl rfl Try.sizeOf30 rfl rfl rfl rfl ?_
        refine TL.nil (X.seq (T.seq (T.region rfl ?_)))
        obtain ⟨⟨x78, st81⟩, hx82, h⟩ := Option.bind_eq_some_iff.1 h
        try dsimp only at h
        refine TL.run ft_record_ok [0] rfl rfl ?_
        refine TL.cg1 rfl .u (.fn Try.call129 rfl) (f_header_Read_spec b11 st76 _ hx82) (fun _ hs => (Src.triv _)) rfl ?_
        rintro _ _ _ ⟨A79, c80, rfl, rfl, rfl⟩
        refine TL.sel [0, 0, 0, 0, 0] rfl ?_
        refine TL.run ft_record_ok [2] rfl rfl ?_
        refine TL.st1 (cs' := #[.int .i64 x62, .int .i64 x65, .bool x72.null, .string (bsOf x72.data), .bool x75.null, .string (bsOf x75.data), .slice A79 x78.length c80]) rfl .u rfl rfl Try.sizeOf31 rfl rfl rfl rfl ?_
        refine TL.nil (X.seq (T.seq (T.seq (T.region rfl ?_))))
        obtain ⟨⟨x83, st84⟩, hx85, h⟩ := Option.bind_eq_some_iff.1 h
        try dsimp only at h
        refine TL.run ft_record_ok [0] rfl rfl ?_
        refine TL.c2 rfl .u (.fn Try.call22 rfl) (gClose_spec b11 st81 _ hx85) (fun _ hs => (Src.triv _)) rfl ?_
        refine TL.run ft_record_ok [2] rfl rfl ?_
        refine TL.nil (X.seq (T.seq (T.region rfl ?_)))
        refine TL.run ft_record_ok [0, 1] rfl rfl ?_
        by_cases c86 : x83 = 0
        · replace h := ifT c86 h
          refine TL.nil (X.seq ?_)
          refine T.no rfl (bn_f (decide_eq_true c86)) ?_
          refine T.skip (X.seq (T.seq (T.region rfl ?_)))
          refine TL.q rfl .u (Ex.bS (us := [.int .i64 x62, .int .i64 x65, .bool x72.null, .string (bsOf x72.data), .bool x75.null, .string (bsOf x75.data), .slice A79 x78.length c80]) 1 rfl Try.isAgg33 Try.sizeOf33 rfl rfl rfl) rfl ?_
          refine TL.st3 (cs' := #[.int .i64 x62, .int .i64 x65, .bool x72.null, .string (bsOf x72.data), .bool x75.null, .string (bsOf x75.data), .slice A79 x78.length c80]) rfl .u rfl rfl Try.sizeOf33 rfl rfl rfl rfl ?_
          obtain rfl := Option.some.inj h
          exact TL.nil (X.seq (T.ret (X.done1 [4, 0] Try.results102 (RV.cS (us := #[.int .i64 x62, .int .i64 x65, .bool x72.null, .string (bsOf x72.data), .bool x75.null, .string (bsOf x75.data), .slice A79 x78.length c80]) 3 rfl Try.isAgg33 Try.sizeOf33 rfl rfl) ⟨_, _, rfl, rfl, rfl⟩ (by rfl) (.inl rfl))))
        · replace h := ifF c86 h
          refine TL.nil (X.seq ?_)
          refine T.yes rfl (bn_t (decide_eq_false c86)) ?_
          refine T.seq (T.region rfl ?_)
          obtain ⟨st87, hx88, h⟩ := Option.bind_eq_some_iff.1 h
          refine TL.run ft_record_ok [0, 1] rfl rfl ?_
          refine TL.c4 rfl .u (.fn Try.call62 rfl) (gIFail_spec g st6 x83 _ hx88) (fun _ hs => (Src.triv _)) rfl ?_
          refine TL.nil (X.seq (T.seq (T.region rfl ?_)))
          refine TL.q rfl .u (Ex.bld (cells := #[.int .i64 0, .int .i64 0, .bool false, .string ⟨#[]⟩, .bool false, .string ⟨#[]⟩, .slice none 0 0]) bok_record_33 rfl (by kernel_rfl)) rfl ?_
          refine TL.st3 (cs' := #[.int .i64 0, .int .i64 0, .bool false, .string ⟨#[]⟩, .bool false, .string ⟨#[]⟩, .slice none 0 0]) rfl .u rfl rfl Try.sizeOf33 rfl rfl rfl rfl ?_
          obtain rfl := Option.some.inj h
          refine TL.nil (X.seq (T.ret (X.rs ?_)))
          refine X.nilrd 3 Hd_rd ?_
          exact X.done1 [5, 0] Try.results102 (RV.cS (us := #[.int .i64 0, .int .i64 0, .bool false, .string ⟨#[]⟩, .bool false, .string ⟨#[]⟩, .slice none 0 0]) 4 rfl Try.isAgg33 Try.sizeOf33 rfl rfl) ⟨_, _, rfl, rfl, rfl⟩ (by rfl) (.inl rfl)
      · replace h := ifF c69 h
        refine TL.nil (X.seq ?_)
        refine T.no rfl (decide_eq_false c69) ?_
        refine T.skip (X.seq (T.seq (T.region rfl ?_)))
        obtain ⟨⟨x89, st90⟩, hx91, h⟩ := Option.bind_eq_some_iff.1 h
        try dsimp only at h
        refine TL.run ft_record_ok [0] rfl rfl ?_
        refine TL.c1 rfl .u (.fn Try.call128 rfl) (gVaried_spec b11 st66 _ hx91) (fun _ hs => (Src.triv _)) rfl ?_
        refine TL.run ft_record_ok [2] rfl rfl ?_
        refine TL.st0 (cs' := #[.int .i64 x62, .int .i64 x65, .bool x89.null, .string (bsOf x89.data), .bool false, .string ⟨#[]⟩, .slice none 0 0]) rfl .u rfl rfl Try.sizeOf30 rfl rfl rfl rfl ?_
        refine TL.nil (X.seq (T.seq (T.region rfl ?_)))
        obtain ⟨⟨x92, st93⟩, hx94, h⟩ := Option.bind_eq_some_iff.1 h
        try dsimp only at h
        refine TL.run ft_record_ok [0] rfl rfl ?_
        refine TL.c1 rfl .u (.fn Try.call128 rfl) (gVaried_spec b11 st90 _ hx94) (fun _ hs => (Src.triv _)) rfl ?_
        refine TL.run ft_record_ok [2] rfl rfl ?_
        refine TL.st0 (cs' := #[.int .i64 x62, .int .i64 x65, .bool x89.null, .string (bsOf x89.data), .bool x92.null, .string (bsOf x92.data), .slice none 0 0]) rfl .u rfl rfl Try.sizeOf30 rfl rfl rfl rfl ?_
        refine TL.nil (X.seq (T.seq (T.region rfl ?_)))
        obtain ⟨⟨x95, st98⟩, hx99, h⟩ := Option.bind_eq_some_iff.1 h
        try dsimp only at h
        refine TL.run ft_record_ok [0] rfl rfl ?_
        refine TL.cg1 rfl .u (.fn Try.call129 rfl) (f_header_Read_spec b11 st93 _ hx99) (fun _ hs => (Src.triv _)) rfl ?_
        rintro _ _ _ ⟨A96, c97, rfl, rfl, rfl⟩
        refine TL.sel [0, 0, 0, 0, 0] rfl ?_
        refine TL.run ft_record_ok [2] rfl rfl ?_
        refine TL.st1 (cs' := #[.int .i64 x62, .int .i64 x65, .bool x89.null, .string (bsOf x89.data), .bool x92.null, .string (bsOf x92.data), .slice A96 x95.length c97]) rfl .u rfl rfl Try.sizeOf31 rfl rfl rfl rfl ?_
        refine TL.nil (X.seq (T.seq (T.seq (T.region rfl ?_))))
        obtain ⟨⟨x100, st101⟩, hx102, h⟩ := Option.bind_eq_some_iff.1 h
        try dsimp only at h
        refine TL.run ft_record_ok [0] rfl rfl ?_
        refine TL.c2 rfl .u (.fn Try.call22 rfl) (gClose_spec b11 st98 _ hx102) (fun _ hs => (Src.triv _)) rfl ?_
        refine TL.run ft_record_ok [2] rfl rfl ?_
        refine TL.nil (X.seq (T.seq (T.region rfl ?_)))
        refine TL.run ft_record_ok [0, 1] rfl rfl ?_
        by_cases c103 : x100 = 0
        · replace h := ifT c103 h
          refine TL.nil (X.seq ?_)
          refine T.no rfl (bn_f (decide_eq_true c103)) ?_
          refine T.skip (X.seq (T.seq (T.region rfl ?_)))
          refine TL.q rfl .u (Ex.bS (us := [.int .i64 x62, .int .i64 x65, .bool x89.null, .string (bsOf x89.data), .bool x92.null, .string (bsOf x92.data), .slice A96 x95.length c97]) 1 rfl Try.isAgg33 Try.sizeOf33 rfl rfl rfl) rfl ?_
          refine TL.st3 (cs' := #[.int .i64 x62, .int .i64 x65, .bool x89.null, .string (bsOf x89.data), .bool x92.null, .string (bsOf x92.data), .slice A96 x95.length c97]) rfl .u rfl rfl Try.sizeOf33 rfl rfl rfl rfl ?_
          obtain rfl := Option.some.inj h
          exact TL.nil (X.seq (T.ret (X.done1 [4, 0] Try.results102 (RV.cS (us := #[.int .i64 x62, .int .i64 x65, .bool x89.null, .string (bsOf x89.data), .bool x92.null, .string (bsOf x92.data), .slice A96 x95.length c97]) 3 rfl Try.isAgg33 Try.sizeOf33 rfl rfl) ⟨_, _, rfl, rfl, rfl⟩ (by rfl) (.inl rfl))))
        · replace h := ifF c103 h
          refine TL.nil (X.seq ?_)
          refine T.yes rfl (bn_t (decide_eq_false c103)) ?_
          refine T.seq (T.region rfl ?_)
          obtain ⟨st104, hx105, h⟩ := Option.bind_eq_some_iff.1 h
          refine TL.run ft_record_ok [0, 1] rfl rfl ?_
          refine TL.c4 rfl .u (.fn Try.call62 rfl) (gIFail_spec g st6 x100 _ hx105) (fun _ hs => (Src.triv _)) rfl ?_
          refine TL.nil (X.seq (T.seq (T.region rfl ?_)))
          refine TL.q rfl .u (Ex.bld (cells := #[.int .i64 0, .int .i64 0, .bool false, .string ⟨#[]⟩, .bool false, .string ⟨#[]⟩, .slice none 0 0]) bok_record_33 rfl (by kernel_rfl)) rfl ?_
          refine TL.st3 (cs' := #[.int .i64 0, .int .i64 0, .bool false, .string ⟨#[]⟩, .bool false, .string ⟨#[]⟩, .slice none 0 0]) rfl .u rfl rfl Try.sizeOf33 rfl rfl rfl rfl ?_
          obtain rfl := Option.some.inj h
          refine TL.nil (X.seq (T.ret (X.rs ?_)))
          refine X.nilrd 3 Hd_rd ?_
          exact X.done1 [5, 0] Try.results102 (RV.cS (us := #[.int .i64 0, .int .i64 0, .bool false, .string ⟨#[]⟩, .bool false, .string ⟨#[]⟩, .slice none 0 0]) 4 rfl Try.isAgg33 Try.sizeOf33 rfl rfl) ⟨_, _, rfl, rfl, rfl⟩ (by rfl) (.inl rfl)
  · replace h := ifF c8 h
    refine TL.nil (X.seq ?_)
    refine T.yes rfl (bn_t (decide_eq_false c8)) ?_
    refine T.seq (T.region rfl ?_)
    refine TL.q rfl .u (Ex.bld (cells := #[.int .i64 0, .int .i64 0, .bool false, .string ⟨#[]⟩, .bool false, .string ⟨#[]⟩, .slice none 0 0]) bok_record_33 rfl (by kernel_rfl)) rfl ?_
    refine TL.st0 (cs' := #[.int .i64 0, .int .i64 0, .bool false, .string ⟨#[]⟩, .bool false, .string ⟨#[]⟩, .slice none 0 0]) rfl .u rfl rfl Try.sizeOf33 rfl rfl rfl rfl ?_
    obtain rfl := Option.some.inj h
    refine TL.nil (X.seq (T.ret (X.rs ?_)))
    refine X.nilrd 3 Hd_rd ?_
    exact X.done1 [2, 0] Try.results102 (RV.cS (us := #[.int .i64 0, .int .i64 0, .bool false, .string ⟨#[]⟩, .bool false, .string ⟨#[]⟩, .slice none 0 0]) 1 rfl Try.isAgg33 Try.sizeOf33 rfl rfl) ⟨_, _, rfl, rfl, rfl⟩ (by rfl) (.inl rfl)
def f_record_body (a0 : Rec) : Option (List UInt8 × Int) := (gOByte ([], 0) 0).bind fun st5 => (gPutLong st5 a0.fTime).bind fun st7 => (gPutInt st7 a0.fOffset).bind fun st9 => (gPutVaried st9 a0.fKey).bind fun st11 => (gPutVaried st11 a0.fValue).bind fun st13 => (f_header_Write st13 a0.fHeaders).bind fun st15 => (gOText st15).bind fun (x17, x18, st19) => some (x17, x18)
set_option maxRecDepth 100000 in
set_option maxHeartbeats 4000000 in
theorem f_record_body_spec (a0 : Rec) (A1 : Option Addr) (c2 : Nat) (r : List UInt8 × Int) (h : f_record_body a0 = some r) : SpecX Try.prog 81 #[.agg #[.int .i64 a0.fTime, .int .i64 a0.fOffset, .bool a0.fKey.null, .string (bsOf a0.fKey.data), .bool a0.fValue.null, .string (bsOf a0.fValue.data), .slice A1 a0.fHeaders.length c2]] (RX.of (sliceRd 3 Hd_rd) [.slice A1 a0.fHeaders.length c2] a0.fHeaders) (EmpR) (fun v A' N => v = .tuple #[.string (bsOf r.1), .int .i64 r.2] ∧ A' = EmpR ∧ N = []) := by
  refine enterA Try.func81 rfl Try.ntmps81 rfl ?_
  intro F w hX
  unfold f_record_body at h
  refine T.seq (T.region rfl ?_)
  refine TL.box rfl .u rfl rfl (fun b3 => ?_)
  refine TL.run ft_record_ok [1, 2] rfl rfl ?_
  refine TL.nil (X.seq (T.seq (T.region rfl ?_)))
  refine TL.newout rfl .u Try.zeroValue87 rfl (fun b4 => ?_)
  obtain ⟨st5, hx6, h⟩ := Option.bind_eq_some_iff.1 h
  refine TL.nil (X.seq (T.seq (T.region rfl ?_)))
  refine TL.c0 rfl .u (.fn Try.call115 rfl) (gOByte_spec b4 ([], 0) 0 _ hx6) (fun _ hs => (Src.triv _)) rfl ?_
  refine TL.nil (X.seq (T.seq (T.region rfl ?_)))
  refine TL.run ft_record_ok [0] rfl rfl ?_
  refine TL.q rfl .u (Ex.b1 1 rfl Try.isAgg3 rfl rfl) rfl ?_
  obtain ⟨st7, hx8, h⟩ := Option.bind_eq_some_iff.1 h
  refine TL.c0 rfl .u (.fn Try.call116 rfl) (gPutLong_spec b4 st5 a0.fTime _ hx8) (fun _ hs => (Src.triv _)) rfl ?_
  refine TL.nil (X.seq (T.seq (T.region rfl ?_)))
  refine TL.run ft_record_ok [0] rfl rfl ?_
  refine TL.q rfl .u (Ex.b1 1 rfl Try.isAgg3 rfl rfl) rfl ?_
  obtain ⟨st9, hx10, h⟩ := Option.bind_eq_some_iff.1 h
  refine TL.c0 rfl .u (.fn Try.call117 rfl) (gPutInt_spec b4 st7 a0.fOffset _ hx10) (fun _ hs => (Src.triv _)) rfl ?_
  refine TL.nil (X.seq (T.seq (T.region rfl ?_)))
  refine TL.run ft_record_ok [0] rfl rfl ?_
  refine TL.q rfl .u (Ex.bS (us := [.bool a0.fKey.null, .string (bsOf a0.fKey.data)]) 1 rfl Try.isAgg30 Try.sizeOf30 rfl rfl rfl) rfl ?_
  obtain ⟨st11, hx12, h⟩ := Option.bind_eq_some_iff.1 h
  refine TL.c0 rfl .u (.fn Try.call118 rfl) (gPutVaried_spec b4 st9 a0.fKey _ hx12) (fun _ hs => (Src.triv _)) rfl ?_
  refine TL.nil (X.seq (T.seq (T.region rfl ?_)))
  refine TL.run ft_record_ok [0] rfl rfl ?_
  refine TL.q rfl .u (Ex.bS (us := [.bool a0.fValue.null, .string (bsOf a0.fValue.data)]) 1 rfl Try.isAgg30 Try.sizeOf30 rfl rfl rfl) rfl ?_
  obtain ⟨st13, hx14, h⟩ := Option.bind_eq_some_iff.1 h
  refine TL.c0 rfl .u (.fn Try.call118 rfl) (gPutVaried_spec b4 st11 a0.fValue _ hx14) (fun _ hs => (Src.triv _)) rfl ?_
  refine TL.nil (X.seq (T.seq (T.region rfl ?_)))
  refine TL.run ft_record_ok [0] rfl rfl ?_
  refine TL.q rfl .u (Ex.b1 1 rfl Try.isAgg31 rfl rfl) rfl ?_
  obtain ⟨st15, hx16, h⟩ := Option.bind_eq_some_iff.1 h
  refine TL.c0 rfl .u (.fn Try.call119 rfl) (f_header_Write_spec b4 st13 a0.fHeaders _ _ _ hx16) (fun _ hs => (Src.old hs hX)) rfl ?_
  obtain ⟨⟨x17, x18, st19⟩, hx20, h⟩ := Option.bind_eq_some_iff.1 h
  try dsimp only at h
  refine TL.nil (X.seq (T.seq (T.region rfl ?_)))
  refine TL.c0 rfl .u (.fn Try.call39 rfl) (gOText_spec b4 st15 _ hx20) (fun _ hs => (Src.triv _)) rfl ?_
  refine TL.run ft_record_ok [1, 2, 3, 4] rfl rfl ?_
  obtain rfl := Option.some.inj h
  exact TL.nil (X.seq (T.ret (X.done2 [2] Try.results81 (RV.tm rfl) (RV.tm rfl) ⟨rfl, rfl, rfl⟩ (by rfl) (.inl rfl))))
def f_record_Write (st : List UInt8 × Int) (a1 : Rec) : Option (List UInt8 × Int) := (f_record_Right a1).bind fun x4 => if x4 = 0 then ((f_record_body a1).bind fun (x7, x8) => if x8 = 0 then ((gPutName st x7).bind fun st11 => some st11) else ((gOFail st x8).bind fun st13 => some st13)) else ((gOFail st x4).bind fun st15 => some st15)
set_option maxRecDepth 100000 in
set_option maxHeartbeats 4000000 in
theorem f_record_Write_spec (g : Nat) (st : List UInt8 × Int) (a1 : Rec) (A1 : Option Addr) (c2 : Nat) (r : List UInt8 × Int) (h : f_record_Write st a1 = some r) : SpecX Try.prog 38 #[.pointer (some ⟨g, 0, none⟩), .agg #[.int .i64 a1.fTime, .int .i64 a1.fOffset, .bool a1.fKey.null, .string (bsOf a1.fKey.data), .bool a1.fValue.null, .string (bsOf a1.fValue.data), .slice A1 a1.fHeaders.length c2]] (RX.of (sliceRd 3 Hd_rd) [.slice A1 a1.fHeaders.length c2] a1.fHeaders) (OutR g st) (fun v A' N => v = .tuple #[] ∧ A' = OutR g r ∧ N = []) := by
  refine enterA Try.func38 rfl Try.ntmps38 rfl ?_
  intro F w hX
  unfold f_record_Write at h
  refine T.seq (T.region rfl ?_)
  refine TL.box rfl .u rfl rfl (fun b3 => ?_)
  refine TL.nil (X.seq (T.seq (T.seq (T.region rfl ?_))))
  refine TL.q rfl .u (Ex.bS (us := [.int .i64 a1.fTime, .int .i64 a1.fOffset, .bool a1.fKey.null, .string (bsOf a1.fKey.data), .bool a1.fValue.null, .string (bsOf a1.fValue.data), .slice A1 a1.fHeaders.length c2]) 0 rfl Try.isAgg33 Try.sizeOf33 rfl rfl rfl) rfl ?_
  obtain ⟨x4, hx5, h⟩ := Option.bind_eq_some_iff.1 h
  refine TL.ce rfl .u (.fn Try.call47 rfl) (f_record_Right_spec a1 _ _ _ hx5) (fun _ hs => (SrcE.old hs hX)) rfl ?_
  refine TL.run ft_record_ok [2] rfl rfl ?_
  refine TL.nil (X.seq (T.seq (T.region rfl ?_)))
  refine TL.run ft_record_ok [0, 1] rfl rfl ?_
  by_cases c6 : x4 = 0
  · replace h := ifT c6 h
    refine TL.nil (X.seq ?_)
    refine T.no rfl (bn_f (decide_eq_true c6)) ?_
    refine T.skip (X.seq (T.seq (T.region rfl ?_)))
    refine TL.q rfl .u (Ex.bS (us := [.int .i64 a1.fTime, .int .i64 a1.fOffset, .bool a1.fKey.null, .string (bsOf a1.fKey.data), .bool a1.fValue.null, .string (bsOf a1.fValue.data), .slice A1 a1.fHeaders.length c2]) 0 rfl Try.isAgg33 Try.sizeOf33 rfl rfl rfl) rfl ?_
    obtain ⟨⟨x7, x8⟩, hx9, h⟩ := Option.bind_eq_some_iff.1 h
    try dsimp only at h
    refine TL.ce rfl .u (.fn Try.call81 rfl) (f_record_body_spec a1 _ _ _ hx9) (fun _ hs => (SrcE.old hs hX)) rfl ?_
    refine TL.run ft_record_ok [2, 3, 4, 5, 6] rfl rfl ?_
    refine TL.nil (X.seq (T.seq (T.seq (T.region rfl ?_))))
    refine TL.run ft_record_ok [0, 1] rfl rfl ?_
    by_cases c10 : x8 = 0
    · replace h := ifT c10 h
      refine TL.nil (X.seq ?_)
      refine T.no rfl (bn_f (decide_eq_true c10)) ?_
      refine T.skip (X.seq (T.region rfl ?_))
      obtain ⟨st11, hx12, h⟩ := Option.bind_eq_some_iff.1 h
      refine TL.run ft_record_ok [0, 1] rfl rfl ?_
      refine TL.c1 rfl .u (.fn Try.call82 rfl) (gPutName_spec g st x7 _ hx12) (fun _ hs => (Src.triv _)) rfl ?_
      obtain rfl := Option.some.inj h
      exact TL.nil (X.done0 [1] Try.results38 ⟨rfl, rfl, rfl⟩ (by rfl) (.inr rfl))
    · replace h := ifF c10 h
      refine TL.nil (X.seq ?_)
      refine T.yes rfl (bn_t (decide_eq_false c10)) ?_
      refine T.seq (T.region rfl ?_)
      obtain ⟨st13, hx14, h⟩ := Option.bind_eq_some_iff.1 h
      refine TL.run ft_record_ok [0, 1] rfl rfl ?_
      refine TL.c1 rfl .u (.fn Try.call80 rfl) (gOFail_spec g st x8 _ hx14) (fun _ hs => (Src.triv _)) rfl ?_
      obtain rfl := Option.some.inj h
      exact TL.nil (X.seq (T.ret (X.rs (X.done0 [1] Try.results38 ⟨rfl, rfl, rfl⟩ (by rfl) (.inl rfl)))))
  · replace h := ifF c6 h
    refine TL.nil (X.seq ?_)
    refine T.yes rfl (bn_t (decide_eq_false c6)) ?_
    refine T.seq (T.region rfl ?_)
    obtain ⟨st15, hx16, h⟩ := Option.bind_eq_some_iff.1 h
    refine TL.run ft_record_ok [0, 1] rfl rfl ?_
    refine TL.c1 rfl .u (.fn Try.call80 rfl) (gOFail_spec g st x4 _ hx16) (fun _ hs => (Src.triv _)) rfl ?_
    obtain rfl := Option.some.inj h
    exact TL.nil (X.seq (T.ret (X.rs (X.done0 [1] Try.results38 ⟨rfl, rfl, rfl⟩ (by rfl) (.inl rfl)))))
end Go.Proofs.Ytcoppaggpbfcmaa.Sl
