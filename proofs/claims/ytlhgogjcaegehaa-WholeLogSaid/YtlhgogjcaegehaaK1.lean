/- wholeLog_holds: part 1. -/
import Derived.Laws.MakeOwn
import Derived.Laws.CopyRow
import Derived.Laws.OwnMore
import Derived.Laws.IdiomCopy
import Derived.ChangeKeysEq
import Derived.Test.YtlhgogjcaegehaaK0
namespace Go.Proofs.Ytlhgogjcaegehaa.Sl
open Go.RowKit
set_option linter.unusedVariables false
set_option linter.unusedSimpArgs false
section
variable {P : Program} {n : Nat} {F0 : Nat → Prop} {w0 : World} {e : Env} {Rs : List Res} {S : World → Prop} {d : Option Tmp} {ty : TypeId} {pos : String} {af : Array Edge} {gd : Option (Nat × Bool)} {v : Value} {x y ix : Operand} {t t' el : TypeId}
theorem Ex.ft {ft : FTab} {op : Op} (hft : ft.OK P) (h : pureV ft e op = some v) : Ex P n e S ⟨d, op, ty, pos, af, gd⟩ v := pureV_run hft h
theorem Ex.lenS {A : Option Addr} {m c : Nat} (hx : e.ev x = some (.slice A m c)) (hu : ∀ w, (underlying t).run P w = .ok (.slice el) w) : Ex P n e S ⟨d, .call ⟨.builtin .len, #[x], #[t]⟩, ty, pos, af, gd⟩ (.int .i64 (m : Int)) := by
  intro a w ha _
  simp [execOp, resolve, invoke, builtin, ha.ev hx, Builtin.len_, hu, goInt]
theorem Ex.lenB {l : List UInt8} (hx : e.ev x = some (.string (bsOf l))) (hu : ∀ w, (underlying t).run P w = .ok .string w) : Ex P n e S ⟨d, .call ⟨.builtin .len, #[x], #[t]⟩, ty, pos, af, gd⟩ (.int .i64 (l.length : Int)) := by
  intro a w ha _
  simp [execOp, resolve, invoke, builtin, ha.ev hx, Builtin.len_, hu, goInt, bsOf_size]
theorem Ex.add {p q : Int} (hx : e.ev x = some (.int .i64 p)) (hy : e.ev y = some (.int .i64 q)) (h : -9223372036854775808 ≤ p + q ∧ p + q ≤ 9223372036854775807) : Ex P n e S ⟨d, .binOp .add t x y t', ty, pos, af, gd⟩ (.int .i64 (p + q)) := by
  intro a w ha _
  simp [execOp, ha.ev hx, ha.ev hy, eqGuard, binOp, Op.intArith, IntWalk.i64_in _ h]
theorem Ex.sub {p q : Int} (hx : e.ev x = some (.int .i64 p)) (hy : e.ev y = some (.int .i64 q)) (h : -9223372036854775808 ≤ p - q ∧ p - q ≤ 9223372036854775807) : Ex P n e S ⟨d, .binOp .sub t x y t', ty, pos, af, gd⟩ (.int .i64 (p - q)) := by
  intro a w ha _
  simp [execOp, ha.ev hx, ha.ev hy, eqGuard, binOp, Op.intArith, IntWalk.i64_in _ h]
theorem Ex.mul {p q : Int} (hx : e.ev x = some (.int .i64 p)) (hy : e.ev y = some (.int .i64 q)) (h : -9223372036854775808 ≤ p * q ∧ p * q ≤ 9223372036854775807) : Ex P n e S ⟨d, .binOp .mul t x y t', ty, pos, af, gd⟩ (.int .i64 (p * q)) := by
  intro a w ha _
  simp [execOp, ha.ev hx, ha.ev hy, eqGuard, binOp, Op.intArith, IntWalk.i64_in _ h]
theorem Ex.rem {p q : Int} (hx : e.ev x = some (.int .i64 p)) (hy : e.ev y = some (.int .i64 q)) (hq : 1 ≤ q) (h : 0 ≤ p ∧ p ≤ 9223372036854775807) : Ex P n e S ⟨d, .binOp .rem t x y t', ty, pos, af, gd⟩ (.int .i64 (p % q)) := by
  intro a w ha _
  have h0 : ¬ q = 0 := by omega
  simp [execOp, ha.ev hx, ha.ev hy, eqGuard, binOp, Op.intDiv, h0, IntWalk.rem_in _ _ h.1]
theorem Ex.conv {k k' : IntKind} {p : Int} (hx : e.ev x = some (.int k' p)) (hs : ∀ w, (underlying t).run P w = .ok (.int k') w) (hu : ∀ w, (underlying t').run P w = .ok (.int k) w) : Ex P n e S ⟨d, .convert t t' x, ty, pos, af, gd⟩ (.int k (k.wrap p)) := by
  intro a w ha _
  simp [execOp, ha.ev hx, convert, hs, hu, Conv.intToInt]
theorem Ex.py {c : Operand} {b : Bool} (hc : e.ev c = some (.bool b)) (hb : b = true) (hx : e.ev x = some v) : Ex P n e S ⟨d, .pick c x y, ty, pos, af, gd⟩ v := by
  intro a w ha _
  subst hb
  simp [execOp, ha.ev hc, ha.ev hx, asBool]
theorem Ex.pn {c : Operand} {b : Bool} (hc : e.ev c = some (.bool b)) (hb : b = false) (hy : e.ev y = some v) : Ex P n e S ⟨d, .pick c x y, ty, pos, af, gd⟩ v := by
  intro a w ha _
  subst hb
  simp [execOp, ha.ev hc, ha.ev hy, asBool]
theorem Ex.sEq {l m : List UInt8} (hx : e.ev x = some (.string (bsOf l))) (hy : e.ev y = some (.string (bsOf m))) : Ex P n e S ⟨d, .binOp .eql t x y t', ty, pos, af, gd⟩ (.bool (decide (l = m))) := by
  intro a w ha _
  have : (l == m) = decide (l = m) := by by_cases h : l = m <;> simp [h]
  simp [execOp, ha.ev hx, ha.ev hy, eqGuard, binOp_string_eql, bsOf_toList, this]
theorem Ex.sNe {l m : List UInt8} (hx : e.ev x = some (.string (bsOf l))) (hy : e.ev y = some (.string (bsOf m))) : Ex P n e S ⟨d, .binOp .neq t x y t', ty, pos, af, gd⟩ (.bool (!decide (l = m))) := by
  intro a w ha _
  have : (l == m) = decide (l = m) := by by_cases h : l = m <;> simp [h]
  simp [execOp, ha.ev hx, ha.ev hy, eqGuard, binOp_string_neq, bsOf_toList, this]
theorem Ex.sGe {l m : List UInt8} (hx : e.ev x = some (.string (bsOf l))) (hy : e.ev y = some (.string (bsOf m))) : Ex P n e S ⟨d, .binOp .geq t x y t', ty, pos, af, gd⟩ (.bool (!Op.bytesLess l m)) := by
  intro a w ha _
  simp [execOp, ha.ev hx, ha.ev hy, eqGuard, binOp, Op.stringOp, bsOf_toList]
theorem Ex.ixS {g o m c z k : Nat} {i : Int} {q : IntKind} (hx : e.ev x = some (.slice (some ⟨g, o, none⟩) m c)) (hi : e.ev ix = some (.int q i)) (hik : i = (k : Int)) (hu : ∀ w, (underlying t).run P w = .ok (.slice el) w) (hz : ∀ w, (sizeOf el).run P w = .ok z w) (hk : k < m) :
    Ex P n e S ⟨d, .indexAddr t x ix, ty, pos, af, gd⟩ (.pointer (some ⟨g, o + k * z, none⟩)) := by
  intro a w ha _
  subst hik
  have h1 : (0 : Int) ≤ (k : Int) ∧ (k : Int) < (m : Int) := by omega
  have h2 : (⟨g, o, none⟩ : Addr).add (k * z) = ⟨g, o + k * z, none⟩ := by unfold Addr.add; split <;> simp_all
  have h3 : (Instr.indexAt t (.slice (some ⟨g, o, none⟩) m c) (.int q (k : Int))).run P w = .ok (.pointer (some ⟨g, o + k * z, none⟩)) w := by
    simp only [Instr.indexAt, asIntOf, Sem.run_bind, Sem.run_pure, Result.andThen_ok, hu]
    rw [if_pos h1]
    simp [hz, h2]
  simp [execOp, ha.ev hx, ha.ev hi, h3]
theorem run_loadVar1 {w : World} {ad : Addr} (ha : ∀ w, (isAgg t).run P w = .ok false w) (hc : w.cell? ad = some v) : (loadVar t ad).run P w = .ok v w := by
  simp [loadVar, ha, hc]
theorem run_loadVarS {w : World} {ad : Addr} {cs : List Value} (ha : ∀ w, (isAgg t).run P w = .ok true w) (hz : ∀ w, (sizeOf t).run P w = .ok cs.length w) (hc : ∀ j u, cs[j]? = some u → w.cell? (ad.add j) = some u) : (loadVar t ad).run P w = .ok (.agg cs.toArray) w := by
  simp [loadVar, ha, hz, run_loadCells_list w ad cs hc]
theorem Ex.ld1 {ad : Addr} (hx : e.ev x = some (.pointer (some ad))) (ha : ∀ w, (isAgg t).run P w = .ok false w) (hc : ∀ w, S w → w.cell? ad = some v) : Ex P n e S ⟨d, .load t x, ty, pos, af, gd⟩ v := by
  intro a w h hs
  simp [execOp, h.ev hx, Instr.loadAt, Instr.sureAddr, run_loadVar1 ha (hc w hs)]
theorem Ex.ldS {ad : Addr} {cs : List Value} {z : Nat} (hx : e.ev x = some (.pointer (some ad))) (ha : ∀ w, (isAgg t).run P w = .ok true w) (hz : ∀ w, (sizeOf t).run P w = .ok z w) (hl : cs.length = z) (hc : ∀ w, S w → ∀ j u, cs[j]? = some u → w.cell? (ad.add j) = some u) : Ex P n e S ⟨d, .load t x, ty, pos, af, gd⟩ (.agg cs.toArray) := by
  intro a w h hs
  subst hl
  simp [execOp, h.ev hx, Instr.loadAt, Instr.sureAddr, run_loadVarS ha hz (hc w hs)]
theorem Ex.b1 (i : Nat) {b o : Nat} {T : TypeId} {cs : Array Value} (hx : e.ev x = some (.pointer (some ⟨b, o, none⟩))) (ha : ∀ w, (isAgg t).run P w = .ok false w) (hi : Rs[i]? = some (BlkR b T cs)) (hv : cs[o]? = some v) : Ex P n e (St F0 w0 Rs) ⟨d, .load t x, ty, pos, af, gd⟩ v :=
  Ex.ld1 hx ha (fun w hw => (heap_at (hw.blk i hi) o).trans hv)
theorem Ex.bS (i : Nat) {b o z : Nat} {T : TypeId} {cs : Array Value} {us : List Value} (hx : e.ev x = some (.pointer (some ⟨b, o, none⟩))) (ha : ∀ w, (isAgg t).run P w = .ok true w) (hz : ∀ w, (sizeOf t).run P w = .ok z w) (hi : Rs[i]? = some (BlkR b T cs))
    (hv : (cs.toList.drop o).take z = us) (hl : Nat.beq us.length z = true) : Ex P n e (St F0 w0 Rs) ⟨d, .load t x, ty, pos, af, gd⟩ (.agg us.toArray) := by
  refine Ex.ldS hx ha hz (Nat.eq_of_beq_eq_true hl) (fun w hw j u hj => ?_)
  have h2 : (⟨b, o, none⟩ : Addr).add j = ⟨b, o + j, none⟩ := by unfold Addr.add; split <;> simp_all
  rw [h2, heap_at (hw.blk i hi)]
  subst hv
  rw [List.getElem?_take] at hj
  split at hj
  · rw [List.getElem?_drop] at hj
    simpa using hj
  · cases hj
theorem Ex.o1 {g q z : Nat} (j : Nat) {cs : List Value} (hx : e.ev x = some (.pointer (some ⟨g, q + j, none⟩))) (ha : ∀ w, (isAgg t).run P w = .ok false w) (nf : ¬ F0 g ∧ g < w0.heap.size) (hc : ∀ j, j < z → w0.cell? ⟨g, q + j, none⟩ = cs[j]?) (hj : Nat.blt j z = true) (hv : cs[j]? = some v) :
    Ex P n e (St F0 w0 Rs) ⟨d, .load t x, ty, pos, af, gd⟩ v :=
  Ex.ld1 hx ha (fun w hw => hw.old2 nf ((hc j (by simpa [Nat.blt_eq] using hj)).trans hv))
theorem Ex.oS {g q z z' : Nat} (k : Nat) {cs us : List Value} (hx : e.ev x = some (.pointer (some ⟨g, q + k, none⟩))) (ha : ∀ w, (isAgg t).run P w = .ok true w) (hz : ∀ w, (sizeOf t).run P w = .ok z' w) (nf : ¬ F0 g ∧ g < w0.heap.size) (hc : ∀ j, j < z → w0.cell? ⟨g, q + j, none⟩ = cs[j]?) (hcl : cs.length = z)
    (hv : (cs.drop k).take z' = us) (hl : Nat.beq us.length z' = true) : Ex P n e (St F0 w0 Rs) ⟨d, .load t x, ty, pos, af, gd⟩ (.agg us.toArray) := by
  refine Ex.ldS hx ha hz (Nat.eq_of_beq_eq_true hl) (fun w hw j u hj => ?_)
  have h2 : (⟨g, q + k, none⟩ : Addr).add j = ⟨g, q + (k + j), none⟩ := by unfold Addr.add; split <;> simp_all [Nat.add_assoc]
  rw [h2]
  subst hv
  rw [List.getElem?_take] at hj
  split at hj
  · rw [List.getElem?_drop] at hj
    have hlt := (List.getElem?_eq_some_iff.1 hj).1
    exact hw.old2 nf ((hc (k + j) (by omega)).trans hj)
  · cases hj
def BOK (P : Program) (t : TypeId) (zs : Array Value) (pl : List (Nat × Nat)) : Prop := ∀ (parts : Array (Nat × Value)) (cells : Array Value) (w : World), Instr.fill (pl[·]?) zs parts.toList = some cells → (Instr.build t parts).run P w = .ok (.agg cells) w
theorem Ex.bld {zs cells : Array Value} {pl : List (Nat × Nat)} {ps : List (Nat × Operand)} {vs : List Value} (hB : BOK P t zs pl) (hv : e.evs (ps.map (·.2)) = some vs) (hf : Instr.fill (pl[·]?) zs ((ps.map (·.1)).zip vs) = some cells) : Ex P n e S ⟨d, .build t ps.toArray, ty, pos, af, gd⟩ (.agg cells) := by
  intro a w ha _
  have h1 := ha.evs hv
  have h2 : ps.map (fun p => (p.1, a.eval p.2)) = (ps.map (·.1)).zip vs := by
    rw [← h1]
    clear h1 hf hv
    induction ps with
    | nil => rfl
    | cons p ps ih => simp [ih]
  have h3 := hB (ps.map (fun p => (p.1, a.eval p.2))).toArray cells w (by simpa [h2] using hf)
  simp only [execOp, List.map_toArray, Sem.run_bind]
  rw [h3]
  rfl
theorem Ex.pNe {ad : Addr} {b : Bool} {op : BinOp} (hop : op = .eql ∧ b = false ∨ op = .neq ∧ b = true) (hx : e.ev x = some (.pointer (some ad))) (hy : e.ev y = some (.pointer none)) (hu : ∀ w, (underlying t).run P w = .ok (.pointer el) w) : Ex P n e S ⟨d, .binOp op t x y t', ty, pos, af, gd⟩ (.bool b) := by
  intro a w ha _
  have h1 : ∀ k, (Op.equalIn (k + 1) t (.pointer (some ad)) (.pointer none)).run P w = .ok false w := by
    intro k
    simp only [Op.equalIn, Sem.run_bind, hu, Result.andThen_ok]
    rfl
  have h2 : (Op.equal t (.pointer (some ad)) (.pointer none)).run P w = .ok false w := h1 9999
  have h3 : ∀ b', (do pure (.bool (b' != (← Op.equal t (.pointer (some ad)) (.pointer none)))) : Sem Value).run P w = .ok (.bool b') w := by
    intro b'
    simp [h2]
  rcases hop with ⟨rfl, rfl⟩ | ⟨rfl, rfl⟩
  · have h4 : (binOp .eql t (.pointer (some ad)) (.pointer none)).run P w = .ok (.bool false) w := by
      simp only [binOp, Sem.run_bind, h2, Result.andThen_ok, Sem.run_pure]
    simp [execOp, ha.ev hx, ha.ev hy, eqGuard, h4]
  · have h4 : (binOp .neq t (.pointer (some ad)) (.pointer none)).run P w = .ok (.bool true) w := by
      simp only [binOp, Sem.run_bind, h2, Result.andThen_ok, Sem.run_pure]
      rfl
    simp [execOp, ha.ev hx, ha.ev hy, eqGuard, h4]
end
end Go.Proofs.Ytlhgogjcaegehaa.Sl
namespace Go.Proofs.Ytlhgogjcaegehaa.Sl
open Go.RowKit
set_option linter.unusedVariables false
set_option linter.unusedSimpArgs false
def envput : Option Nat → Value → Env → Env
  | none, _, e => e
  | some d, v, e => (d, v) :: e
def okd : Option Nat → Nat → Bool
  | none, _ => true
  | some d, n => Nat.blt d n
section
variable {P : Program} {n : Nat} {F0 : Nat → Prop} {w0 : World} {e : Env} {Rs : List Res} {d : Option Tmp} {ty : TypeId} {pos : String} {af : Array Edge} {gd : Option (Nat × Bool)} {v : Value} {x y : Operand} {t t' el : TypeId}
theorem Has.putd {a : Act} (h : Has n e a) (hd : okd d n = true) : Has n (envput d v e) (a.put d v) := by
  cases d with
  | none => exact h
  | some d => exact h.put hd
theorem St.setRowS {b : Nat} {T : TypeId} {cs cs' : Array Value} {w : World} (i : Nat) (h : St F0 w0 Rs w) (hi : Rs[i]? = some (BlkR b T cs)) : St F0 w0 (Rs.set i (BlkR b T cs')) (w.setRow b cs') := by
  refine h.step i hi (Ns := []) (fun G hG => ⟨⟨rfl, rfl, rfl, by simp [World.setRow], fun k hk hn => setRow_other w b k cs' (fun e => hn (e ▸ (hG.2 b).2 rfl))⟩, G, ⟨setRow_heap w b cs cs' T (0, 0) hG.1, hG.2⟩, fun k hk => .inl hk, trivial⟩)
theorem Ef.alloc {zv : Value} (hz : ∀ w, (zeroValue t).run P w = .ok zv w) (hd : okd d n = true) : Ef P n F0 w0 e Rs ⟨d, .alloc t, ty, pos, af, gd⟩ (fun e' Rs' => ∃ b, e' = envput d (.pointer (some ⟨b, 0, none⟩)) e ∧ Rs' = BlkR b t zv.cells :: Rs) := by
  intro a w K Q ha hs hk
  have h1 : (execOp a.eval ⟨d, .alloc t, ty, pos, af, gd⟩).run P w = .ok (.value (.pointer (some ⟨w.heap.size, 0, none⟩))) (w.alloc (.cells zv.cells t)) := by
    simp [execOp, Instr.alloc, hz, newVar, newRow, newObj]
    rfl
  unfold Oper.wp
  rw [h1]
  exact hk _ _ ⟨_, rfl, rfl⟩ _ _ (ha.putd hd) (hs.alloc _ _)
theorem Ef.box (hx : e.ev x = some v) (hd : okd d n = true) : Ef P n F0 w0 e Rs ⟨d, .box t x, ty, pos, af, gd⟩ (fun e' Rs' => ∃ b, e' = envput d (.pointer (some ⟨b, 0, none⟩)) e ∧ Rs' = BlkR b t v.cells :: Rs) := by
  intro a w K Q ha hs hk
  have h1 : (execOp a.eval ⟨d, .box t x, ty, pos, af, gd⟩).run P w = .ok (.value (.pointer (some ⟨w.heap.size, 0, none⟩))) (w.alloc (.cells v.cells t)) := by
    simp [execOp, ha.ev hx, Instr.box, newVar, newRow, newObj]
    rfl
  unfold Oper.wp
  rw [h1]
  exact hk _ _ ⟨_, rfl, rfl⟩ _ _ (ha.putd hd) (hs.alloc _ _)
theorem Ef.st (i : Nat) {b o z : Nat} {T : TypeId} {cs cs' : Array Value} (hx : e.ev x = some (.pointer (some ⟨b, o, none⟩))) (hy : e.ev y = some v) (hz : ∀ w, (sizeOf t).run P w = .ok z w) (hi : Rs[i]? = some (BlkR b T cs))
    (hvz : Nat.beq v.cells.size z = true) (hf : Nat.ble (o + v.cells.size) cs.size = true) (ho : v.cells.toList.all (·.oneCell') = true) (hc : (cs.toList.take o ++ v.cells.toList ++ cs.toList.drop (o + v.cells.size)).toArray = cs') :
    Ef P n F0 w0 e Rs ⟨none, .store t x y, ty, pos, af, gd⟩ (fun e' Rs' => e' = e ∧ Rs' = Rs.set i (BlkR b T cs')) := by
  intro a w K Q ha hs hk
  have hb := hs.blk i hi
  have hvz' := Nat.eq_of_beq_eq_true hvz
  have hf' := Nat.le_of_ble_eq_true hf
  have h2 := run_storeCells_at (P := P) b o T v.cells.toList 0 cs w hb (by simpa using hf') (List.all_eq_true.1 ho)
  have h1 : (execOp a.eval ⟨none, .store t x y, ty, pos, af, gd⟩).run P w = .ok .skip (w.setRow b cs') := by
    simp only [Nat.add_zero, Array.length_toList] at h2
    rw [hc] at h2
    simp [execOp, ha.ev hx, ha.ev hy, Instr.storeAt, Instr.sureAddr, storeVar, hz, hvz', h2]
  unfold Oper.wp
  rw [h1]
  exact hk _ _ ⟨rfl, rfl⟩ _ _ (ha.put0) (hs.setRowS i hi)
def CT (P : Program) (n : Nat) (e : Env) (o : Oper) (f : FuncId) (us : List Value) : Prop := ∀ a w, Has n e a → (execOp a.eval o).run P w = .ok (.enter f us.toArray) w
theorem CT.fn {f : FuncId} {xs : List Operand} {vs : List Value} {ts : Array TypeId} (hc : ∀ args w, (callFunc f args).run P w = .ok (.enter f args) w) (hv : e.evs xs = some vs) : CT P n e ⟨d, .call ⟨.value (.func f), xs.toArray, ts⟩, ty, pos, af, gd⟩ f vs := by
  intro a w ha
  simp [execOp, resolve, Act.eval, Deferred.ofValue, invoke, List.map_toArray, ha.evs hv, hc]
theorem CT.val {f : FuncId} {x : Operand} {xs : List Operand} {vs us fs cs : List Value} {ts : Array TypeId} (hx : e.ev x = some (.func (.func f) fs.toArray cs.toArray)) (hc : ∀ args w, (callFunc f args).run P w = .ok (.enter f args) w) (hv : e.evs xs = some vs) (hu : fs ++ vs ++ cs = us) : CT P n e ⟨d, .call ⟨.value x, xs.toArray, ts⟩, ty, pos, af, gd⟩ f us := by
  intro a w ha
  subst hu
  simp [execOp, resolve, ha.ev hx, Deferred.ofValue, invoke, List.map_toArray, ha.evs hv, hc]
theorem Ef.call (i : Nat) {op : Op} {f : FuncId} {vs : List Value} {A : Res} {Y : RX} {R : Value → Res → List Res → Prop} (hc : CT P n e ⟨d, op, ty, pos, af, gd⟩ f vs) (hi : Rs[i]? = some A)
    (hs : SpecX P f vs.toArray Y A R) (hr : ∀ w, St F0 w0 Rs w → Src F0 w0 Rs w i Y) (hd : okd d n = true) :
    Ef P n F0 w0 e Rs ⟨d, op, ty, pos, af, gd⟩ (fun e' Rs' => ∃ v A' N, R v A' N ∧ e' = envput d v e ∧ Rs' = N ++ Rs.set i A') := by
  intro a w K Q ha hst hk
  unfold Oper.wp
  rw [hc a w ha]
  refine (hst.callX i hi hs (hr w hst)).mono ?_
  rintro x w' ⟨v, A', N, rfl, hq, hst'⟩
  exact hk _ _ ⟨v, A', N, hq, rfl, rfl⟩ _ _ (ha.putd hd) hst'
theorem Ef.callE {op : Op} {f : FuncId} {vs : List Value} {Y : RX} {R : Value → Res → List Res → Prop} (hc : CT P n e ⟨d, op, ty, pos, af, gd⟩ f vs)
    (hs : SpecX P f vs.toArray Y EmpR R) (hr : ∀ w, St F0 w0 Rs w → Y.reads w (fun _ => False)) (hd : okd d n = true) :
    Ef P n F0 w0 e Rs ⟨d, op, ty, pos, af, gd⟩ (fun e' Rs' => ∃ v A' N, R v A' N ∧ e' = envput d v e ∧ Rs' = N ++ Rs) := by
  intro a w K Q ha hst hk
  unfold Oper.wp
  rw [hc a w ha]
  refine (hst.callE hs (hr w hst)).mono ?_
  rintro x w' ⟨v, A', N, rfl, hq, hst'⟩
  exact hk _ _ ⟨v, A', N, hq, rfl, rfl⟩ _ _ (ha.putd hd) hst'
theorem run_app {a : Act} {w : World} {sl x : Operand} {T : TypeId} {z bytes g : Nat} {zv : Value} {us cells : List Value} {q : Value} {m : Nat} (ha : Has n e a) (hu : P.underlying t = some (.slice T)) (hinfo : (P.info? T).map (fun i => (i.zero, i.size, i.bytes)) = some (some zv, z, bytes)) (hzv : zv.cells.size = z) (hp : 0 < z)
    (hs : e.ev sl = some q) (hx : e.ev x = some (.slice (some ⟨g, 0, none⟩) 1 1)) (hown : w.ownsRow 0 T z q m cells) (hl : us.length = z) (hg : w.heap[g]? = some (.cells us.toArray T (0, 0))) (ho : us.all (·.oneCell') = true) (hb : (m + 1) * bytes ≤ 140737488355328) (hm : m + 1 ≤ 140737488355328) :
    ∃ q' w', (execOp a.eval ⟨d, .call ⟨.builtin .append, #[sl, x], #[t, t]⟩, ty, pos, af, gd⟩).run P w = .ok (.value q') w' ∧ w'.ownsRow 0 T z q' (m + 1) (cells ++ us) ∧ w.grownBy w' q.ownBlock ∧ (q'.ownBlock = q.ownBlock ∨ ∃ k, q'.ownBlock = some k ∧ w.heap.size ≤ k) := by
  obtain ⟨i, hi, hzz⟩ := Option.map_eq_some_iff.1 hinfo
  simp only [Prod.mk.injEq] at hzz
  obtain ⟨h0, h1, h2⟩ := hzz
  obtain ⟨q', w', hr, k2, k3, _, k5⟩ := run_append_own_at (P := P) w 0 t ty T i zv z bytes hu hi h0 h1 h2 hzv hp q m cells hown ⟨g, 0, none⟩ 1 1 us (by omega) (fun j u hj => by
    have e1 : (⟨g, 0, none⟩ : Addr).add j = ⟨g, j, none⟩ := by unfold Addr.add; split <;> simp_all
    rw [e1, heap_at hg]
    simpa using hj) (by simpa using ho) (by simp only [maxLen]; omega) hb (Nat.zero_le _)
  refine ⟨q', w', ?_, k2, k3, k5.imp id (fun h => ⟨_, h, Nat.le_refl _⟩)⟩
  simp [execOp, resolve, invoke, builtin, ha.ev hs, ha.ev hx, hr]
theorem Ef.app1 (i : Nat) {α : Type} {E : Rd α} {sl x : Operand} {T : TypeId} {z bytes g : Nat} {zv : Value} {us : List Value} {A : Option Addr} {c : Nat} {l : List α} {u : α} {Rs' : List Res} (hu : P.underlying t = some (.slice T)) (hinfo : (P.info? T).map (fun i => (i.zero, i.size, i.bytes)) = some (some zv, z, bytes)) (hzv : zv.cells.size = z) (hp : 0 < z)
    (hs : e.ev sl = some (.slice A l.length c)) (hx : e.ev x = some (.slice (some ⟨g, 0, none⟩) 1 1)) (hR : Rs = BlkR g T us.toArray :: Rs') (hi : Rs'[i]? = some (OwnR T z E (.slice A l.length c) l)) (hl : us.length = z) (ho : us.all (·.oneCell') = true) (hE : ∀ w S, E.P w S us u) (hb : (l.length + 1) * bytes ≤ 140737488355328) (hm : l.length + 1 ≤ 140737488355328) (hd : okd d n = true) :
    Ef P n F0 w0 e Rs ⟨d, .call ⟨.builtin .append, #[sl, x], #[t, t]⟩, ty, pos, af, gd⟩ (fun e' R => ∃ A' c', e' = envput d (.slice A' (l ++ [u]).length c') e ∧ R = Rs'.set i (OwnR T z E (.slice A' (l ++ [u]).length c') (l ++ [u]))) := by
  subst hR
  intro a w K Q ha hst hk
  obtain ⟨cells, k1, k2⟩ := OwnR.open_ (i + 1) hst (by simpa using hi)
  obtain ⟨q', w', r1, r2, r3, r4⟩ := run_app (d := d) (ty := ty) (pos := pos) (af := af) (gd := gd) ha hu hinfo hzv hp hs hx k1 hl (hst.blk 0 rfl) ho hb hm
  have h3 := k2 q' w' us u r2 r3 r4 hl hE
  have hlen : l.length + 1 = (l ++ [u]).length := by simp
  rw [hlen] at r2
  obtain ⟨A', c', rfl⟩ := row_slice r2
  unfold Oper.wp
  rw [r1]
  exact hk _ _ ⟨A', c', rfl, rfl⟩ _ _ (ha.putd hd) (h3.drop_)
theorem Ef.app2 (i j : Nat) {α : Type} {E : Rd α} {sl x : Operand} {T : TypeId} {z bytes g : Nat} {zv : Value} {us : List Value} {A : Option Addr} {c : Nat} {l : List α} {u : α} {Rs' : List Res} {B : Res} (hu : P.underlying t = some (.slice T)) (hinfo : (P.info? T).map (fun i => (i.zero, i.size, i.bytes)) = some (some zv, z, bytes)) (hzv : zv.cells.size = z) (hp : 0 < z)
    (hs : e.ev sl = some (.slice A l.length c)) (hx : e.ev x = some (.slice (some ⟨g, 0, none⟩) 1 1)) (hR : Rs = BlkR g T us.toArray :: Rs') (hi : Rs'[i]? = some (OwnR T z E (.slice A l.length c) l)) (hj : (Rs'.eraseIdx i)[j]? = some B) (hl : us.length = z) (ho : us.all (·.oneCell') = true) (hE : ∀ w G, B.P w G → E.P w G us u) (hb : (l.length + 1) * bytes ≤ 140737488355328) (hm : l.length + 1 ≤ 140737488355328) (hd : okd d n = true) :
    Ef P n F0 w0 e Rs ⟨d, .call ⟨.builtin .append, #[sl, x], #[t, t]⟩, ty, pos, af, gd⟩ (fun e' R => ∃ A' c', e' = envput d (.slice A' (l ++ [u]).length c') e ∧ R = OwnR T z E (.slice A' (l ++ [u]).length c') (l ++ [u]) :: (Rs'.eraseIdx i).eraseIdx j) := by
  subst hR
  intro a w K Q ha hst hk
  obtain ⟨cells, k1, k2⟩ := OwnR.open2 (B := B) (i + 1) (j + 1) hst (by simpa using hi) (by simpa using hj)
  obtain ⟨q', w', r1, r2, r3, r4⟩ := run_app (d := d) (ty := ty) (pos := pos) (af := af) (gd := gd) ha hu hinfo hzv hp hs hx k1 hl (hst.blk 0 rfl) ho hb hm
  have h3 := k2 q' w' us u r2 r3 r4 hl hE
  have hlen : l.length + 1 = (l ++ [u]).length := by simp
  rw [hlen] at r2
  obtain ⟨A', c', rfl⟩ := row_slice r2
  unfold Oper.wp
  rw [r1]
  have h4 := h3.del 1 (A := BlkR g T us.toArray) rfl
  exact hk _ _ ⟨A', c', rfl, rfl⟩ _ _ (ha.putd hd) h4
def SOK (P : Program) (t T : TypeId) (m z : Nat) (zs : Array Value) : Prop := ∀ (parts : Array (Nat × Value)) (cells : Array Value) (w : World), Instr.fill (fun i => some (i * z, z)) zs parts.toList = some cells → (Instr.buildSlice t m parts).run P w = .ok (.slice (some ⟨w.heap.size, 0, none⟩) m m) (w.alloc (.cells cells T))
theorem Ef.lit {T m z : Nat} {zs cells : Array Value} {ps : List (Nat × Operand)} {vs : List Value} (hB : SOK P t T m z zs) (hv : e.evs (ps.map (·.2)) = some vs) (hf : Instr.fill (fun i => some (i * z, z)) zs ((ps.map (·.1)).zip vs) = some cells) (hd : okd d n = true) :
    Ef P n F0 w0 e Rs ⟨d, .buildSlice t m ps.toArray, ty, pos, af, gd⟩ (fun e' Rs' => ∃ b, e' = envput d (.slice (some ⟨b, 0, none⟩) m m) e ∧ Rs' = BlkR b T cells :: Rs) := by
  intro a w K Q ha hs hk
  have h1 := ha.evs hv
  have h2 : ps.map (fun p => (p.1, a.eval p.2)) = (ps.map (·.1)).zip vs := by
    rw [← h1]
    clear h1 hf hv
    induction ps with
    | nil => rfl
    | cons p ps ih => simp [ih]
  have h3 := hB (ps.map (fun p => (p.1, a.eval p.2))).toArray cells w (by simpa [h2] using hf)
  unfold Oper.wp
  simp only [execOp, List.map_toArray, Sem.run_bind]
  rw [h3]
  exact hk _ _ ⟨_, rfl, rfl⟩ _ _ (ha.putd hd) (hs.alloc _ _)
theorem St.rowOf {α : Type} {E : Rd α} {b T z m : Nat} {us : List Value} {l : List α} {w : World} (h : St F0 w0 (BlkR b T us.toArray :: Rs) w) (hm : l.length = m) (hmm : m ≤ maxLen) (he : ∀ w, elems z E w (fun _ => False) us l) :
    St F0 w0 (OwnR T z E (.slice (some ⟨b, 0, none⟩) m m) l :: Rs) w := by
  subst hm
  refine h.weaken 0 rfl (fun G hG => ?_)
  have hl := elems_length (he w)
  refine ⟨us, fun _ => False, ⟨hl, .inr ⟨b, l.length, us.toArray, rfl, Nat.zero_le _, hG.1, Nat.le_refl _, hmm, by simpa using hl, ?_⟩⟩, he w, fun _ h => h.elim, fun _ _ h => h, fun k => ?_⟩
  · simp [← hl]
  · rw [hG.2 k]
    simp [Value.ownBlock, eq_comm]
end
section
variable {P : Program} {n : Nat} {F0 : Nat → Prop} {w0 : World} {e : Env} {Rs Rf : List Res} {Q : Exit → Act → World → Prop} {ops : Array Oper} {i d b o z f T : Nat} {ty t el : TypeId} {pos : String} {af : Array Edge} {gd : Option (Nat × Bool)} {v zv : Value} {x y : Operand} {l : List Nat} {xs : List Operand} {vs : List Value} {ts : Array TypeId} {Y : RX} {A B : Res} {R : Value → Res → List Res → Prop} {c : Code} {cl : Call}
theorem TL.rowOf {α : Type} {E : Rd α} {m : Nat} {us : List Value} {xs : List α} (hm : xs.length = m) (hmm : m ≤ maxLen) (he : ∀ w, elems z E w (fun _ => False) us xs) (h : TL P n F0 w0 ops l e (OwnR T z E (.slice (some ⟨b, 0, none⟩) m m) xs :: Rs) Q) : TL P n F0 w0 ops l e (BlkR b T us.toArray :: Rs) Q := fun a w ha hs => h a w ha (hs.rowOf hm hmm he)
theorem TD.rowOf {α : Type} {E : Rd α} {m : Nat} {us : List Value} {xs : List α} {l : Sch} (hm : xs.length = m) (hmm : m ≤ maxLen) (he : ∀ w, elems z E w (fun _ => False) us xs) (h : TD P n F0 w0 ops l Rf e (OwnR T z E (.slice (some ⟨b, 0, none⟩) m m) xs :: Rs) Q) : TD P n F0 w0 ops l Rf e (BlkR b T us.toArray :: Rs) Q := fun a w ha hs => h a w ha (hs.rowOf hm hmm he)
theorem TL.alloc  (ho : ops[i]? = some ⟨some d, .alloc t, ty, pos, af, gd⟩) (hw : Wd n ops e ⟨some d, .alloc t, ty, pos, af, gd⟩ true) (hz : ∀ w, (zeroValue t).run P w = .ok zv w) (hd : Nat.blt d n = true) (h : ∀ b, TL P n F0 w0 ops l ((d, .pointer (some ⟨b, 0, none⟩)) :: e) (BlkR b t zv.cells :: Rs) Q) : TL P n F0 w0 ops (i :: l) e Rs Q := by
  refine TL.ef ho hw (Ef.alloc hz hd) ?_
  rintro _ _ ⟨b, rfl, rfl⟩
  exact h b
theorem TD.alloc  {l : Sch} (ho : ops[i]? = some ⟨some d, .alloc t, ty, pos, af, gd⟩) (hw : Wd n ops e ⟨some d, .alloc t, ty, pos, af, gd⟩ true) (hz : ∀ w, (zeroValue t).run P w = .ok zv w) (hd : Nat.blt d n = true) (is : List Nat) (hf : ∀ b, Sel (BlkR b t zv.cells :: Rs) is Rf) (h : ∀ b, TD P n F0 w0 ops l Rf ((d, .pointer (some ⟨b, 0, none⟩)) :: e) (BlkR b t zv.cells :: Rs) Q) : TD P n F0 w0 ops (.e i l) Rf e Rs Q := by
  refine TD.ef ho hw (Ef.alloc hz hd) ?_
  rintro _ _ ⟨b, rfl, rfl⟩
  exact ⟨Rf, fun w hw => hw.sel is (hf b), fun _ h => h, h b⟩
theorem TL.box  (ho : ops[i]? = some ⟨some d, .box t x, ty, pos, af, gd⟩) (hw : Wd n ops e ⟨some d, .box t x, ty, pos, af, gd⟩ true) (hx : e.ev x = some v) (hd : Nat.blt d n = true) (h : ∀ b, TL P n F0 w0 ops l ((d, .pointer (some ⟨b, 0, none⟩)) :: e) (BlkR b t v.cells :: Rs) Q) : TL P n F0 w0 ops (i :: l) e Rs Q := by
  refine TL.ef ho hw (Ef.box hx hd) ?_
  rintro _ _ ⟨b, rfl, rfl⟩
  exact h b
theorem TD.box  {l : Sch} (ho : ops[i]? = some ⟨some d, .box t x, ty, pos, af, gd⟩) (hw : Wd n ops e ⟨some d, .box t x, ty, pos, af, gd⟩ true) (hx : e.ev x = some v) (hd : Nat.blt d n = true) (is : List Nat) (hf : ∀ b, Sel (BlkR b t v.cells :: Rs) is Rf) (h : ∀ b, TD P n F0 w0 ops l Rf ((d, .pointer (some ⟨b, 0, none⟩)) :: e) (BlkR b t v.cells :: Rs) Q) : TD P n F0 w0 ops (.e i l) Rf e Rs Q := by
  refine TD.ef ho hw (Ef.box hx hd) ?_
  rintro _ _ ⟨b, rfl, rfl⟩
  exact ⟨Rf, fun w hw => hw.sel is (hf b), fun _ h => h, h b⟩
theorem TL.lit {m : Nat} {zs cells : Array Value} {ps : List (Nat × Operand)} (ho : ops[i]? = some ⟨some d, .buildSlice t m ps.toArray, ty, pos, af, gd⟩) (hw : Wd n ops e ⟨some d, .buildSlice t m ps.toArray, ty, pos, af, gd⟩ true) (hB : SOK P t T m z zs) (hv : e.evs (ps.map (·.2)) = some vs) (hf' : Instr.fill (fun i => some (i * z, z)) zs ((ps.map (·.1)).zip vs) = some cells) (hd : Nat.blt d n = true) (h : ∀ b, TL P n F0 w0 ops l ((d, .slice (some ⟨b, 0, none⟩) m m) :: e) (BlkR b T cells :: Rs) Q) : TL P n F0 w0 ops (i :: l) e Rs Q := by
  refine TL.ef ho hw (Ef.lit hB hv hf' hd) ?_
  rintro _ _ ⟨b, rfl, rfl⟩
  exact h b
theorem TD.lit {m : Nat} {zs cells : Array Value} {ps : List (Nat × Operand)} {l : Sch} (ho : ops[i]? = some ⟨some d, .buildSlice t m ps.toArray, ty, pos, af, gd⟩) (hw : Wd n ops e ⟨some d, .buildSlice t m ps.toArray, ty, pos, af, gd⟩ true) (hB : SOK P t T m z zs) (hv : e.evs (ps.map (·.2)) = some vs) (hf' : Instr.fill (fun i => some (i * z, z)) zs ((ps.map (·.1)).zip vs) = some cells) (hd : Nat.blt d n = true) (is : List Nat) (hf : ∀ b, Sel (BlkR b T cells :: Rs) is Rf) (h : ∀ b, TD P n F0 w0 ops l Rf ((d, .slice (some ⟨b, 0, none⟩) m m) :: e) (BlkR b T cells :: Rs) Q) : TD P n F0 w0 ops (.e i l) Rf e Rs Q := by
  refine TD.ef ho hw (Ef.lit hB hv hf' hd) ?_
  rintro _ _ ⟨b, rfl, rfl⟩
  exact ⟨Rf, fun w hw => hw.sel is (hf b), fun _ h => h, h b⟩
theorem TL.st0 {cs cs' : Array Value}  (ho : ops[i]? = some ⟨none, .store t x y, ty, pos, af, gd⟩) (hw : Wd n ops e ⟨none, .store t x y, ty, pos, af, gd⟩ true) (hx : e.ev x = some (.pointer (some ⟨b, o, none⟩))) (hy : e.ev y = some v) (hz : ∀ w, (sizeOf t).run P w = .ok z w) (hvz : Nat.beq v.cells.size z = true) (hf' : Nat.ble (o + v.cells.size) cs.size = true) (ho' : v.cells.toList.all (·.oneCell') = true) (hc : (cs.toList.take o ++ v.cells.toList ++ cs.toList.drop (o + v.cells.size)).toArray = cs') (h : TL P n F0 w0 ops l e (BlkR b T cs' :: Rs) Q) : TL P n F0 w0 ops (i :: l) e (BlkR b T cs :: Rs) Q := by
  refine TL.ef ho hw (Ef.st 0 hx hy hz rfl hvz hf' ho' hc) ?_
  rintro _ _ ⟨rfl, rfl⟩
  exact h
theorem TD.st0 {cs cs' : Array Value}  {l : Sch} (ho : ops[i]? = some ⟨none, .store t x y, ty, pos, af, gd⟩) (hw : Wd n ops e ⟨none, .store t x y, ty, pos, af, gd⟩ true) (hx : e.ev x = some (.pointer (some ⟨b, o, none⟩))) (hy : e.ev y = some v) (hz : ∀ w, (sizeOf t).run P w = .ok z w) (hvz : Nat.beq v.cells.size z = true) (hf' : Nat.ble (o + v.cells.size) cs.size = true) (ho' : v.cells.toList.all (·.oneCell') = true) (hc : (cs.toList.take o ++ v.cells.toList ++ cs.toList.drop (o + v.cells.size)).toArray = cs') (is : List Nat) (hf : Sel (BlkR b T cs' :: Rs) is Rf) (h : TD P n F0 w0 ops l Rf e (BlkR b T cs' :: Rs) Q) : TD P n F0 w0 ops (.e i l) Rf e (BlkR b T cs :: Rs) Q := by
  refine TD.ef ho hw (Ef.st 0 hx hy hz rfl hvz hf' ho' hc) ?_
  rintro _ _ ⟨rfl, rfl⟩
  exact ⟨Rf, fun w hw => hw.sel is (hf), fun _ h => h, h⟩
theorem TL.c0  (ho : ops[i]? = some ⟨some d, .call cl, ty, pos, af, gd⟩) (hw : Wd n ops e ⟨some d, .call cl, ty, pos, af, gd⟩ true) (hc : CT P n e ⟨some d, .call cl, ty, pos, af, gd⟩ f vs) (hs : SpecX P f vs.toArray Y A (fun v' A' N => v' = v ∧ A' = B ∧ N = [])) (hr : ∀ w, St F0 w0 (A :: Rs) w → Src F0 w0 (A :: Rs) w 0 Y) (hd : Nat.blt d n = true) (h : TL P n F0 w0 ops l ((d, v) :: e) (B :: Rs) Q) : TL P n F0 w0 ops (i :: l) e (A :: Rs) Q := by
  refine TL.ef ho hw (Ef.call 0 hc rfl hs hr hd) ?_
  rintro _ _ ⟨_, _, _, ⟨rfl, rfl, rfl⟩, rfl, rfl⟩
  exact h
theorem TD.c0  {l : Sch} (ho : ops[i]? = some ⟨some d, .call cl, ty, pos, af, gd⟩) (hw : Wd n ops e ⟨some d, .call cl, ty, pos, af, gd⟩ true) (hc : CT P n e ⟨some d, .call cl, ty, pos, af, gd⟩ f vs) (hs : SpecX P f vs.toArray Y A (fun v' A' N => v' = v ∧ A' = B ∧ N = [])) (hr : ∀ w, St F0 w0 (A :: Rs) w → Src F0 w0 (A :: Rs) w 0 Y) (hd : Nat.blt d n = true) (is : List Nat) (hf : Sel (B :: Rs) is Rf) (h : TD P n F0 w0 ops l Rf ((d, v) :: e) (B :: Rs) Q) : TD P n F0 w0 ops (.e i l) Rf e (A :: Rs) Q := by
  refine TD.ef ho hw (Ef.call 0 hc rfl hs hr hd) ?_
  rintro _ _ ⟨_, _, _, ⟨rfl, rfl, rfl⟩, rfl, rfl⟩
  exact ⟨Rf, fun w hw => hw.sel is (hf), fun _ h => h, h⟩
theorem TL.cg0  (ho : ops[i]? = some ⟨some d, .call cl, ty, pos, af, gd⟩) (hw : Wd n ops e ⟨some d, .call cl, ty, pos, af, gd⟩ true) (hc : CT P n e ⟨some d, .call cl, ty, pos, af, gd⟩ f vs) (hs : SpecX P f vs.toArray Y A R) (hr : ∀ w, St F0 w0 (A :: Rs) w → Src F0 w0 (A :: Rs) w 0 Y) (hd : Nat.blt d n = true) (h : ∀ v A' N, R v A' N → TL P n F0 w0 ops l ((d, v) :: e) (N ++ A' :: Rs) Q) : TL P n F0 w0 ops (i :: l) e (A :: Rs) Q := by
  refine TL.ef ho hw (Ef.call 0 hc rfl hs hr hd) ?_
  rintro _ _ ⟨v, A', N, hR, rfl, rfl⟩
  exact h v A' N hR
theorem TD.cg0  {l : Sch} (ho : ops[i]? = some ⟨some d, .call cl, ty, pos, af, gd⟩) (hw : Wd n ops e ⟨some d, .call cl, ty, pos, af, gd⟩ true) (hc : CT P n e ⟨some d, .call cl, ty, pos, af, gd⟩ f vs) (hs : SpecX P f vs.toArray Y A R) (hr : ∀ w, St F0 w0 (A :: Rs) w → Src F0 w0 (A :: Rs) w 0 Y) (hd : Nat.blt d n = true) (is : List Nat) (hf : ∀ v A' N, R v A' N → Sel (N ++ A' :: Rs) is Rf) (h : ∀ v A' N, R v A' N → TD P n F0 w0 ops l Rf ((d, v) :: e) (N ++ A' :: Rs) Q) : TD P n F0 w0 ops (.e i l) Rf e (A :: Rs) Q := by
  refine TD.ef ho hw (Ef.call 0 hc rfl hs hr hd) ?_
  rintro _ _ ⟨v, A', N, hR, rfl, rfl⟩
  exact ⟨Rf, fun w hw => hw.sel is (hf v A' N hR), fun _ h => h, h v A' N hR⟩
theorem TL.st1 {cs cs' : Array Value} {R0 : Res} (ho : ops[i]? = some ⟨none, .store t x y, ty, pos, af, gd⟩) (hw : Wd n ops e ⟨none, .store t x y, ty, pos, af, gd⟩ true) (hx : e.ev x = some (.pointer (some ⟨b, o, none⟩))) (hy : e.ev y = some v) (hz : ∀ w, (sizeOf t).run P w = .ok z w) (hvz : Nat.beq v.cells.size z = true) (hf' : Nat.ble (o + v.cells.size) cs.size = true) (ho' : v.cells.toList.all (·.oneCell') = true) (hc : (cs.toList.take o ++ v.cells.toList ++ cs.toList.drop (o + v.cells.size)).toArray = cs') (h : TL P n F0 w0 ops l e (R0 :: BlkR b T cs' :: Rs) Q) : TL P n F0 w0 ops (i :: l) e (R0 :: BlkR b T cs :: Rs) Q := by
  refine TL.ef ho hw (Ef.st 1 hx hy hz rfl hvz hf' ho' hc) ?_
  rintro _ _ ⟨rfl, rfl⟩
  exact h
theorem TD.st1 {cs cs' : Array Value} {R0 : Res} {l : Sch} (ho : ops[i]? = some ⟨none, .store t x y, ty, pos, af, gd⟩) (hw : Wd n ops e ⟨none, .store t x y, ty, pos, af, gd⟩ true) (hx : e.ev x = some (.pointer (some ⟨b, o, none⟩))) (hy : e.ev y = some v) (hz : ∀ w, (sizeOf t).run P w = .ok z w) (hvz : Nat.beq v.cells.size z = true) (hf' : Nat.ble (o + v.cells.size) cs.size = true) (ho' : v.cells.toList.all (·.oneCell') = true) (hc : (cs.toList.take o ++ v.cells.toList ++ cs.toList.drop (o + v.cells.size)).toArray = cs') (is : List Nat) (hf : Sel (R0 :: BlkR b T cs' :: Rs) is Rf) (h : TD P n F0 w0 ops l Rf e (R0 :: BlkR b T cs' :: Rs) Q) : TD P n F0 w0 ops (.e i l) Rf e (R0 :: BlkR b T cs :: Rs) Q := by
  refine TD.ef ho hw (Ef.st 1 hx hy hz rfl hvz hf' ho' hc) ?_
  rintro _ _ ⟨rfl, rfl⟩
  exact ⟨Rf, fun w hw => hw.sel is (hf), fun _ h => h, h⟩
theorem TL.c1 {R0 : Res} (ho : ops[i]? = some ⟨some d, .call cl, ty, pos, af, gd⟩) (hw : Wd n ops e ⟨some d, .call cl, ty, pos, af, gd⟩ true) (hc : CT P n e ⟨some d, .call cl, ty, pos, af, gd⟩ f vs) (hs : SpecX P f vs.toArray Y A (fun v' A' N => v' = v ∧ A' = B ∧ N = [])) (hr : ∀ w, St F0 w0 (R0 :: A :: Rs) w → Src F0 w0 (R0 :: A :: Rs) w 1 Y) (hd : Nat.blt d n = true) (h : TL P n F0 w0 ops l ((d, v) :: e) (R0 :: B :: Rs) Q) : TL P n F0 w0 ops (i :: l) e (R0 :: A :: Rs) Q := by
  refine TL.ef ho hw (Ef.call 1 hc rfl hs hr hd) ?_
  rintro _ _ ⟨_, _, _, ⟨rfl, rfl, rfl⟩, rfl, rfl⟩
  exact h
theorem TD.c1 {R0 : Res} {l : Sch} (ho : ops[i]? = some ⟨some d, .call cl, ty, pos, af, gd⟩) (hw : Wd n ops e ⟨some d, .call cl, ty, pos, af, gd⟩ true) (hc : CT P n e ⟨some d, .call cl, ty, pos, af, gd⟩ f vs) (hs : SpecX P f vs.toArray Y A (fun v' A' N => v' = v ∧ A' = B ∧ N = [])) (hr : ∀ w, St F0 w0 (R0 :: A :: Rs) w → Src F0 w0 (R0 :: A :: Rs) w 1 Y) (hd : Nat.blt d n = true) (is : List Nat) (hf : Sel (R0 :: B :: Rs) is Rf) (h : TD P n F0 w0 ops l Rf ((d, v) :: e) (R0 :: B :: Rs) Q) : TD P n F0 w0 ops (.e i l) Rf e (R0 :: A :: Rs) Q := by
  refine TD.ef ho hw (Ef.call 1 hc rfl hs hr hd) ?_
  rintro _ _ ⟨_, _, _, ⟨rfl, rfl, rfl⟩, rfl, rfl⟩
  exact ⟨Rf, fun w hw => hw.sel is (hf), fun _ h => h, h⟩
theorem TL.cg1 {R0 : Res} (ho : ops[i]? = some ⟨some d, .call cl, ty, pos, af, gd⟩) (hw : Wd n ops e ⟨some d, .call cl, ty, pos, af, gd⟩ true) (hc : CT P n e ⟨some d, .call cl, ty, pos, af, gd⟩ f vs) (hs : SpecX P f vs.toArray Y A R) (hr : ∀ w, St F0 w0 (R0 :: A :: Rs) w → Src F0 w0 (R0 :: A :: Rs) w 1 Y) (hd : Nat.blt d n = true) (h : ∀ v A' N, R v A' N → TL P n F0 w0 ops l ((d, v) :: e) (N ++ R0 :: A' :: Rs) Q) : TL P n F0 w0 ops (i :: l) e (R0 :: A :: Rs) Q := by
  refine TL.ef ho hw (Ef.call 1 hc rfl hs hr hd) ?_
  rintro _ _ ⟨v, A', N, hR, rfl, rfl⟩
  exact h v A' N hR
theorem TD.cg1 {R0 : Res} {l : Sch} (ho : ops[i]? = some ⟨some d, .call cl, ty, pos, af, gd⟩) (hw : Wd n ops e ⟨some d, .call cl, ty, pos, af, gd⟩ true) (hc : CT P n e ⟨some d, .call cl, ty, pos, af, gd⟩ f vs) (hs : SpecX P f vs.toArray Y A R) (hr : ∀ w, St F0 w0 (R0 :: A :: Rs) w → Src F0 w0 (R0 :: A :: Rs) w 1 Y) (hd : Nat.blt d n = true) (is : List Nat) (hf : ∀ v A' N, R v A' N → Sel (N ++ R0 :: A' :: Rs) is Rf) (h : ∀ v A' N, R v A' N → TD P n F0 w0 ops l Rf ((d, v) :: e) (N ++ R0 :: A' :: Rs) Q) : TD P n F0 w0 ops (.e i l) Rf e (R0 :: A :: Rs) Q := by
  refine TD.ef ho hw (Ef.call 1 hc rfl hs hr hd) ?_
  rintro _ _ ⟨v, A', N, hR, rfl, rfl⟩
  exact ⟨Rf, fun w hw => hw.sel is (hf v A' N hR), fun _ h => h, h v A' N hR⟩
theorem TL.st2 {cs cs' : Array Value} {R0 R1 : Res} (ho : ops[i]? = some ⟨none, .store t x y, ty, pos, af, gd⟩) (hw : Wd n ops e ⟨none, .store t x y, ty, pos, af, gd⟩ true) (hx : e.ev x = some (.pointer (some ⟨b, o, none⟩))) (hy : e.ev y = some v) (hz : ∀ w, (sizeOf t).run P w = .ok z w) (hvz : Nat.beq v.cells.size z = true) (hf' : Nat.ble (o + v.cells.size) cs.size = true) (ho' : v.cells.toList.all (·.oneCell') = true) (hc : (cs.toList.take o ++ v.cells.toList ++ cs.toList.drop (o + v.cells.size)).toArray = cs') (h : TL P n F0 w0 ops l e (R0 :: R1 :: BlkR b T cs' :: Rs) Q) : TL P n F0 w0 ops (i :: l) e (R0 :: R1 :: BlkR b T cs :: Rs) Q := by
  refine TL.ef ho hw (Ef.st 2 hx hy hz rfl hvz hf' ho' hc) ?_
  rintro _ _ ⟨rfl, rfl⟩
  exact h
theorem TD.st2 {cs cs' : Array Value} {R0 R1 : Res} {l : Sch} (ho : ops[i]? = some ⟨none, .store t x y, ty, pos, af, gd⟩) (hw : Wd n ops e ⟨none, .store t x y, ty, pos, af, gd⟩ true) (hx : e.ev x = some (.pointer (some ⟨b, o, none⟩))) (hy : e.ev y = some v) (hz : ∀ w, (sizeOf t).run P w = .ok z w) (hvz : Nat.beq v.cells.size z = true) (hf' : Nat.ble (o + v.cells.size) cs.size = true) (ho' : v.cells.toList.all (·.oneCell') = true) (hc : (cs.toList.take o ++ v.cells.toList ++ cs.toList.drop (o + v.cells.size)).toArray = cs') (is : List Nat) (hf : Sel (R0 :: R1 :: BlkR b T cs' :: Rs) is Rf) (h : TD P n F0 w0 ops l Rf e (R0 :: R1 :: BlkR b T cs' :: Rs) Q) : TD P n F0 w0 ops (.e i l) Rf e (R0 :: R1 :: BlkR b T cs :: Rs) Q := by
  refine TD.ef ho hw (Ef.st 2 hx hy hz rfl hvz hf' ho' hc) ?_
  rintro _ _ ⟨rfl, rfl⟩
  exact ⟨Rf, fun w hw => hw.sel is (hf), fun _ h => h, h⟩
theorem TL.c2 {R0 R1 : Res} (ho : ops[i]? = some ⟨some d, .call cl, ty, pos, af, gd⟩) (hw : Wd n ops e ⟨some d, .call cl, ty, pos, af, gd⟩ true) (hc : CT P n e ⟨some d, .call cl, ty, pos, af, gd⟩ f vs) (hs : SpecX P f vs.toArray Y A (fun v' A' N => v' = v ∧ A' = B ∧ N = [])) (hr : ∀ w, St F0 w0 (R0 :: R1 :: A :: Rs) w → Src F0 w0 (R0 :: R1 :: A :: Rs) w 2 Y) (hd : Nat.blt d n = true) (h : TL P n F0 w0 ops l ((d, v) :: e) (R0 :: R1 :: B :: Rs) Q) : TL P n F0 w0 ops (i :: l) e (R0 :: R1 :: A :: Rs) Q := by
  refine TL.ef ho hw (Ef.call 2 hc rfl hs hr hd) ?_
  rintro _ _ ⟨_, _, _, ⟨rfl, rfl, rfl⟩, rfl, rfl⟩
  exact h
theorem TD.c2 {R0 R1 : Res} {l : Sch} (ho : ops[i]? = some ⟨some d, .call cl, ty, pos, af, gd⟩) (hw : Wd n ops e ⟨some d, .call cl, ty, pos, af, gd⟩ true) (hc : CT P n e ⟨some d, .call cl, ty, pos, af, gd⟩ f vs) (hs : SpecX P f vs.toArray Y A (fun v' A' N => v' = v ∧ A' = B ∧ N = [])) (hr : ∀ w, St F0 w0 (R0 :: R1 :: A :: Rs) w → Src F0 w0 (R0 :: R1 :: A :: Rs) w 2 Y) (hd : Nat.blt d n = true) (is : List Nat) (hf : Sel (R0 :: R1 :: B :: Rs) is Rf) (h : TD P n F0 w0 ops l Rf ((d, v) :: e) (R0 :: R1 :: B :: Rs) Q) : TD P n F0 w0 ops (.e i l) Rf e (R0 :: R1 :: A :: Rs) Q := by
  refine TD.ef ho hw (Ef.call 2 hc rfl hs hr hd) ?_
  rintro _ _ ⟨_, _, _, ⟨rfl, rfl, rfl⟩, rfl, rfl⟩
  exact ⟨Rf, fun w hw => hw.sel is (hf), fun _ h => h, h⟩
theorem TL.cg2 {R0 R1 : Res} (ho : ops[i]? = some ⟨some d, .call cl, ty, pos, af, gd⟩) (hw : Wd n ops e ⟨some d, .call cl, ty, pos, af, gd⟩ true) (hc : CT P n e ⟨some d, .call cl, ty, pos, af, gd⟩ f vs) (hs : SpecX P f vs.toArray Y A R) (hr : ∀ w, St F0 w0 (R0 :: R1 :: A :: Rs) w → Src F0 w0 (R0 :: R1 :: A :: Rs) w 2 Y) (hd : Nat.blt d n = true) (h : ∀ v A' N, R v A' N → TL P n F0 w0 ops l ((d, v) :: e) (N ++ R0 :: R1 :: A' :: Rs) Q) : TL P n F0 w0 ops (i :: l) e (R0 :: R1 :: A :: Rs) Q := by
  refine TL.ef ho hw (Ef.call 2 hc rfl hs hr hd) ?_
  rintro _ _ ⟨v, A', N, hR, rfl, rfl⟩
  exact h v A' N hR
theorem TD.cg2 {R0 R1 : Res} {l : Sch} (ho : ops[i]? = some ⟨some d, .call cl, ty, pos, af, gd⟩) (hw : Wd n ops e ⟨some d, .call cl, ty, pos, af, gd⟩ true) (hc : CT P n e ⟨some d, .call cl, ty, pos, af, gd⟩ f vs) (hs : SpecX P f vs.toArray Y A R) (hr : ∀ w, St F0 w0 (R0 :: R1 :: A :: Rs) w → Src F0 w0 (R0 :: R1 :: A :: Rs) w 2 Y) (hd : Nat.blt d n = true) (is : List Nat) (hf : ∀ v A' N, R v A' N → Sel (N ++ R0 :: R1 :: A' :: Rs) is Rf) (h : ∀ v A' N, R v A' N → TD P n F0 w0 ops l Rf ((d, v) :: e) (N ++ R0 :: R1 :: A' :: Rs) Q) : TD P n F0 w0 ops (.e i l) Rf e (R0 :: R1 :: A :: Rs) Q := by
  refine TD.ef ho hw (Ef.call 2 hc rfl hs hr hd) ?_
  rintro _ _ ⟨v, A', N, hR, rfl, rfl⟩
  exact ⟨Rf, fun w hw => hw.sel is (hf v A' N hR), fun _ h => h, h v A' N hR⟩
theorem TL.st3 {cs cs' : Array Value} {R0 R1 R2 : Res} (ho : ops[i]? = some ⟨none, .store t x y, ty, pos, af, gd⟩) (hw : Wd n ops e ⟨none, .store t x y, ty, pos, af, gd⟩ true) (hx : e.ev x = some (.pointer (some ⟨b, o, none⟩))) (hy : e.ev y = some v) (hz : ∀ w, (sizeOf t).run P w = .ok z w) (hvz : Nat.beq v.cells.size z = true) (hf' : Nat.ble (o + v.cells.size) cs.size = true) (ho' : v.cells.toList.all (·.oneCell') = true) (hc : (cs.toList.take o ++ v.cells.toList ++ cs.toList.drop (o + v.cells.size)).toArray = cs') (h : TL P n F0 w0 ops l e (R0 :: R1 :: R2 :: BlkR b T cs' :: Rs) Q) : TL P n F0 w0 ops (i :: l) e (R0 :: R1 :: R2 :: BlkR b T cs :: Rs) Q := by
  refine TL.ef ho hw (Ef.st 3 hx hy hz rfl hvz hf' ho' hc) ?_
  rintro _ _ ⟨rfl, rfl⟩
  exact h
theorem TD.st3 {cs cs' : Array Value} {R0 R1 R2 : Res} {l : Sch} (ho : ops[i]? = some ⟨none, .store t x y, ty, pos, af, gd⟩) (hw : Wd n ops e ⟨none, .store t x y, ty, pos, af, gd⟩ true) (hx : e.ev x = some (.pointer (some ⟨b, o, none⟩))) (hy : e.ev y = some v) (hz : ∀ w, (sizeOf t).run P w = .ok z w) (hvz : Nat.beq v.cells.size z = true) (hf' : Nat.ble (o + v.cells.size) cs.size = true) (ho' : v.cells.toList.all (·.oneCell') = true) (hc : (cs.toList.take o ++ v.cells.toList ++ cs.toList.drop (o + v.cells.size)).toArray = cs') (is : List Nat) (hf : Sel (R0 :: R1 :: R2 :: BlkR b T cs' :: Rs) is Rf) (h : TD P n F0 w0 ops l Rf e (R0 :: R1 :: R2 :: BlkR b T cs' :: Rs) Q) : TD P n F0 w0 ops (.e i l) Rf e (R0 :: R1 :: R2 :: BlkR b T cs :: Rs) Q := by
  refine TD.ef ho hw (Ef.st 3 hx hy hz rfl hvz hf' ho' hc) ?_
  rintro _ _ ⟨rfl, rfl⟩
  exact ⟨Rf, fun w hw => hw.sel is (hf), fun _ h => h, h⟩
theorem TL.c3 {R0 R1 R2 : Res} (ho : ops[i]? = some ⟨some d, .call cl, ty, pos, af, gd⟩) (hw : Wd n ops e ⟨some d, .call cl, ty, pos, af, gd⟩ true) (hc : CT P n e ⟨some d, .call cl, ty, pos, af, gd⟩ f vs) (hs : SpecX P f vs.toArray Y A (fun v' A' N => v' = v ∧ A' = B ∧ N = [])) (hr : ∀ w, St F0 w0 (R0 :: R1 :: R2 :: A :: Rs) w → Src F0 w0 (R0 :: R1 :: R2 :: A :: Rs) w 3 Y) (hd : Nat.blt d n = true) (h : TL P n F0 w0 ops l ((d, v) :: e) (R0 :: R1 :: R2 :: B :: Rs) Q) : TL P n F0 w0 ops (i :: l) e (R0 :: R1 :: R2 :: A :: Rs) Q := by
  refine TL.ef ho hw (Ef.call 3 hc rfl hs hr hd) ?_
  rintro _ _ ⟨_, _, _, ⟨rfl, rfl, rfl⟩, rfl, rfl⟩
  exact h
theorem TD.c3 {R0 R1 R2 : Res} {l : Sch} (ho : ops[i]? = some ⟨some d, .call cl, ty, pos, af, gd⟩) (hw : Wd n ops e ⟨some d, .call cl, ty, pos, af, gd⟩ true) (hc : CT P n e ⟨some d, .call cl, ty, pos, af, gd⟩ f vs) (hs : SpecX P f vs.toArray Y A (fun v' A' N => v' = v ∧ A' = B ∧ N = [])) (hr : ∀ w, St F0 w0 (R0 :: R1 :: R2 :: A :: Rs) w → Src F0 w0 (R0 :: R1 :: R2 :: A :: Rs) w 3 Y) (hd : Nat.blt d n = true) (is : List Nat) (hf : Sel (R0 :: R1 :: R2 :: B :: Rs) is Rf) (h : TD P n F0 w0 ops l Rf ((d, v) :: e) (R0 :: R1 :: R2 :: B :: Rs) Q) : TD P n F0 w0 ops (.e i l) Rf e (R0 :: R1 :: R2 :: A :: Rs) Q := by
  refine TD.ef ho hw (Ef.call 3 hc rfl hs hr hd) ?_
  rintro _ _ ⟨_, _, _, ⟨rfl, rfl, rfl⟩, rfl, rfl⟩
  exact ⟨Rf, fun w hw => hw.sel is (hf), fun _ h => h, h⟩
theorem TL.cg3 {R0 R1 R2 : Res} (ho : ops[i]? = some ⟨some d, .call cl, ty, pos, af, gd⟩) (hw : Wd n ops e ⟨some d, .call cl, ty, pos, af, gd⟩ true) (hc : CT P n e ⟨some d, .call cl, ty, pos, af, gd⟩ f vs) (hs : SpecX P f vs.toArray Y A R) (hr : ∀ w, St F0 w0 (R0 :: R1 :: R2 :: A :: Rs) w → Src F0 w0 (R0 :: R1 :: R2 :: A :: Rs) w 3 Y) (hd : Nat.blt d n = true) (h : ∀ v A' N, R v A' N → TL P n F0 w0 ops l ((d, v) :: e) (N ++ R0 :: R1 :: R2 :: A' :: Rs) Q) : TL P n F0 w0 ops (i :: l) e (R0 :: R1 :: R2 :: A :: Rs) Q := by
  refine TL.ef ho hw (Ef.call 3 hc rfl hs hr hd) ?_
  rintro _ _ ⟨v, A', N, hR, rfl, rfl⟩
  exact h v A' N hR
theorem TD.cg3 {R0 R1 R2 : Res} {l : Sch} (ho : ops[i]? = some ⟨some d, .call cl, ty, pos, af, gd⟩) (hw : Wd n ops e ⟨some d, .call cl, ty, pos, af, gd⟩ true) (hc : CT P n e ⟨some d, .call cl, ty, pos, af, gd⟩ f vs) (hs : SpecX P f vs.toArray Y A R) (hr : ∀ w, St F0 w0 (R0 :: R1 :: R2 :: A :: Rs) w → Src F0 w0 (R0 :: R1 :: R2 :: A :: Rs) w 3 Y) (hd : Nat.blt d n = true) (is : List Nat) (hf : ∀ v A' N, R v A' N → Sel (N ++ R0 :: R1 :: R2 :: A' :: Rs) is Rf) (h : ∀ v A' N, R v A' N → TD P n F0 w0 ops l Rf ((d, v) :: e) (N ++ R0 :: R1 :: R2 :: A' :: Rs) Q) : TD P n F0 w0 ops (.e i l) Rf e (R0 :: R1 :: R2 :: A :: Rs) Q := by
  refine TD.ef ho hw (Ef.call 3 hc rfl hs hr hd) ?_
  rintro _ _ ⟨v, A', N, hR, rfl, rfl⟩
  exact ⟨Rf, fun w hw => hw.sel is (hf v A' N hR), fun _ h => h, h v A' N hR⟩
theorem TL.c4 {R0 R1 R2 R3 : Res} (ho : ops[i]? = some ⟨some d, .call cl, ty, pos, af, gd⟩) (hw : Wd n ops e ⟨some d, .call cl, ty, pos, af, gd⟩ true) (hc : CT P n e ⟨some d, .call cl, ty, pos, af, gd⟩ f vs) (hs : SpecX P f vs.toArray Y A (fun v' A' N => v' = v ∧ A' = B ∧ N = [])) (hr : ∀ w, St F0 w0 (R0 :: R1 :: R2 :: R3 :: A :: Rs) w → Src F0 w0 (R0 :: R1 :: R2 :: R3 :: A :: Rs) w 4 Y) (hd : Nat.blt d n = true) (h : TL P n F0 w0 ops l ((d, v) :: e) (R0 :: R1 :: R2 :: R3 :: B :: Rs) Q) : TL P n F0 w0 ops (i :: l) e (R0 :: R1 :: R2 :: R3 :: A :: Rs) Q := by
  refine TL.ef ho hw (Ef.call 4 hc rfl hs hr hd) ?_
  rintro _ _ ⟨_, _, _, ⟨rfl, rfl, rfl⟩, rfl, rfl⟩
  exact h
theorem TD.c4 {R0 R1 R2 R3 : Res} {l : Sch} (ho : ops[i]? = some ⟨some d, .call cl, ty, pos, af, gd⟩) (hw : Wd n ops e ⟨some d, .call cl, ty, pos, af, gd⟩ true) (hc : CT P n e ⟨some d, .call cl, ty, pos, af, gd⟩ f vs) (hs : SpecX P f vs.toArray Y A (fun v' A' N => v' = v ∧ A' = B ∧ N = [])) (hr : ∀ w, St F0 w0 (R0 :: R1 :: R2 :: R3 :: A :: Rs) w → Src F0 w0 (R0 :: R1 :: R2 :: R3 :: A :: Rs) w 4 Y) (hd : Nat.blt d n = true) (is : List Nat) (hf : Sel (R0 :: R1 :: R2 :: R3 :: B :: Rs) is Rf) (h : TD P n F0 w0 ops l Rf ((d, v) :: e) (R0 :: R1 :: R2 :: R3 :: B :: Rs) Q) : TD P n F0 w0 ops (.e i l) Rf e (R0 :: R1 :: R2 :: R3 :: A :: Rs) Q := by
  refine TD.ef ho hw (Ef.call 4 hc rfl hs hr hd) ?_
  rintro _ _ ⟨_, _, _, ⟨rfl, rfl, rfl⟩, rfl, rfl⟩
  exact ⟨Rf, fun w hw => hw.sel is (hf), fun _ h => h, h⟩
theorem TL.cg4 {R0 R1 R2 R3 : Res} (ho : ops[i]? = some ⟨some d, .call cl, ty, pos, af, gd⟩) (hw : Wd n ops e ⟨some d, .call cl, ty, pos, af, gd⟩ true) (hc : CT P n e ⟨some d, .call cl, ty, pos, af, gd⟩ f vs) (hs : SpecX P f vs.toArray Y A R) (hr : ∀ w, St F0 w0 (R0 :: R1 :: R2 :: R3 :: A :: Rs) w → Src F0 w0 (R0 :: R1 :: R2 :: R3 :: A :: Rs) w 4 Y) (hd : Nat.blt d n = true) (h : ∀ v A' N, R v A' N → TL P n F0 w0 ops l ((d, v) :: e) (N ++ R0 :: R1 :: R2 :: R3 :: A' :: Rs) Q) : TL P n F0 w0 ops (i :: l) e (R0 :: R1 :: R2 :: R3 :: A :: Rs) Q := by
  refine TL.ef ho hw (Ef.call 4 hc rfl hs hr hd) ?_
  rintro _ _ ⟨v, A', N, hR, rfl, rfl⟩
  exact h v A' N hR
theorem TD.cg4 {R0 R1 R2 R3 : Res} {l : Sch} (ho : ops[i]? = some ⟨some d, .call cl, ty, pos, af, gd⟩) (hw : Wd n ops e ⟨some d, .call cl, ty, pos, af, gd⟩ true) (hc : CT P n e ⟨some d, .call cl, ty, pos, af, gd⟩ f vs) (hs : SpecX P f vs.toArray Y A R) (hr : ∀ w, St F0 w0 (R0 :: R1 :: R2 :: R3 :: A :: Rs) w → Src F0 w0 (R0 :: R1 :: R2 :: R3 :: A :: Rs) w 4 Y) (hd : Nat.blt d n = true) (is : List Nat) (hf : ∀ v A' N, R v A' N → Sel (N ++ R0 :: R1 :: R2 :: R3 :: A' :: Rs) is Rf) (h : ∀ v A' N, R v A' N → TD P n F0 w0 ops l Rf ((d, v) :: e) (N ++ R0 :: R1 :: R2 :: R3 :: A' :: Rs) Q) : TD P n F0 w0 ops (.e i l) Rf e (R0 :: R1 :: R2 :: R3 :: A :: Rs) Q := by
  refine TD.ef ho hw (Ef.call 4 hc rfl hs hr hd) ?_
  rintro _ _ ⟨v, A', N, hR, rfl, rfl⟩
  exact ⟨Rf, fun w hw => hw.sel is (hf v A' N hR), fun _ h => h, h v A' N hR⟩
theorem TL.st5 {cs cs' : Array Value} {R0 R1 R2 R3 R4 : Res} (ho : ops[i]? = some ⟨none, .store t x y, ty, pos, af, gd⟩) (hw : Wd n ops e ⟨none, .store t x y, ty, pos, af, gd⟩ true) (hx : e.ev x = some (.pointer (some ⟨b, o, none⟩))) (hy : e.ev y = some v) (hz : ∀ w, (sizeOf t).run P w = .ok z w) (hvz : Nat.beq v.cells.size z = true) (hf' : Nat.ble (o + v.cells.size) cs.size = true) (ho' : v.cells.toList.all (·.oneCell') = true) (hc : (cs.toList.take o ++ v.cells.toList ++ cs.toList.drop (o + v.cells.size)).toArray = cs') (h : TL P n F0 w0 ops l e (R0 :: R1 :: R2 :: R3 :: R4 :: BlkR b T cs' :: Rs) Q) : TL P n F0 w0 ops (i :: l) e (R0 :: R1 :: R2 :: R3 :: R4 :: BlkR b T cs :: Rs) Q := by
  refine TL.ef ho hw (Ef.st 5 hx hy hz rfl hvz hf' ho' hc) ?_
  rintro _ _ ⟨rfl, rfl⟩
  exact h
theorem TD.st5 {cs cs' : Array Value} {R0 R1 R2 R3 R4 : Res} {l : Sch} (ho : ops[i]? = some ⟨none, .store t x y, ty, pos, af, gd⟩) (hw : Wd n ops e ⟨none, .store t x y, ty, pos, af, gd⟩ true) (hx : e.ev x = some (.pointer (some ⟨b, o, none⟩))) (hy : e.ev y = some v) (hz : ∀ w, (sizeOf t).run P w = .ok z w) (hvz : Nat.beq v.cells.size z = true) (hf' : Nat.ble (o + v.cells.size) cs.size = true) (ho' : v.cells.toList.all (·.oneCell') = true) (hc : (cs.toList.take o ++ v.cells.toList ++ cs.toList.drop (o + v.cells.size)).toArray = cs') (is : List Nat) (hf : Sel (R0 :: R1 :: R2 :: R3 :: R4 :: BlkR b T cs' :: Rs) is Rf) (h : TD P n F0 w0 ops l Rf e (R0 :: R1 :: R2 :: R3 :: R4 :: BlkR b T cs' :: Rs) Q) : TD P n F0 w0 ops (.e i l) Rf e (R0 :: R1 :: R2 :: R3 :: R4 :: BlkR b T cs :: Rs) Q := by
  refine TD.ef ho hw (Ef.st 5 hx hy hz rfl hvz hf' ho' hc) ?_
  rintro _ _ ⟨rfl, rfl⟩
  exact ⟨Rf, fun w hw => hw.sel is (hf), fun _ h => h, h⟩
theorem TL.c5 {R0 R1 R2 R3 R4 : Res} (ho : ops[i]? = some ⟨some d, .call cl, ty, pos, af, gd⟩) (hw : Wd n ops e ⟨some d, .call cl, ty, pos, af, gd⟩ true) (hc : CT P n e ⟨some d, .call cl, ty, pos, af, gd⟩ f vs) (hs : SpecX P f vs.toArray Y A (fun v' A' N => v' = v ∧ A' = B ∧ N = [])) (hr : ∀ w, St F0 w0 (R0 :: R1 :: R2 :: R3 :: R4 :: A :: Rs) w → Src F0 w0 (R0 :: R1 :: R2 :: R3 :: R4 :: A :: Rs) w 5 Y) (hd : Nat.blt d n = true) (h : TL P n F0 w0 ops l ((d, v) :: e) (R0 :: R1 :: R2 :: R3 :: R4 :: B :: Rs) Q) : TL P n F0 w0 ops (i :: l) e (R0 :: R1 :: R2 :: R3 :: R4 :: A :: Rs) Q := by
  refine TL.ef ho hw (Ef.call 5 hc rfl hs hr hd) ?_
  rintro _ _ ⟨_, _, _, ⟨rfl, rfl, rfl⟩, rfl, rfl⟩
  exact h
theorem TD.c5 {R0 R1 R2 R3 R4 : Res} {l : Sch} (ho : ops[i]? = some ⟨some d, .call cl, ty, pos, af, gd⟩) (hw : Wd n ops e ⟨some d, .call cl, ty, pos, af, gd⟩ true) (hc : CT P n e ⟨some d, .call cl, ty, pos, af, gd⟩ f vs) (hs : SpecX P f vs.toArray Y A (fun v' A' N => v' = v ∧ A' = B ∧ N = [])) (hr : ∀ w, St F0 w0 (R0 :: R1 :: R2 :: R3 :: R4 :: A :: Rs) w → Src F0 w0 (R0 :: R1 :: R2 :: R3 :: R4 :: A :: Rs) w 5 Y) (hd : Nat.blt d n = true) (is : List Nat) (hf : Sel (R0 :: R1 :: R2 :: R3 :: R4 :: B :: Rs) is Rf) (h : TD P n F0 w0 ops l Rf ((d, v) :: e) (R0 :: R1 :: R2 :: R3 :: R4 :: B :: Rs) Q) : TD P n F0 w0 ops (.e i l) Rf e (R0 :: R1 :: R2 :: R3 :: R4 :: A :: Rs) Q := by
  refine TD.ef ho hw (Ef.call 5 hc rfl hs hr hd) ?_
  rintro _ _ ⟨_, _, _, ⟨rfl, rfl, rfl⟩, rfl, rfl⟩
  exact ⟨Rf, fun w hw => hw.sel is (hf), fun _ h => h, h⟩
theorem TL.cg5 {R0 R1 R2 R3 R4 : Res} (ho : ops[i]? = some ⟨some d, .call cl, ty, pos, af, gd⟩) (hw : Wd n ops e ⟨some d, .call cl, ty, pos, af, gd⟩ true) (hc : CT P n e ⟨some d, .call cl, ty, pos, af, gd⟩ f vs) (hs : SpecX P f vs.toArray Y A R) (hr : ∀ w, St F0 w0 (R0 :: R1 :: R2 :: R3 :: R4 :: A :: Rs) w → Src F0 w0 (R0 :: R1 :: R2 :: R3 :: R4 :: A :: Rs) w 5 Y) (hd : Nat.blt d n = true) (h : ∀ v A' N, R v A' N → TL P n F0 w0 ops l ((d, v) :: e) (N ++ R0 :: R1 :: R2 :: R3 :: R4 :: A' :: Rs) Q) : TL P n F0 w0 ops (i :: l) e (R0 :: R1 :: R2 :: R3 :: R4 :: A :: Rs) Q := by
  refine TL.ef ho hw (Ef.call 5 hc rfl hs hr hd) ?_
  rintro _ _ ⟨v, A', N, hR, rfl, rfl⟩
  exact h v A' N hR
theorem TD.cg5 {R0 R1 R2 R3 R4 : Res} {l : Sch} (ho : ops[i]? = some ⟨some d, .call cl, ty, pos, af, gd⟩) (hw : Wd n ops e ⟨some d, .call cl, ty, pos, af, gd⟩ true) (hc : CT P n e ⟨some d, .call cl, ty, pos, af, gd⟩ f vs) (hs : SpecX P f vs.toArray Y A R) (hr : ∀ w, St F0 w0 (R0 :: R1 :: R2 :: R3 :: R4 :: A :: Rs) w → Src F0 w0 (R0 :: R1 :: R2 :: R3 :: R4 :: A :: Rs) w 5 Y) (hd : Nat.blt d n = true) (is : List Nat) (hf : ∀ v A' N, R v A' N → Sel (N ++ R0 :: R1 :: R2 :: R3 :: R4 :: A' :: Rs) is Rf) (h : ∀ v A' N, R v A' N → TD P n F0 w0 ops l Rf ((d, v) :: e) (N ++ R0 :: R1 :: R2 :: R3 :: R4 :: A' :: Rs) Q) : TD P n F0 w0 ops (.e i l) Rf e (R0 :: R1 :: R2 :: R3 :: R4 :: A :: Rs) Q := by
  refine TD.ef ho hw (Ef.call 5 hc rfl hs hr hd) ?_
  rintro _ _ ⟨v, A', N, hR, rfl, rfl⟩
  exact ⟨Rf, fun w hw => hw.sel is (hf v A' N hR), fun _ h => h, h v A' N hR⟩
theorem TL.st6 {cs cs' : Array Value} {R0 R1 R2 R3 R4 R5 : Res} (ho : ops[i]? = some ⟨none, .store t x y, ty, pos, af, gd⟩) (hw : Wd n ops e ⟨none, .store t x y, ty, pos, af, gd⟩ true) (hx : e.ev x = some (.pointer (some ⟨b, o, none⟩))) (hy : e.ev y = some v) (hz : ∀ w, (sizeOf t).run P w = .ok z w) (hvz : Nat.beq v.cells.size z = true) (hf' : Nat.ble (o + v.cells.size) cs.size = true) (ho' : v.cells.toList.all (·.oneCell') = true) (hc : (cs.toList.take o ++ v.cells.toList ++ cs.toList.drop (o + v.cells.size)).toArray = cs') (h : TL P n F0 w0 ops l e (R0 :: R1 :: R2 :: R3 :: R4 :: R5 :: BlkR b T cs' :: Rs) Q) : TL P n F0 w0 ops (i :: l) e (R0 :: R1 :: R2 :: R3 :: R4 :: R5 :: BlkR b T cs :: Rs) Q := by
  refine TL.ef ho hw (Ef.st 6 hx hy hz rfl hvz hf' ho' hc) ?_
  rintro _ _ ⟨rfl, rfl⟩
  exact h
theorem TD.st6 {cs cs' : Array Value} {R0 R1 R2 R3 R4 R5 : Res} {l : Sch} (ho : ops[i]? = some ⟨none, .store t x y, ty, pos, af, gd⟩) (hw : Wd n ops e ⟨none, .store t x y, ty, pos, af, gd⟩ true) (hx : e.ev x = some (.pointer (some ⟨b, o, none⟩))) (hy : e.ev y = some v) (hz : ∀ w, (sizeOf t).run P w = .ok z w) (hvz : Nat.beq v.cells.size z = true) (hf' : Nat.ble (o + v.cells.size) cs.size = true) (ho' : v.cells.toList.all (·.oneCell') = true) (hc : (cs.toList.take o ++ v.cells.toList ++ cs.toList.drop (o + v.cells.size)).toArray = cs') (is : List Nat) (hf : Sel (R0 :: R1 :: R2 :: R3 :: R4 :: R5 :: BlkR b T cs' :: Rs) is Rf) (h : TD P n F0 w0 ops l Rf e (R0 :: R1 :: R2 :: R3 :: R4 :: R5 :: BlkR b T cs' :: Rs) Q) : TD P n F0 w0 ops (.e i l) Rf e (R0 :: R1 :: R2 :: R3 :: R4 :: R5 :: BlkR b T cs :: Rs) Q := by
  refine TD.ef ho hw (Ef.st 6 hx hy hz rfl hvz hf' ho' hc) ?_
  rintro _ _ ⟨rfl, rfl⟩
  exact ⟨Rf, fun w hw => hw.sel is (hf), fun _ h => h, h⟩
theorem TL.c6 {R0 R1 R2 R3 R4 R5 : Res} (ho : ops[i]? = some ⟨some d, .call cl, ty, pos, af, gd⟩) (hw : Wd n ops e ⟨some d, .call cl, ty, pos, af, gd⟩ true) (hc : CT P n e ⟨some d, .call cl, ty, pos, af, gd⟩ f vs) (hs : SpecX P f vs.toArray Y A (fun v' A' N => v' = v ∧ A' = B ∧ N = [])) (hr : ∀ w, St F0 w0 (R0 :: R1 :: R2 :: R3 :: R4 :: R5 :: A :: Rs) w → Src F0 w0 (R0 :: R1 :: R2 :: R3 :: R4 :: R5 :: A :: Rs) w 6 Y) (hd : Nat.blt d n = true) (h : TL P n F0 w0 ops l ((d, v) :: e) (R0 :: R1 :: R2 :: R3 :: R4 :: R5 :: B :: Rs) Q) : TL P n F0 w0 ops (i :: l) e (R0 :: R1 :: R2 :: R3 :: R4 :: R5 :: A :: Rs) Q := by
  refine TL.ef ho hw (Ef.call 6 hc rfl hs hr hd) ?_
  rintro _ _ ⟨_, _, _, ⟨rfl, rfl, rfl⟩, rfl, rfl⟩
  exact h
theorem TD.c6 {R0 R1 R2 R3 R4 R5 : Res} {l : Sch} (ho : ops[i]? = some ⟨some d, .call cl, ty, pos, af, gd⟩) (hw : Wd n ops e ⟨some d, .call cl, ty, pos, af, gd⟩ true) (hc : CT P n e ⟨some d, .call cl, ty, pos, af, gd⟩ f vs) (hs : SpecX P f vs.toArray Y A (fun v' A' N => v' = v ∧ A' = B ∧ N = [])) (hr : ∀ w, St F0 w0 (R0 :: R1 :: R2 :: R3 :: R4 :: R5 :: A :: Rs) w → Src F0 w0 (R0 :: R1 :: R2 :: R3 :: R4 :: R5 :: A :: Rs) w 6 Y) (hd : Nat.blt d n = true) (is : List Nat) (hf : Sel (R0 :: R1 :: R2 :: R3 :: R4 :: R5 :: B :: Rs) is Rf) (h : TD P n F0 w0 ops l Rf ((d, v) :: e) (R0 :: R1 :: R2 :: R3 :: R4 :: R5 :: B :: Rs) Q) : TD P n F0 w0 ops (.e i l) Rf e (R0 :: R1 :: R2 :: R3 :: R4 :: R5 :: A :: Rs) Q := by
  refine TD.ef ho hw (Ef.call 6 hc rfl hs hr hd) ?_
  rintro _ _ ⟨_, _, _, ⟨rfl, rfl, rfl⟩, rfl, rfl⟩
  exact ⟨Rf, fun w hw => hw.sel is (hf), fun _ h => h, h⟩
theorem TL.st7 {cs cs' : Array Value} {R0 R1 R2 R3 R4 R5 R6 : Res} (ho : ops[i]? = some ⟨none, .store t x y, ty, pos, af, gd⟩) (hw : Wd n ops e ⟨none, .store t x y, ty, pos, af, gd⟩ true) (hx : e.ev x = some (.pointer (some ⟨b, o, none⟩))) (hy : e.ev y = some v) (hz : ∀ w, (sizeOf t).run P w = .ok z w) (hvz : Nat.beq v.cells.size z = true) (hf' : Nat.ble (o + v.cells.size) cs.size = true) (ho' : v.cells.toList.all (·.oneCell') = true) (hc : (cs.toList.take o ++ v.cells.toList ++ cs.toList.drop (o + v.cells.size)).toArray = cs') (h : TL P n F0 w0 ops l e (R0 :: R1 :: R2 :: R3 :: R4 :: R5 :: R6 :: BlkR b T cs' :: Rs) Q) : TL P n F0 w0 ops (i :: l) e (R0 :: R1 :: R2 :: R3 :: R4 :: R5 :: R6 :: BlkR b T cs :: Rs) Q := by
  refine TL.ef ho hw (Ef.st 7 hx hy hz rfl hvz hf' ho' hc) ?_
  rintro _ _ ⟨rfl, rfl⟩
  exact h
theorem TD.st7 {cs cs' : Array Value} {R0 R1 R2 R3 R4 R5 R6 : Res} {l : Sch} (ho : ops[i]? = some ⟨none, .store t x y, ty, pos, af, gd⟩) (hw : Wd n ops e ⟨none, .store t x y, ty, pos, af, gd⟩ true) (hx : e.ev x = some (.pointer (some ⟨b, o, none⟩))) (hy : e.ev y = some v) (hz : ∀ w, (sizeOf t).run P w = .ok z w) (hvz : Nat.beq v.cells.size z = true) (hf' : Nat.ble (o + v.cells.size) cs.size = true) (ho' : v.cells.toList.all (·.oneCell') = true) (hc : (cs.toList.take o ++ v.cells.toList ++ cs.toList.drop (o + v.cells.size)).toArray = cs') (is : List Nat) (hf : Sel (R0 :: R1 :: R2 :: R3 :: R4 :: R5 :: R6 :: BlkR b T cs' :: Rs) is Rf) (h : TD P n F0 w0 ops l Rf e (R0 :: R1 :: R2 :: R3 :: R4 :: R5 :: R6 :: BlkR b T cs' :: Rs) Q) : TD P n F0 w0 ops (.e i l) Rf e (R0 :: R1 :: R2 :: R3 :: R4 :: R5 :: R6 :: BlkR b T cs :: Rs) Q := by
  refine TD.ef ho hw (Ef.st 7 hx hy hz rfl hvz hf' ho' hc) ?_
  rintro _ _ ⟨rfl, rfl⟩
  exact ⟨Rf, fun w hw => hw.sel is (hf), fun _ h => h, h⟩
theorem TL.c7 {R0 R1 R2 R3 R4 R5 R6 : Res} (ho : ops[i]? = some ⟨some d, .call cl, ty, pos, af, gd⟩) (hw : Wd n ops e ⟨some d, .call cl, ty, pos, af, gd⟩ true) (hc : CT P n e ⟨some d, .call cl, ty, pos, af, gd⟩ f vs) (hs : SpecX P f vs.toArray Y A (fun v' A' N => v' = v ∧ A' = B ∧ N = [])) (hr : ∀ w, St F0 w0 (R0 :: R1 :: R2 :: R3 :: R4 :: R5 :: R6 :: A :: Rs) w → Src F0 w0 (R0 :: R1 :: R2 :: R3 :: R4 :: R5 :: R6 :: A :: Rs) w 7 Y) (hd : Nat.blt d n = true) (h : TL P n F0 w0 ops l ((d, v) :: e) (R0 :: R1 :: R2 :: R3 :: R4 :: R5 :: R6 :: B :: Rs) Q) : TL P n F0 w0 ops (i :: l) e (R0 :: R1 :: R2 :: R3 :: R4 :: R5 :: R6 :: A :: Rs) Q := by
  refine TL.ef ho hw (Ef.call 7 hc rfl hs hr hd) ?_
  rintro _ _ ⟨_, _, _, ⟨rfl, rfl, rfl⟩, rfl, rfl⟩
  exact h
theorem TD.c7 {R0 R1 R2 R3 R4 R5 R6 : Res} {l : Sch} (ho : ops[i]? = some ⟨some d, .call cl, ty, pos, af, gd⟩) (hw : Wd n ops e ⟨some d, .call cl, ty, pos, af, gd⟩ true) (hc : CT P n e ⟨some d, .call cl, ty, pos, af, gd⟩ f vs) (hs : SpecX P f vs.toArray Y A (fun v' A' N => v' = v ∧ A' = B ∧ N = [])) (hr : ∀ w, St F0 w0 (R0 :: R1 :: R2 :: R3 :: R4 :: R5 :: R6 :: A :: Rs) w → Src F0 w0 (R0 :: R1 :: R2 :: R3 :: R4 :: R5 :: R6 :: A :: Rs) w 7 Y) (hd : Nat.blt d n = true) (is : List Nat) (hf : Sel (R0 :: R1 :: R2 :: R3 :: R4 :: R5 :: R6 :: B :: Rs) is Rf) (h : TD P n F0 w0 ops l Rf ((d, v) :: e) (R0 :: R1 :: R2 :: R3 :: R4 :: R5 :: R6 :: B :: Rs) Q) : TD P n F0 w0 ops (.e i l) Rf e (R0 :: R1 :: R2 :: R3 :: R4 :: R5 :: R6 :: A :: Rs) Q := by
  refine TD.ef ho hw (Ef.call 7 hc rfl hs hr hd) ?_
  rintro _ _ ⟨_, _, _, ⟨rfl, rfl, rfl⟩, rfl, rfl⟩
  exact ⟨Rf, fun w hw => hw.sel is (hf), fun _ h => h, h⟩
theorem TL.st8 {cs cs' : Array Value} {R0 R1 R2 R3 R4 R5 R6 R7 : Res} (ho : ops[i]? = some ⟨none, .store t x y, ty, pos, af, gd⟩) (hw : Wd n ops e ⟨none, .store t x y, ty, pos, af, gd⟩ true) (hx : e.ev x = some (.pointer (some ⟨b, o, none⟩))) (hy : e.ev y = some v) (hz : ∀ w, (sizeOf t).run P w = .ok z w) (hvz : Nat.beq v.cells.size z = true) (hf' : Nat.ble (o + v.cells.size) cs.size = true) (ho' : v.cells.toList.all (·.oneCell') = true) (hc : (cs.toList.take o ++ v.cells.toList ++ cs.toList.drop (o + v.cells.size)).toArray = cs') (h : TL P n F0 w0 ops l e (R0 :: R1 :: R2 :: R3 :: R4 :: R5 :: R6 :: R7 :: BlkR b T cs' :: Rs) Q) : TL P n F0 w0 ops (i :: l) e (R0 :: R1 :: R2 :: R3 :: R4 :: R5 :: R6 :: R7 :: BlkR b T cs :: Rs) Q := by
  refine TL.ef ho hw (Ef.st 8 hx hy hz rfl hvz hf' ho' hc) ?_
  rintro _ _ ⟨rfl, rfl⟩
  exact h
theorem TD.st8 {cs cs' : Array Value} {R0 R1 R2 R3 R4 R5 R6 R7 : Res} {l : Sch} (ho : ops[i]? = some ⟨none, .store t x y, ty, pos, af, gd⟩) (hw : Wd n ops e ⟨none, .store t x y, ty, pos, af, gd⟩ true) (hx : e.ev x = some (.pointer (some ⟨b, o, none⟩))) (hy : e.ev y = some v) (hz : ∀ w, (sizeOf t).run P w = .ok z w) (hvz : Nat.beq v.cells.size z = true) (hf' : Nat.ble (o + v.cells.size) cs.size = true) (ho' : v.cells.toList.all (·.oneCell') = true) (hc : (cs.toList.take o ++ v.cells.toList ++ cs.toList.drop (o + v.cells.size)).toArray = cs') (is : List Nat) (hf : Sel (R0 :: R1 :: R2 :: R3 :: R4 :: R5 :: R6 :: R7 :: BlkR b T cs' :: Rs) is Rf) (h : TD P n F0 w0 ops l Rf e (R0 :: R1 :: R2 :: R3 :: R4 :: R5 :: R6 :: R7 :: BlkR b T cs' :: Rs) Q) : TD P n F0 w0 ops (.e i l) Rf e (R0 :: R1 :: R2 :: R3 :: R4 :: R5 :: R6 :: R7 :: BlkR b T cs :: Rs) Q := by
  refine TD.ef ho hw (Ef.st 8 hx hy hz rfl hvz hf' ho' hc) ?_
  rintro _ _ ⟨rfl, rfl⟩
  exact ⟨Rf, fun w hw => hw.sel is (hf), fun _ h => h, h⟩
theorem TL.c8 {R0 R1 R2 R3 R4 R5 R6 R7 : Res} (ho : ops[i]? = some ⟨some d, .call cl, ty, pos, af, gd⟩) (hw : Wd n ops e ⟨some d, .call cl, ty, pos, af, gd⟩ true) (hc : CT P n e ⟨some d, .call cl, ty, pos, af, gd⟩ f vs) (hs : SpecX P f vs.toArray Y A (fun v' A' N => v' = v ∧ A' = B ∧ N = [])) (hr : ∀ w, St F0 w0 (R0 :: R1 :: R2 :: R3 :: R4 :: R5 :: R6 :: R7 :: A :: Rs) w → Src F0 w0 (R0 :: R1 :: R2 :: R3 :: R4 :: R5 :: R6 :: R7 :: A :: Rs) w 8 Y) (hd : Nat.blt d n = true) (h : TL P n F0 w0 ops l ((d, v) :: e) (R0 :: R1 :: R2 :: R3 :: R4 :: R5 :: R6 :: R7 :: B :: Rs) Q) : TL P n F0 w0 ops (i :: l) e (R0 :: R1 :: R2 :: R3 :: R4 :: R5 :: R6 :: R7 :: A :: Rs) Q := by
  refine TL.ef ho hw (Ef.call 8 hc rfl hs hr hd) ?_
  rintro _ _ ⟨_, _, _, ⟨rfl, rfl, rfl⟩, rfl, rfl⟩
  exact h
theorem TD.c8 {R0 R1 R2 R3 R4 R5 R6 R7 : Res} {l : Sch} (ho : ops[i]? = some ⟨some d, .call cl, ty, pos, af, gd⟩) (hw : Wd n ops e ⟨some d, .call cl, ty, pos, af, gd⟩ true) (hc : CT P n e ⟨some d, .call cl, ty, pos, af, gd⟩ f vs) (hs : SpecX P f vs.toArray Y A (fun v' A' N => v' = v ∧ A' = B ∧ N = [])) (hr : ∀ w, St F0 w0 (R0 :: R1 :: R2 :: R3 :: R4 :: R5 :: R6 :: R7 :: A :: Rs) w → Src F0 w0 (R0 :: R1 :: R2 :: R3 :: R4 :: R5 :: R6 :: R7 :: A :: Rs) w 8 Y) (hd : Nat.blt d n = true) (is : List Nat) (hf : Sel (R0 :: R1 :: R2 :: R3 :: R4 :: R5 :: R6 :: R7 :: B :: Rs) is Rf) (h : TD P n F0 w0 ops l Rf ((d, v) :: e) (R0 :: R1 :: R2 :: R3 :: R4 :: R5 :: R6 :: R7 :: B :: Rs) Q) : TD P n F0 w0 ops (.e i l) Rf e (R0 :: R1 :: R2 :: R3 :: R4 :: R5 :: R6 :: R7 :: A :: Rs) Q := by
  refine TD.ef ho hw (Ef.call 8 hc rfl hs hr hd) ?_
  rintro _ _ ⟨_, _, _, ⟨rfl, rfl, rfl⟩, rfl, rfl⟩
  exact ⟨Rf, fun w hw => hw.sel is (hf), fun _ h => h, h⟩
theorem TL.cg8 {R0 R1 R2 R3 R4 R5 R6 R7 : Res} (ho : ops[i]? = some ⟨some d, .call cl, ty, pos, af, gd⟩) (hw : Wd n ops e ⟨some d, .call cl, ty, pos, af, gd⟩ true) (hc : CT P n e ⟨some d, .call cl, ty, pos, af, gd⟩ f vs) (hs : SpecX P f vs.toArray Y A R) (hr : ∀ w, St F0 w0 (R0 :: R1 :: R2 :: R3 :: R4 :: R5 :: R6 :: R7 :: A :: Rs) w → Src F0 w0 (R0 :: R1 :: R2 :: R3 :: R4 :: R5 :: R6 :: R7 :: A :: Rs) w 8 Y) (hd : Nat.blt d n = true) (h : ∀ v A' N, R v A' N → TL P n F0 w0 ops l ((d, v) :: e) (N ++ R0 :: R1 :: R2 :: R3 :: R4 :: R5 :: R6 :: R7 :: A' :: Rs) Q) : TL P n F0 w0 ops (i :: l) e (R0 :: R1 :: R2 :: R3 :: R4 :: R5 :: R6 :: R7 :: A :: Rs) Q := by
  refine TL.ef ho hw (Ef.call 8 hc rfl hs hr hd) ?_
  rintro _ _ ⟨v, A', N, hR, rfl, rfl⟩
  exact h v A' N hR
theorem TD.cg8 {R0 R1 R2 R3 R4 R5 R6 R7 : Res} {l : Sch} (ho : ops[i]? = some ⟨some d, .call cl, ty, pos, af, gd⟩) (hw : Wd n ops e ⟨some d, .call cl, ty, pos, af, gd⟩ true) (hc : CT P n e ⟨some d, .call cl, ty, pos, af, gd⟩ f vs) (hs : SpecX P f vs.toArray Y A R) (hr : ∀ w, St F0 w0 (R0 :: R1 :: R2 :: R3 :: R4 :: R5 :: R6 :: R7 :: A :: Rs) w → Src F0 w0 (R0 :: R1 :: R2 :: R3 :: R4 :: R5 :: R6 :: R7 :: A :: Rs) w 8 Y) (hd : Nat.blt d n = true) (is : List Nat) (hf : ∀ v A' N, R v A' N → Sel (N ++ R0 :: R1 :: R2 :: R3 :: R4 :: R5 :: R6 :: R7 :: A' :: Rs) is Rf) (h : ∀ v A' N, R v A' N → TD P n F0 w0 ops l Rf ((d, v) :: e) (N ++ R0 :: R1 :: R2 :: R3 :: R4 :: R5 :: R6 :: R7 :: A' :: Rs) Q) : TD P n F0 w0 ops (.e i l) Rf e (R0 :: R1 :: R2 :: R3 :: R4 :: R5 :: R6 :: R7 :: A :: Rs) Q := by
  refine TD.ef ho hw (Ef.call 8 hc rfl hs hr hd) ?_
  rintro _ _ ⟨v, A', N, hR, rfl, rfl⟩
  exact ⟨Rf, fun w hw => hw.sel is (hf v A' N hR), fun _ h => h, h v A' N hR⟩
theorem TL.c9 {R0 R1 R2 R3 R4 R5 R6 R7 R8 : Res} (ho : ops[i]? = some ⟨some d, .call cl, ty, pos, af, gd⟩) (hw : Wd n ops e ⟨some d, .call cl, ty, pos, af, gd⟩ true) (hc : CT P n e ⟨some d, .call cl, ty, pos, af, gd⟩ f vs) (hs : SpecX P f vs.toArray Y A (fun v' A' N => v' = v ∧ A' = B ∧ N = [])) (hr : ∀ w, St F0 w0 (R0 :: R1 :: R2 :: R3 :: R4 :: R5 :: R6 :: R7 :: R8 :: A :: Rs) w → Src F0 w0 (R0 :: R1 :: R2 :: R3 :: R4 :: R5 :: R6 :: R7 :: R8 :: A :: Rs) w 9 Y) (hd : Nat.blt d n = true) (h : TL P n F0 w0 ops l ((d, v) :: e) (R0 :: R1 :: R2 :: R3 :: R4 :: R5 :: R6 :: R7 :: R8 :: B :: Rs) Q) : TL P n F0 w0 ops (i :: l) e (R0 :: R1 :: R2 :: R3 :: R4 :: R5 :: R6 :: R7 :: R8 :: A :: Rs) Q := by
  refine TL.ef ho hw (Ef.call 9 hc rfl hs hr hd) ?_
  rintro _ _ ⟨_, _, _, ⟨rfl, rfl, rfl⟩, rfl, rfl⟩
  exact h
theorem TD.c9 {R0 R1 R2 R3 R4 R5 R6 R7 R8 : Res} {l : Sch} (ho : ops[i]? = some ⟨some d, .call cl, ty, pos, af, gd⟩) (hw : Wd n ops e ⟨some d, .call cl, ty, pos, af, gd⟩ true) (hc : CT P n e ⟨some d, .call cl, ty, pos, af, gd⟩ f vs) (hs : SpecX P f vs.toArray Y A (fun v' A' N => v' = v ∧ A' = B ∧ N = [])) (hr : ∀ w, St F0 w0 (R0 :: R1 :: R2 :: R3 :: R4 :: R5 :: R6 :: R7 :: R8 :: A :: Rs) w → Src F0 w0 (R0 :: R1 :: R2 :: R3 :: R4 :: R5 :: R6 :: R7 :: R8 :: A :: Rs) w 9 Y) (hd : Nat.blt d n = true) (is : List Nat) (hf : Sel (R0 :: R1 :: R2 :: R3 :: R4 :: R5 :: R6 :: R7 :: R8 :: B :: Rs) is Rf) (h : TD P n F0 w0 ops l Rf ((d, v) :: e) (R0 :: R1 :: R2 :: R3 :: R4 :: R5 :: R6 :: R7 :: R8 :: B :: Rs) Q) : TD P n F0 w0 ops (.e i l) Rf e (R0 :: R1 :: R2 :: R3 :: R4 :: R5 :: R6 :: R7 :: R8 :: A :: Rs) Q := by
  refine TD.ef ho hw (Ef.call 9 hc rfl hs hr hd) ?_
  rintro _ _ ⟨_, _, _, ⟨rfl, rfl, rfl⟩, rfl, rfl⟩
  exact ⟨Rf, fun w hw => hw.sel is (hf), fun _ h => h, h⟩
theorem TL.st10 {cs cs' : Array Value} {R0 R1 R2 R3 R4 R5 R6 R7 R8 R9 : Res} (ho : ops[i]? = some ⟨none, .store t x y, ty, pos, af, gd⟩) (hw : Wd n ops e ⟨none, .store t x y, ty, pos, af, gd⟩ true) (hx : e.ev x = some (.pointer (some ⟨b, o, none⟩))) (hy : e.ev y = some v) (hz : ∀ w, (sizeOf t).run P w = .ok z w) (hvz : Nat.beq v.cells.size z = true) (hf' : Nat.ble (o + v.cells.size) cs.size = true) (ho' : v.cells.toList.all (·.oneCell') = true) (hc : (cs.toList.take o ++ v.cells.toList ++ cs.toList.drop (o + v.cells.size)).toArray = cs') (h : TL P n F0 w0 ops l e (R0 :: R1 :: R2 :: R3 :: R4 :: R5 :: R6 :: R7 :: R8 :: R9 :: BlkR b T cs' :: Rs) Q) : TL P n F0 w0 ops (i :: l) e (R0 :: R1 :: R2 :: R3 :: R4 :: R5 :: R6 :: R7 :: R8 :: R9 :: BlkR b T cs :: Rs) Q := by
  refine TL.ef ho hw (Ef.st 10 hx hy hz rfl hvz hf' ho' hc) ?_
  rintro _ _ ⟨rfl, rfl⟩
  exact h
theorem TD.st10 {cs cs' : Array Value} {R0 R1 R2 R3 R4 R5 R6 R7 R8 R9 : Res} {l : Sch} (ho : ops[i]? = some ⟨none, .store t x y, ty, pos, af, gd⟩) (hw : Wd n ops e ⟨none, .store t x y, ty, pos, af, gd⟩ true) (hx : e.ev x = some (.pointer (some ⟨b, o, none⟩))) (hy : e.ev y = some v) (hz : ∀ w, (sizeOf t).run P w = .ok z w) (hvz : Nat.beq v.cells.size z = true) (hf' : Nat.ble (o + v.cells.size) cs.size = true) (ho' : v.cells.toList.all (·.oneCell') = true) (hc : (cs.toList.take o ++ v.cells.toList ++ cs.toList.drop (o + v.cells.size)).toArray = cs') (is : List Nat) (hf : Sel (R0 :: R1 :: R2 :: R3 :: R4 :: R5 :: R6 :: R7 :: R8 :: R9 :: BlkR b T cs' :: Rs) is Rf) (h : TD P n F0 w0 ops l Rf e (R0 :: R1 :: R2 :: R3 :: R4 :: R5 :: R6 :: R7 :: R8 :: R9 :: BlkR b T cs' :: Rs) Q) : TD P n F0 w0 ops (.e i l) Rf e (R0 :: R1 :: R2 :: R3 :: R4 :: R5 :: R6 :: R7 :: R8 :: R9 :: BlkR b T cs :: Rs) Q := by
  refine TD.ef ho hw (Ef.st 10 hx hy hz rfl hvz hf' ho' hc) ?_
  rintro _ _ ⟨rfl, rfl⟩
  exact ⟨Rf, fun w hw => hw.sel is (hf), fun _ h => h, h⟩
theorem TL.c10 {R0 R1 R2 R3 R4 R5 R6 R7 R8 R9 : Res} (ho : ops[i]? = some ⟨some d, .call cl, ty, pos, af, gd⟩) (hw : Wd n ops e ⟨some d, .call cl, ty, pos, af, gd⟩ true) (hc : CT P n e ⟨some d, .call cl, ty, pos, af, gd⟩ f vs) (hs : SpecX P f vs.toArray Y A (fun v' A' N => v' = v ∧ A' = B ∧ N = [])) (hr : ∀ w, St F0 w0 (R0 :: R1 :: R2 :: R3 :: R4 :: R5 :: R6 :: R7 :: R8 :: R9 :: A :: Rs) w → Src F0 w0 (R0 :: R1 :: R2 :: R3 :: R4 :: R5 :: R6 :: R7 :: R8 :: R9 :: A :: Rs) w 10 Y) (hd : Nat.blt d n = true) (h : TL P n F0 w0 ops l ((d, v) :: e) (R0 :: R1 :: R2 :: R3 :: R4 :: R5 :: R6 :: R7 :: R8 :: R9 :: B :: Rs) Q) : TL P n F0 w0 ops (i :: l) e (R0 :: R1 :: R2 :: R3 :: R4 :: R5 :: R6 :: R7 :: R8 :: R9 :: A :: Rs) Q := by
  refine TL.ef ho hw (Ef.call 10 hc rfl hs hr hd) ?_
  rintro _ _ ⟨_, _, _, ⟨rfl, rfl, rfl⟩, rfl, rfl⟩
  exact h
theorem TD.c10 {R0 R1 R2 R3 R4 R5 R6 R7 R8 R9 : Res} {l : Sch} (ho : ops[i]? = some ⟨some d, .call cl, ty, pos, af, gd⟩) (hw : Wd n ops e ⟨some d, .call cl, ty, pos, af, gd⟩ true) (hc : CT P n e ⟨some d, .call cl, ty, pos, af, gd⟩ f vs) (hs : SpecX P f vs.toArray Y A (fun v' A' N => v' = v ∧ A' = B ∧ N = [])) (hr : ∀ w, St F0 w0 (R0 :: R1 :: R2 :: R3 :: R4 :: R5 :: R6 :: R7 :: R8 :: R9 :: A :: Rs) w → Src F0 w0 (R0 :: R1 :: R2 :: R3 :: R4 :: R5 :: R6 :: R7 :: R8 :: R9 :: A :: Rs) w 10 Y) (hd : Nat.blt d n = true) (is : List Nat) (hf : Sel (R0 :: R1 :: R2 :: R3 :: R4 :: R5 :: R6 :: R7 :: R8 :: R9 :: B :: Rs) is Rf) (h : TD P n F0 w0 ops l Rf ((d, v) :: e) (R0 :: R1 :: R2 :: R3 :: R4 :: R5 :: R6 :: R7 :: R8 :: R9 :: B :: Rs) Q) : TD P n F0 w0 ops (.e i l) Rf e (R0 :: R1 :: R2 :: R3 :: R4 :: R5 :: R6 :: R7 :: R8 :: R9 :: A :: Rs) Q := by
  refine TD.ef ho hw (Ef.call 10 hc rfl hs hr hd) ?_
  rintro _ _ ⟨_, _, _, ⟨rfl, rfl, rfl⟩, rfl, rfl⟩
  exact ⟨Rf, fun w hw => hw.sel is (hf), fun _ h => h, h⟩
theorem TL.st11 {cs cs' : Array Value} {R0 R1 R2 R3 R4 R5 R6 R7 R8 R9 R10 : Res} (ho : ops[i]? = some ⟨none, .store t x y, ty, pos, af, gd⟩) (hw : Wd n ops e ⟨none, .store t x y, ty, pos, af, gd⟩ true) (hx : e.ev x = some (.pointer (some ⟨b, o, none⟩))) (hy : e.ev y = some v) (hz : ∀ w, (sizeOf t).run P w = .ok z w) (hvz : Nat.beq v.cells.size z = true) (hf' : Nat.ble (o + v.cells.size) cs.size = true) (ho' : v.cells.toList.all (·.oneCell') = true) (hc : (cs.toList.take o ++ v.cells.toList ++ cs.toList.drop (o + v.cells.size)).toArray = cs') (h : TL P n F0 w0 ops l e (R0 :: R1 :: R2 :: R3 :: R4 :: R5 :: R6 :: R7 :: R8 :: R9 :: R10 :: BlkR b T cs' :: Rs) Q) : TL P n F0 w0 ops (i :: l) e (R0 :: R1 :: R2 :: R3 :: R4 :: R5 :: R6 :: R7 :: R8 :: R9 :: R10 :: BlkR b T cs :: Rs) Q := by
  refine TL.ef ho hw (Ef.st 11 hx hy hz rfl hvz hf' ho' hc) ?_
  rintro _ _ ⟨rfl, rfl⟩
  exact h
theorem TD.st11 {cs cs' : Array Value} {R0 R1 R2 R3 R4 R5 R6 R7 R8 R9 R10 : Res} {l : Sch} (ho : ops[i]? = some ⟨none, .store t x y, ty, pos, af, gd⟩) (hw : Wd n ops e ⟨none, .store t x y, ty, pos, af, gd⟩ true) (hx : e.ev x = some (.pointer (some ⟨b, o, none⟩))) (hy : e.ev y = some v) (hz : ∀ w, (sizeOf t).run P w = .ok z w) (hvz : Nat.beq v.cells.size z = true) (hf' : Nat.ble (o + v.cells.size) cs.size = true) (ho' : v.cells.toList.all (·.oneCell') = true) (hc : (cs.toList.take o ++ v.cells.toList ++ cs.toList.drop (o + v.cells.size)).toArray = cs') (is : List Nat) (hf : Sel (R0 :: R1 :: R2 :: R3 :: R4 :: R5 :: R6 :: R7 :: R8 :: R9 :: R10 :: BlkR b T cs' :: Rs) is Rf) (h : TD P n F0 w0 ops l Rf e (R0 :: R1 :: R2 :: R3 :: R4 :: R5 :: R6 :: R7 :: R8 :: R9 :: R10 :: BlkR b T cs' :: Rs) Q) : TD P n F0 w0 ops (.e i l) Rf e (R0 :: R1 :: R2 :: R3 :: R4 :: R5 :: R6 :: R7 :: R8 :: R9 :: R10 :: BlkR b T cs :: Rs) Q := by
  refine TD.ef ho hw (Ef.st 11 hx hy hz rfl hvz hf' ho' hc) ?_
  rintro _ _ ⟨rfl, rfl⟩
  exact ⟨Rf, fun w hw => hw.sel is (hf), fun _ h => h, h⟩
theorem TL.c11 {R0 R1 R2 R3 R4 R5 R6 R7 R8 R9 R10 : Res} (ho : ops[i]? = some ⟨some d, .call cl, ty, pos, af, gd⟩) (hw : Wd n ops e ⟨some d, .call cl, ty, pos, af, gd⟩ true) (hc : CT P n e ⟨some d, .call cl, ty, pos, af, gd⟩ f vs) (hs : SpecX P f vs.toArray Y A (fun v' A' N => v' = v ∧ A' = B ∧ N = [])) (hr : ∀ w, St F0 w0 (R0 :: R1 :: R2 :: R3 :: R4 :: R5 :: R6 :: R7 :: R8 :: R9 :: R10 :: A :: Rs) w → Src F0 w0 (R0 :: R1 :: R2 :: R3 :: R4 :: R5 :: R6 :: R7 :: R8 :: R9 :: R10 :: A :: Rs) w 11 Y) (hd : Nat.blt d n = true) (h : TL P n F0 w0 ops l ((d, v) :: e) (R0 :: R1 :: R2 :: R3 :: R4 :: R5 :: R6 :: R7 :: R8 :: R9 :: R10 :: B :: Rs) Q) : TL P n F0 w0 ops (i :: l) e (R0 :: R1 :: R2 :: R3 :: R4 :: R5 :: R6 :: R7 :: R8 :: R9 :: R10 :: A :: Rs) Q := by
  refine TL.ef ho hw (Ef.call 11 hc rfl hs hr hd) ?_
  rintro _ _ ⟨_, _, _, ⟨rfl, rfl, rfl⟩, rfl, rfl⟩
  exact h
theorem TD.c11 {R0 R1 R2 R3 R4 R5 R6 R7 R8 R9 R10 : Res} {l : Sch} (ho : ops[i]? = some ⟨some d, .call cl, ty, pos, af, gd⟩) (hw : Wd n ops e ⟨some d, .call cl, ty, pos, af, gd⟩ true) (hc : CT P n e ⟨some d, .call cl, ty, pos, af, gd⟩ f vs) (hs : SpecX P f vs.toArray Y A (fun v' A' N => v' = v ∧ A' = B ∧ N = [])) (hr : ∀ w, St F0 w0 (R0 :: R1 :: R2 :: R3 :: R4 :: R5 :: R6 :: R7 :: R8 :: R9 :: R10 :: A :: Rs) w → Src F0 w0 (R0 :: R1 :: R2 :: R3 :: R4 :: R5 :: R6 :: R7 :: R8 :: R9 :: R10 :: A :: Rs) w 11 Y) (hd : Nat.blt d n = true) (is : List Nat) (hf : Sel (R0 :: R1 :: R2 :: R3 :: R4 :: R5 :: R6 :: R7 :: R8 :: R9 :: R10 :: B :: Rs) is Rf) (h : TD P n F0 w0 ops l Rf ((d, v) :: e) (R0 :: R1 :: R2 :: R3 :: R4 :: R5 :: R6 :: R7 :: R8 :: R9 :: R10 :: B :: Rs) Q) : TD P n F0 w0 ops (.e i l) Rf e (R0 :: R1 :: R2 :: R3 :: R4 :: R5 :: R6 :: R7 :: R8 :: R9 :: R10 :: A :: Rs) Q := by
  refine TD.ef ho hw (Ef.call 11 hc rfl hs hr hd) ?_
  rintro _ _ ⟨_, _, _, ⟨rfl, rfl, rfl⟩, rfl, rfl⟩
  exact ⟨Rf, fun w hw => hw.sel is (hf), fun _ h => h, h⟩
theorem TL.st12 {cs cs' : Array Value} {R0 R1 R2 R3 R4 R5 R6 R7 R8 R9 R10 R11 : Res} (ho : ops[i]? = some ⟨none, .store t x y, ty, pos, af, gd⟩) (hw : Wd n ops e ⟨none, .store t x y, ty, pos, af, gd⟩ true) (hx : e.ev x = some (.pointer (some ⟨b, o, none⟩))) (hy : e.ev y = some v) (hz : ∀ w, (sizeOf t).run P w = .ok z w) (hvz : Nat.beq v.cells.size z = true) (hf' : Nat.ble (o + v.cells.size) cs.size = true) (ho' : v.cells.toList.all (·.oneCell') = true) (hc : (cs.toList.take o ++ v.cells.toList ++ cs.toList.drop (o + v.cells.size)).toArray = cs') (h : TL P n F0 w0 ops l e (R0 :: R1 :: R2 :: R3 :: R4 :: R5 :: R6 :: R7 :: R8 :: R9 :: R10 :: R11 :: BlkR b T cs' :: Rs) Q) : TL P n F0 w0 ops (i :: l) e (R0 :: R1 :: R2 :: R3 :: R4 :: R5 :: R6 :: R7 :: R8 :: R9 :: R10 :: R11 :: BlkR b T cs :: Rs) Q := by
  refine TL.ef ho hw (Ef.st 12 hx hy hz rfl hvz hf' ho' hc) ?_
  rintro _ _ ⟨rfl, rfl⟩
  exact h
theorem TD.st12 {cs cs' : Array Value} {R0 R1 R2 R3 R4 R5 R6 R7 R8 R9 R10 R11 : Res} {l : Sch} (ho : ops[i]? = some ⟨none, .store t x y, ty, pos, af, gd⟩) (hw : Wd n ops e ⟨none, .store t x y, ty, pos, af, gd⟩ true) (hx : e.ev x = some (.pointer (some ⟨b, o, none⟩))) (hy : e.ev y = some v) (hz : ∀ w, (sizeOf t).run P w = .ok z w) (hvz : Nat.beq v.cells.size z = true) (hf' : Nat.ble (o + v.cells.size) cs.size = true) (ho' : v.cells.toList.all (·.oneCell') = true) (hc : (cs.toList.take o ++ v.cells.toList ++ cs.toList.drop (o + v.cells.size)).toArray = cs') (is : List Nat) (hf : Sel (R0 :: R1 :: R2 :: R3 :: R4 :: R5 :: R6 :: R7 :: R8 :: R9 :: R10 :: R11 :: BlkR b T cs' :: Rs) is Rf) (h : TD P n F0 w0 ops l Rf e (R0 :: R1 :: R2 :: R3 :: R4 :: R5 :: R6 :: R7 :: R8 :: R9 :: R10 :: R11 :: BlkR b T cs' :: Rs) Q) : TD P n F0 w0 ops (.e i l) Rf e (R0 :: R1 :: R2 :: R3 :: R4 :: R5 :: R6 :: R7 :: R8 :: R9 :: R10 :: R11 :: BlkR b T cs :: Rs) Q := by
  refine TD.ef ho hw (Ef.st 12 hx hy hz rfl hvz hf' ho' hc) ?_
  rintro _ _ ⟨rfl, rfl⟩
  exact ⟨Rf, fun w hw => hw.sel is (hf), fun _ h => h, h⟩
theorem TL.c12 {R0 R1 R2 R3 R4 R5 R6 R7 R8 R9 R10 R11 : Res} (ho : ops[i]? = some ⟨some d, .call cl, ty, pos, af, gd⟩) (hw : Wd n ops e ⟨some d, .call cl, ty, pos, af, gd⟩ true) (hc : CT P n e ⟨some d, .call cl, ty, pos, af, gd⟩ f vs) (hs : SpecX P f vs.toArray Y A (fun v' A' N => v' = v ∧ A' = B ∧ N = [])) (hr : ∀ w, St F0 w0 (R0 :: R1 :: R2 :: R3 :: R4 :: R5 :: R6 :: R7 :: R8 :: R9 :: R10 :: R11 :: A :: Rs) w → Src F0 w0 (R0 :: R1 :: R2 :: R3 :: R4 :: R5 :: R6 :: R7 :: R8 :: R9 :: R10 :: R11 :: A :: Rs) w 12 Y) (hd : Nat.blt d n = true) (h : TL P n F0 w0 ops l ((d, v) :: e) (R0 :: R1 :: R2 :: R3 :: R4 :: R5 :: R6 :: R7 :: R8 :: R9 :: R10 :: R11 :: B :: Rs) Q) : TL P n F0 w0 ops (i :: l) e (R0 :: R1 :: R2 :: R3 :: R4 :: R5 :: R6 :: R7 :: R8 :: R9 :: R10 :: R11 :: A :: Rs) Q := by
  refine TL.ef ho hw (Ef.call 12 hc rfl hs hr hd) ?_
  rintro _ _ ⟨_, _, _, ⟨rfl, rfl, rfl⟩, rfl, rfl⟩
  exact h
theorem TD.c12 {R0 R1 R2 R3 R4 R5 R6 R7 R8 R9 R10 R11 : Res} {l : Sch} (ho : ops[i]? = some ⟨some d, .call cl, ty, pos, af, gd⟩) (hw : Wd n ops e ⟨some d, .call cl, ty, pos, af, gd⟩ true) (hc : CT P n e ⟨some d, .call cl, ty, pos, af, gd⟩ f vs) (hs : SpecX P f vs.toArray Y A (fun v' A' N => v' = v ∧ A' = B ∧ N = [])) (hr : ∀ w, St F0 w0 (R0 :: R1 :: R2 :: R3 :: R4 :: R5 :: R6 :: R7 :: R8 :: R9 :: R10 :: R11 :: A :: Rs) w → Src F0 w0 (R0 :: R1 :: R2 :: R3 :: R4 :: R5 :: R6 :: R7 :: R8 :: R9 :: R10 :: R11 :: A :: Rs) w 12 Y) (hd : Nat.blt d n = true) (is : List Nat) (hf : Sel (R0 :: R1 :: R2 :: R3 :: R4 :: R5 :: R6 :: R7 :: R8 :: R9 :: R10 :: R11 :: B :: Rs) is Rf) (h : TD P n F0 w0 ops l Rf ((d, v) :: e) (R0 :: R1 :: R2 :: R3 :: R4 :: R5 :: R6 :: R7 :: R8 :: R9 :: R10 :: R11 :: B :: Rs) Q) : TD P n F0 w0 ops (.e i l) Rf e (R0 :: R1 :: R2 :: R3 :: R4 :: R5 :: R6 :: R7 :: R8 :: R9 :: R10 :: R11 :: A :: Rs) Q := by
  refine TD.ef ho hw (Ef.call 12 hc rfl hs hr hd) ?_
  rintro _ _ ⟨_, _, _, ⟨rfl, rfl, rfl⟩, rfl, rfl⟩
  exact ⟨Rf, fun w hw => hw.sel is (hf), fun _ h => h, h⟩
theorem TL.st13 {cs cs' : Array Value} {R0 R1 R2 R3 R4 R5 R6 R7 R8 R9 R10 R11 R12 : Res} (ho : ops[i]? = some ⟨none, .store t x y, ty, pos, af, gd⟩) (hw : Wd n ops e ⟨none, .store t x y, ty, pos, af, gd⟩ true) (hx : e.ev x = some (.pointer (some ⟨b, o, none⟩))) (hy : e.ev y = some v) (hz : ∀ w, (sizeOf t).run P w = .ok z w) (hvz : Nat.beq v.cells.size z = true) (hf' : Nat.ble (o + v.cells.size) cs.size = true) (ho' : v.cells.toList.all (·.oneCell') = true) (hc : (cs.toList.take o ++ v.cells.toList ++ cs.toList.drop (o + v.cells.size)).toArray = cs') (h : TL P n F0 w0 ops l e (R0 :: R1 :: R2 :: R3 :: R4 :: R5 :: R6 :: R7 :: R8 :: R9 :: R10 :: R11 :: R12 :: BlkR b T cs' :: Rs) Q) : TL P n F0 w0 ops (i :: l) e (R0 :: R1 :: R2 :: R3 :: R4 :: R5 :: R6 :: R7 :: R8 :: R9 :: R10 :: R11 :: R12 :: BlkR b T cs :: Rs) Q := by
  refine TL.ef ho hw (Ef.st 13 hx hy hz rfl hvz hf' ho' hc) ?_
  rintro _ _ ⟨rfl, rfl⟩
  exact h
theorem TD.st13 {cs cs' : Array Value} {R0 R1 R2 R3 R4 R5 R6 R7 R8 R9 R10 R11 R12 : Res} {l : Sch} (ho : ops[i]? = some ⟨none, .store t x y, ty, pos, af, gd⟩) (hw : Wd n ops e ⟨none, .store t x y, ty, pos, af, gd⟩ true) (hx : e.ev x = some (.pointer (some ⟨b, o, none⟩))) (hy : e.ev y = some v) (hz : ∀ w, (sizeOf t).run P w = .ok z w) (hvz : Nat.beq v.cells.size z = true) (hf' : Nat.ble (o + v.cells.size) cs.size = true) (ho' : v.cells.toList.all (·.oneCell') = true) (hc : (cs.toList.take o ++ v.cells.toList ++ cs.toList.drop (o + v.cells.size)).toArray = cs') (is : List Nat) (hf : Sel (R0 :: R1 :: R2 :: R3 :: R4 :: R5 :: R6 :: R7 :: R8 :: R9 :: R10 :: R11 :: R12 :: BlkR b T cs' :: Rs) is Rf) (h : TD P n F0 w0 ops l Rf e (R0 :: R1 :: R2 :: R3 :: R4 :: R5 :: R6 :: R7 :: R8 :: R9 :: R10 :: R11 :: R12 :: BlkR b T cs' :: Rs) Q) : TD P n F0 w0 ops (.e i l) Rf e (R0 :: R1 :: R2 :: R3 :: R4 :: R5 :: R6 :: R7 :: R8 :: R9 :: R10 :: R11 :: R12 :: BlkR b T cs :: Rs) Q := by
  refine TD.ef ho hw (Ef.st 13 hx hy hz rfl hvz hf' ho' hc) ?_
  rintro _ _ ⟨rfl, rfl⟩
  exact ⟨Rf, fun w hw => hw.sel is (hf), fun _ h => h, h⟩
theorem TL.c13 {R0 R1 R2 R3 R4 R5 R6 R7 R8 R9 R10 R11 R12 : Res} (ho : ops[i]? = some ⟨some d, .call cl, ty, pos, af, gd⟩) (hw : Wd n ops e ⟨some d, .call cl, ty, pos, af, gd⟩ true) (hc : CT P n e ⟨some d, .call cl, ty, pos, af, gd⟩ f vs) (hs : SpecX P f vs.toArray Y A (fun v' A' N => v' = v ∧ A' = B ∧ N = [])) (hr : ∀ w, St F0 w0 (R0 :: R1 :: R2 :: R3 :: R4 :: R5 :: R6 :: R7 :: R8 :: R9 :: R10 :: R11 :: R12 :: A :: Rs) w → Src F0 w0 (R0 :: R1 :: R2 :: R3 :: R4 :: R5 :: R6 :: R7 :: R8 :: R9 :: R10 :: R11 :: R12 :: A :: Rs) w 13 Y) (hd : Nat.blt d n = true) (h : TL P n F0 w0 ops l ((d, v) :: e) (R0 :: R1 :: R2 :: R3 :: R4 :: R5 :: R6 :: R7 :: R8 :: R9 :: R10 :: R11 :: R12 :: B :: Rs) Q) : TL P n F0 w0 ops (i :: l) e (R0 :: R1 :: R2 :: R3 :: R4 :: R5 :: R6 :: R7 :: R8 :: R9 :: R10 :: R11 :: R12 :: A :: Rs) Q := by
  refine TL.ef ho hw (Ef.call 13 hc rfl hs hr hd) ?_
  rintro _ _ ⟨_, _, _, ⟨rfl, rfl, rfl⟩, rfl, rfl⟩
  exact h
theorem TD.c13 {R0 R1 R2 R3 R4 R5 R6 R7 R8 R9 R10 R11 R12 : Res} {l : Sch} (ho : ops[i]? = some ⟨some d, .call cl, ty, pos, af, gd⟩) (hw : Wd n ops e ⟨some d, .call cl, ty, pos, af, gd⟩ true) (hc : CT P n e ⟨some d, .call cl, ty, pos, af, gd⟩ f vs) (hs : SpecX P f vs.toArray Y A (fun v' A' N => v' = v ∧ A' = B ∧ N = [])) (hr : ∀ w, St F0 w0 (R0 :: R1 :: R2 :: R3 :: R4 :: R5 :: R6 :: R7 :: R8 :: R9 :: R10 :: R11 :: R12 :: A :: Rs) w → Src F0 w0 (R0 :: R1 :: R2 :: R3 :: R4 :: R5 :: R6 :: R7 :: R8 :: R9 :: R10 :: R11 :: R12 :: A :: Rs) w 13 Y) (hd : Nat.blt d n = true) (is : List Nat) (hf : Sel (R0 :: R1 :: R2 :: R3 :: R4 :: R5 :: R6 :: R7 :: R8 :: R9 :: R10 :: R11 :: R12 :: B :: Rs) is Rf) (h : TD P n F0 w0 ops l Rf ((d, v) :: e) (R0 :: R1 :: R2 :: R3 :: R4 :: R5 :: R6 :: R7 :: R8 :: R9 :: R10 :: R11 :: R12 :: B :: Rs) Q) : TD P n F0 w0 ops (.e i l) Rf e (R0 :: R1 :: R2 :: R3 :: R4 :: R5 :: R6 :: R7 :: R8 :: R9 :: R10 :: R11 :: R12 :: A :: Rs) Q := by
  refine TD.ef ho hw (Ef.call 13 hc rfl hs hr hd) ?_
  rintro _ _ ⟨_, _, _, ⟨rfl, rfl, rfl⟩, rfl, rfl⟩
  exact ⟨Rf, fun w hw => hw.sel is (hf), fun _ h => h, h⟩
theorem TL.cge  (ho : ops[i]? = some ⟨some d, .call cl, ty, pos, af, gd⟩) (hw : Wd n ops e ⟨some d, .call cl, ty, pos, af, gd⟩ true) (hc : CT P n e ⟨some d, .call cl, ty, pos, af, gd⟩ f vs) (hs : SpecX P f vs.toArray Y EmpR R) (hr : ∀ w, St F0 w0 Rs w → Y.reads w (fun _ => False)) (hd : Nat.blt d n = true) (h : ∀ v A' N, R v A' N → TL P n F0 w0 ops l ((d, v) :: e) (N ++ Rs) Q) : TL P n F0 w0 ops (i :: l) e Rs Q := by
  refine TL.ef ho hw (Ef.callE hc hs hr hd) ?_
  rintro _ _ ⟨v, A', N, hR, rfl, rfl⟩
  exact h v A' N hR
theorem TD.cge  {l : Sch} (ho : ops[i]? = some ⟨some d, .call cl, ty, pos, af, gd⟩) (hw : Wd n ops e ⟨some d, .call cl, ty, pos, af, gd⟩ true) (hc : CT P n e ⟨some d, .call cl, ty, pos, af, gd⟩ f vs) (hs : SpecX P f vs.toArray Y EmpR R) (hr : ∀ w, St F0 w0 Rs w → Y.reads w (fun _ => False)) (hd : Nat.blt d n = true) (is : List Nat) (hf : ∀ v A' N, R v A' N → Sel (N ++ Rs) is Rf) (h : ∀ v A' N, R v A' N → TD P n F0 w0 ops l Rf ((d, v) :: e) (N ++ Rs) Q) : TD P n F0 w0 ops (.e i l) Rf e Rs Q := by
  refine TD.ef ho hw (Ef.callE hc hs hr hd) ?_
  rintro _ _ ⟨v, A', N, hR, rfl, rfl⟩
  exact ⟨Rf, fun w hw => hw.sel is (hf v A' N hR), fun _ h => h, h v A' N hR⟩
theorem TL.ce  (ho : ops[i]? = some ⟨some d, .call cl, ty, pos, af, gd⟩) (hw : Wd n ops e ⟨some d, .call cl, ty, pos, af, gd⟩ true) (hc : CT P n e ⟨some d, .call cl, ty, pos, af, gd⟩ f vs) (hs : SpecX P f vs.toArray Y EmpR (fun v' A' N => v' = v ∧ A' = EmpR ∧ N = [])) (hr : ∀ w, St F0 w0 Rs w → Y.reads w (fun _ => False)) (hd : Nat.blt d n = true) (h : TL P n F0 w0 ops l ((d, v) :: e) Rs Q) : TL P n F0 w0 ops (i :: l) e Rs Q := by
  refine TL.ef ho hw (Ef.callE hc hs hr hd) ?_
  rintro _ _ ⟨_, _, _, ⟨rfl, rfl, rfl⟩, rfl, rfl⟩
  exact h
theorem TD.ce  {l : Sch} (ho : ops[i]? = some ⟨some d, .call cl, ty, pos, af, gd⟩) (hw : Wd n ops e ⟨some d, .call cl, ty, pos, af, gd⟩ true) (hc : CT P n e ⟨some d, .call cl, ty, pos, af, gd⟩ f vs) (hs : SpecX P f vs.toArray Y EmpR (fun v' A' N => v' = v ∧ A' = EmpR ∧ N = [])) (hr : ∀ w, St F0 w0 Rs w → Y.reads w (fun _ => False)) (hd : Nat.blt d n = true) (is : List Nat) (hf : Sel Rs is Rf) (h : TD P n F0 w0 ops l Rf ((d, v) :: e) Rs Q) : TD P n F0 w0 ops (.e i l) Rf e Rs Q := by
  refine TD.ef ho hw (Ef.callE hc hs hr hd) ?_
  rintro _ _ ⟨_, _, _, ⟨rfl, rfl, rfl⟩, rfl, rfl⟩
  exact ⟨Rf, fun w hw => hw.sel is (hf), fun _ h => h, h⟩
end
end Go.Proofs.Ytlhgogjcaegehaa.Sl
namespace Go.Proofs.Ytlhgogjcaegehaa.Sl
open Go.RowKit
set_option linter.unusedVariables false
set_option linter.unusedSimpArgs false
theorem bn_t {b : Bool} (h : b = false) : (!b) = true := by rw [h]; rfl
theorem bn_f {b : Bool} (h : b = true) : (!b) = false := by rw [h]; rfl
theorem ifT {α : Type} {c : Prop} [Decidable c] {x y z : α} (hc : c) (h : (if c then x else y) = z) : x = z := by rwa [if_pos hc] at h
theorem ifF {α : Type} {c : Prop} [Decidable c] {x y z : α} (hc : ¬ c) (h : (if c then x else y) = z) : y = z := by rwa [if_neg hc] at h
section
variable {P : Program} {n : Nat} {F0 : Nat → Prop} {w0 : World} {e : Env} {Rs Rf : List Res} {Q : Exit → Act → World → Prop} {ops : Array Oper} {i d : Nat} {ty t t' el : TypeId} {pos : String} {af : Array Edge} {gd : Option (Nat × Bool)} {v v' : Value} {x y : Operand} {l : List Nat} {lo : Sch} {c : Code} {S : World → Prop}
theorem Ex.bEq {d : Option Tmp} {a b p q : Bool} (hx : e.ev x = some (.bool a)) (ha : a = p) (hy : e.ev y = some (.bool b)) (hb : b = q) (hu : ∀ w, (underlying t).run P w = .ok .bool w) : Ex P n e S ⟨d, .binOp .eql t x y t', ty, pos, af, gd⟩ (.bool (p == q)) := by
  intro A w h _
  subst ha hb
  have h1 : ∀ k, (Op.equalIn (k + 1) t (.bool a) (.bool b)).run P w = .ok (a == b) w := by
    intro k
    simp only [Op.equalIn, Sem.run_bind, hu, Result.andThen_ok]
    rfl
  have h2 : (Op.equal t (.bool a) (.bool b)).run P w = .ok (a == b) w := h1 9999
  have h4 : (binOp .eql t (.bool a) (.bool b)).run P w = .ok (.bool (a == b)) w := by
    simp only [binOp, Sem.run_bind, h2, Result.andThen_ok, Sem.run_pure]
  simp only [execOp, h.ev hx, h.ev hy, eqGuard]
  simp [h4]
theorem Ex.bNe {d : Option Tmp} {a b p q : Bool} (hx : e.ev x = some (.bool a)) (ha : a = p) (hy : e.ev y = some (.bool b)) (hb : b = q) (hu : ∀ w, (underlying t).run P w = .ok .bool w) : Ex P n e S ⟨d, .binOp .neq t x y t', ty, pos, af, gd⟩ (.bool (!(p == q))) := by
  intro A w h _
  subst ha hb
  have h1 : ∀ k, (Op.equalIn (k + 1) t (.bool a) (.bool b)).run P w = .ok (a == b) w := by
    intro k
    simp only [Op.equalIn, Sem.run_bind, hu, Result.andThen_ok]
    rfl
  have h2 : (Op.equal t (.bool a) (.bool b)).run P w = .ok (a == b) w := h1 9999
  have h4 : (binOp .neq t (.bool a) (.bool b)).run P w = .ok (.bool (!(a == b))) w := by
    simp only [binOp, Sem.run_bind, h2, Result.andThen_ok, Sem.run_pure]
  simp only [execOp, h.ev hx, h.ev hy, eqGuard]
  simp [h4]
theorem TL.sel (is : List Nat) {Rs' : List Res} (hr : Sel Rs is Rs') (h : TL P n F0 w0 ops l e Rs' Q) : TL P n F0 w0 ops l e Rs Q := fun a w ha hs => h a w ha (hs.sel is hr)
theorem TD.sel (is : List Nat) {Rs' : List Res} (hr : Sel Rs is Rs') (h : TD P n F0 w0 ops lo Rf e Rs' Q) : TD P n F0 w0 ops lo Rf e Rs Q := fun a w ha hs => h a w ha (hs.sel is hr)
theorem T.sel (is : List Nat) {Rs' : List Res} (hr : Sel Rs is Rs') (h : T P n F0 w0 e Rs' c Q) : T P n F0 w0 e Rs c Q := fun a w ha hs => h a w ha (hs.sel is hr)
theorem X.sel {z : Exit} (is : List Nat) {Rs' : List Res} (hr : Sel Rs is Rs') (h : X n F0 w0 e Rs' z Q) : X n F0 w0 e Rs z Q := fun a w ha hs => h a w ha (hs.sel is hr)
theorem TL.nilrow {α : Type} (T' : TypeId) (size : Nat) (E : Rd α) (h : TL P n F0 w0 ops l e (OwnR T' size E (.slice none 0 0) [] :: Rs) Q) : TL P n F0 w0 ops l e Rs Q := fun a w ha hs => h a w ha (OwnR.nil T' size E hs)
theorem TD.nilrow {α : Type} (T' : TypeId) (size : Nat) (E : Rd α) (h : TD P n F0 w0 ops lo Rf e (OwnR T' size E (.slice none 0 0) [] :: Rs) Q) : TD P n F0 w0 ops lo Rf e Rs Q := fun a w ha hs => h a w ha (OwnR.nil T' size E hs)
theorem X.nilrd {α : Type} {z : Exit} (size : Nat) (E : Rd α) (h : X n F0 w0 e (RdR (sliceRd size E) [.slice none 0 0] [] :: Rs) z Q) : X n F0 w0 e Rs z Q := fun a w ha hs => h a w ha (RdR.nil size E hs)
theorem X.shut {α : Type} {z : Exit} {E : Rd α} {size : Nat} {T : TypeId} {u : Value} {xs : List α} (hp : 0 < size) (i : Nat) (hi : Rs[i]? = some (OwnR T size E u xs)) (h : X n F0 w0 e (Rs.set i (RdR (sliceRd size E) [u] xs)) z Q) : X n F0 w0 e Rs z Q := fun a w ha hs => h a w ha (OwnR.shut hp i hs hi)
theorem OutR.of_blk {b : Nat} {w : World} {G : Nat → Prop} (h : (BlkR b 73 #[.slice none 0 0, .int .i64 0]).P w G) : (OutR b ([], 0)).P w G := by
  obtain ⟨h1, h2⟩ := h
  exact ⟨_, h1, World.ownsRow_nil _ _ _ _, fun k => by simp [h2 k, Value.ownBlock]⟩
theorem TL.newout {zv : Value} (ho : ops[i]? = some ⟨some d, .alloc t, ty, pos, af, gd⟩) (hw : Wd n ops e ⟨some d, .alloc t, ty, pos, af, gd⟩ true) (hz : ∀ w, (zeroValue t).run P w = .ok zv w) (hd : Nat.blt d n = true)
    (h : ∀ b, TL P n F0 w0 ops l ((d, .pointer (some ⟨b, 0, none⟩)) :: e) (OutR b ([], 0) :: Rs) Q) (ht : t = 73 := by rfl) (hzv : zv = .agg #[.slice none 0 0, .int .i64 0] := by rfl) : TL P n F0 w0 ops (i :: l) e Rs Q := by
  refine TL.alloc ho hw hz hd (fun b => ?_)
  intro a w ha hs
  subst ht hzv
  exact h b a w ha (hs.weaken 0 rfl (fun G hG => OutR.of_blk hG))
theorem TD.newout {zv : Value} (ho : ops[i]? = some ⟨some d, .alloc t, ty, pos, af, gd⟩) (hw : Wd n ops e ⟨some d, .alloc t, ty, pos, af, gd⟩ true) (hz : ∀ w, (zeroValue t).run P w = .ok zv w) (hd : Nat.blt d n = true) (is : List Nat) (hf : ∀ b, Sel (OutR b ([], 0) :: Rs) is Rf)
    (h : ∀ b, TD P n F0 w0 ops lo Rf ((d, .pointer (some ⟨b, 0, none⟩)) :: e) (OutR b ([], 0) :: Rs) Q) (ht : t = 73 := by rfl) (hzv : zv = .agg #[.slice none 0 0, .int .i64 0] := by rfl) : TD P n F0 w0 ops (.e i lo) Rf e Rs Q := by
  refine TD.ef ho hw (Ef.alloc hz hd) ?_
  rintro _ _ ⟨b, rfl, rfl⟩
  subst ht hzv
  have key : ∀ w, St F0 w0 (BlkR b 73 #[.slice none 0 0, .int .i64 0] :: Rs) w → St F0 w0 (OutR b ([], 0) :: Rs) w := fun w hs => hs.weaken 0 rfl (fun G hG => OutR.of_blk hG)
  exact ⟨Rf, fun w hs => (key w hs).sel is (hf b), fun _ h => h, fun a w ha hs => h b a w ha (key w hs)⟩
section
variable {α : Type} {E : Rd α} {sl : Operand} {T z bytes g ii jj : Nat} {zv : Value} {A : Option Addr} {cp : Nat} {Rs' : List Res} {B : Res}
theorem TL.app1 (ii : Nat) {us : List Value} {u : α} {l : List α} {lr : List Nat} (ho : ops[i]? = some ⟨some d, .call ⟨.builtin .append, #[sl, x], #[t, t]⟩, ty, pos, af, gd⟩) (hw : Wd n ops e ⟨some d, .call ⟨.builtin .append, #[sl, x], #[t, t]⟩, ty, pos, af, gd⟩ true)
    (hu : P.underlying t = some (.slice T)) (hinfo : (P.info? T).map (fun i => (i.zero, i.size, i.bytes)) = some (some zv, z, bytes)) (hzv : zv.cells.size = z) (hp : 0 < z)
    (hs : e.ev sl = some (.slice A l.length cp)) (hx : e.ev x = some (.slice (some ⟨g, 0, none⟩) 1 1)) (hR : Rs = BlkR g T us.toArray :: Rs') (hi : Rs'[ii]? = some (OwnR T z E (.slice A l.length cp) l)) (hl : us.length = z) (hq : us.all (·.oneCell') = true) (hE : ∀ w S, E.P w S us u) (hb : (l.length + 1) * bytes ≤ 140737488355328) (hm : l.length + 1 ≤ 140737488355328) (hd : Nat.blt d n = true)
    (h : ∀ A' c', TL P n F0 w0 ops lr ((d, .slice A' (l ++ [u]).length c') :: e) (Rs'.set ii (OwnR T z E (.slice A' (l ++ [u]).length c') (l ++ [u]))) Q) : TL P n F0 w0 ops (i :: lr) e Rs Q := by
  refine TL.ef ho hw (Ef.app1 ii hu hinfo hzv hp hs hx hR hi hl hq hE hb hm hd) ?_
  rintro _ _ ⟨A', c', rfl, rfl⟩
  exact h A' c'
theorem TL.app2 (ii jj : Nat) {us : List Value} {u : α} {l : List α} {lr : List Nat} (ho : ops[i]? = some ⟨some d, .call ⟨.builtin .append, #[sl, x], #[t, t]⟩, ty, pos, af, gd⟩) (hw : Wd n ops e ⟨some d, .call ⟨.builtin .append, #[sl, x], #[t, t]⟩, ty, pos, af, gd⟩ true)
    (hu : P.underlying t = some (.slice T)) (hinfo : (P.info? T).map (fun i => (i.zero, i.size, i.bytes)) = some (some zv, z, bytes)) (hzv : zv.cells.size = z) (hp : 0 < z)
    (hs : e.ev sl = some (.slice A l.length cp)) (hx : e.ev x = some (.slice (some ⟨g, 0, none⟩) 1 1)) (hR : Rs = BlkR g T us.toArray :: Rs') (hi : Rs'[ii]? = some (OwnR T z E (.slice A l.length cp) l)) (hj : (Rs'.eraseIdx ii)[jj]? = some B) (hl : us.length = z) (hq : us.all (·.oneCell') = true) (hE : ∀ w G, B.P w G → E.P w G us u) (hb : (l.length + 1) * bytes ≤ 140737488355328) (hm : l.length + 1 ≤ 140737488355328) (hd : Nat.blt d n = true)
    (h : ∀ A' c', TL P n F0 w0 ops lr ((d, .slice A' (l ++ [u]).length c') :: e) (OwnR T z E (.slice A' (l ++ [u]).length c') (l ++ [u]) :: (Rs'.eraseIdx ii).eraseIdx jj) Q) : TL P n F0 w0 ops (i :: lr) e Rs Q := by
  refine TL.ef ho hw (Ef.app2 ii jj hu hinfo hzv hp hs hx hR hi hj hl hq hE hb hm hd) ?_
  rintro _ _ ⟨A', c', rfl, rfl⟩
  exact h A' c'
theorem TD.app1 (ii : Nat) {us : List Value} {u : α} {l : List α} {lr : Sch} (ho : ops[i]? = some ⟨some d, .call ⟨.builtin .append, #[sl, x], #[t, t]⟩, ty, pos, af, gd⟩) (hw : Wd n ops e ⟨some d, .call ⟨.builtin .append, #[sl, x], #[t, t]⟩, ty, pos, af, gd⟩ true)
    (hu : P.underlying t = some (.slice T)) (hinfo : (P.info? T).map (fun i => (i.zero, i.size, i.bytes)) = some (some zv, z, bytes)) (hzv : zv.cells.size = z) (hp : 0 < z)
    (hs : e.ev sl = some (.slice A l.length cp)) (hx : e.ev x = some (.slice (some ⟨g, 0, none⟩) 1 1)) (hR : Rs = BlkR g T us.toArray :: Rs') (hi : Rs'[ii]? = some (OwnR T z E (.slice A l.length cp) l)) (hl : us.length = z) (hq : us.all (·.oneCell') = true) (hE : ∀ w S, E.P w S us u) (hb : (l.length + 1) * bytes ≤ 140737488355328) (hm : l.length + 1 ≤ 140737488355328) (hd : Nat.blt d n = true)
    (is : List Nat) (hf : ∀ A' c', Sel (Rs'.set ii (OwnR T z E (.slice A' (l ++ [u]).length c') (l ++ [u]))) is Rf)
    (h : ∀ A' c', TD P n F0 w0 ops lr Rf ((d, .slice A' (l ++ [u]).length c') :: e) (Rs'.set ii (OwnR T z E (.slice A' (l ++ [u]).length c') (l ++ [u]))) Q) : TD P n F0 w0 ops (.e i lr) Rf e Rs Q := by
  refine TD.ef ho hw (Ef.app1 ii hu hinfo hzv hp hs hx hR hi hl hq hE hb hm hd) ?_
  rintro _ _ ⟨A', c', rfl, rfl⟩
  exact ⟨Rf, fun w hw => hw.sel is (hf A' c'), fun _ h => h, h A' c'⟩
theorem TD.app2 (ii jj : Nat) {us : List Value} {u : α} {l : List α} {lr : Sch} (ho : ops[i]? = some ⟨some d, .call ⟨.builtin .append, #[sl, x], #[t, t]⟩, ty, pos, af, gd⟩) (hw : Wd n ops e ⟨some d, .call ⟨.builtin .append, #[sl, x], #[t, t]⟩, ty, pos, af, gd⟩ true)
    (hu : P.underlying t = some (.slice T)) (hinfo : (P.info? T).map (fun i => (i.zero, i.size, i.bytes)) = some (some zv, z, bytes)) (hzv : zv.cells.size = z) (hp : 0 < z)
    (hs : e.ev sl = some (.slice A l.length cp)) (hx : e.ev x = some (.slice (some ⟨g, 0, none⟩) 1 1)) (hR : Rs = BlkR g T us.toArray :: Rs') (hi : Rs'[ii]? = some (OwnR T z E (.slice A l.length cp) l)) (hj : (Rs'.eraseIdx ii)[jj]? = some B) (hl : us.length = z) (hq : us.all (·.oneCell') = true) (hE : ∀ w G, B.P w G → E.P w G us u) (hb : (l.length + 1) * bytes ≤ 140737488355328) (hm : l.length + 1 ≤ 140737488355328) (hd : Nat.blt d n = true)
    (is : List Nat) (hf : ∀ A' c', Sel (OwnR T z E (.slice A' (l ++ [u]).length c') (l ++ [u]) :: (Rs'.eraseIdx ii).eraseIdx jj) is Rf)
    (h : ∀ A' c', TD P n F0 w0 ops lr Rf ((d, .slice A' (l ++ [u]).length c') :: e) (OwnR T z E (.slice A' (l ++ [u]).length c') (l ++ [u]) :: (Rs'.eraseIdx ii).eraseIdx jj) Q) : TD P n F0 w0 ops (.e i lr) Rf e Rs Q := by
  refine TD.ef ho hw (Ef.app2 ii jj hu hinfo hzv hp hs hx hR hi hj hl hq hE hb hm hd) ?_
  rintro _ _ ⟨A', c', rfl, rfl⟩
  exact ⟨Rf, fun w hw => hw.sel is (hf A' c'), fun _ h => h, h A' c'⟩
end
variable (P n F0 w0) in
def RV (e : Env) (Rs : List Res) (r : ResultVar) (v : Value) : Prop := ∀ a w, Has n e a → St F0 w0 Rs w → (resv a.tmps r).run P w = .ok v w
theorem RV.tm {k : Nat} (hv : e.get k = some v) : RV P n F0 w0 e Rs (.tmp k) v := by
  intro a w ha hs
  have h2 := ha.at_ k v hv
  simp [resv, h2]
theorem RV.cS (i : Nat) {k b T : Nat} {us : Array Value} {z : Nat} (hk : e.get k = some (.pointer (some ⟨b, 0, none⟩))) (ha : ∀ w, (isAgg t).run P w = .ok true w) (hz : ∀ w, (sizeOf t).run P w = .ok z w) (hi : Rs[i]? = some (BlkR b T us)) (hl : us.size = z) : RV P n F0 w0 e Rs (.cell k t) (.agg us) := by
  intro a w h hs
  have h2 := h.at_ k _ hk
  have hb := hs.blk i hi
  have h3 := run_loadVarS (P := P) (t := t) (w := w) (ad := ⟨b, 0, none⟩) (cs := us.toList) ha (by intro w; rw [hz]; simp [hl]) (fun j u hj => by
    have e1 : (⟨b, 0, none⟩ : Addr).add j = ⟨b, j, none⟩ := by unfold Addr.add; split <;> simp_all
    rw [e1, heap_at hb]
    simpa using hj)
  simp [resv, h2, asAddr, h3]
theorem RV.c1 (i : Nat) {k b T : Nat} {us : Array Value} (hk : e.get k = some (.pointer (some ⟨b, 0, none⟩))) (ha : ∀ w, (isAgg t).run P w = .ok false w) (hi : Rs[i]? = some (BlkR b T us)) (hv : us[0]? = some v) : RV P n F0 w0 e Rs (.cell k t) v := by
  intro a w h hs
  have h2 := h.at_ k _ hk
  have hb := hs.blk i hi
  have h3 := run_loadVar1 (P := P) (t := t) (w := w) (ad := ⟨b, 0, none⟩) ha ((heap_at hb 0).trans hv)
  simp [resv, h2, asAddr, h3]
section
variable {f : Func} {R : Value → Res → List Res → Prop} {A' : Res} {Ns : List Res} {r1 r2 r3 r4 : ResultVar} {v1 v2 v3 v4 : Value} {z : Exit}
theorem X.fin (hR : R v A' Ns) (is : List Nat) (hr : Sel Rs is (A' :: Ns)) (hx : z = .ret ∨ z = .normal) (h : ∀ a w, Has n e a → St F0 w0 Rs w → (results f a.tmps).run P w = .ok v w) : X n F0 w0 e Rs z (bodyPost P f (Post R F0 w0)) := by
  intro a w ha hs
  have h : bodyPost P f (Post R F0 w0) .ret a w := ⟨ha.df, v, h a w ha hs, v, A', Ns, rfl, hR, hs.sel is hr⟩
  rcases hx with rfl | rfl <;> exact h
theorem X.done1 (is : List Nat) (hf : f.results = #[r1]) (h1 : RV P n F0 w0 e Rs r1 v1) (hR : R v1 A' Ns) (hr : Sel Rs is (A' :: Ns)) (hx : z = .ret ∨ z = .normal) : X n F0 w0 e Rs z (bodyPost P f (Post R F0 w0)) :=
  X.fin hR is hr hx (fun a w ha hs => by rw [results_eq, hf]; simp [h1 a w ha hs])
theorem X.done2 (is : List Nat) (hf : f.results = #[r1, r2]) (h1 : RV P n F0 w0 e Rs r1 v1) (h2 : RV P n F0 w0 e Rs r2 v2) (hR : R (.tuple #[v1, v2]) A' Ns) (hr : Sel Rs is (A' :: Ns)) (hx : z = .ret ∨ z = .normal) : X n F0 w0 e Rs z (bodyPost P f (Post R F0 w0)) :=
  X.fin hR is hr hx (fun a w ha hs => by rw [results_eq, hf]; simp [h1 a w ha hs, h2 a w ha hs])
end
theorem BOK.mk {zv : Value} {fs : Array Field} {pl : List (Nat × Nat)} {zs : Array Value} (hz : ∀ w, (zeroValue t).run P w = .ok zv w) (hu : ∀ w, (underlying t).run P w = .ok (.struct fs) w) (hp : ∀ w, (fs.mapM (fun f => do pure (f.offset, ← sizeOf f.type)) : Sem (Array (Nat × Nat))).run P w = .ok pl.toArray w) (hzs : zv.cells = zs := by rfl) : BOK P t zs pl := by
  intro parts cells w h
  subst hzs
  simp only [Instr.build, Sem.run_bind, hz, Result.andThen_ok, hu, hp]
  have h2 : (fun (i : Nat) => (pl.toArray)[i]?) = (fun (i : Nat) => pl[i]?) := by funext i; simp
  simp [h2, h]
theorem SOK.mk {T m z : Nat} {zv : Value} {zs : Array Value} (hu : ∀ w, (underlying t).run P w = .ok (.slice T) w) (hz : ∀ w, (sizeOf T).run P w = .ok z w) (hzv : ∀ w, (zeroValue T).run P w = .ok zv w) (hm : 0 < m * z ∧ m * z ≤ 16777216) (hzs : (Array.range (m * z)).map (fun i => zv.cells[i % zv.cells.size]!) = zs) : SOK P t T m z zs := by
  intro parts cells w h
  have h1 : ¬ (m * z > 2 ^ 24) := by omega
  have h2 : ¬ (m * z = 0) := by omega
  subst hzs
  simp only [Instr.buildSlice, Sem.run_bind, hu, hz, Result.andThen_ok, h1, if_false, h2, hzv, Sem.run_pure]
  simp [h, newRow]
end
end Go.Proofs.Ytlhgogjcaegehaa.Sl
namespace Go.Proofs.Ytlhgogjcaegehaa.Sl
open Go.RowKit
set_option linter.unusedVariables false
set_option linter.unusedSimpArgs false
def eqV : Value → Value → Option Bool
  | .int k a, .int k' b => if k = k' then some (decide (a = b)) else none
  | .bool a, .bool b => some (decide (a = b))
  | .string a, .string b => some (decide (a.toList = b.toList))
  | _, _ => none
def eqL : List Value → List Value → Option Bool
  | [], [] => some true
  | x :: xs, y :: ys => match eqV x y with
    | some true => eqL xs ys
    | some false => some false
    | none => none
  | _, _ => none
theorem eqL_append : ∀ {xs ys xs' ys' : List Value} {b : Bool}, xs.length = ys.length → eqL (xs ++ xs') (ys ++ ys') = some b → ∃ c, eqL xs ys = some c ∧ (if c then eqL xs' ys' else some false) = some b
  | [], [], xs', ys', b, _, h => ⟨true, rfl, by simpa using h⟩
  | x :: xs, y :: ys, xs', ys', b, hl, h => by
    simp only [List.cons_append, eqL] at h ⊢
    cases hv : eqV x y with
    | none => rw [hv] at h; cases h
    | some c =>
      cases c with
      | true =>
        rw [hv] at h
        exact eqL_append (by simpa using hl) h
      | false =>
        rw [hv] at h
        exact ⟨false, rfl, by simpa using h⟩
def okD : TypeDesc → Value → Bool
  | .int _, .int _ _ => true
  | .bool, .bool _ => true
  | .string, .string _ => true
  | _, _ => false
def oksD : List TypeDesc → List Value → Bool
  | [], [] => true
  | d :: ds, v :: vs => okD d v && oksD ds vs
  | _, _ => false
theorem oksD_length : ∀ {ds : List TypeDesc} {vs : List Value}, oksD ds vs = true → vs.length = ds.length
  | [], [], _ => rfl
  | d :: ds, v :: vs, h => by
    simp only [oksD, Bool.and_eq_true] at h
    simp [oksD_length h.2]
theorem oksD_app : ∀ {ds ds' : List TypeDesc} {vs : List Value}, oksD (ds ++ ds') vs = true → oksD ds (vs.take ds.length) = true ∧ oksD ds' (vs.drop ds.length) = true
  | [], ds', vs, h => by simpa [oksD] using h
  | d :: ds, ds', [], h => by simp [oksD] at h
  | d :: ds, ds', v :: vs, h => by
    simp only [List.cons_append, oksD, Bool.and_eq_true] at h
    have := oksD_app h.2
    simp [oksD, h.1, this]
def mkV (agg : Bool) (xs : List Value) : Value := if agg then .agg xs.toArray else xs.headD undef
structure Flat (P : Program) (k : Nat) (t : TypeId) (ds : List TypeDesc) (agg : Bool) : Prop where
  ia : ∀ w, (isAgg t).run P w = .ok agg w
  sz : ∀ w, (sizeOf t).run P w = .ok ds.length w
  one : agg = false → ds.length = 1
  eq : ∀ (d : Nat) (xs ys : List Value) (b : Bool) (w : World), k ≤ d → oksD ds xs = true → oksD ds ys = true → eqL xs ys = some b → (Op.equalIn d t (mkV agg xs) (mkV agg ys)).run P w = .ok b w
section
variable {P : Program} {t : TypeId}
def FlatFs (P : Program) (k : Nat) : Nat → List Field → List TypeDesc → Prop
  | _, [], ds => ds = []
  | off, f :: fs, ds => f.name ≠ "_" ∧ f.offset = off ∧ ∃ d1 d2 agg, ds = d1 ++ d2 ∧ Flat P k f.type d1 agg ∧ FlatFs P k (off + d1.length) fs d2
theorem part_run {ty : TypeId} {ds : List TypeDesc} {agg : Bool} {k : Nat} (hf : Flat P k ty ds agg) (xs : List Value) (off : Nat) (w : World) (hl : off + ds.length ≤ xs.length) : (part ty xs.toArray off).run P w = .ok (mkV agg ((xs.drop off).take ds.length)) w := by
  cases agg with
  | true =>
    have h1 := hf.ia w
    simp only [part, Sem.run_bind, h1, Result.andThen_ok, if_true, hf.sz w, Sem.run_pure, mkV]
    congr 2
    apply Array.ext'
    simp [List.extract_eq_take_drop]
  | false =>
    have h1 := hf.ia w
    have h2 := hf.one rfl
    have h3 : off < xs.length := by omega
    have h4 : ((xs.drop off).take 1).headD undef = xs[off] := by
      rw [List.drop_eq_getElem_cons h3]
      rfl
    simp only [part, Sem.run_bind, h1, Result.andThen_ok, Bool.false_eq_true, if_false, mkV, h2, h4]
    simp [h3]
theorem fields_run {k : Nat} : ∀ {fs : List Field} {ds : List TypeDesc} {off : Nat}, FlatFs P k off fs ds → ∀ (d : Nat) (xs ys : List Value) (b : Bool) (w : World), k ≤ d → xs.length = off + ds.length → ys.length = off + ds.length →
    oksD ds (xs.drop off) = true → oksD ds (ys.drop off) = true → eqL (xs.drop off) (ys.drop off) = some b → (Op.eqFields d xs.toArray ys.toArray fs).run P w = .ok b w
  | [], ds, off, hf, d, xs, ys, b, w, hd, hx, hy, ox, oy, h => by
    obtain rfl : ds = [] := hf
    rw [List.drop_of_length_le (by simp at hx; omega), List.drop_of_length_le (by simp at hy; omega)] at h
    injection h with h
    subst h
    rfl
  | f :: fs, ds, off, hf, d, xs, ys, b, w, hd, hx, hy, ox, oy, h => by
    obtain ⟨hn, ho, d1, d2, agg, rfl, hF, hr⟩ := hf
    rw [List.length_append] at hx hy
    have ox' := oksD_app ox
    have oy' := oksD_app oy
    have e1 : xs.drop off = (xs.drop off).take d1.length ++ xs.drop (off + d1.length) := by rw [← List.drop_drop, List.take_append_drop]
    have e2 : ys.drop off = (ys.drop off).take d1.length ++ ys.drop (off + d1.length) := by rw [← List.drop_drop, List.take_append_drop]
    rw [e1, e2] at h
    obtain ⟨c, h1, h2⟩ := eqL_append (by simp; omega) h
    have p1 := part_run hF xs off w (by omega)
    have p2 := part_run hF ys off w (by omega)
    have q1 := hF.eq d _ _ c w hd ox'.1 oy'.1 h1
    simp only [Op.eqFields, hn, ne_eq, not_false_eq_true, if_true, Sem.run_bind, ho, p1, Result.andThen_ok, p2, q1, Sem.run_ite]
    cases c with
    | false =>
      simp only [Bool.false_eq_true, if_false] at h2
      injection h2 with h2
      subst h2
      rfl
    | true =>
      simp only [if_true] at h2
      have h3 := fields_run hr d xs ys b w hd (by omega) (by omega) (by rw [← List.drop_drop]; exact ox'.2) (by rw [← List.drop_drop]; exact oy'.2) h2
      simpa using h3
theorem Flat.struct {k : Nat} {fs : Array Field} {ds : List TypeDesc} (ia : ∀ w, (isAgg t).run P w = .ok true w) {z : Nat} (sz : ∀ w, (sizeOf t).run P w = .ok z w) (hz : ds.length = z) (hu : P.underlying t = some (.struct fs)) (hp : P.stoodInHeld t = false) (hf : FlatFs P k 0 fs.toList ds) : Flat P (k + 1) t ds true := by
  subst hz
  refine ⟨ia, sz, fun h => (by cases h), ?_⟩
  intro d xs ys b w hd hx hy h
  obtain ⟨d, rfl⟩ : ∃ d', d = d' + 1 := ⟨d - 1, by omega⟩
  have e : P.fieldsOf t = fs := by simp [Program.fieldsOf, hu]
  simp only [mkV, if_true]
  rw [run_equalIn_agg w d t _ _ (by rw [e]; exact hu) hp, e]
  exact fields_run hf d xs ys b w (by omega) (by simpa using oksD_length hx) (by simpa using oksD_length hy) hx hy h
theorem Flat.mono {k k' : Nat} {ds : List TypeDesc} {agg : Bool} (h : Flat P k t ds agg) (hk : k ≤ k') : Flat P k' t ds agg := ⟨h.ia, h.sz, h.one, fun d xs ys b w hd => h.eq d xs ys b w (by omega)⟩
end
section
variable {P : Program} {n : Nat} {F0 : Nat → Prop} {w0 : World} {e : Env} {Rs Rf : List Res} {Q : Exit → Act → World → Prop} {ops : Array Oper} {d : Option Tmp} {i : Nat} {ty t t' el : TypeId} {pos : String} {af : Array Edge} {gd : Option (Nat × Bool)} {v v' : Value} {x y : Operand} {l : List Nat} {lo : Sch} {c : Code} {S : World → Prop}
theorem SOK.mk0 {T : Nat} {z : Nat} (hu : ∀ w, (underlying t).run P w = .ok (.slice T) w) (hz : ∀ w, (sizeOf T).run P w = .ok z w) : SOK P t T 0 z #[] := by
  intro parts cells w h
  have e0 : ∀ f : Nat → Value, Array.map f (Array.range 0) = #[] := by intro f; simp
  simp only [Instr.buildSlice, Sem.run_bind, hu, hz, Result.andThen_ok, Nat.zero_mul, Sem.run_pure]
  simp [e0, h, newRow]
end
def RowK {α : Type} (B : Res) (E : Rd α) (g q : Nat) (cs : List Value) (x : α) : Res where
  P := fun w G => B.P w G ∧ G g ∧ (∀ j, j < cs.length → w.cell? ⟨g, q + j, none⟩ = cs[j]?) ∧ E.P w G cs x
  lt := fun h => B.lt h.1
  move := fun {w w' G} h hm => ⟨B.move h.1 hm, h.2.1, fun j hj => by
    rw [← h.2.2.1 j hj]
    simp only [World.cell?, hm g h.2.1], E.move h.2.2.2 hm⟩
section
variable {P : Program} {n : Nat} {F0 : Nat → Prop} {w0 w : World} {e : Env} {Rs Rf : List Res} {Q : Exit → Act → World → Prop} {ops : Array Oper} {d : Option Tmp} {i : Nat} {ty t t' el : TypeId} {pos : String} {af : Array Edge} {gd : Option (Nat × Bool)} {v v' : Value} {y z : Operand} {l : List Nat} {lo : Sch} {c : Code} {S : World → Prop}
variable {α : Type} {E : Rd α} {B : Res} {A : Option Addr} {m cp size k : Nat} {xs : List α} {x : α}
theorem foc_P {G : Nat → Prop} (hG : B.P w G) (hB : (RX.of (sliceRd size E) [.slice A m cp] xs).P w G) (hp : 0 < size) (hx : xs[k]? = some x) : ∃ g o cs, A = some ⟨g, o, none⟩ ∧ cs.length = size ∧ (∃ S, E.P w S cs x) ∧ (RowK B E g (o + k * size) cs x).P w G := by
  rcases hB with ⟨h, rfl⟩ | ⟨a, cap, h, _, _, hb, h2⟩
  · simp at hx
  · injection h with h
    injection h with h3 h4 h5
    subst h3
    have hl : 0 < xs.length := by have := (List.getElem?_eq_some_iff.1 hx).1; omega
    obtain ⟨cs0, k1, k2, _⟩ := h2 0 xs[0] (List.getElem?_eq_getElem hl)
    have k3 := k2 0 hp
    rw [List.getElem?_eq_getElem (by omega)] at k3
    have k4 : a.add (0 * size + 0) = a := by simp [Addr.add]
    rw [k4] at k3
    have k5 := spot_none k3
    obtain ⟨cs, k6, k7, k8⟩ := h2 k x hx
    refine ⟨a.block, a.off, cs, by rw [← k5], k6, ⟨G, k8⟩, hG, hb hl, fun j hj => ?_, k8⟩
    rw [← k7 j (by omega), k5, WideShapes.add_plain, Nat.add_assoc]
theorem St.foc (i : Nat) (h : St F0 w0 Rs w) (hi : Rs[i]? = some B) (hB : ∀ w G, B.P w G → (RX.of (sliceRd size E) [.slice A m cp] xs).P w G) (hp : 0 < size) (hx : xs[k]? = some x) :
    ∃ g o cs, A = some ⟨g, o, none⟩ ∧ cs.length = size ∧ (∃ w S, E.P w S cs x) ∧ St F0 w0 (Rs.set i (RowK B E g (o + k * size) cs x)) w := by
  obtain ⟨f, hs⟩ := h
  obtain ⟨G, h1, h2, h3⟩ := Sep.pick i hi hs
  obtain ⟨g, o, cs, k1, k2, ⟨S, k3⟩, k4⟩ := foc_P h1 (hB w G h1) hp hx
  exact ⟨g, o, cs, k1, k2, ⟨w, S, k3⟩, f, Sep.back i hi k4 h2 h3⟩
theorem T.foc (i : Nat) (hi : Rs[i]? = some B) (hB : ∀ w G, B.P w G → (RX.of (sliceRd size E) [.slice A m cp] xs).P w G) (hp : 0 < size) (hx : xs[k]? = some x)
    (h : ∀ g o cs, A = some ⟨g, o, none⟩ → cs.length = size → (∃ w S, E.P w S cs x) → T P n F0 w0 e (Rs.set i (RowK B E g (o + k * size) cs x)) c Q) : T P n F0 w0 e Rs c Q := by
  intro a w ha hs
  obtain ⟨g, o, cs, k1, k2, k3, k4⟩ := hs.foc i hi hB hp hx
  exact h g o cs k1 k2 k3 a w ha k4
theorem TL.foc (i : Nat) (hi : Rs[i]? = some B) (hB : ∀ w G, B.P w G → (RX.of (sliceRd size E) [.slice A m cp] xs).P w G) (hp : 0 < size) (hx : xs[k]? = some x)
    (h : ∀ g o cs, A = some ⟨g, o, none⟩ → cs.length = size → (∃ w S, E.P w S cs x) → TL P n F0 w0 ops l e (Rs.set i (RowK B E g (o + k * size) cs x)) Q) : TL P n F0 w0 ops l e Rs Q := by
  intro a w ha hs
  obtain ⟨g, o, cs, k1, k2, k3, k4⟩ := hs.foc i hi hB hp hx
  exact h g o cs k1 k2 k3 a w ha k4
theorem St.unf {q g : Nat} {cs : List Value} (i : Nat) (h : St F0 w0 Rs w) (hi : Rs[i]? = some (RowK B E g q cs x)) : St F0 w0 (Rs.set i B) w := h.weaken i hi (fun G hG => hG.1)
theorem T.unf {q g : Nat} {cs : List Value} (i : Nat) (hi : Rs[i]? = some (RowK B E g q cs x)) (h : T P n F0 w0 e (Rs.set i B) c Q) : T P n F0 w0 e Rs c Q := fun a w ha hs => h a w ha (hs.unf i hi)
theorem TL.unf {q g : Nat} {cs : List Value} (i : Nat) (hi : Rs[i]? = some (RowK B E g q cs x)) (h : TL P n F0 w0 ops l e (Rs.set i B) Q) : TL P n F0 w0 ops l e Rs Q := fun a w ha hs => h a w ha (hs.unf i hi)
theorem X.unf {q g : Nat} {cs : List Value} {o : Exit} (i : Nat) (hi : Rs[i]? = some (RowK B E g q cs x)) (h : X n F0 w0 e (Rs.set i B) o Q) : X n F0 w0 e Rs o Q := fun a w ha hs => h a w ha (hs.unf i hi)
theorem Ex.k1 {q g : Nat} {cs : List Value} (i j : Nat) (hy : e.ev y = some (.pointer (some ⟨g, q + j, none⟩))) (ha : ∀ w, (isAgg t).run P w = .ok false w) (hi : Rs[i]? = some B) (hB : ∀ w G, B.P w G → ∀ j, j < cs.length → w.cell? ⟨g, q + j, none⟩ = cs[j]?) (hv : cs[j]? = some v) : Ex P n e (St F0 w0 Rs) ⟨d, .load t y, ty, pos, af, gd⟩ v :=
  Ex.ld1 hy ha (fun w hw => by
    obtain ⟨G, h1, _⟩ := hw.get i hi
    exact (hB w G h1 j (List.getElem?_eq_some_iff.1 hv).1).trans hv)
theorem Ex.kS {q g z' : Nat} {cs us : List Value} (i kk : Nat) (hy : e.ev y = some (.pointer (some ⟨g, q + kk, none⟩))) (ha : ∀ w, (isAgg t).run P w = .ok true w) (hz : ∀ w, (sizeOf t).run P w = .ok z' w) (hi : Rs[i]? = some B) (hB : ∀ w G, B.P w G → ∀ j, j < cs.length → w.cell? ⟨g, q + j, none⟩ = cs[j]?)
    (hv : (cs.drop kk).take z' = us) (hl : Nat.beq us.length z' = true) : Ex P n e (St F0 w0 Rs) ⟨d, .load t y, ty, pos, af, gd⟩ (.agg us.toArray) := by
  refine Ex.ldS hy ha hz (Nat.eq_of_beq_eq_true hl) (fun w hw j u hj => ?_)
  obtain ⟨G, h1, _⟩ := hw.get i hi
  have h2 : (⟨g, q + kk, none⟩ : Addr).add j = ⟨g, q + (kk + j), none⟩ := by unfold Addr.add; split <;> simp_all [Nat.add_assoc]
  rw [h2]
  subst hv
  rw [List.getElem?_take] at hj
  split at hj
  · rw [List.getElem?_drop] at hj
    exact (hB w G h1 (kk + j) (List.getElem?_eq_some_iff.1 hj).1).trans hj
  · cases hj
end
end Go.Proofs.Ytlhgogjcaegehaa.Sl
namespace Go.Proofs.Ytlhgogjcaegehaa.Sl
open Go.RowKit
set_option linter.unusedVariables false
set_option linter.unusedSimpArgs false
def RX.blk (b : Nat) (T : TypeId) (cs : Array Value) : RX := ⟨fun w S => w.heap[b]? = some (.cells cs T (0, 0)) ∧ S b, fun h k => ⟨h.1, k _ h.2⟩, fun h k => ⟨(k _ h.2).trans h.1, h.2⟩⟩
section
variable {P : Program} {n : Nat} {F0 : Nat → Prop} {w0 w : World} {e : Env} {Rs Rf : List Res} {Q : Exit → Act → World → Prop} {ops : Array Oper} {d : Option Tmp} {i : Nat} {ty t t' el : TypeId} {pos : String} {af : Array Edge} {gd : Option (Nat × Bool)} {v v' : Value} {x y z : Operand} {l : List Nat} {lo : Sch} {c : Code} {S : World → Prop}
end
end Go.Proofs.Ytlhgogjcaegehaa.Sl
namespace Go.Proofs.Ytlhgogjcaegehaa.Sl
open Go.RowKit
set_option linter.unusedVariables false
set_option linter.unusedSimpArgs false
section
variable {P : Program} {n : Nat} {F0 : Nat → Prop} {w0 : World} {e : Env} {Rs : List Res} {S : World → Prop} {d : Option Tmp} {ty : TypeId} {pos : String} {af : Array Edge} {gd : Option (Nat × Bool)} {v : Value} {x y ix : Operand} {t t' el : TypeId}
theorem Ex.ixAS {cs us : List Value} {m z k : Nat} {i : Int} {q : IntKind} (hx : e.ev x = some (.agg cs.toArray)) (hi : e.ev ix = some (.int q i)) (hik : i = (k : Int)) (hu : ∀ w, (underlying t).run P w = .ok (.array m el) w) (hz : ∀ w, (sizeOf el).run P w = .ok z w)
    (ha : ∀ w, (isAgg el).run P w = .ok true w) (hk : k < m) (hv : (cs.drop (k * z)).take z = us) : Ex P n e S ⟨d, .index t x ix, ty, pos, af, gd⟩ (.agg us.toArray) := by
  intro a w h _
  subst hik
  have h1 : (0 : Int) ≤ (k : Int) ∧ (k : Int) < (m : Int) := by omega
  have h3 : (Instr.index t (.agg cs.toArray) (.int q (k : Int))).run P w = .ok (.agg us.toArray) w := by
    simp only [Instr.index, asIntOf, Sem.run_bind, Sem.run_pure, Result.andThen_ok, hu]
    rw [if_pos h1]
    simp only [Sem.run_bind, hz, Result.andThen_ok, Int.toNat_natCast, part, ha, if_true, Sem.run_pure]
    congr 2
    apply Array.ext'
    simp [List.extract_eq_take_drop, ← hv]
  simp [execOp, h.ev hx, h.ev hi, h3]
end
theorem fill_le {f g : Nat → Option (Nat × Nat)} (h : ∀ i p, f i = some p → g i = some p) : ∀ (parts : List (Nat × Value)) (zs cells : Array Value), Instr.fill f zs parts = some cells → Instr.fill g zs parts = some cells
  | [], zs, cells, hf => hf
  | (i, v) :: r, zs, cells, hf => by
    unfold Instr.fill at hf ⊢
    cases hp : f i with
    | none => rw [hp] at hf; exact nomatch hf
    | some p =>
      rw [hp] at hf
      rw [h i p hp]
      obtain ⟨o, s⟩ := p
      simp only at hf ⊢
      split at hf
      · exact nomatch hf
      · rename_i hc
        rw [if_neg hc]
        exact fill_le h r _ _ hf
theorem BOK.mkA {P : Program} {t el : TypeId} {zv : Value} {m z : Nat} {pl : List (Nat × Nat)} {zs : Array Value} (hz : ∀ w, (zeroValue t).run P w = .ok zv w) (hu : ∀ w, (underlying t).run P w = .ok (.array m el) w) (hs : ∀ w, (sizeOf el).run P w = .ok z w)
    (hp : (List.range pl.length).map (fun i => (i * z, z)) = pl) (hzs : zv.cells = zs := by rfl) : BOK P t zs pl := by
  intro parts cells w h
  subst hzs
  simp only [Instr.build, Sem.run_bind, hz, Result.andThen_ok, hu, hs]
  have h2 := fill_le (g := fun i => some (i * z, z)) (fun i p hi => by
    rw [← hp] at hi
    obtain ⟨hl, hi⟩ := List.getElem?_eq_some_iff.1 hi
    rw [← hi]
    simp) parts.toList _ _ h
  simp [h2]
end Go.Proofs.Ytlhgogjcaegehaa.Sl
namespace Go.Proofs.Ytlhgogjcaegehaa.Sl
open Go.RowKit Go.Deep Go.ChangeShapes
set_option linter.unusedVariables false
set_option linter.unusedSimpArgs false
def oldRd {α : Type} (w0 : World) (S : Nat → Prop) (E : Rd α) : Rd α where
  P := fun w G cs x => ∀ W : World, (∀ k, G k → W.heap[k]? = w.heap[k]?) → (∀ k, S k → W.heap[k]? = w0.heap[k]?) → E.P W (fun k => G k ∨ S k) cs x
  mono := fun h hS W h1 h2 => E.mono (h W (fun k hk => h1 k (hS k hk)) h2) (fun k hk => hk.imp (hS k) id)
  move := fun h hm W h1 h2 => h W (fun k hk => (h1 k hk).trans (hm k hk)) h2
def RX.old (w0 : World) (S : Nat → Prop) (X : RX) : RX where
  P := fun w G => ∀ W : World, (∀ k, G k → W.heap[k]? = w.heap[k]?) → (∀ k, S k → W.heap[k]? = w0.heap[k]?) → X.P W (fun k => G k ∨ S k)
  mono := fun h hS W h1 h2 => X.mono (h W (fun k hk => h1 k (hS k hk)) h2) (fun k hk => hk.imp (hS k) id)
  move := fun h hm W h1 h2 => h W (fun k hk => (h1 k hk).trans (hm k hk)) h2
section
variable {α : Type} {w0 w w1 : World} {S G F : Nat → Prop} {E : Rd α} {cs : List Value} {x : α} {X Y : RX} {size : Nat}
theorem old_in (h : E.P w0 S cs x) : (oldRd w0 S E).P w G cs x := fun W _ h2 => E.mono (E.move h h2) (fun k hk => .inr hk)
theorem RX.elemS {A : Option Addr} {n c i : Nat} {l : List α} (hp : 0 < size) (h : (RX.of (sliceRd size E) [.slice A n c] l).P w S) (hF : ∀ k, S k → ¬ F k ∧ k < w.heap.size) (hx : l[i]? = some x) :
    ∃ g o : Nat, A = some ⟨g, o, none⟩ ∧ ∃ cs, cs.length = size ∧ (∀ j, j < size → w.cell? ⟨g, o + i * size + j, none⟩ = cs[j]?) ∧ (¬ F g ∧ g < w.heap.size) ∧ (RX.of E cs x).P w S := by
  rcases h with ⟨h, rfl⟩ | ⟨a, cap, h, _, _, hb, h2⟩
  · simp at hx
  · injection h with h
    injection h with h3 h4 h5
    subst h3
    have hl : 0 < l.length := by have := (List.getElem?_eq_some_iff.1 hx).1; omega
    obtain ⟨cs0, k1, k2, _⟩ := h2 0 l[0] (List.getElem?_eq_getElem hl)
    have k3 := k2 0 hp
    rw [List.getElem?_eq_getElem (by omega)] at k3
    have k4 : a.add (0 * size + 0) = a := by simp [Addr.add]
    rw [k4] at k3
    have k5 := spot_none k3
    obtain ⟨cs, k6, k7, k8⟩ := h2 i x hx
    refine ⟨a.block, a.off, by rw [← k5], cs, k6, fun j hj => ?_, hF _ (hb hl), k8⟩
    rw [← k7 j hj, k5, WideShapes.add_plain, Nat.add_assoc]
end
structure RO where
  α : Type
  E : Rd α
  cs : List Value
  x : α
def RO.res (w0 : World) (S : Nat → Prop) (o : RO) : Res := RdR (oldRd w0 S o.E) o.cs o.x
section
variable {P : Program} {n : Nat} {F0 : Nat → Prop} {w0 w : World} {S : Nat → Prop} {e : Env} {Rs Rs' Rf Bs : List Res} {L : List RO} {B : Res} {Xr Y : RX}
theorem Sep.has {G : Nat → Prop} (i : Nat) (hi : Bs[i]? = some B) (h : Sep Bs w G) (hB : ∀ w G, B.P w G → (RX.old w0 S Xr).P w G) : (RX.old w0 S Xr).P w G := by
  obtain ⟨G', h1, h2, _⟩ := Sep.pick i hi h
  exact (RX.old w0 S Xr).mono (hB w G' h1) h2
theorem Src.oldres {i : Nat} (j : Nat) (hs : St F0 w0 Rs w) (hj : (Rs.eraseIdx i)[j]? = some B) (hB : ∀ w G, B.P w G → (RX.old w0 S Xr).P w G) (hF : ∀ k, S k → ¬ F0 k ∧ k < w0.heap.size) : Src F0 w0 Rs w i Xr := by
  intro A G _ _ h3 h4
  obtain ⟨G2, k1, k2, _⟩ := Sep.pick j hj h4
  have hfr := hs.fr
  refine ⟨fun k => G2 k ∨ S k, hB w G2 k1 w (fun _ _ => rfl) (fun k hk => hfr.block k (hF k hk).2 (hF k hk).1), fun k hk => ?_⟩
  rcases hk with hk | hk
  · exact ⟨(k2 k hk).2, B.lt k1 k hk⟩
  · refine ⟨fun hg => ?_, Nat.lt_of_lt_of_le (hF k hk).2 hfr.size⟩
    rcases h3 k hg with h5 | h5
    · exact (hF k hk).1 h5
    · have := (hF k hk).2; omega
theorem SrcE.oldres (j : Nat) (hs : St F0 w0 Rs w) (hj : Rs[j]? = some B) (hB : ∀ w G, B.P w G → (RX.old w0 S Xr).P w G) (hF : ∀ k, S k → ¬ F0 k ∧ k < w0.heap.size) : Xr.reads w (fun _ => False) := by
  obtain ⟨G2, k1, k2⟩ := hs.get j hj
  have hfr := hs.fr
  refine ⟨fun k => G2 k ∨ S k, hB w G2 k1 w (fun _ _ => rfl) (fun k hk => hfr.block k (hF k hk).2 (hF k hk).1), fun k hk => ⟨fun h => h, ?_⟩⟩
  rcases hk with hk | hk
  · exact B.lt k1 k hk
  · exact Nat.lt_of_lt_of_le (hF k hk).2 hfr.size
theorem Sep.split : ∀ {Bs Rs : List Res} {w : World} {F : Nat → Prop}, Sep (Bs ++ Rs) w F → ∃ G, Sep Bs w G ∧ (∀ k, G k → F k) ∧ (∀ k, G k → k < w.heap.size) ∧ Sep Rs w (fun k => F k ∧ ¬ G k)
  | [], Rs, w, F, h => ⟨fun _ => False, trivial, fun _ h => h.elim, fun _ h => h.elim, h.mono (fun k hk => ⟨hk, fun h => h⟩)⟩
  | B :: Bs, Rs, w, F, ⟨G1, h1, h2, h3⟩ => by
    obtain ⟨G, k1, k2, k3, k4⟩ := Sep.split h3
    refine ⟨fun k => G1 k ∨ G k, ⟨G1, h1, fun k hk => .inl hk, k1.mono (fun k hk => ⟨.inr hk, (k2 k hk).2⟩)⟩, fun k hk => hk.elim (h2 k) (fun h => (k2 k h).1), fun k hk => hk.elim (B.lt h1 k) (k3 k), k4.mono (fun k hk => ⟨hk.1.1, fun h => h.elim hk.1.2 hk.2⟩)⟩
theorem Sep.each : ∀ {L : List RO} {w1 : World} {S1 F : Nat → Prop}, Sep (L.map (RO.res w1 S1)) w F → ∀ o, o ∈ L → ∃ G, (RdR (oldRd w1 S1 o.E) o.cs o.x).P w G ∧ ∀ k, G k → F k
  | a :: L, w1, S1, F, ⟨G, h1, h2, h3⟩, o, ho => by
    rcases List.mem_cons.1 ho with rfl | ho
    · exact ⟨G, h1, h2⟩
    · obtain ⟨G', k1, k2⟩ := Sep.each h3 o ho
      exact ⟨G', k1, fun k hk => (k2 k hk).1⟩
variable {d : Option Tmp} {ty : TypeId} {pos : String} {af : Array Edge} {gd : Option (Nat × Bool)} {R : Value → Res → List RO → Prop}
variable {Q : Exit → Act → World → Prop} {ops : Array Oper} {i dd : Nat} {cl : Call} {f : FuncId} {vs : List Value}
variable {α : Type} {E : Rd α} {size : Nat} {T : TypeId} {u : Value} {xs : List α}
end
end Go.Proofs.Ytlhgogjcaegehaa.Sl
namespace Go.Proofs.Ytlhgogjcaegehaa.Sl
open Go.RowKit
set_option linter.unusedVariables false
set_option linter.unusedSimpArgs false
section
variable {α : Type} {size : Nat} {E : Rd α} {w : World} {S : Nat → Prop}
theorem elems_set : ∀ {xs : List α} {cs new : List Value} {k : Nat} {x x' : α}, elems size E w S cs xs → xs[k]? = some x → new.length = size → E.P w S new x' → elems size E w S (cs.take (k * size) ++ new ++ cs.drop ((k + 1) * size)) (xs.set k x')
  | [], _, _, k, _, _, _, hk, _, _ => by simp at hk
  | y :: ys, cs, new, 0, x, x', ⟨h0, _, h2⟩, _, hn, hx => by
    rw [Nat.zero_mul, List.take_zero, List.nil_append, Nat.zero_add, Nat.one_mul]
    exact ⟨by rw [List.take_append_of_le_length (by omega), List.take_of_length_le (by omega)]; exact hn, by rw [List.take_append_of_le_length (by omega), List.take_of_length_le (by omega)]; exact hx,
      by rw [List.drop_append_of_le_length (by omega), List.drop_of_length_le (by omega)]; exact h2⟩
  | y :: ys, cs, new, k + 1, x, x', ⟨h0, h1, h2⟩, hk, hn, hx => by
    have hle : size ≤ cs.length := by rw [List.length_take] at h0; omega
    have ih := elems_set (k := k) (x := x) h2 (by simpa using hk) hn hx
    have hc : cs = cs.take size ++ cs.drop size := (List.take_append_drop size cs).symm
    have e0 : (cs.take size).length = size := h0
    have e1 : cs.take ((k + 1) * size) = cs.take size ++ (cs.drop size).take (k * size) := by
      conv => lhs; rw [hc]
      rw [List.take_append, e0, show (k + 1) * size - size = k * size by rw [Nat.add_mul]; omega, List.take_of_length_le (by rw [e0, Nat.add_mul]; omega)]
    have e2 : cs.drop ((k + 1 + 1) * size) = (cs.drop size).drop ((k + 1) * size) := by
      rw [List.drop_drop, show size + (k + 1) * size = (k + 1 + 1) * size by rw [Nat.add_mul (k + 1)]; omega]
    rw [e1, e2, List.append_assoc, List.append_assoc, ← List.append_assoc ((cs.drop size).take (k * size))]
    exact ⟨by rw [List.take_append_of_le_length (by omega), List.take_of_length_le (by omega)]; exact h0, by rw [List.take_append_of_le_length (by omega), List.take_of_length_le (by omega)]; exact h1,
      by rw [List.drop_append_of_le_length (by omega), List.drop_of_length_le (by omega), List.nil_append]; exact ih⟩
theorem OwnR.stored {T m c g o k off q : Nat} {G : Nat → Prop} {xs : List α} {x x' : α} {us : List Value} (h : (OwnR T size E (.slice (some ⟨g, o, none⟩) m c) xs).P w G) (hk : xs[k]? = some x) (hq : q = o + k * size + off) (hl : off + us.length ≤ size)
    (hE : ∀ w S cs, cs.length = size → E.P w S cs x → E.P w S (cs.take off ++ us ++ cs.drop (off + us.length)) x') :
    ∃ cur, w.heap[g]? = some (.cells cur T (0, 0)) ∧ q + us.length ≤ cur.size ∧ (∀ k, k = g → G k) ∧ (OwnR T size E (.slice (some ⟨g, o, none⟩) m c) (xs.set k x')).P (w.setRow g (cur.toList.take q ++ us ++ cur.toList.drop (q + us.length)).toArray) G := by
  obtain ⟨cells, S, ⟨hlen, hown⟩, h2, h3, h4, h5⟩ := h
  rcases hown with ⟨hv, _⟩ | ⟨g', cap, cur, hv, hb0, hg, hnc, hcm, hcs, htk⟩
  · cases hv
  injection hv with hv1 hv2 hv3
  injection hv1 with hv1
  injection hv1 with hv4 hv5
  subst hv4 hv5 hv2 hv3
  have hkl : k < xs.length := (List.getElem?_eq_some_iff.1 hk).1
  have hks : (k + 1) * size ≤ xs.length * size := Nat.mul_le_mul_right _ hkl
  have hcap : xs.length * size ≤ c * size := Nat.mul_le_mul_right _ hnc
  have hk1 : (k + 1) * size = k * size + size := by rw [Nat.add_mul, Nat.one_mul]
  have hfit : q + us.length ≤ cur.size := by rw [hcs]; omega
  refine ⟨cur, hg, hfit, fun k hk => by subst hk; exact (h5 _).2 (.inl rfl), ?_⟩
  obtain ⟨c1, c2⟩ := elems_get h2 hk
  have hgS : ¬ S g := h4 g rfl
  have hnew : ((cells.drop (k * size)).take size).take off ++ us ++ ((cells.drop (k * size)).take size).drop (off + us.length) = ((cells.drop (k * size)).take size).take off ++ us ++ ((cells.drop (k * size)).take size).drop (off + us.length) := rfl
  have hset := elems_set h2 hk (new := ((cells.drop (k * size)).take size).take off ++ us ++ ((cells.drop (k * size)).take size).drop (off + us.length)) (by simp only [List.length_append, List.length_take, List.length_drop] at c1 ⊢; omega) (hE w S _ c1 c2)
  have hset' : elems size E (w.setRow g (cur.toList.take q ++ us ++ cur.toList.drop (q + us.length)).toArray) S _ (xs.set k x') := elems_move hset (fun k hk => setRow_other w g k _ (fun e => hgS (e ▸ hk)))
  refine ⟨_, S, ⟨?_, .inr ⟨g, c, _, by rw [List.length_set], hb0, setRow_heap w g cur _ T (0, 0) hg, by rw [List.length_set]; exact hnc, hcm, ?_, ?_⟩⟩, hset', fun k hk => by rw [size_setRow]; exact h3 k hk, h4, h5⟩
  · have := elems_length hset
    exact this
  · simp only [List.size_toArray, List.length_append, List.length_take, List.length_drop, Array.length_toList]
    omega
  · rw [List.length_set]
    have hcl : cur.toList.length = c * size := by simpa using hcs
    have hcells : cells.length = xs.length * size := hlen
    have d1 : (cells.drop (k * size)).take size = (cells.drop (k * size)).take size := rfl
    have hq2 : q + us.length ≤ xs.length * size := by omega
    have r1 : cells.take (k * size) ++ ((cells.drop (k * size)).take size).take off = cells.take q := by
      rw [List.take_take, Nat.min_eq_left (by omega), ← List.take_add, show k * size + off = q by omega]
    have r2 : ((cells.drop (k * size)).take size).drop (off + us.length) ++ cells.drop ((k + 1) * size) = cells.drop (q + us.length) := by
      have e1 : cells.drop ((k + 1) * size) = (cells.drop (k * size)).drop size := by rw [List.drop_drop, hk1]
      have e2 : cells.drop (q + us.length) = (cells.drop (k * size)).drop (off + us.length) := by rw [List.drop_drop, show k * size + (off + us.length) = q + us.length by omega]
      rw [e1, e2, ← List.drop_append_of_le_length (by omega), List.take_append_drop]
    have r3 : cells.take (k * size) ++ (((cells.drop (k * size)).take size).take off ++ us ++ ((cells.drop (k * size)).take size).drop (off + us.length)) ++ cells.drop ((k + 1) * size) = cells.take q ++ us ++ cells.drop (q + us.length) := by
      rw [← r1, ← r2]
      simp only [List.append_assoc]
    rw [r3, ← htk, List.drop_take, List.take_take, Nat.min_eq_left (by omega)]
    have l1 : (cur.toList.take q ++ us).length = q + us.length := by rw [List.length_append, List.length_take]; omega
    rw [List.toList_toArray, List.take_append, l1, List.take_of_length_le (by omega)]
end
section
variable {P : Program} {n : Nat} {F0 : Nat → Prop} {w0 : World} {e : Env} {Rs Rf : List Res} {Q : Exit → Act → World → Prop} {ops : Array Oper} {d : Option Tmp} {i : Nat} {ty t t' el : TypeId} {pos : String} {af : Array Edge} {gd : Option (Nat × Bool)} {v v' : Value} {x y : Operand} {l : List Nat} {lo : Sch} {c : Code} {S : World → Prop}
theorem TD.unf {α : Type} {E : Rd α} {B : Res} {q g : Nat} {cs : List Value} {u : α} (i : Nat) (hi : Rs[i]? = some (RowK B E g q cs u)) (h : TD P n F0 w0 ops lo Rf e (Rs.set i B) Q) : TD P n F0 w0 ops lo Rf e Rs Q := fun a w ha hs => h a w ha (hs.unf i hi)
section
variable {α : Type} {E : Rd α} {T m cp size g o k off q z : Nat} {xs : List α} {u u' : α}
end
section
variable {α : Type} {E : Rd α} {T bytes k : Nat} {zv : Value} {u : α} {m : Int} {kl : IntKind} {d' : Nat}
end
theorem T.blen {α : Type} {E : Rd α} {A : Option Addr} {m cp size : Nat} {xs : List α} {B : Res} (i : Nat) (hi : Rs[i]? = some B) (hB : ∀ w G, B.P w G → (RX.of (sliceRd size E) [.slice A m cp] xs).P w G) (h : xs.length ≤ 9223372036854775807 → T P n F0 w0 e Rs c Q) : T P n F0 w0 e Rs c Q := by
  intro a w ha hs
  refine h ?_ a w ha hs
  obtain ⟨G, hG, _⟩ := hs.get i hi
  rcases hB w G hG with ⟨_, rfl⟩ | ⟨_, cap, _, h1, h2, _⟩
  · simp
  · have : maxLen = 9223372036854775807 := rfl
    omega
end
end Go.Proofs.Ytlhgogjcaegehaa.Sl
namespace Go.Proofs.Ytlhgogjcaegehaa.Sl
open Go.RowKit
set_option linter.unusedVariables false
set_option linter.unusedSimpArgs false
section
variable {P : Program} {n : Nat} {F0 : Nat → Prop} {w0 w : World} {e : Env} {Rs Rf : List Res} {Q : Exit → Act → World → Prop} {ops : Array Oper} {d : Option Tmp} {i : Nat} {ty t t' el : TypeId} {pos : String} {af : Array Edge} {gd : Option (Nat × Bool)} {v v' : Value} {x y ix : Operand} {L : List Nat} {lo : Sch} {c : Code} {S : World → Prop}
variable {T g k : Nat} {l : List Int} {u u' : Int}
end
def LW (P : Program) (c : Code) (Q : Exit → Act → World → Prop) (a : Act) (w : World) : Prop := ∀ b k cs, ∃ x a' w', Q x a' w' ∧ Arrives P (lone (b.at a (.code c :: .inLoop c :: k)) cs w) b k cs x a' w'
def TW (P : Program) (n : Nat) (F0 : Nat → Prop) (w0 : World) (e : Env) (Rs : List Res) (c : Code) (Q : Exit → Act → World → Prop) : Prop := ∀ a w, Has n e a → St F0 w0 Rs w → LW P c Q a w
section
variable {P : Program} {n : Nat} {F0 : Nat → Prop} {w0 : World} {e : Env} {Rs : List Res} {Q : Exit → Act → World → Prop} {c : Code}
theorem TW.step (h : T P n F0 w0 e Rs c (Exit.then (LW P c Q) Q)) : TW P n F0 w0 e Rs c Q := by
  intro a w ha hs b k cs
  obtain ⟨x, a₁, w₁, hq, harr⟩ := h a w ha hs b (.inLoop c :: k) cs
  cases x with
  | normal =>
    obtain ⟨x₂, a₂, w₂, hq₂, harr₂⟩ := hq b k cs
    exact ⟨x₂, a₂, w₂, hq₂, .of_steps (Steps.trans harr (.one step_inLoop)) harr₂⟩
  | exit id => exact ⟨_, a₁, w₁, hq, .pass (x := .inLoop c) rfl (fun _ _ => .inl (by simp)) harr⟩
  | goto l => exact ⟨_, a₁, w₁, hq, .pass (x := .inLoop c) rfl (fun _ _ => .inl (by simp)) harr⟩
  | ret => exact ⟨_, a₁, w₁, hq, .pass (x := .inLoop c) rfl (fun _ _ => .inl (by simp)) harr⟩
  | panic ch => exact ⟨_, a₁, w₁, hq, .pass (x := .inLoop c) rfl (fun _ _ => .inl (by simp)) harr⟩
  | outgrown => exact ⟨_, a₁, w₁, hq, .pass (x := .inLoop c) rfl (fun _ _ => .inl (by simp)) harr⟩
end
end Go.Proofs.Ytlhgogjcaegehaa.Sl
namespace Go.Proofs.Ytlhgogjcaegehaa.Sl
open Go.RowKit
set_option linter.unusedVariables false
set_option linter.unusedSimpArgs false
section
variable {α : Type} {size : Nat} {E : Rd α} {w : World} {S : Nat → Prop}
structure Plain (size : Nat) (E : Rd α) (cf : α → List Value) : Prop where
  eq : ∀ w S cs x, E.P w S cs x → cs = cf x
  len : ∀ x, (cf x).length = size
  all : ∀ w S x, E.P w S (cf x) x
  one : ∀ x, (cf x).all (·.oneCell') = true
theorem elems_many {cf : α → List Value} (hc : Plain size E cf) : ∀ (l : List α) {cs : List Value} {xs : List α}, elems size E w S cs xs → elems size E w S (cs ++ l.flatMap cf) (xs ++ l)
  | [], cs, xs, h => by simpa using h
  | x :: l, cs, xs, h => by
    have h1 := elems_snoc h (hc.len x) (hc.all w S x)
    have h2 := elems_many hc l h1
    simpa [List.flatMap_cons, List.append_assoc] using h2
theorem flat_len {cf : α → List Value} (hc : ∀ x, (cf x).length = size) : ∀ l : List α, (l.flatMap cf).length = l.length * size
  | [] => by simp
  | x :: l => by rw [List.flatMap_cons, List.length_append, hc, flat_len hc l, List.length_cons, Nat.add_mul, Nat.one_mul, Nat.add_comm]
theorem flat_get {cf : α → List Value} (hc : ∀ x, (cf x).length = size) (hp : 0 < size) : ∀ (l : List α) (j : Nat) (u : Value), (l.flatMap cf)[j]? = some u → ∃ x, l[j / size]? = some x ∧ (cf x)[j % size]? = some u
  | [], j, u, h => by simp at h
  | x :: l, j, u, h => by
    rw [List.flatMap_cons] at h
    by_cases c : j < size
    · rw [List.getElem?_append_left (by rw [hc]; exact c)] at h
      exact ⟨x, by rw [Nat.div_eq_of_lt c]; rfl, by rw [Nat.mod_eq_of_lt c]; exact h⟩
    · rw [List.getElem?_append_right (by rw [hc]; omega), hc] at h
      obtain ⟨y, h1, h2⟩ := flat_get hc hp l (j - size) u h
      refine ⟨y, ?_, ?_⟩
      · rw [Nat.div_eq_sub_div hp (by omega), List.getElem?_cons_succ]; exact h1
      · rw [Nat.mod_eq_sub_mod (by omega)]; exact h2
theorem OwnR.openN {F0 : Nat → Prop} {w0 : World} {Rs : List Res} {T : TypeId} {v : Value} {xs : List α} (i : Nat) (h : St F0 w0 Rs w) (hi : Rs[i]? = some (OwnR T size E v xs)) :
    ∃ cells, w.ownsRow 0 T size v xs.length cells ∧ ∀ v1 w1 news l, w1.ownsRow 0 T size v1 (xs.length + l.length) (cells ++ news) → w.grownBy w1 v.ownBlock → (v1.ownBlock = v.ownBlock ∨ ∃ k, v1.ownBlock = some k ∧ w.heap.size ≤ k) →
      (∀ w S cs, elems size E w S cs xs → elems size E w S (cs ++ news) (xs ++ l)) → St F0 w0 (Rs.set i (OwnR T size E v1 (xs ++ l))) w1 := by
  obtain ⟨f, hs⟩ := h
  obtain ⟨G, ⟨cells, S, h1, h2, h3, h4, h5⟩, hG, hr⟩ := Sep.pick i hi hs
  refine ⟨cells, h1, fun v1 w1 news l ho hg hat hl => ?_⟩
  have hne : ∀ k, S k → k < w.heap.size ∧ some k ≠ v.ownBlock := fun k hk => ⟨h3 k hk, fun e => h4 k e.symm hk⟩
  have hS1 : elems size E w1 S cells xs := elems_move h2 (fun k hk => hg.block k (hne k hk).1 (hne k hk).2)
  have hle := hg.size
  have f2 : Fr G w w1 := Fr.of_grown hg (fun k hk => (h5 k).2 (.inl hk))
  refine ⟨f.trans f2 hG, ?_⟩
  have hfs := f.size
  have hR : Sep (Rs.eraseIdx i) w1 (fun k => ((F0 k ∨ w0.heap.size ≤ k) ∧ ¬ G k) ∧ k < w.heap.size) := hr.inside.move (fun k hk _ => f2.block k hk.2 hk.1.2)
  refine Sep.back (G := fun k => v1.ownBlock = some k ∨ S k) i hi ⟨cells ++ news, S, ?_, hl _ _ _ hS1, fun k hk => Nat.lt_of_lt_of_le (h3 k hk) hle, ?_, fun _ => Iff.rfl⟩ ?_ (hR.mono (fun k hk => ⟨hk.1.1, ?_⟩))
  · rw [List.length_append]; exact ho
  · intro k hk
    rcases hat with e | ⟨k', e, hk'⟩
    · rw [e] at hk; exact h4 k hk
    · rw [e] at hk
      injection hk with hk
      subst hk
      intro hs'
      have := h3 _ hs'
      omega
  · rintro k (hk | hk)
    · rcases hat with e | ⟨k', e, hk'⟩
      · rw [e] at hk; exact hG k ((h5 k).2 (.inl hk))
      · rw [e] at hk
        injection hk with hk
        subst hk
        exact .inr (by omega)
    · exact hG k ((h5 k).2 (.inr hk))
  · rintro (h6 | h6)
    · rcases hat with e | ⟨k', e, hk'⟩
      · rw [e] at h6; exact hk.1.2 ((h5 k).2 (.inl h6))
      · rw [e] at h6
        injection h6 with h6
        subst h6
        have := hk.2
        omega
    · exact hk.1.2 ((h5 k).2 (.inr h6))
end
section
variable {P : Program} {n : Nat} {F0 : Nat → Prop} {w0 : World} {e : Env} {Rs Rf : List Res} {Q : Exit → Act → World → Prop} {ops : Array Oper} {d : Option Tmp} {i : Nat} {ty t : TypeId} {pos : String} {af : Array Edge} {gd : Option (Nat × Bool)} {sl x : Operand} {L : List Nat} {lo : Sch}
variable {α : Type} {E : Rd α} {cf : α → List Value} {T z bytes : Nat} {zv : Value} {A A2 : Option Addr} {c c2 : Nat} {l l2 : List α}
theorem Ef.appX (j : Nat) (hc : Plain z E cf) (hu : P.underlying t = some (.slice T)) (hinfo : (P.info? T).map (fun i => (i.zero, i.size, i.bytes)) = some (some zv, z, bytes)) (hzv : zv.cells.size = z) (hp : 0 < z)
    (hs : e.ev sl = some (.slice A l.length c)) (hx : e.ev x = some (.slice A2 l2.length c2)) (hX : (RX.of (sliceRd z E) [.slice A2 l2.length c2] l2).reads w0 F0) (hj : Rs[j]? = some (OwnR T z E (.slice A l.length c) l))
    (hb : (l.length + l2.length) * bytes ≤ 140737488355328) (hm : l.length + l2.length ≤ 140737488355328) (hd : okd d n = true) :
    Ef P n F0 w0 e Rs ⟨d, .call ⟨.builtin .append, #[sl, x], #[t, t]⟩, ty, pos, af, gd⟩ (fun e' Rs' => ∃ A' c', e' = envput d (.slice A' (l ++ l2).length c') e ∧ Rs' = Rs.set j (OwnR T z E (.slice A' (l ++ l2).length c') (l ++ l2))) := by
  intro a w K Q ha hst hk
  obtain ⟨ti, hi, hzz⟩ := Option.map_eq_some_iff.1 hinfo
  simp only [Prod.mk.injEq] at hzz
  obtain ⟨h0, h1, h2⟩ := hzz
  obtain ⟨cells, hown, hgo⟩ := OwnR.openN j hst hj
  have hX0 := hX
  obtain ⟨S, hXS, hSF⟩ := hX
  rcases hXS with ⟨hv, rfl⟩ | ⟨ad, cap, hv, _, _, hbk, hel⟩
  · injection hv with hv _
    injection hv with hv1 hv2 hv3
    subst hv1 hv3
    have hr := run_append_owned_none (P := P) (w := w) 0 t ty T ti z hu hi _ _ _ hown
    have h3 : (execOp a.eval ⟨d, .call ⟨.builtin .append, #[sl, x], #[t, t]⟩, ty, pos, af, gd⟩).run P w = .ok (.value (.slice A l.length c)) w := by
      rw [List.length_nil] at hx
      simp [execOp, resolve, invoke, builtin, ha.ev hs, ha.ev hx, hr]
    unfold Oper.wp
    rw [h3]
    refine hk _ _ ⟨A, c, rfl, rfl⟩ _ _ (by rw [List.append_nil]; exact ha.putd hd) ?_
    rw [List.append_nil]
    have e1 : Rs.set j (OwnR T z E (.slice A l.length c) l) = Rs := by
      apply List.ext_getElem?
      intro k
      rw [List.getElem?_set]
      by_cases ek : j = k
      · subst ek
        rw [if_pos rfl, hj, if_pos (List.getElem?_eq_some_iff.1 hj).1]
      · rw [if_neg ek]
    rw [e1]
    exact hst
  · injection hv with hv _
    injection hv with hv1 hv2 hv3
    subst hv1 hv3
    have hcell : ∀ q u, (l2.flatMap cf)[q]? = some u → w.cell? (ad.add q) = some u := by
      intro q u hq
      obtain ⟨y, g1, g2⟩ := flat_get hc.len hp l2 q u hq
      obtain ⟨g, o, hA, cs, k1, k2, k3, S2, k4, k5⟩ := RX.elem hp hX0 g1
      injection hA with hA
      subst hA
      have ecs := hc.eq _ _ _ _ k4
      subst ecs
      have hz : q % z < z := Nat.mod_lt _ hp
      have k6 := k2 (q % z) hz
      have hq2 : o + q / z * z + q % z = o + q := by
        have := Nat.div_add_mod q z
        rw [Nat.mul_comm] at this
        omega
      rw [hq2] at k6
      have hadd : (⟨g, o, none⟩ : Addr).add q = ⟨g, o + q, none⟩ := by unfold Addr.add; split <;> simp_all
      rw [hadd]
      exact hst.old2 k3 (k6.trans g2)
    have hones : ∀ u ∈ l2.flatMap cf, u.oneCell' = true := by
      intro u hu'
      obtain ⟨y, _, hy⟩ := List.mem_flatMap.1 hu'
      exact List.all_eq_true.1 (hc.one y) u hy
    obtain ⟨q', w', hr, k2, k3, _, k5⟩ := run_append_own_at (P := P) w 0 t ty T ti zv z bytes hu hi h0 h1 h2 hzv hp _ l.length cells hown ad l2.length c2 (l2.flatMap cf) (flat_len hc.len l2) hcell hones (by simp only [maxLen]; omega) hb (Nat.zero_le _)
    have h3 : (execOp a.eval ⟨d, .call ⟨.builtin .append, #[sl, x], #[t, t]⟩, ty, pos, af, gd⟩).run P w = .ok (.value q') w' := by
      simp [execOp, resolve, invoke, builtin, ha.ev hs, ha.ev hx, hr]
    have hst' := hgo q' w' (l2.flatMap cf) l2 k2 k3 (k5.imp id (fun h => ⟨_, h, Nat.le_refl _⟩)) (fun w S cs h => elems_many hc l2 h)
    obtain ⟨A', c', hq⟩ : ∃ A' c', q' = .slice A' (l ++ l2).length c' := by
      rw [List.length_append]
      rcases k2.2 with ⟨hq, hn⟩ | ⟨g, cap', cur, hq, _⟩
      · exact ⟨none, 0, by rw [hq, hn]⟩
      · exact ⟨_, _, hq⟩
    subst hq
    unfold Oper.wp
    rw [h3]
    exact hk _ _ ⟨A', c', rfl, rfl⟩ _ _ (ha.putd hd) hst'
theorem TL.appX {d : Nat} (j : Nat) (ho : ops[i]? = some ⟨some d, .call ⟨.builtin .append, #[sl, x], #[t, t]⟩, ty, pos, af, gd⟩) (hw : Wd n ops e ⟨some d, .call ⟨.builtin .append, #[sl, x], #[t, t]⟩, ty, pos, af, gd⟩ true) (hc : Plain z E cf) (hu : P.underlying t = some (.slice T)) (hinfo : (P.info? T).map (fun i => (i.zero, i.size, i.bytes)) = some (some zv, z, bytes)) (hzv : zv.cells.size = z) (hp : 0 < z)
    (hs : e.ev sl = some (.slice A l.length c)) (hx : e.ev x = some (.slice A2 l2.length c2)) (hX : (RX.of (sliceRd z E) [.slice A2 l2.length c2] l2).reads w0 F0) (hj : Rs[j]? = some (OwnR T z E (.slice A l.length c) l))
    (hb : (l.length + l2.length) * bytes ≤ 140737488355328) (hm : l.length + l2.length ≤ 140737488355328) (hd : Nat.blt d n = true)
    (h : ∀ A' c', TL P n F0 w0 ops L ((d, .slice A' (l ++ l2).length c') :: e) (Rs.set j (OwnR T z E (.slice A' (l ++ l2).length c') (l ++ l2))) Q) : TL P n F0 w0 ops (i :: L) e Rs Q := by
  refine TL.ef ho hw (Ef.appX j hc hu hinfo hzv hp hs hx hX hj hb hm hd) ?_
  rintro _ _ ⟨A', c', rfl, rfl⟩
  exact h A' c'
end
end Go.Proofs.Ytlhgogjcaegehaa.Sl
namespace Go.Proofs.Ytlhgogjcaegehaa.Sl
open Go.RowKit
set_option linter.unusedVariables false
set_option linter.unusedSimpArgs false
def PakR {ι : Type} (f : ι → List Res) : Res where
  P := fun w G => (∃ i, Sep (f i) w G) ∧ ∀ k, G k → k < w.heap.size
  lt := fun h k hk => h.2 k hk
  move := fun {w w' G} h hm => ⟨let ⟨i, hi⟩ := h.1; ⟨i, hi.move_ hm⟩, fun k hk => by
    have h1 := h.2 k hk
    have h2 := hm k hk
    rw [Array.getElem?_eq_getElem h1] at h2
    exact (Array.getElem?_eq_some_iff.1 h2).1⟩
section
variable {P : Program} {n : Nat} {F0 : Nat → Prop} {w0 w : World} {e : Env} {Rs Rs' Rf : List Res} {Q : Exit → Act → World → Prop} {ops : Array Oper} {l : List Nat} {c : Code} {x : Exit} {ι : Type} {f : ι → List Res}
theorem St.pakOpen (j : Nat) (h : St F0 w0 Rs w) (hj : Rs[j]? = some (PakR f)) : ∃ i, St F0 w0 (f i ++ Rs.eraseIdx j) w := by
  obtain ⟨fr, hs⟩ := h
  obtain ⟨G, ⟨⟨i, h1⟩, _⟩, h2, h3⟩ := Sep.pick j hj hs
  exact ⟨i, fr, Sep.append h1 h3 h2⟩
theorem Sep.splitA : ∀ {As Bs : List Res} {w : World} {F : Nat → Prop}, Sep (As ++ Bs) w F → ∃ G, Sep As w G ∧ (∀ k, G k → F k) ∧ (∀ k, G k → k < w.heap.size) ∧ Sep Bs w (fun k => F k ∧ ¬ G k)
  | [], Bs, w, F, h => ⟨fun _ => False, trivial, fun _ h => h.elim, fun _ h => h.elim, h.mono (fun k hk => ⟨hk, fun h => h⟩)⟩
  | A :: As, Bs, w, F, ⟨H, h1, h2, h3⟩ => by
    obtain ⟨G, k1, k2, k3, k4⟩ := Sep.splitA h3
    refine ⟨fun k => H k ∨ G k, ⟨H, h1, fun k hk => .inl hk, k1.mono (fun k hk => ⟨.inr hk, (k2 k hk).2⟩)⟩, ?_, ?_, k4.mono (fun k hk => ⟨hk.1.1, fun h => h.elim hk.1.2 hk.2⟩)⟩
    · rintro k (hk | hk)
      · exact h2 k hk
      · exact (k2 k hk).1
    · rintro k (hk | hk)
      · exact A.lt h1 k hk
      · exact k3 k hk
theorem St.pakShut (i : ι) (h : St F0 w0 (f i ++ Rs) w) : St F0 w0 (PakR f :: Rs) w := by
  obtain ⟨fr, hs⟩ := h
  obtain ⟨G, k1, k2, k3, k4⟩ := Sep.splitA hs
  exact ⟨fr, G, ⟨⟨i, k1⟩, k3⟩, k2, k4⟩
theorem T.pakOpen (j : Nat) (hj : Rs[j]? = some (PakR f)) (h : ∀ i, T P n F0 w0 e (f i ++ Rs.eraseIdx j) c Q) : T P n F0 w0 e Rs c Q := fun a w ha hs => let ⟨i, hi⟩ := hs.pakOpen j hj; h i a w ha hi
theorem X.pakShut (i : ι) (hR : Rs = f i ++ Rs') (h : X n F0 w0 e (PakR f :: Rs') x Q) : X n F0 w0 e Rs x Q := fun a w ha hs => h a w ha (by rw [hR] at hs; exact hs.pakShut i)
theorem TL.pakShut (i : ι) (hR : Rs = f i ++ Rs') (h : TL P n F0 w0 ops l e (PakR f :: Rs') Q) : TL P n F0 w0 ops l e Rs Q := fun a w ha hs => h a w ha (by rw [hR] at hs; exact hs.pakShut i)
theorem TL.pakOpen (j : Nat) (hj : Rs[j]? = some (PakR f)) (h : ∀ i, TL P n F0 w0 ops l e (f i ++ Rs.eraseIdx j) Q) : TL P n F0 w0 ops l e Rs Q := fun a w ha hs => let ⟨i, hi⟩ := hs.pakOpen j hj; h i a w ha hi
end
section
variable {P : Program} {n : Nat} {F0 : Nat → Prop} {w0 w : World} {e : Env} {Rs Rf : List Res} {Q : Exit → Act → World → Prop} {ops : Array Oper} {d : Option Tmp} {i : Nat} {ty t t' el : TypeId} {pos : String} {af : Array Edge} {gd : Option (Nat × Bool)} {v : Value} {x y : Operand} {L : List Nat} {lo : Sch} {cd : Code}
variable {U c m k : Nat} {A : Option Addr}
variable {α : Type} {E : Rd α} {z : Nat} {xs ys : List α}
def cutA (A : Option Addr) (c k z : Nat) : Option Addr := if c = k then A else A.map (·.add (k * z))
end
end Go.Proofs.Ytlhgogjcaegehaa.Sl
namespace Go.Proofs.Ytlhgogjcaegehaa.Sl
open Go.RowKit
set_option linter.unusedVariables false
set_option linter.unusedSimpArgs false
section
variable {P : Program} {n : Nat} {F0 : Nat → Prop} {w0 w : World} {e e' : Env} {Rs Rs' Rf : List Res} {Q : Exit → Act → World → Prop} {ops : Array Oper} {L : List Nat} {lo : Sch} {cd : Code} {K : Act → World → Prop} {l id : Nat} {J : Nat → Nat → Env → List Res → Prop} {J' : Nat → Act → World → Prop}
theorem X.gs (h : X n F0 w0 e Rs (.goto l) Q) : X n F0 w0 e Rs (.goto l) (Exit.then K Q) := h
theorem X.nilrow {x : Exit} {α : Type} (T' : TypeId) (size : Nat) (E : Rd α) (h : X n F0 w0 e (OwnR T' size E (.slice none 0 0) [] :: Rs) x Q) : X n F0 w0 e Rs x Q := fun a w ha hs => h a w ha (OwnR.nil T' size E hs)
def AnyR (b T z : Nat) : Res := PakR (fun cs : {cs : Array Value // cs.size = z} => [BlkR b T cs.1])
theorem St.any {b T z : Nat} {cs : Array Value} (i : Nat) (h : St F0 w0 Rs w) (hi : Rs[i]? = some (BlkR b T cs)) (hz : cs.size = z) : St F0 w0 (Rs.set i (AnyR b T z)) w :=
  h.weaken i hi (fun G hG => ⟨⟨⟨cs, hz⟩, G, hG, fun k hk => hk, trivial⟩, (BlkR b T cs).lt hG⟩)
theorem X.any {x : Exit} {b T z : Nat} {cs : Array Value} (i : Nat) (hi : Rs[i]? = some (BlkR b T cs)) (hz : cs.size = z) (h : X n F0 w0 e (Rs.set i (AnyR b T z)) x Q) : X n F0 w0 e Rs x Q := fun a w ha hs => h a w ha (hs.any i hi hz)
theorem T.any {b T' z : Nat} {cs : Array Value} (i : Nat) (hi : Rs[i]? = some (BlkR b T' cs)) (hz : cs.size = z) (h : T P n F0 w0 e (Rs.set i (AnyR b T' z)) cd Q) : T P n F0 w0 e Rs cd Q := fun a w ha hs => h a w ha (hs.any i hi hz)
variable {d : Option Tmp} {i : Nat} {ty t t' el : TypeId} {pos : String} {af : Array Edge} {gd : Option (Nat × Bool)} {v : Value} {x y : Operand}
variable {α : Type} {E : Rd α} {z : Nat} {xs ys : List α} {A A2 : Option Addr} {m c c2 k : Nat} {U bytes : Nat} {zv : Value}
theorem RX.sub {G : Nat → Prop} {p q : Nat} (h : (RX.of (sliceRd z E) [.slice A m c] xs).P w G) (hpq : p ≤ q) (hq : q ≤ xs.length) (hl : ((xs.drop p).take (q - p)) = ys) : (RX.of (sliceRd z E) [.slice (cutA A c p z) ys.length (c - p)] ys).P w G := by
  subst hl
  have hlen : ((xs.drop p).take (q - p)).length = q - p := by rw [List.length_take, List.length_drop]; omega
  rcases h with ⟨h, rfl⟩ | ⟨a, cap, h, h1, h2, hb, hr⟩
  · injection h with h
    injection h with e1 e2 e3
    subst e1 e3
    obtain rfl : q = 0 := by simpa using hq
    obtain rfl : p = 0 := by omega
    exact .inl ⟨rfl, by simp⟩
  · injection h with h
    injection h with e1 e2 e3
    subst e1 e3
    by_cases hc : c = p
    · have hz : q - p = 0 := by omega
      refine .inr ⟨a, c - p, by simp [cutA, hc], by rw [hlen]; omega, by omega, fun h => by omega, fun i x hx => ?_⟩
      have := (List.getElem?_eq_some_iff.1 hx).1
      omega
    · refine .inr ⟨a.add (p * z), c - p, by simp [cutA, hc], by rw [hlen]; omega, by omega, fun h => by rw [Go.ChangeShapes.block_add]; exact hb (by omega), fun i x hx => ?_⟩
      rw [List.getElem?_take] at hx
      split at hx
      · rw [List.getElem?_drop] at hx
        obtain ⟨cs, k1, k2, k3⟩ := hr (p + i) x hx
        refine ⟨cs, k1, fun j hj => ?_, k3⟩
        rw [← k2 j hj]
        congr 1
        unfold Addr.add
        split <;> split <;> simp_all [Nat.add_mul, Nat.add_assoc]
      · exact nomatch hx
end
section
variable {P : Program} {t el : TypeId}
end
end Go.Proofs.Ytlhgogjcaegehaa.Sl
namespace Go.Proofs.Ytlhgogjcaegehaa.Sl
open Go.RowKit
set_option linter.unusedVariables false
set_option linter.unusedSimpArgs false
def wantV (ops : Array Oper) (e : Env) : Option (Nat × Bool) → Option Bool
  | none => some true
  | some (j, want) => match (ops[j]?).bind (·.dst) with
    | some t => match e.get t with
      | some (.bool b) => some (match b with | true => want | false => !want)
      | some _ => some false
      | none => none
    | none => none
theorem wantV_ok {n : Nat} {ops : Array Oper} {e : Env} {d : Option Tmp} {op : Op} {ty : TypeId} {pos : String} {af : Array Edge} {g : Option (Nat × Bool)} {b : Bool} (h : wantV ops e g = some b) : Wd n ops e ⟨d, op, ty, pos, af, g⟩ b := by
  intro a ha
  cases g with
  | none =>
    cases h
    rfl
  | some g =>
    obtain ⟨j, want⟩ := g
    simp only [wantV] at h
    split at h
    · rename_i t hj
      split at h
      · rename_i b' hv
        injection h with h
        subst h
        simp only [Region.wanted, yielded, hj, Option.bind_some, ha.at_ t _ hv]
        cases b' <;> cases want <;> rfl
      · rename_i v hne hv
        injection h with h
        subst h
        simp only [Region.wanted, yielded, hj, Option.bind_some, ha.at_ t _ hv]
        cases v <;> first | rfl | exact absurd rfl (hne _)
      · cases h
    · cases h
def memN : List Nat → Nat → Bool
  | [], _ => false
  | a :: r, t => match Nat.beq a t with
    | true => true
    | false => memN r t
def NOK (P : Program) : List Nat → Prop
  | [] => True
  | a :: r => (∀ w, (isAgg a).run P w = .ok false w) ∧ NOK P r
theorem NOK.get {P : Program} : ∀ {l : List Nat}, NOK P l → ∀ {t : Nat}, memN l t = true → ∀ w, (isAgg t).run P w = .ok false w
  | [], _, t, h => by simp [memN] at h
  | a :: r, ⟨h1, h2⟩, t, h => by
    simp only [memN] at h
    cases hb : Nat.beq a t with
    | true =>
      obtain rfl := Nat.eq_of_beq_eq_true hb
      exact h1
    | false => rw [hb] at h; exact NOK.get h2 h
def pureW (ft : FTab) (nt : List Nat) (cs : Array Value) (e : Env) (L : List Nat) : Op → Option (Value × List Nat)
  | .pick c x y => match e.ev c with
    | some (.bool b) => match b with
      | true => match e.ev x with
        | some v => some (v, L)
        | none => none
      | false => match e.ev y with
        | some v => some (v, L)
        | none => none
    | _ => none
  | .load t x => match memN nt t with
    | true => match e.ev x with
      | some (.pointer (some ⟨b, o, none⟩)) => match cs[o]? with
        | some v => some (v, b :: L)
        | none => none
      | _ => none
    | false => none
  | op => match pureV ft e op with
    | some v => some (v, L)
    | none => none
def runB (ft : FTab) (nt : List Nat) (cs : Array Value) (n : Nat) (ops : Array Oper) : Env → List Nat → List Nat → Option (Env × List Nat)
  | e, L, [] => some (e, L)
  | e, L, i :: is => match ops[i]? with
    | some ⟨d, op, _, _, _, g⟩ => match wantV ops e g with
      | some true => match d with
        | some d => match Nat.blt d n with
          | true => match pureW ft nt cs e L op with
            | some (v, L') => runB ft nt cs n ops ((d, v) :: e) L' is
            | none => none
          | false => none
        | none => none
      | some false => match d with
        | some d => match Nat.blt d n with
          | true => runB ft nt cs n ops ((d, undef) :: e) L is
          | false => none
        | none => runB ft nt cs n ops e L is
      | none => none
    | none => none
section
variable {P : Program} {n : Nat} {F0 : Nat → Prop} {w0 : World} {e e' : Env} {Rs : List Res} {Q : Exit → Act → World → Prop} {ops : Array Oper} {ft : FTab} {nt : List Nat} {cs : Array Value} {b T j : Nat} {L L' l : List Nat}
theorem pureW_sub {op : Op} {v : Value} (h : pureW ft nt cs e L op = some (v, L')) : ∀ x ∈ L, x ∈ L' := by
  unfold pureW at h
  repeat' split at h
  all_goals first | cases h | skip
  all_goals first | exact fun x hx => hx | exact fun x hx => List.mem_cons_of_mem _ hx
theorem runB_sub : ∀ (is : List Nat) {e e' : Env} {L L' : List Nat}, runB ft nt cs n ops e L is = some (e', L') → ∀ x ∈ L, x ∈ L'
  | [], e, e', L, L', h => by
    cases h
    exact fun x hx => hx
  | i :: is, e, e', L, L', h => by
    simp only [runB] at h
    repeat' split at h
    all_goals first | cases h | skip
    all_goals first | exact runB_sub is h | (rename_i hp; exact fun x hx => runB_sub is h x (pureW_sub hp x hx))
theorem pureW_run {d : Option Tmp} {op : Op} {ty : TypeId} {pos : String} {af : Array Edge} {g : Option (Nat × Bool)} {v : Value} (hft : ft.OK P) (hnt : NOK P nt) (hi : Rs[j]? = some (BlkR b T cs)) (h : pureW ft nt cs e L op = some (v, L')) (hL : ∀ x ∈ L', x = b) :
    Ex P n e (St F0 w0 Rs) ⟨d, op, ty, pos, af, g⟩ v := by
  unfold pureW at h
  split at h
  · split at h
    · rename_i hc
      split at h
      · split at h
        · rename_i hx
          cases h
          exact Ex.py hc rfl hx
        · cases h
      · split at h
        · rename_i hx
          cases h
          exact Ex.pn hc rfl hx
        · cases h
    · cases h
  · split at h
    · rename_i ht
      split at h
      · rename_i b' o hx
        split at h
        · rename_i hv
          cases h
          obtain rfl := hL b' (List.mem_cons_self ..)
          exact Ex.b1 j hx (hnt.get ht) hi hv
        · cases h
      · cases h
    · cases h
  · split at h
    · rename_i hv
      cases h
      exact pureV_run hft hv
    · cases h
theorem TL.runB_ (hft : ft.OK P) (hnt : NOK P nt) (hi : Rs[j]? = some (BlkR b T cs)) : ∀ (is : List Nat) {e e' : Env} {L L' l : List Nat}, runB ft nt cs n ops e L is = some (e', L') → (∀ x ∈ L', x = b) → TL P n F0 w0 ops l e' Rs Q → TL P n F0 w0 ops (is ++ l) e Rs Q
  | [], e, e', L, L', l, h, _, k => by
    cases h
    exact k
  | i :: is, e, e', L, L', l, h, hL, k => by
    simp only [runB] at h
    split at h
    · rename_i d op ty pos af g ho
      split at h
      · rename_i hw
        split at h
        · rename_i d
          split at h
          · rename_i hd
            split at h
            · rename_i v L1 hv
              exact TL.q ho (wantV_ok hw) (pureW_run hft hnt hi hv (fun x hx => hL x (runB_sub is h x hx))) hd (TL.runB_ hft hnt hi is h hL k)
            · cases h
          · cases h
        · cases h
      · rename_i hw
        split at h
        · rename_i d
          split at h
          · rename_i hd
            exact TL.no ho (wantV_ok hw) hd (TL.runB_ hft hnt hi is h hL k)
          · cases h
        · exact TL.no0 ho (wantV_ok hw) (TL.runB_ hft hnt hi is h hL k)
      · cases h
    · cases h
theorem TL.rb (hft : ft.OK P) (hnt : NOK P nt) (j : Nat) (hi : Rs[j]? = some (BlkR b T cs)) (k : Nat) (h : runB ft nt cs n ops e [] (l.take k) = some (e', L)) (hL : L = L.map fun _ => b) (K : TL P n F0 w0 ops (l.drop k) e' Rs Q) : TL P n F0 w0 ops l e Rs Q := by
  have h2 : ∀ x ∈ L, x = b := fun x hx => by
    rw [hL] at hx
    obtain ⟨_, _, rfl⟩ := List.mem_map.1 hx
    rfl
  have h3 := TL.runB_ hft hnt hi (l.take k) h h2 K
  rwa [List.take_append_drop] at h3
theorem TL.runW_ (hft : ft.OK P) : ∀ (is : List Nat) {e e' : Env} {l : List Nat}, runB ft [] #[] n ops e [] is = some (e', []) → TL P n F0 w0 ops l e' Rs Q → TL P n F0 w0 ops (is ++ l) e Rs Q
  | [], e, e', l, h, k => by
    cases h
    exact k
  | i :: is, e, e', l, h, k => by
    simp only [runB] at h
    split at h
    · rename_i d op ty pos af g ho
      split at h
      · rename_i hw
        split at h
        · rename_i d
          split at h
          · rename_i hd
            split at h
            · rename_i v L1 hv
              have hL1 : L1 = [] := by
                cases L1 with
                | nil => rfl
                | cons x r => exact absurd (runB_sub is h x (List.mem_cons_self ..)) (by simp)
              subst hL1
              have hx : Ex P n e (St F0 w0 Rs) ⟨some d, op, ty, pos, af, g⟩ v := by
                unfold pureW at hv
                split at hv
                · split at hv
                  · rename_i hc
                    split at hv
                    · split at hv
                      · rename_i hx
                        cases hv
                        exact Ex.py hc rfl hx
                      · cases hv
                    · split at hv
                      · rename_i hx
                        cases hv
                        exact Ex.pn hc rfl hx
                      · cases hv
                  · cases hv
                · simp [memN] at hv
                · split at hv
                  · rename_i hv'
                    cases hv
                    exact pureV_run hft hv'
                  · cases hv
              exact TL.q ho (wantV_ok hw) hx hd (TL.runW_ hft is h k)
            · cases h
          · cases h
        · cases h
      · rename_i hw
        split at h
        · rename_i d
          split at h
          · rename_i hd
            exact TL.no ho (wantV_ok hw) hd (TL.runW_ hft is h k)
          · cases h
        · exact TL.no0 ho (wantV_ok hw) (TL.runW_ hft is h k)
      · cases h
    · cases h
theorem TL.rw (hft : ft.OK P) (k : Nat) (h : runB ft [] #[] n ops e [] (l.take k) = some (e', [])) (K : TL P n F0 w0 ops (l.drop k) e' Rs Q) : TL P n F0 w0 ops l e Rs Q := by
  have h3 := TL.runW_ hft (l.take k) h K
  rwa [List.take_append_drop] at h3
theorem TL.hv (d : Nat) {x y : Bool} (hv : e.get d = some (.bool x)) (h : x = y) (K : TL P n F0 w0 ops l ((d, .bool y) :: e) Rs Q) : TL P n F0 w0 ops l e Rs Q := fun a w ha hs => by
  refine K a w (ha.sub (fun t u hu => ?_)) hs
  simp only [Env.get] at hu
  cases hb : Nat.beq d t with
  | true =>
    rw [hb] at hu
    obtain rfl := Nat.eq_of_beq_eq_true hb
    injection hu with hu
    rw [hv, h, hu]
  | false => rw [hb] at hu; exact hu
end
end Go.Proofs.Ytlhgogjcaegehaa.Sl
namespace Go.Proofs.Ytlhgogjcaegehaa.Sl
open Go.RowKit
set_option linter.unusedVariables false
set_option linter.unusedSimpArgs false
set_option maxRecDepth 100000
def ft_cursitorlaw14 : FTab := [(46, 0, 0), (46, 1, 1)]
theorem ft_cursitorlaw14_ok : (ft_cursitorlaw14).OK Try.prog := ⟨FOK.mk Try.runUnderlying46 rfl Try.sizeOf9 rfl, FOK.mk Try.runUnderlying46 rfl Try.sizeOf44 rfl, trivial⟩
def nt_cursitorlaw14 : List Nat := [9, 44]
theorem nt_cursitorlaw14_ok : NOK Try.prog nt_cursitorlaw14 := ⟨Try.isAgg9, Try.isAgg44, trivial⟩
def f_l14_Few_l1 : List Top → Int → Int → Option (Lp Int (Int × Int))
  | [], y3, y4 => some (Lp.go (y3, y4))
  | x10 :: xs, y3, y4 => if -9223372036854775808 ≤ (4 * (x10.fParts.length : Int)) ∧ (4 * (x10.fParts.length : Int)) ≤ 9223372036854775807 then (if -9223372036854775808 ≤ ((x10.fName.length : Int) + (4 * (x10.fParts.length : Int))) ∧ ((x10.fName.length : Int) + (4 * (x10.fParts.length : Int))) ≤ 9223372036854775807 then (if -9223372036854775808 ≤ (((x10.fName.length : Int) + (4 * (x10.fParts.length : Int))) + 6) ∧ (((x10.fName.length : Int) + (4 * (x10.fParts.length : Int))) + 6) ≤ 9223372036854775807 then (if -9223372036854775808 ≤ (y4 + (((x10.fName.length : Int) + (4 * (x10.fParts.length : Int))) + 6)) ∧ (y4 + (((x10.fName.length : Int) + (4 * (x10.fParts.length : Int))) + 6)) ≤ 9223372036854775807 then (if (y4 + (((x10.fName.length : Int) + (4 * (x10.fParts.length : Int))) + 6)) > 1000 then some (Lp.ret 0) else (f_l14_Few_l1 xs y3 (y4 + (((x10.fName.length : Int) + (4 * (x10.fParts.length : Int))) + 6)))) else none) else none) else none) else none
def f_l14_Few (a0 : List Top) : Option (Int) := (f_l14_Few_l1 a0 0 0).bind fun e => match e with | .ret r => some r | .go (y23, y24) => some 1
set_option maxRecDepth 100000 in
set_option maxHeartbeats 4000000 in
theorem f_l14_Few_spec (a0 : List Top) (A1 : Option Addr) (c2 : Nat) (r : Int) (h : f_l14_Few a0 = some r) : SpecX Try.prog 7 #[.slice A1 a0.length c2] (RX.of (sliceRd 2 Top_rd) [.slice A1 a0.length c2] a0) (EmpR) (fun v A' N => v = .int .i64 r ∧ A' = EmpR ∧ N = []) := by
  refine enterA Try.func7 rfl Try.ntmps7 rfl ?_
  intro F w hX
  unfold f_l14_Few at h
  refine T.seq (T.region rfl ?_)
  refine TL.run ft_cursitorlaw14_ok [0] rfl rfl ?_
  refine TL.nil (X.seq (T.seq (T.region rfl ?_)))
  refine TL.run ft_cursitorlaw14_ok [0] rfl rfl ?_
  refine TL.nil (X.seq (T.seq (T.seq (T.region rfl ?_))))
  refine TL.run ft_cursitorlaw14_ok [0] rfl rfl ?_
  refine TL.q rfl .u (Ex.lenS rfl Try.runUnderlying22) rfl ?_
  refine TL.run ft_cursitorlaw14_ok [2] rfl rfl ?_
  refine TL.nil (X.seq (T.block ?_))
  obtain ⟨E6, hE7, hO8⟩ := Option.bind_eq_some_iff.1 h
  have hk12len := RX.len_le hX
  refine T.lp (fun m e Rs => ∃ (y3 : Int) (y4 : Int) (k5 : Nat), k5 + m = a0.length ∧ e = [(2, .int .i64 y3), (3, .int .i64 y4), (6, .slice A1 a0.length c2), (7, .int .i64 (a0.length : Int)), (8, .int .i64 (k5 : Int))] ∧ Rs = [EmpR] ∧ f_l14_Few_l1 (a0.drop k5) y3 y4 = some E6) (a0.length) [0] ⟨0, 0, 0, by simp, rfl, rfl, by rw [List.drop_zero]; exact hE7⟩ (by rfl) (by rfl) ?_
  rintro m9 _ _ ⟨y3, y4, k5, hk12, rfl, rfl, hl11⟩
  clear hE7 h
  cases m9 with
  | zero =>
    have h := hl11
    clear hl11
    rw [List.drop_of_length_le (by omega), f_l14_Few_l1] at h
    have hk12ge : ¬ ((k5 : Int) < (a0.length : Int)) := by omega
    refine T.seq (T.region rfl ?_)
    refine TL.run ft_cursitorlaw14_ok [0] rfl rfl ?_
    refine TL.nil (X.seq (T.seq ?_))
    refine T.no rfl (decide_eq_false hk12ge) ?_
    obtain rfl := Option.some.inj h
    replace h := hO8
    clear hO8
    try dsimp only at h
    refine T.exit (X.exs (X.exs (X.ex (X.seq (T.seq (T.region rfl ?_))))))
    refine TL.run ft_cursitorlaw14_ok [0] rfl rfl ?_
    obtain rfl := Option.some.inj h
    exact TL.nil (X.seq (T.ret (X.done1 [0] Try.results7 (RV.tm rfl) ⟨rfl, rfl, rfl⟩ (by rfl) (.inl rfl))))
  | succ m9 =>
    have h := hl11
    clear hl11
    obtain ⟨x10, hxx10⟩ : ∃ x, a0[k5]? = some x := ⟨_, List.getElem?_eq_getElem (by omega)⟩
    rw [drop_cons hxx10, f_l14_Few_l1] at h
    have hk12lt : (k5 : Int) < (a0.length : Int) := by omega
    refine T.seq (T.region rfl ?_)
    refine TL.run ft_cursitorlaw14_ok [0] rfl rfl ?_
    refine TL.nil (X.seq (T.seq ?_))
    refine T.yes rfl (decide_eq_true hk12lt) ?_
    obtain ⟨gz13, oz13, rfl, z13cs, z13cl, z13cc, z13nf, z13r⟩ := RX.elem (by decide) hX hxx10
    obtain ⟨z13S, z13r, z13rr⟩ := z13r
    obtain ⟨A14, c15, rfl, z13s0⟩ := z13r
    have hX16 : (RX.of (sliceRd 1 intE) [.slice A14 x10.fParts.length c15] x10.fParts).reads w F := ⟨z13S, z13s0, z13rr⟩
    refine T.skip (X.seq (T.seq (T.block (T.seq (T.region rfl ?_)))))
    refine TL.q rfl .u (Ex.ixS (k := k5) rfl rfl rfl Try.runUnderlying22 Try.sizeOf46 (List.getElem?_eq_some_iff.1 hxx10).1) rfl ?_
    refine TL.q rfl .u (Ex.oS (us := [.string (bsOf x10.fName), .slice A14 x10.fParts.length c15]) 0 rfl Try.isAgg46 Try.sizeOf46 z13nf z13cc rfl rfl rfl) rfl ?_
    refine TL.alloc rfl .u Try.zeroValue46 rfl (fun b17 => ?_)
    refine TL.st0 (cs' := #[.string (bsOf x10.fName), .slice A14 x10.fParts.length c15]) rfl .u rfl rfl Try.sizeOf46 rfl rfl rfl rfl ?_
    refine TL.nil (X.seq (T.seq (T.region rfl ?_)))
    refine TL.rb ft_cursitorlaw14_ok nt_cursitorlaw14_ok 0 rfl 3 rfl rfl ?_
    refine TL.q rfl .u (Ex.lenB rfl Try.runUnderlying9) rfl ?_
    refine TL.rb ft_cursitorlaw14_ok nt_cursitorlaw14_ok 0 rfl 2 rfl rfl ?_
    refine TL.q rfl .u (Ex.lenS rfl Try.runUnderlying44) rfl ?_
    replace h := guard_some h
    obtain ⟨c18, h⟩ := h
    refine TL.q rfl .u (Ex.mul rfl rfl c18) rfl ?_
    replace h := guard_some h
    obtain ⟨c19, h⟩ := h
    refine TL.q rfl .u (Ex.add rfl rfl c19) rfl ?_
    replace h := guard_some h
    obtain ⟨c20, h⟩ := h
    refine TL.q rfl .u (Ex.add rfl rfl c20) rfl ?_
    replace h := guard_some h
    obtain ⟨c21, h⟩ := h
    refine TL.q rfl .u (Ex.add rfl rfl c21) rfl ?_
    refine TL.run ft_cursitorlaw14_ok [11] rfl rfl ?_
    refine TL.nil (X.seq (T.seq (T.region rfl ?_)))
    refine TL.run ft_cursitorlaw14_ok [0, 1] rfl rfl ?_
    by_cases c22 : (y4 + (((x10.fName.length : Int) + (4 * (x10.fParts.length : Int))) + 6)) > 1000
    · replace h := ifT c22 h
      refine TL.nil (X.seq ?_)
      refine T.yes rfl (decide_eq_true c22) ?_
      refine T.seq (T.region rfl ?_)
      refine TL.run ft_cursitorlaw14_ok [0] rfl rfl ?_
      obtain rfl := Option.some.inj h
      replace h := hO8
      clear hO8
      try dsimp only at h
      obtain rfl := Option.some.inj h
      exact TL.nil (X.seq (T.ret (X.rb (X.rs (X.rs (X.rb (X.rs (X.done1 [1] Try.results7 (RV.tm rfl) ⟨rfl, rfl, rfl⟩ (by rfl) (.inl rfl)))))))))
    · replace h := ifF c22 h
      refine TL.nil (X.seq ?_)
      refine T.no rfl (decide_eq_false c22) ?_
      refine T.skip (X.blk (X.seq (T.region rfl ?_)))
      refine TL.q rfl .u (Ex.add rfl rfl (by omega)) rfl ?_
      refine TL.run ft_cursitorlaw14_ok [1] rfl rfl ?_
      exact TL.nil (X.back (m' := m9) [1] (by omega) ⟨y3, (y4 + (((x10.fName.length : Int) + (4 * (x10.fParts.length : Int))) + 6)), k5 + 1, by omega, rfl, rfl, h⟩ (by rfl) (by rfl))
end Go.Proofs.Ytlhgogjcaegehaa.Sl
