/- BlobBack: for every input the law returns true, and its arguments read behind the call as they did before. -/
import Derived.Laws.BytesString
import Derived.Laws.Cells
import Derived.Laws.MakeOwn
import Derived.Laws.CopyRow
import Derived.Laws.OwnMore
import Derived.Test.YtpiiopppbgpbpaaRows
import Derived.WalkKit
import Derived.ProofKit
import Derived.OpenShut
import Derived.ShutString
import Derived.ChangeOld
import Derived.Below
import Derived.SizedLaws
import Derived.Test.YtpiiopppbgpbpaaK0
namespace Go.Proofs.Ytpiiopppbgpbpaa.Sl
open Go.RowKit
set_option linter.unusedVariables false
set_option linter.unusedSimpArgs false
def envput : Option Nat → Value → Env → Env
  | none, _, e => e
  | some d, v, e => (d, v) :: e
def okd : Option Nat → Nat → Bool
  | none, _ => true
  | some d, n => Nat.blt d n
section
variable {P : Program} {n : Nat} {F0 : Nat → Prop} {w0 : World} {e : Env} {Rs : List Res} {d : Option Tmp} {ty : TypeId} {pos : String} {af : Array Edge} {gd : Option (Nat × Bool)} {v : Value} {x y : Operand} {t t' el : TypeId}
theorem Has.putd {a : Act} (h : Has n e a) (hd : okd d n = true) : Has n (envput d v e) (a.put d v) := by
  cases d with
  | none => exact h
  | some d => exact h.put hd
theorem St.setRowS {b : Nat} {T : TypeId} {cs cs' : Array Value} {w : World} (i : Nat) (h : St F0 w0 Rs w) (hi : Rs[i]? = some (BlkR b T cs)) : St F0 w0 (Rs.set i (BlkR b T cs')) (w.setRow b cs') := by
  refine h.step i hi (Ns := []) (fun G hG => ⟨⟨rfl, rfl, rfl, by simp [World.setRow], fun k hk hn => setRow_other w b k cs' (fun e => hn (e ▸ (hG.2 b).2 rfl))⟩, G, ⟨setRow_heap w b cs cs' T (0, 0) hG.1, hG.2⟩, fun k hk => .inl hk, trivial⟩)
theorem Ef.alloc {zv : Value} (hz : ∀ w, (zeroValue t).run P w = .ok zv w) (hd : okd d n = true) : Ef P n F0 w0 e Rs ⟨d, .alloc t, ty, pos, af, gd⟩ (fun e' Rs' => ∃ b, e' = envput d (.pointer (some ⟨b, 0, none⟩)) e ∧ Rs' = BlkR b t zv.cells :: Rs) := by
  intro a w K Q ha hs hk
  have h1 : (execOp a.eval ⟨d, .alloc t, ty, pos, af, gd⟩).run P w = .ok (.value (.pointer (some ⟨w.heap.size, 0, none⟩))) (w.alloc (.cells zv.cells t)) := by
    simp [execOp, Instr.alloc, hz, newVar, newRow, newObj]
    rfl
  unfold Oper.wp
  rw [h1]
  exact hk _ _ ⟨_, rfl, rfl⟩ _ _ (ha.putd hd) (hs.alloc _ _)
theorem Ef.st (i : Nat) {b o z : Nat} {T : TypeId} {cs cs' : Array Value} (hx : e.ev x = some (.pointer (some ⟨b, o, none⟩))) (hy : e.ev y = some v) (hz : ∀ w, (sizeOf t).run P w = .ok z w) (hi : Rs[i]? = some (BlkR b T cs))
    (hvz : Nat.beq v.cells.size z = true) (hf : Nat.ble (o + v.cells.size) cs.size = true) (ho : v.cells.toList.all (·.oneCell') = true) (hc : (cs.toList.take o ++ v.cells.toList ++ cs.toList.drop (o + v.cells.size)).toArray = cs') :
    Ef P n F0 w0 e Rs ⟨none, .store t x y, ty, pos, af, gd⟩ (fun e' Rs' => e' = e ∧ Rs' = Rs.set i (BlkR b T cs')) := by
  intro a w K Q ha hs hk
  have hb := hs.blk i hi
  have hvz' := Nat.eq_of_beq_eq_true hvz
  have hf' := Nat.le_of_ble_eq_true hf
  have h2 := run_storeCells_at (P := P) b o T v.cells.toList 0 cs w hb (by simpa using hf') (List.all_eq_true.1 ho)
  have h1 : (execOp a.eval ⟨none, .store t x y, ty, pos, af, gd⟩).run P w = .ok .skip (w.setRow b cs') := by
    simp only [Nat.add_zero, Array.length_toList] at h2
    rw [hc] at h2
    simp [execOp, ha.ev hx, ha.ev hy, Instr.storeAt, Instr.sureAddr, storeVar, hz, hvz', h2]
  unfold Oper.wp
  rw [h1]
  exact hk _ _ ⟨rfl, rfl⟩ _ _ (ha.put0) (hs.setRowS i hi)
def CT (P : Program) (n : Nat) (e : Env) (o : Oper) (f : FuncId) (us : List Value) : Prop := ∀ a w, Has n e a → (execOp a.eval o).run P w = .ok (.enter f us.toArray) w
theorem CT.fn {f : FuncId} {xs : List Operand} {vs : List Value} {ts : Array TypeId} (hc : ∀ args w, (callFunc f args).run P w = .ok (.enter f args) w) (hv : e.evs xs = some vs) : CT P n e ⟨d, .call ⟨.value (.func f), xs.toArray, ts⟩, ty, pos, af, gd⟩ f vs := by
  intro a w ha
  simp [execOp, resolve, Act.eval, Deferred.ofValue, invoke, List.map_toArray, ha.evs hv, hc]
theorem CT.val {f : FuncId} {x : Operand} {xs : List Operand} {vs us fs cs : List Value} {ts : Array TypeId} (hx : e.ev x = some (.func (.func f) fs.toArray cs.toArray)) (hc : ∀ args w, (callFunc f args).run P w = .ok (.enter f args) w) (hv : e.evs xs = some vs) (hu : fs ++ vs ++ cs = us) : CT P n e ⟨d, .call ⟨.value x, xs.toArray, ts⟩, ty, pos, af, gd⟩ f us := by
  intro a w ha
  subst hu
  simp [execOp, resolve, ha.ev hx, Deferred.ofValue, invoke, List.map_toArray, ha.evs hv, hc]
theorem Ef.call (i : Nat) {op : Op} {f : FuncId} {vs : List Value} {A : Res} {Y : RX} {R : Value → Res → List Res → Prop} (hc : CT P n e ⟨d, op, ty, pos, af, gd⟩ f vs) (hi : Rs[i]? = some A)
    (hs : SpecX P f vs.toArray Y A R) (hr : ∀ w, St F0 w0 Rs w → Src F0 w0 Rs w i Y) (hd : okd d n = true) :
    Ef P n F0 w0 e Rs ⟨d, op, ty, pos, af, gd⟩ (fun e' Rs' => ∃ v A' N, R v A' N ∧ e' = envput d v e ∧ Rs' = N ++ Rs.set i A') := by
  intro a w K Q ha hst hk
  unfold Oper.wp
  rw [hc a w ha]
  refine (hst.callX i hi hs (hr w hst)).mono ?_
  rintro x w' ⟨v, A', N, rfl, hq, hst'⟩
  exact hk _ _ ⟨v, A', N, hq, rfl, rfl⟩ _ _ (ha.putd hd) hst'
theorem Ef.callE {op : Op} {f : FuncId} {vs : List Value} {Y : RX} {R : Value → Res → List Res → Prop} (hc : CT P n e ⟨d, op, ty, pos, af, gd⟩ f vs)
    (hs : SpecX P f vs.toArray Y EmpR R) (hr : ∀ w, St F0 w0 Rs w → Y.reads w (fun _ => False)) (hd : okd d n = true) :
    Ef P n F0 w0 e Rs ⟨d, op, ty, pos, af, gd⟩ (fun e' Rs' => ∃ v A' N, R v A' N ∧ e' = envput d v e ∧ Rs' = N ++ Rs) := by
  intro a w K Q ha hst hk
  unfold Oper.wp
  rw [hc a w ha]
  refine (hst.callE hs (hr w hst)).mono ?_
  rintro x w' ⟨v, A', N, rfl, hq, hst'⟩
  exact hk _ _ ⟨v, A', N, hq, rfl, rfl⟩ _ _ (ha.putd hd) hst'
def SOK (P : Program) (t T : TypeId) (m z : Nat) (zs : Array Value) : Prop := ∀ (parts : Array (Nat × Value)) (cells : Array Value) (w : World), Instr.fill (fun i => some (i * z, z)) zs parts.toList = some cells → (Instr.buildSlice t m parts).run P w = .ok (.slice (some ⟨w.heap.size, 0, none⟩) m m) (w.alloc (.cells cells T))
theorem Ef.lit {T m z : Nat} {zs cells : Array Value} {ps : List (Nat × Operand)} {vs : List Value} (hB : SOK P t T m z zs) (hv : e.evs (ps.map (·.2)) = some vs) (hf : Instr.fill (fun i => some (i * z, z)) zs ((ps.map (·.1)).zip vs) = some cells) (hd : okd d n = true) :
    Ef P n F0 w0 e Rs ⟨d, .buildSlice t m ps.toArray, ty, pos, af, gd⟩ (fun e' Rs' => ∃ b, e' = envput d (.slice (some ⟨b, 0, none⟩) m m) e ∧ Rs' = BlkR b T cells :: Rs) := by
  intro a w K Q ha hs hk
  have h1 := ha.evs hv
  have h2 : ps.map (fun p => (p.1, a.eval p.2)) = (ps.map (·.1)).zip vs := by
    rw [← h1]
    clear h1 hf hv
    induction ps with
    | nil => rfl
    | cons p ps ih => simp [ih]
  have h3 := hB (ps.map (fun p => (p.1, a.eval p.2))).toArray cells w (by simpa [h2] using hf)
  unfold Oper.wp
  simp only [execOp, List.map_toArray, Sem.run_bind]
  rw [h3]
  exact hk _ _ ⟨_, rfl, rfl⟩ _ _ (ha.putd hd) (hs.alloc _ _)
theorem St.rowOf {α : Type} {E : Rd α} {b T z m : Nat} {us : List Value} {l : List α} {w : World} (h : St F0 w0 (BlkR b T us.toArray :: Rs) w) (hm : l.length = m) (hmm : m ≤ maxLen) (he : ∀ w, elems z E w (fun _ => False) us l) :
    St F0 w0 (OwnR T z E (.slice (some ⟨b, 0, none⟩) m m) l :: Rs) w := by
  subst hm
  refine h.weaken 0 rfl (fun G hG => ?_)
  have hl := elems_length (he w)
  refine ⟨us, fun _ => False, ⟨hl, .inr ⟨b, l.length, us.toArray, rfl, Nat.zero_le _, hG.1, Nat.le_refl _, hmm, by simpa using hl, ?_⟩⟩, he w, fun _ h => h.elim, fun _ _ h => h, fun k => ?_⟩
  · simp [← hl]
  · rw [hG.2 k]
    simp [Value.ownBlock, eq_comm]
end
section
variable {P : Program} {n : Nat} {F0 : Nat → Prop} {w0 : World} {e : Env} {Rs Rf : List Res} {Q : Exit → Act → World → Prop} {ops : Array Oper} {i d b o z f T : Nat} {ty t el : TypeId} {pos : String} {af : Array Edge} {gd : Option (Nat × Bool)} {v zv : Value} {x y : Operand} {l : List Nat} {xs : List Operand} {vs : List Value} {ts : Array TypeId} {Y : RX} {A B : Res} {R : Value → Res → List Res → Prop} {c : Code} {cl : Call}
theorem TL.rowOf {α : Type} {E : Rd α} {m : Nat} {us : List Value} {xs : List α} (hm : xs.length = m) (hmm : m ≤ maxLen) (he : ∀ w, elems z E w (fun _ => False) us xs) (h : TL P n F0 w0 ops l e (OwnR T z E (.slice (some ⟨b, 0, none⟩) m m) xs :: Rs) Q) : TL P n F0 w0 ops l e (BlkR b T us.toArray :: Rs) Q := fun a w ha hs => h a w ha (hs.rowOf hm hmm he)
theorem TD.rowOf {α : Type} {E : Rd α} {m : Nat} {us : List Value} {xs : List α} {l : Sch} (hm : xs.length = m) (hmm : m ≤ maxLen) (he : ∀ w, elems z E w (fun _ => False) us xs) (h : TD P n F0 w0 ops l Rf e (OwnR T z E (.slice (some ⟨b, 0, none⟩) m m) xs :: Rs) Q) : TD P n F0 w0 ops l Rf e (BlkR b T us.toArray :: Rs) Q := fun a w ha hs => h a w ha (hs.rowOf hm hmm he)
theorem TL.alloc  (ho : ops[i]? = some ⟨some d, .alloc t, ty, pos, af, gd⟩) (hw : Wd n ops e ⟨some d, .alloc t, ty, pos, af, gd⟩ true) (hz : ∀ w, (zeroValue t).run P w = .ok zv w) (hd : Nat.blt d n = true) (h : ∀ b, TL P n F0 w0 ops l ((d, .pointer (some ⟨b, 0, none⟩)) :: e) (BlkR b t zv.cells :: Rs) Q) : TL P n F0 w0 ops (i :: l) e Rs Q := by
  refine TL.ef ho hw (Ef.alloc hz hd) ?_
  rintro _ _ ⟨b, rfl, rfl⟩
  exact h b
theorem TD.alloc  {l : Sch} (ho : ops[i]? = some ⟨some d, .alloc t, ty, pos, af, gd⟩) (hw : Wd n ops e ⟨some d, .alloc t, ty, pos, af, gd⟩ true) (hz : ∀ w, (zeroValue t).run P w = .ok zv w) (hd : Nat.blt d n = true) (is : List Nat) (hf : ∀ b, Sel (BlkR b t zv.cells :: Rs) is Rf) (h : ∀ b, TD P n F0 w0 ops l Rf ((d, .pointer (some ⟨b, 0, none⟩)) :: e) (BlkR b t zv.cells :: Rs) Q) : TD P n F0 w0 ops (.e i l) Rf e Rs Q := by
  refine TD.ef ho hw (Ef.alloc hz hd) ?_
  rintro _ _ ⟨b, rfl, rfl⟩
  exact ⟨Rf, fun w hw => hw.sel is (hf b), fun _ h => h, h b⟩
theorem TL.lit {m : Nat} {zs cells : Array Value} {ps : List (Nat × Operand)} (ho : ops[i]? = some ⟨some d, .buildSlice t m ps.toArray, ty, pos, af, gd⟩) (hw : Wd n ops e ⟨some d, .buildSlice t m ps.toArray, ty, pos, af, gd⟩ true) (hB : SOK P t T m z zs) (hv : e.evs (ps.map (·.2)) = some vs) (hf' : Instr.fill (fun i => some (i * z, z)) zs ((ps.map (·.1)).zip vs) = some cells) (hd : Nat.blt d n = true) (h : ∀ b, TL P n F0 w0 ops l ((d, .slice (some ⟨b, 0, none⟩) m m) :: e) (BlkR b T cells :: Rs) Q) : TL P n F0 w0 ops (i :: l) e Rs Q := by
  refine TL.ef ho hw (Ef.lit hB hv hf' hd) ?_
  rintro _ _ ⟨b, rfl, rfl⟩
  exact h b
theorem TD.lit {m : Nat} {zs cells : Array Value} {ps : List (Nat × Operand)} {l : Sch} (ho : ops[i]? = some ⟨some d, .buildSlice t m ps.toArray, ty, pos, af, gd⟩) (hw : Wd n ops e ⟨some d, .buildSlice t m ps.toArray, ty, pos, af, gd⟩ true) (hB : SOK P t T m z zs) (hv : e.evs (ps.map (·.2)) = some vs) (hf' : Instr.fill (fun i => some (i * z, z)) zs ((ps.map (·.1)).zip vs) = some cells) (hd : Nat.blt d n = true) (is : List Nat) (hf : ∀ b, Sel (BlkR b T cells :: Rs) is Rf) (h : ∀ b, TD P n F0 w0 ops l Rf ((d, .slice (some ⟨b, 0, none⟩) m m) :: e) (BlkR b T cells :: Rs) Q) : TD P n F0 w0 ops (.e i l) Rf e Rs Q := by
  refine TD.ef ho hw (Ef.lit hB hv hf' hd) ?_
  rintro _ _ ⟨b, rfl, rfl⟩
  exact ⟨Rf, fun w hw => hw.sel is (hf b), fun _ h => h, h b⟩
theorem TL.st0 {cs cs' : Array Value}  (ho : ops[i]? = some ⟨none, .store t x y, ty, pos, af, gd⟩) (hw : Wd n ops e ⟨none, .store t x y, ty, pos, af, gd⟩ true) (hx : e.ev x = some (.pointer (some ⟨b, o, none⟩))) (hy : e.ev y = some v) (hz : ∀ w, (sizeOf t).run P w = .ok z w) (hvz : Nat.beq v.cells.size z = true) (hf' : Nat.ble (o + v.cells.size) cs.size = true) (ho' : v.cells.toList.all (·.oneCell') = true) (hc : (cs.toList.take o ++ v.cells.toList ++ cs.toList.drop (o + v.cells.size)).toArray = cs') (h : TL P n F0 w0 ops l e (BlkR b T cs' :: Rs) Q) : TL P n F0 w0 ops (i :: l) e (BlkR b T cs :: Rs) Q := by
  refine TL.ef ho hw (Ef.st 0 hx hy hz rfl hvz hf' ho' hc) ?_
  rintro _ _ ⟨rfl, rfl⟩
  exact h
theorem TD.st0 {cs cs' : Array Value}  {l : Sch} (ho : ops[i]? = some ⟨none, .store t x y, ty, pos, af, gd⟩) (hw : Wd n ops e ⟨none, .store t x y, ty, pos, af, gd⟩ true) (hx : e.ev x = some (.pointer (some ⟨b, o, none⟩))) (hy : e.ev y = some v) (hz : ∀ w, (sizeOf t).run P w = .ok z w) (hvz : Nat.beq v.cells.size z = true) (hf' : Nat.ble (o + v.cells.size) cs.size = true) (ho' : v.cells.toList.all (·.oneCell') = true) (hc : (cs.toList.take o ++ v.cells.toList ++ cs.toList.drop (o + v.cells.size)).toArray = cs') (is : List Nat) (hf : Sel (BlkR b T cs' :: Rs) is Rf) (h : TD P n F0 w0 ops l Rf e (BlkR b T cs' :: Rs) Q) : TD P n F0 w0 ops (.e i l) Rf e (BlkR b T cs :: Rs) Q := by
  refine TD.ef ho hw (Ef.st 0 hx hy hz rfl hvz hf' ho' hc) ?_
  rintro _ _ ⟨rfl, rfl⟩
  exact ⟨Rf, fun w hw => hw.sel is (hf), fun _ h => h, h⟩
theorem TL.c0  (ho : ops[i]? = some ⟨some d, .call cl, ty, pos, af, gd⟩) (hw : Wd n ops e ⟨some d, .call cl, ty, pos, af, gd⟩ true) (hc : CT P n e ⟨some d, .call cl, ty, pos, af, gd⟩ f vs) (hs : SpecX P f vs.toArray Y A (fun v' A' N => v' = v ∧ A' = B ∧ N = [])) (hr : ∀ w, St F0 w0 (A :: Rs) w → Src F0 w0 (A :: Rs) w 0 Y) (hd : Nat.blt d n = true) (h : TL P n F0 w0 ops l ((d, v) :: e) (B :: Rs) Q) : TL P n F0 w0 ops (i :: l) e (A :: Rs) Q := by
  refine TL.ef ho hw (Ef.call 0 hc rfl hs hr hd) ?_
  rintro _ _ ⟨_, _, _, ⟨rfl, rfl, rfl⟩, rfl, rfl⟩
  exact h
theorem TD.c0  {l : Sch} (ho : ops[i]? = some ⟨some d, .call cl, ty, pos, af, gd⟩) (hw : Wd n ops e ⟨some d, .call cl, ty, pos, af, gd⟩ true) (hc : CT P n e ⟨some d, .call cl, ty, pos, af, gd⟩ f vs) (hs : SpecX P f vs.toArray Y A (fun v' A' N => v' = v ∧ A' = B ∧ N = [])) (hr : ∀ w, St F0 w0 (A :: Rs) w → Src F0 w0 (A :: Rs) w 0 Y) (hd : Nat.blt d n = true) (is : List Nat) (hf : Sel (B :: Rs) is Rf) (h : TD P n F0 w0 ops l Rf ((d, v) :: e) (B :: Rs) Q) : TD P n F0 w0 ops (.e i l) Rf e (A :: Rs) Q := by
  refine TD.ef ho hw (Ef.call 0 hc rfl hs hr hd) ?_
  rintro _ _ ⟨_, _, _, ⟨rfl, rfl, rfl⟩, rfl, rfl⟩
  exact ⟨Rf, fun w hw => hw.sel is (hf), fun _ h => h, h⟩
theorem TL.st1 {cs cs' : Array Value} {R0 : Res} (ho : ops[i]? = some ⟨none, .store t x y, ty, pos, af, gd⟩) (hw : Wd n ops e ⟨none, .store t x y, ty, pos, af, gd⟩ true) (hx : e.ev x = some (.pointer (some ⟨b, o, none⟩))) (hy : e.ev y = some v) (hz : ∀ w, (sizeOf t).run P w = .ok z w) (hvz : Nat.beq v.cells.size z = true) (hf' : Nat.ble (o + v.cells.size) cs.size = true) (ho' : v.cells.toList.all (·.oneCell') = true) (hc : (cs.toList.take o ++ v.cells.toList ++ cs.toList.drop (o + v.cells.size)).toArray = cs') (h : TL P n F0 w0 ops l e (R0 :: BlkR b T cs' :: Rs) Q) : TL P n F0 w0 ops (i :: l) e (R0 :: BlkR b T cs :: Rs) Q := by
  refine TL.ef ho hw (Ef.st 1 hx hy hz rfl hvz hf' ho' hc) ?_
  rintro _ _ ⟨rfl, rfl⟩
  exact h
theorem TD.st1 {cs cs' : Array Value} {R0 : Res} {l : Sch} (ho : ops[i]? = some ⟨none, .store t x y, ty, pos, af, gd⟩) (hw : Wd n ops e ⟨none, .store t x y, ty, pos, af, gd⟩ true) (hx : e.ev x = some (.pointer (some ⟨b, o, none⟩))) (hy : e.ev y = some v) (hz : ∀ w, (sizeOf t).run P w = .ok z w) (hvz : Nat.beq v.cells.size z = true) (hf' : Nat.ble (o + v.cells.size) cs.size = true) (ho' : v.cells.toList.all (·.oneCell') = true) (hc : (cs.toList.take o ++ v.cells.toList ++ cs.toList.drop (o + v.cells.size)).toArray = cs') (is : List Nat) (hf : Sel (R0 :: BlkR b T cs' :: Rs) is Rf) (h : TD P n F0 w0 ops l Rf e (R0 :: BlkR b T cs' :: Rs) Q) : TD P n F0 w0 ops (.e i l) Rf e (R0 :: BlkR b T cs :: Rs) Q := by
  refine TD.ef ho hw (Ef.st 1 hx hy hz rfl hvz hf' ho' hc) ?_
  rintro _ _ ⟨rfl, rfl⟩
  exact ⟨Rf, fun w hw => hw.sel is (hf), fun _ h => h, h⟩
theorem TL.c1 {R0 : Res} (ho : ops[i]? = some ⟨some d, .call cl, ty, pos, af, gd⟩) (hw : Wd n ops e ⟨some d, .call cl, ty, pos, af, gd⟩ true) (hc : CT P n e ⟨some d, .call cl, ty, pos, af, gd⟩ f vs) (hs : SpecX P f vs.toArray Y A (fun v' A' N => v' = v ∧ A' = B ∧ N = [])) (hr : ∀ w, St F0 w0 (R0 :: A :: Rs) w → Src F0 w0 (R0 :: A :: Rs) w 1 Y) (hd : Nat.blt d n = true) (h : TL P n F0 w0 ops l ((d, v) :: e) (R0 :: B :: Rs) Q) : TL P n F0 w0 ops (i :: l) e (R0 :: A :: Rs) Q := by
  refine TL.ef ho hw (Ef.call 1 hc rfl hs hr hd) ?_
  rintro _ _ ⟨_, _, _, ⟨rfl, rfl, rfl⟩, rfl, rfl⟩
  exact h
theorem TD.c1 {R0 : Res} {l : Sch} (ho : ops[i]? = some ⟨some d, .call cl, ty, pos, af, gd⟩) (hw : Wd n ops e ⟨some d, .call cl, ty, pos, af, gd⟩ true) (hc : CT P n e ⟨some d, .call cl, ty, pos, af, gd⟩ f vs) (hs : SpecX P f vs.toArray Y A (fun v' A' N => v' = v ∧ A' = B ∧ N = [])) (hr : ∀ w, St F0 w0 (R0 :: A :: Rs) w → Src F0 w0 (R0 :: A :: Rs) w 1 Y) (hd : Nat.blt d n = true) (is : List Nat) (hf : Sel (R0 :: B :: Rs) is Rf) (h : TD P n F0 w0 ops l Rf ((d, v) :: e) (R0 :: B :: Rs) Q) : TD P n F0 w0 ops (.e i l) Rf e (R0 :: A :: Rs) Q := by
  refine TD.ef ho hw (Ef.call 1 hc rfl hs hr hd) ?_
  rintro _ _ ⟨_, _, _, ⟨rfl, rfl, rfl⟩, rfl, rfl⟩
  exact ⟨Rf, fun w hw => hw.sel is (hf), fun _ h => h, h⟩
theorem TL.c2 {R0 R1 : Res} (ho : ops[i]? = some ⟨some d, .call cl, ty, pos, af, gd⟩) (hw : Wd n ops e ⟨some d, .call cl, ty, pos, af, gd⟩ true) (hc : CT P n e ⟨some d, .call cl, ty, pos, af, gd⟩ f vs) (hs : SpecX P f vs.toArray Y A (fun v' A' N => v' = v ∧ A' = B ∧ N = [])) (hr : ∀ w, St F0 w0 (R0 :: R1 :: A :: Rs) w → Src F0 w0 (R0 :: R1 :: A :: Rs) w 2 Y) (hd : Nat.blt d n = true) (h : TL P n F0 w0 ops l ((d, v) :: e) (R0 :: R1 :: B :: Rs) Q) : TL P n F0 w0 ops (i :: l) e (R0 :: R1 :: A :: Rs) Q := by
  refine TL.ef ho hw (Ef.call 2 hc rfl hs hr hd) ?_
  rintro _ _ ⟨_, _, _, ⟨rfl, rfl, rfl⟩, rfl, rfl⟩
  exact h
theorem TD.c2 {R0 R1 : Res} {l : Sch} (ho : ops[i]? = some ⟨some d, .call cl, ty, pos, af, gd⟩) (hw : Wd n ops e ⟨some d, .call cl, ty, pos, af, gd⟩ true) (hc : CT P n e ⟨some d, .call cl, ty, pos, af, gd⟩ f vs) (hs : SpecX P f vs.toArray Y A (fun v' A' N => v' = v ∧ A' = B ∧ N = [])) (hr : ∀ w, St F0 w0 (R0 :: R1 :: A :: Rs) w → Src F0 w0 (R0 :: R1 :: A :: Rs) w 2 Y) (hd : Nat.blt d n = true) (is : List Nat) (hf : Sel (R0 :: R1 :: B :: Rs) is Rf) (h : TD P n F0 w0 ops l Rf ((d, v) :: e) (R0 :: R1 :: B :: Rs) Q) : TD P n F0 w0 ops (.e i l) Rf e (R0 :: R1 :: A :: Rs) Q := by
  refine TD.ef ho hw (Ef.call 2 hc rfl hs hr hd) ?_
  rintro _ _ ⟨_, _, _, ⟨rfl, rfl, rfl⟩, rfl, rfl⟩
  exact ⟨Rf, fun w hw => hw.sel is (hf), fun _ h => h, h⟩
theorem TL.st4 {cs cs' : Array Value} {R0 R1 R2 R3 : Res} (ho : ops[i]? = some ⟨none, .store t x y, ty, pos, af, gd⟩) (hw : Wd n ops e ⟨none, .store t x y, ty, pos, af, gd⟩ true) (hx : e.ev x = some (.pointer (some ⟨b, o, none⟩))) (hy : e.ev y = some v) (hz : ∀ w, (sizeOf t).run P w = .ok z w) (hvz : Nat.beq v.cells.size z = true) (hf' : Nat.ble (o + v.cells.size) cs.size = true) (ho' : v.cells.toList.all (·.oneCell') = true) (hc : (cs.toList.take o ++ v.cells.toList ++ cs.toList.drop (o + v.cells.size)).toArray = cs') (h : TL P n F0 w0 ops l e (R0 :: R1 :: R2 :: R3 :: BlkR b T cs' :: Rs) Q) : TL P n F0 w0 ops (i :: l) e (R0 :: R1 :: R2 :: R3 :: BlkR b T cs :: Rs) Q := by
  refine TL.ef ho hw (Ef.st 4 hx hy hz rfl hvz hf' ho' hc) ?_
  rintro _ _ ⟨rfl, rfl⟩
  exact h
theorem TD.st4 {cs cs' : Array Value} {R0 R1 R2 R3 : Res} {l : Sch} (ho : ops[i]? = some ⟨none, .store t x y, ty, pos, af, gd⟩) (hw : Wd n ops e ⟨none, .store t x y, ty, pos, af, gd⟩ true) (hx : e.ev x = some (.pointer (some ⟨b, o, none⟩))) (hy : e.ev y = some v) (hz : ∀ w, (sizeOf t).run P w = .ok z w) (hvz : Nat.beq v.cells.size z = true) (hf' : Nat.ble (o + v.cells.size) cs.size = true) (ho' : v.cells.toList.all (·.oneCell') = true) (hc : (cs.toList.take o ++ v.cells.toList ++ cs.toList.drop (o + v.cells.size)).toArray = cs') (is : List Nat) (hf : Sel (R0 :: R1 :: R2 :: R3 :: BlkR b T cs' :: Rs) is Rf) (h : TD P n F0 w0 ops l Rf e (R0 :: R1 :: R2 :: R3 :: BlkR b T cs' :: Rs) Q) : TD P n F0 w0 ops (.e i l) Rf e (R0 :: R1 :: R2 :: R3 :: BlkR b T cs :: Rs) Q := by
  refine TD.ef ho hw (Ef.st 4 hx hy hz rfl hvz hf' ho' hc) ?_
  rintro _ _ ⟨rfl, rfl⟩
  exact ⟨Rf, fun w hw => hw.sel is (hf), fun _ h => h, h⟩
theorem TL.c4 {R0 R1 R2 R3 : Res} (ho : ops[i]? = some ⟨some d, .call cl, ty, pos, af, gd⟩) (hw : Wd n ops e ⟨some d, .call cl, ty, pos, af, gd⟩ true) (hc : CT P n e ⟨some d, .call cl, ty, pos, af, gd⟩ f vs) (hs : SpecX P f vs.toArray Y A (fun v' A' N => v' = v ∧ A' = B ∧ N = [])) (hr : ∀ w, St F0 w0 (R0 :: R1 :: R2 :: R3 :: A :: Rs) w → Src F0 w0 (R0 :: R1 :: R2 :: R3 :: A :: Rs) w 4 Y) (hd : Nat.blt d n = true) (h : TL P n F0 w0 ops l ((d, v) :: e) (R0 :: R1 :: R2 :: R3 :: B :: Rs) Q) : TL P n F0 w0 ops (i :: l) e (R0 :: R1 :: R2 :: R3 :: A :: Rs) Q := by
  refine TL.ef ho hw (Ef.call 4 hc rfl hs hr hd) ?_
  rintro _ _ ⟨_, _, _, ⟨rfl, rfl, rfl⟩, rfl, rfl⟩
  exact h
theorem TD.c4 {R0 R1 R2 R3 : Res} {l : Sch} (ho : ops[i]? = some ⟨some d, .call cl, ty, pos, af, gd⟩) (hw : Wd n ops e ⟨some d, .call cl, ty, pos, af, gd⟩ true) (hc : CT P n e ⟨some d, .call cl, ty, pos, af, gd⟩ f vs) (hs : SpecX P f vs.toArray Y A (fun v' A' N => v' = v ∧ A' = B ∧ N = [])) (hr : ∀ w, St F0 w0 (R0 :: R1 :: R2 :: R3 :: A :: Rs) w → Src F0 w0 (R0 :: R1 :: R2 :: R3 :: A :: Rs) w 4 Y) (hd : Nat.blt d n = true) (is : List Nat) (hf : Sel (R0 :: R1 :: R2 :: R3 :: B :: Rs) is Rf) (h : TD P n F0 w0 ops l Rf ((d, v) :: e) (R0 :: R1 :: R2 :: R3 :: B :: Rs) Q) : TD P n F0 w0 ops (.e i l) Rf e (R0 :: R1 :: R2 :: R3 :: A :: Rs) Q := by
  refine TD.ef ho hw (Ef.call 4 hc rfl hs hr hd) ?_
  rintro _ _ ⟨_, _, _, ⟨rfl, rfl, rfl⟩, rfl, rfl⟩
  exact ⟨Rf, fun w hw => hw.sel is (hf), fun _ h => h, h⟩
theorem TL.c7 {R0 R1 R2 R3 R4 R5 R6 : Res} (ho : ops[i]? = some ⟨some d, .call cl, ty, pos, af, gd⟩) (hw : Wd n ops e ⟨some d, .call cl, ty, pos, af, gd⟩ true) (hc : CT P n e ⟨some d, .call cl, ty, pos, af, gd⟩ f vs) (hs : SpecX P f vs.toArray Y A (fun v' A' N => v' = v ∧ A' = B ∧ N = [])) (hr : ∀ w, St F0 w0 (R0 :: R1 :: R2 :: R3 :: R4 :: R5 :: R6 :: A :: Rs) w → Src F0 w0 (R0 :: R1 :: R2 :: R3 :: R4 :: R5 :: R6 :: A :: Rs) w 7 Y) (hd : Nat.blt d n = true) (h : TL P n F0 w0 ops l ((d, v) :: e) (R0 :: R1 :: R2 :: R3 :: R4 :: R5 :: R6 :: B :: Rs) Q) : TL P n F0 w0 ops (i :: l) e (R0 :: R1 :: R2 :: R3 :: R4 :: R5 :: R6 :: A :: Rs) Q := by
  refine TL.ef ho hw (Ef.call 7 hc rfl hs hr hd) ?_
  rintro _ _ ⟨_, _, _, ⟨rfl, rfl, rfl⟩, rfl, rfl⟩
  exact h
theorem TD.c7 {R0 R1 R2 R3 R4 R5 R6 : Res} {l : Sch} (ho : ops[i]? = some ⟨some d, .call cl, ty, pos, af, gd⟩) (hw : Wd n ops e ⟨some d, .call cl, ty, pos, af, gd⟩ true) (hc : CT P n e ⟨some d, .call cl, ty, pos, af, gd⟩ f vs) (hs : SpecX P f vs.toArray Y A (fun v' A' N => v' = v ∧ A' = B ∧ N = [])) (hr : ∀ w, St F0 w0 (R0 :: R1 :: R2 :: R3 :: R4 :: R5 :: R6 :: A :: Rs) w → Src F0 w0 (R0 :: R1 :: R2 :: R3 :: R4 :: R5 :: R6 :: A :: Rs) w 7 Y) (hd : Nat.blt d n = true) (is : List Nat) (hf : Sel (R0 :: R1 :: R2 :: R3 :: R4 :: R5 :: R6 :: B :: Rs) is Rf) (h : TD P n F0 w0 ops l Rf ((d, v) :: e) (R0 :: R1 :: R2 :: R3 :: R4 :: R5 :: R6 :: B :: Rs) Q) : TD P n F0 w0 ops (.e i l) Rf e (R0 :: R1 :: R2 :: R3 :: R4 :: R5 :: R6 :: A :: Rs) Q := by
  refine TD.ef ho hw (Ef.call 7 hc rfl hs hr hd) ?_
  rintro _ _ ⟨_, _, _, ⟨rfl, rfl, rfl⟩, rfl, rfl⟩
  exact ⟨Rf, fun w hw => hw.sel is (hf), fun _ h => h, h⟩
theorem TL.st8 {cs cs' : Array Value} {R0 R1 R2 R3 R4 R5 R6 R7 : Res} (ho : ops[i]? = some ⟨none, .store t x y, ty, pos, af, gd⟩) (hw : Wd n ops e ⟨none, .store t x y, ty, pos, af, gd⟩ true) (hx : e.ev x = some (.pointer (some ⟨b, o, none⟩))) (hy : e.ev y = some v) (hz : ∀ w, (sizeOf t).run P w = .ok z w) (hvz : Nat.beq v.cells.size z = true) (hf' : Nat.ble (o + v.cells.size) cs.size = true) (ho' : v.cells.toList.all (·.oneCell') = true) (hc : (cs.toList.take o ++ v.cells.toList ++ cs.toList.drop (o + v.cells.size)).toArray = cs') (h : TL P n F0 w0 ops l e (R0 :: R1 :: R2 :: R3 :: R4 :: R5 :: R6 :: R7 :: BlkR b T cs' :: Rs) Q) : TL P n F0 w0 ops (i :: l) e (R0 :: R1 :: R2 :: R3 :: R4 :: R5 :: R6 :: R7 :: BlkR b T cs :: Rs) Q := by
  refine TL.ef ho hw (Ef.st 8 hx hy hz rfl hvz hf' ho' hc) ?_
  rintro _ _ ⟨rfl, rfl⟩
  exact h
theorem TD.st8 {cs cs' : Array Value} {R0 R1 R2 R3 R4 R5 R6 R7 : Res} {l : Sch} (ho : ops[i]? = some ⟨none, .store t x y, ty, pos, af, gd⟩) (hw : Wd n ops e ⟨none, .store t x y, ty, pos, af, gd⟩ true) (hx : e.ev x = some (.pointer (some ⟨b, o, none⟩))) (hy : e.ev y = some v) (hz : ∀ w, (sizeOf t).run P w = .ok z w) (hvz : Nat.beq v.cells.size z = true) (hf' : Nat.ble (o + v.cells.size) cs.size = true) (ho' : v.cells.toList.all (·.oneCell') = true) (hc : (cs.toList.take o ++ v.cells.toList ++ cs.toList.drop (o + v.cells.size)).toArray = cs') (is : List Nat) (hf : Sel (R0 :: R1 :: R2 :: R3 :: R4 :: R5 :: R6 :: R7 :: BlkR b T cs' :: Rs) is Rf) (h : TD P n F0 w0 ops l Rf e (R0 :: R1 :: R2 :: R3 :: R4 :: R5 :: R6 :: R7 :: BlkR b T cs' :: Rs) Q) : TD P n F0 w0 ops (.e i l) Rf e (R0 :: R1 :: R2 :: R3 :: R4 :: R5 :: R6 :: R7 :: BlkR b T cs :: Rs) Q := by
  refine TD.ef ho hw (Ef.st 8 hx hy hz rfl hvz hf' ho' hc) ?_
  rintro _ _ ⟨rfl, rfl⟩
  exact ⟨Rf, fun w hw => hw.sel is (hf), fun _ h => h, h⟩
theorem TL.c11 {R0 R1 R2 R3 R4 R5 R6 R7 R8 R9 R10 : Res} (ho : ops[i]? = some ⟨some d, .call cl, ty, pos, af, gd⟩) (hw : Wd n ops e ⟨some d, .call cl, ty, pos, af, gd⟩ true) (hc : CT P n e ⟨some d, .call cl, ty, pos, af, gd⟩ f vs) (hs : SpecX P f vs.toArray Y A (fun v' A' N => v' = v ∧ A' = B ∧ N = [])) (hr : ∀ w, St F0 w0 (R0 :: R1 :: R2 :: R3 :: R4 :: R5 :: R6 :: R7 :: R8 :: R9 :: R10 :: A :: Rs) w → Src F0 w0 (R0 :: R1 :: R2 :: R3 :: R4 :: R5 :: R6 :: R7 :: R8 :: R9 :: R10 :: A :: Rs) w 11 Y) (hd : Nat.blt d n = true) (h : TL P n F0 w0 ops l ((d, v) :: e) (R0 :: R1 :: R2 :: R3 :: R4 :: R5 :: R6 :: R7 :: R8 :: R9 :: R10 :: B :: Rs) Q) : TL P n F0 w0 ops (i :: l) e (R0 :: R1 :: R2 :: R3 :: R4 :: R5 :: R6 :: R7 :: R8 :: R9 :: R10 :: A :: Rs) Q := by
  refine TL.ef ho hw (Ef.call 11 hc rfl hs hr hd) ?_
  rintro _ _ ⟨_, _, _, ⟨rfl, rfl, rfl⟩, rfl, rfl⟩
  exact h
theorem TD.c11 {R0 R1 R2 R3 R4 R5 R6 R7 R8 R9 R10 : Res} {l : Sch} (ho : ops[i]? = some ⟨some d, .call cl, ty, pos, af, gd⟩) (hw : Wd n ops e ⟨some d, .call cl, ty, pos, af, gd⟩ true) (hc : CT P n e ⟨some d, .call cl, ty, pos, af, gd⟩ f vs) (hs : SpecX P f vs.toArray Y A (fun v' A' N => v' = v ∧ A' = B ∧ N = [])) (hr : ∀ w, St F0 w0 (R0 :: R1 :: R2 :: R3 :: R4 :: R5 :: R6 :: R7 :: R8 :: R9 :: R10 :: A :: Rs) w → Src F0 w0 (R0 :: R1 :: R2 :: R3 :: R4 :: R5 :: R6 :: R7 :: R8 :: R9 :: R10 :: A :: Rs) w 11 Y) (hd : Nat.blt d n = true) (is : List Nat) (hf : Sel (R0 :: R1 :: R2 :: R3 :: R4 :: R5 :: R6 :: R7 :: R8 :: R9 :: R10 :: B :: Rs) is Rf) (h : TD P n F0 w0 ops l Rf ((d, v) :: e) (R0 :: R1 :: R2 :: R3 :: R4 :: R5 :: R6 :: R7 :: R8 :: R9 :: R10 :: B :: Rs) Q) : TD P n F0 w0 ops (.e i l) Rf e (R0 :: R1 :: R2 :: R3 :: R4 :: R5 :: R6 :: R7 :: R8 :: R9 :: R10 :: A :: Rs) Q := by
  refine TD.ef ho hw (Ef.call 11 hc rfl hs hr hd) ?_
  rintro _ _ ⟨_, _, _, ⟨rfl, rfl, rfl⟩, rfl, rfl⟩
  exact ⟨Rf, fun w hw => hw.sel is (hf), fun _ h => h, h⟩
theorem TL.st12 {cs cs' : Array Value} {R0 R1 R2 R3 R4 R5 R6 R7 R8 R9 R10 R11 : Res} (ho : ops[i]? = some ⟨none, .store t x y, ty, pos, af, gd⟩) (hw : Wd n ops e ⟨none, .store t x y, ty, pos, af, gd⟩ true) (hx : e.ev x = some (.pointer (some ⟨b, o, none⟩))) (hy : e.ev y = some v) (hz : ∀ w, (sizeOf t).run P w = .ok z w) (hvz : Nat.beq v.cells.size z = true) (hf' : Nat.ble (o + v.cells.size) cs.size = true) (ho' : v.cells.toList.all (·.oneCell') = true) (hc : (cs.toList.take o ++ v.cells.toList ++ cs.toList.drop (o + v.cells.size)).toArray = cs') (h : TL P n F0 w0 ops l e (R0 :: R1 :: R2 :: R3 :: R4 :: R5 :: R6 :: R7 :: R8 :: R9 :: R10 :: R11 :: BlkR b T cs' :: Rs) Q) : TL P n F0 w0 ops (i :: l) e (R0 :: R1 :: R2 :: R3 :: R4 :: R5 :: R6 :: R7 :: R8 :: R9 :: R10 :: R11 :: BlkR b T cs :: Rs) Q := by
  refine TL.ef ho hw (Ef.st 12 hx hy hz rfl hvz hf' ho' hc) ?_
  rintro _ _ ⟨rfl, rfl⟩
  exact h
theorem TD.st12 {cs cs' : Array Value} {R0 R1 R2 R3 R4 R5 R6 R7 R8 R9 R10 R11 : Res} {l : Sch} (ho : ops[i]? = some ⟨none, .store t x y, ty, pos, af, gd⟩) (hw : Wd n ops e ⟨none, .store t x y, ty, pos, af, gd⟩ true) (hx : e.ev x = some (.pointer (some ⟨b, o, none⟩))) (hy : e.ev y = some v) (hz : ∀ w, (sizeOf t).run P w = .ok z w) (hvz : Nat.beq v.cells.size z = true) (hf' : Nat.ble (o + v.cells.size) cs.size = true) (ho' : v.cells.toList.all (·.oneCell') = true) (hc : (cs.toList.take o ++ v.cells.toList ++ cs.toList.drop (o + v.cells.size)).toArray = cs') (is : List Nat) (hf : Sel (R0 :: R1 :: R2 :: R3 :: R4 :: R5 :: R6 :: R7 :: R8 :: R9 :: R10 :: R11 :: BlkR b T cs' :: Rs) is Rf) (h : TD P n F0 w0 ops l Rf e (R0 :: R1 :: R2 :: R3 :: R4 :: R5 :: R6 :: R7 :: R8 :: R9 :: R10 :: R11 :: BlkR b T cs' :: Rs) Q) : TD P n F0 w0 ops (.e i l) Rf e (R0 :: R1 :: R2 :: R3 :: R4 :: R5 :: R6 :: R7 :: R8 :: R9 :: R10 :: R11 :: BlkR b T cs :: Rs) Q := by
  refine TD.ef ho hw (Ef.st 12 hx hy hz rfl hvz hf' ho' hc) ?_
  rintro _ _ ⟨rfl, rfl⟩
  exact ⟨Rf, fun w hw => hw.sel is (hf), fun _ h => h, h⟩
theorem TL.c12 {R0 R1 R2 R3 R4 R5 R6 R7 R8 R9 R10 R11 : Res} (ho : ops[i]? = some ⟨some d, .call cl, ty, pos, af, gd⟩) (hw : Wd n ops e ⟨some d, .call cl, ty, pos, af, gd⟩ true) (hc : CT P n e ⟨some d, .call cl, ty, pos, af, gd⟩ f vs) (hs : SpecX P f vs.toArray Y A (fun v' A' N => v' = v ∧ A' = B ∧ N = [])) (hr : ∀ w, St F0 w0 (R0 :: R1 :: R2 :: R3 :: R4 :: R5 :: R6 :: R7 :: R8 :: R9 :: R10 :: R11 :: A :: Rs) w → Src F0 w0 (R0 :: R1 :: R2 :: R3 :: R4 :: R5 :: R6 :: R7 :: R8 :: R9 :: R10 :: R11 :: A :: Rs) w 12 Y) (hd : Nat.blt d n = true) (h : TL P n F0 w0 ops l ((d, v) :: e) (R0 :: R1 :: R2 :: R3 :: R4 :: R5 :: R6 :: R7 :: R8 :: R9 :: R10 :: R11 :: B :: Rs) Q) : TL P n F0 w0 ops (i :: l) e (R0 :: R1 :: R2 :: R3 :: R4 :: R5 :: R6 :: R7 :: R8 :: R9 :: R10 :: R11 :: A :: Rs) Q := by
  refine TL.ef ho hw (Ef.call 12 hc rfl hs hr hd) ?_
  rintro _ _ ⟨_, _, _, ⟨rfl, rfl, rfl⟩, rfl, rfl⟩
  exact h
theorem TD.c12 {R0 R1 R2 R3 R4 R5 R6 R7 R8 R9 R10 R11 : Res} {l : Sch} (ho : ops[i]? = some ⟨some d, .call cl, ty, pos, af, gd⟩) (hw : Wd n ops e ⟨some d, .call cl, ty, pos, af, gd⟩ true) (hc : CT P n e ⟨some d, .call cl, ty, pos, af, gd⟩ f vs) (hs : SpecX P f vs.toArray Y A (fun v' A' N => v' = v ∧ A' = B ∧ N = [])) (hr : ∀ w, St F0 w0 (R0 :: R1 :: R2 :: R3 :: R4 :: R5 :: R6 :: R7 :: R8 :: R9 :: R10 :: R11 :: A :: Rs) w → Src F0 w0 (R0 :: R1 :: R2 :: R3 :: R4 :: R5 :: R6 :: R7 :: R8 :: R9 :: R10 :: R11 :: A :: Rs) w 12 Y) (hd : Nat.blt d n = true) (is : List Nat) (hf : Sel (R0 :: R1 :: R2 :: R3 :: R4 :: R5 :: R6 :: R7 :: R8 :: R9 :: R10 :: R11 :: B :: Rs) is Rf) (h : TD P n F0 w0 ops l Rf ((d, v) :: e) (R0 :: R1 :: R2 :: R3 :: R4 :: R5 :: R6 :: R7 :: R8 :: R9 :: R10 :: R11 :: B :: Rs) Q) : TD P n F0 w0 ops (.e i l) Rf e (R0 :: R1 :: R2 :: R3 :: R4 :: R5 :: R6 :: R7 :: R8 :: R9 :: R10 :: R11 :: A :: Rs) Q := by
  refine TD.ef ho hw (Ef.call 12 hc rfl hs hr hd) ?_
  rintro _ _ ⟨_, _, _, ⟨rfl, rfl, rfl⟩, rfl, rfl⟩
  exact ⟨Rf, fun w hw => hw.sel is (hf), fun _ h => h, h⟩
theorem TL.c13 {R0 R1 R2 R3 R4 R5 R6 R7 R8 R9 R10 R11 R12 : Res} (ho : ops[i]? = some ⟨some d, .call cl, ty, pos, af, gd⟩) (hw : Wd n ops e ⟨some d, .call cl, ty, pos, af, gd⟩ true) (hc : CT P n e ⟨some d, .call cl, ty, pos, af, gd⟩ f vs) (hs : SpecX P f vs.toArray Y A (fun v' A' N => v' = v ∧ A' = B ∧ N = [])) (hr : ∀ w, St F0 w0 (R0 :: R1 :: R2 :: R3 :: R4 :: R5 :: R6 :: R7 :: R8 :: R9 :: R10 :: R11 :: R12 :: A :: Rs) w → Src F0 w0 (R0 :: R1 :: R2 :: R3 :: R4 :: R5 :: R6 :: R7 :: R8 :: R9 :: R10 :: R11 :: R12 :: A :: Rs) w 13 Y) (hd : Nat.blt d n = true) (h : TL P n F0 w0 ops l ((d, v) :: e) (R0 :: R1 :: R2 :: R3 :: R4 :: R5 :: R6 :: R7 :: R8 :: R9 :: R10 :: R11 :: R12 :: B :: Rs) Q) : TL P n F0 w0 ops (i :: l) e (R0 :: R1 :: R2 :: R3 :: R4 :: R5 :: R6 :: R7 :: R8 :: R9 :: R10 :: R11 :: R12 :: A :: Rs) Q := by
  refine TL.ef ho hw (Ef.call 13 hc rfl hs hr hd) ?_
  rintro _ _ ⟨_, _, _, ⟨rfl, rfl, rfl⟩, rfl, rfl⟩
  exact h
theorem TD.c13 {R0 R1 R2 R3 R4 R5 R6 R7 R8 R9 R10 R11 R12 : Res} {l : Sch} (ho : ops[i]? = some ⟨some d, .call cl, ty, pos, af, gd⟩) (hw : Wd n ops e ⟨some d, .call cl, ty, pos, af, gd⟩ true) (hc : CT P n e ⟨some d, .call cl, ty, pos, af, gd⟩ f vs) (hs : SpecX P f vs.toArray Y A (fun v' A' N => v' = v ∧ A' = B ∧ N = [])) (hr : ∀ w, St F0 w0 (R0 :: R1 :: R2 :: R3 :: R4 :: R5 :: R6 :: R7 :: R8 :: R9 :: R10 :: R11 :: R12 :: A :: Rs) w → Src F0 w0 (R0 :: R1 :: R2 :: R3 :: R4 :: R5 :: R6 :: R7 :: R8 :: R9 :: R10 :: R11 :: R12 :: A :: Rs) w 13 Y) (hd : Nat.blt d n = true) (is : List Nat) (hf : Sel (R0 :: R1 :: R2 :: R3 :: R4 :: R5 :: R6 :: R7 :: R8 :: R9 :: R10 :: R11 :: R12 :: B :: Rs) is Rf) (h : TD P n F0 w0 ops l Rf ((d, v) :: e) (R0 :: R1 :: R2 :: R3 :: R4 :: R5 :: R6 :: R7 :: R8 :: R9 :: R10 :: R11 :: R12 :: B :: Rs) Q) : TD P n F0 w0 ops (.e i l) Rf e (R0 :: R1 :: R2 :: R3 :: R4 :: R5 :: R6 :: R7 :: R8 :: R9 :: R10 :: R11 :: R12 :: A :: Rs) Q := by
  refine TD.ef ho hw (Ef.call 13 hc rfl hs hr hd) ?_
  rintro _ _ ⟨_, _, _, ⟨rfl, rfl, rfl⟩, rfl, rfl⟩
  exact ⟨Rf, fun w hw => hw.sel is (hf), fun _ h => h, h⟩
theorem TL.cge  (ho : ops[i]? = some ⟨some d, .call cl, ty, pos, af, gd⟩) (hw : Wd n ops e ⟨some d, .call cl, ty, pos, af, gd⟩ true) (hc : CT P n e ⟨some d, .call cl, ty, pos, af, gd⟩ f vs) (hs : SpecX P f vs.toArray Y EmpR R) (hr : ∀ w, St F0 w0 Rs w → Y.reads w (fun _ => False)) (hd : Nat.blt d n = true) (h : ∀ v A' N, R v A' N → TL P n F0 w0 ops l ((d, v) :: e) (N ++ Rs) Q) : TL P n F0 w0 ops (i :: l) e Rs Q := by
  refine TL.ef ho hw (Ef.callE hc hs hr hd) ?_
  rintro _ _ ⟨v, A', N, hR, rfl, rfl⟩
  exact h v A' N hR
theorem TD.cge  {l : Sch} (ho : ops[i]? = some ⟨some d, .call cl, ty, pos, af, gd⟩) (hw : Wd n ops e ⟨some d, .call cl, ty, pos, af, gd⟩ true) (hc : CT P n e ⟨some d, .call cl, ty, pos, af, gd⟩ f vs) (hs : SpecX P f vs.toArray Y EmpR R) (hr : ∀ w, St F0 w0 Rs w → Y.reads w (fun _ => False)) (hd : Nat.blt d n = true) (is : List Nat) (hf : ∀ v A' N, R v A' N → Sel (N ++ Rs) is Rf) (h : ∀ v A' N, R v A' N → TD P n F0 w0 ops l Rf ((d, v) :: e) (N ++ Rs) Q) : TD P n F0 w0 ops (.e i l) Rf e Rs Q := by
  refine TD.ef ho hw (Ef.callE hc hs hr hd) ?_
  rintro _ _ ⟨v, A', N, hR, rfl, rfl⟩
  exact ⟨Rf, fun w hw => hw.sel is (hf v A' N hR), fun _ h => h, h v A' N hR⟩
theorem TL.ce  (ho : ops[i]? = some ⟨some d, .call cl, ty, pos, af, gd⟩) (hw : Wd n ops e ⟨some d, .call cl, ty, pos, af, gd⟩ true) (hc : CT P n e ⟨some d, .call cl, ty, pos, af, gd⟩ f vs) (hs : SpecX P f vs.toArray Y EmpR (fun v' A' N => v' = v ∧ A' = EmpR ∧ N = [])) (hr : ∀ w, St F0 w0 Rs w → Y.reads w (fun _ => False)) (hd : Nat.blt d n = true) (h : TL P n F0 w0 ops l ((d, v) :: e) Rs Q) : TL P n F0 w0 ops (i :: l) e Rs Q := by
  refine TL.ef ho hw (Ef.callE hc hs hr hd) ?_
  rintro _ _ ⟨_, _, _, ⟨rfl, rfl, rfl⟩, rfl, rfl⟩
  exact h
theorem TD.ce  {l : Sch} (ho : ops[i]? = some ⟨some d, .call cl, ty, pos, af, gd⟩) (hw : Wd n ops e ⟨some d, .call cl, ty, pos, af, gd⟩ true) (hc : CT P n e ⟨some d, .call cl, ty, pos, af, gd⟩ f vs) (hs : SpecX P f vs.toArray Y EmpR (fun v' A' N => v' = v ∧ A' = EmpR ∧ N = [])) (hr : ∀ w, St F0 w0 Rs w → Y.reads w (fun _ => False)) (hd : Nat.blt d n = true) (is : List Nat) (hf : Sel Rs is Rf) (h : TD P n F0 w0 ops l Rf ((d, v) :: e) Rs Q) : TD P n F0 w0 ops (.e i l) Rf e Rs Q := by
  refine TD.ef ho hw (Ef.callE hc hs hr hd) ?_
  rintro _ _ ⟨_, _, _, ⟨rfl, rfl, rfl⟩, rfl, rfl⟩
  exact ⟨Rf, fun w hw => hw.sel is (hf), fun _ h => h, h⟩
end
end Go.Proofs.Ytpiiopppbgpbpaa.Sl
namespace Go.Proofs.Ytpiiopppbgpbpaa.Sl
open Go.RowKit
set_option linter.unusedVariables false
set_option linter.unusedSimpArgs false
theorem bn_t {b : Bool} (h : b = false) : (!b) = true := by rw [h]; rfl
theorem bn_f {b : Bool} (h : b = true) : (!b) = false := by rw [h]; rfl
theorem ifT {α : Type} {c : Prop} [Decidable c] {x y z : α} (hc : c) (h : (if c then x else y) = z) : x = z := by rwa [if_pos hc] at h
theorem ifF {α : Type} {c : Prop} [Decidable c] {x y z : α} (hc : ¬ c) (h : (if c then x else y) = z) : y = z := by rwa [if_neg hc] at h
section
variable {P : Program} {n : Nat} {F0 : Nat → Prop} {w0 : World} {e : Env} {Rs Rf : List Res} {Q : Exit → Act → World → Prop} {ops : Array Oper} {i d : Nat} {ty t t' el : TypeId} {pos : String} {af : Array Edge} {gd : Option (Nat × Bool)} {v v' : Value} {x y : Operand} {l : List Nat} {lo : Sch} {c : Code} {S : World → Prop}
theorem TL.sel (is : List Nat) {Rs' : List Res} (hr : Sel Rs is Rs') (h : TL P n F0 w0 ops l e Rs' Q) : TL P n F0 w0 ops l e Rs Q := fun a w ha hs => h a w ha (hs.sel is hr)
theorem TD.sel (is : List Nat) {Rs' : List Res} (hr : Sel Rs is Rs') (h : TD P n F0 w0 ops lo Rf e Rs' Q) : TD P n F0 w0 ops lo Rf e Rs Q := fun a w ha hs => h a w ha (hs.sel is hr)
theorem T.sel (is : List Nat) {Rs' : List Res} (hr : Sel Rs is Rs') (h : T P n F0 w0 e Rs' c Q) : T P n F0 w0 e Rs c Q := fun a w ha hs => h a w ha (hs.sel is hr)
theorem X.sel {z : Exit} (is : List Nat) {Rs' : List Res} (hr : Sel Rs is Rs') (h : X n F0 w0 e Rs' z Q) : X n F0 w0 e Rs z Q := fun a w ha hs => h a w ha (hs.sel is hr)
theorem Has.as {a : Act} (ha : Has n e a) (hv : e.get d = some v) (h : v = v') : Has n ((d, v') :: e) a := ha.sub (fun t u hu => by
  simp only [Env.get] at hu
  cases hb : Nat.beq d t with
  | true =>
    rw [hb] at hu
    obtain rfl := Nat.eq_of_beq_eq_true hb
    injection hu with hu
    rw [hv, h, hu]
  | false => rw [hb] at hu; exact hu)
theorem TL.as (hv : e.get d = some v) (h : v = v') (k : TL P n F0 w0 ops l ((d, v') :: e) Rs Q) : TL P n F0 w0 ops l e Rs Q := fun a w ha hs => k a w (ha.as hv h) hs
theorem TD.as (hv : e.get d = some v) (h : v = v') (k : TD P n F0 w0 ops lo Rf ((d, v') :: e) Rs Q) : TD P n F0 w0 ops lo Rf e Rs Q := fun a w ha hs => k a w (ha.as hv h) hs
theorem OutR.of_blk {b : Nat} {w : World} {G : Nat → Prop} (h : (BlkR b 42 #[.slice none 0 0, .int .i64 0]).P w G) : (OutR b ([], 0)).P w G := by
  obtain ⟨h1, h2⟩ := h
  exact ⟨_, h1, World.ownsRow_nil _ _ _ _, fun k => by simp [h2 k, Value.ownBlock]⟩
theorem TL.newout {zv : Value} (ho : ops[i]? = some ⟨some d, .alloc t, ty, pos, af, gd⟩) (hw : Wd n ops e ⟨some d, .alloc t, ty, pos, af, gd⟩ true) (hz : ∀ w, (zeroValue t).run P w = .ok zv w) (hd : Nat.blt d n = true)
    (h : ∀ b, TL P n F0 w0 ops l ((d, .pointer (some ⟨b, 0, none⟩)) :: e) (OutR b ([], 0) :: Rs) Q) (ht : t = 42 := by rfl) (hzv : zv = .agg #[.slice none 0 0, .int .i64 0] := by rfl) : TL P n F0 w0 ops (i :: l) e Rs Q := by
  refine TL.alloc ho hw hz hd (fun b => ?_)
  intro a w ha hs
  subst ht hzv
  exact h b a w ha (hs.weaken 0 rfl (fun G hG => OutR.of_blk hG))
theorem TD.newout {zv : Value} (ho : ops[i]? = some ⟨some d, .alloc t, ty, pos, af, gd⟩) (hw : Wd n ops e ⟨some d, .alloc t, ty, pos, af, gd⟩ true) (hz : ∀ w, (zeroValue t).run P w = .ok zv w) (hd : Nat.blt d n = true) (is : List Nat) (hf : ∀ b, Sel (OutR b ([], 0) :: Rs) is Rf)
    (h : ∀ b, TD P n F0 w0 ops lo Rf ((d, .pointer (some ⟨b, 0, none⟩)) :: e) (OutR b ([], 0) :: Rs) Q) (ht : t = 42 := by rfl) (hzv : zv = .agg #[.slice none 0 0, .int .i64 0] := by rfl) : TD P n F0 w0 ops (.e i lo) Rf e Rs Q := by
  refine TD.ef ho hw (Ef.alloc hz hd) ?_
  rintro _ _ ⟨b, rfl, rfl⟩
  subst ht hzv
  have key : ∀ w, St F0 w0 (BlkR b 42 #[.slice none 0 0, .int .i64 0] :: Rs) w → St F0 w0 (OutR b ([], 0) :: Rs) w := fun w hs => hs.weaken 0 rfl (fun G hG => OutR.of_blk hG)
  exact ⟨Rf, fun w hs => (key w hs).sel is (hf b), fun _ h => h, fun a w ha hs => h b a w ha (key w hs)⟩
section
variable {α : Type} {E : Rd α} {sl : Operand} {T z bytes g ii jj : Nat} {zv : Value} {A : Option Addr} {cp : Nat} {Rs' : List Res} {B : Res}
end
variable (P n F0 w0) in
def RV (e : Env) (Rs : List Res) (r : ResultVar) (v : Value) : Prop := ∀ a w, Has n e a → St F0 w0 Rs w → (resv a.tmps r).run P w = .ok v w
theorem RV.tm {k : Nat} (hv : e.get k = some v) : RV P n F0 w0 e Rs (.tmp k) v := by
  intro a w ha hs
  have h2 := ha.at_ k v hv
  simp [resv, h2]
theorem RV.c1 (i : Nat) {k b T : Nat} {us : Array Value} (hk : e.get k = some (.pointer (some ⟨b, 0, none⟩))) (ha : ∀ w, (isAgg t).run P w = .ok false w) (hi : Rs[i]? = some (BlkR b T us)) (hv : us[0]? = some v) : RV P n F0 w0 e Rs (.cell k t) v := by
  intro a w h hs
  have h2 := h.at_ k _ hk
  have hb := hs.blk i hi
  have h3 := run_loadVar1 (P := P) (t := t) (w := w) (ad := ⟨b, 0, none⟩) ha ((heap_at hb 0).trans hv)
  simp [resv, h2, asAddr, h3]
section
variable {f : Func} {R : Value → Res → List Res → Prop} {A' : Res} {Ns : List Res} {r1 r2 r3 r4 : ResultVar} {v1 v2 v3 v4 : Value} {z : Exit}
theorem X.fin (hR : R v A' Ns) (is : List Nat) (hr : Sel Rs is (A' :: Ns)) (hx : z = .ret ∨ z = .normal) (h : ∀ a w, Has n e a → St F0 w0 Rs w → (results f a.tmps).run P w = .ok v w) : X n F0 w0 e Rs z (bodyPost P f (Post R F0 w0)) := by
  intro a w ha hs
  have h : bodyPost P f (Post R F0 w0) .ret a w := ⟨ha.df, v, h a w ha hs, v, A', Ns, rfl, hR, hs.sel is hr⟩
  rcases hx with rfl | rfl <;> exact h
theorem X.done1 (is : List Nat) (hf : f.results = #[r1]) (h1 : RV P n F0 w0 e Rs r1 v1) (hR : R v1 A' Ns) (hr : Sel Rs is (A' :: Ns)) (hx : z = .ret ∨ z = .normal) : X n F0 w0 e Rs z (bodyPost P f (Post R F0 w0)) :=
  X.fin hR is hr hx (fun a w ha hs => by rw [results_eq, hf]; simp [h1 a w ha hs])
end
theorem BOK.mk {zv : Value} {fs : Array Field} {pl : List (Nat × Nat)} {zs : Array Value} (hz : ∀ w, (zeroValue t).run P w = .ok zv w) (hu : ∀ w, (underlying t).run P w = .ok (.struct fs) w) (hp : ∀ w, (fs.mapM (fun f => do pure (f.offset, ← sizeOf f.type)) : Sem (Array (Nat × Nat))).run P w = .ok pl.toArray w) (hzs : zv.cells = zs := by rfl) : BOK P t zs pl := by
  intro parts cells w h
  subst hzs
  simp only [Instr.build, Sem.run_bind, hz, Result.andThen_ok, hu, hp]
  have h2 : (fun (i : Nat) => (pl.toArray)[i]?) = (fun (i : Nat) => pl[i]?) := by funext i; simp
  simp [h2, h]
theorem SOK.mk {T m z : Nat} {zv : Value} {zs : Array Value} (hu : ∀ w, (underlying t).run P w = .ok (.slice T) w) (hz : ∀ w, (sizeOf T).run P w = .ok z w) (hzv : ∀ w, (zeroValue T).run P w = .ok zv w) (hm : 0 < m * z ∧ m * z ≤ 16777216) (hzs : (Array.range (m * z)).map (fun i => zv.cells[i % zv.cells.size]!) = zs) : SOK P t T m z zs := by
  intro parts cells w h
  have h1 : ¬ (m * z > 2 ^ 24) := by omega
  have h2 : ¬ (m * z = 0) := by omega
  subst hzs
  simp only [Instr.buildSlice, Sem.run_bind, hu, hz, Result.andThen_ok, h1, if_false, h2, hzv, Sem.run_pure]
  simp [h, newRow]
end
end Go.Proofs.Ytpiiopppbgpbpaa.Sl
namespace Go.Proofs.Ytpiiopppbgpbpaa.Sl
open Go.RowKit
set_option linter.unusedVariables false
set_option linter.unusedSimpArgs false
def eqV : Value → Value → Option Bool
  | .int k a, .int k' b => if k = k' then some (decide (a = b)) else none
  | .bool a, .bool b => some (decide (a = b))
  | .string a, .string b => some (decide (a.toList = b.toList))
  | _, _ => none
def eqL : List Value → List Value → Option Bool
  | [], [] => some true
  | x :: xs, y :: ys => match eqV x y with
    | some true => eqL xs ys
    | some false => some false
    | none => none
  | _, _ => none
theorem eqV_b {a b : Bool} (h : a = b) : eqV (.bool a) (.bool b) = some true := by simp [eqV, h]
theorem eqV_bn {a b : Bool} (h : ¬ a = b) : eqV (.bool a) (.bool b) = some false := by simp [eqV, h]
theorem eqV_s {l m : List UInt8} (h : l = m) : eqV (.string (bsOf l)) (.string (bsOf m)) = some true := by simp [eqV, h]
theorem eqV_sn {l m : List UInt8} (h : ¬ l = m) : eqV (.string (bsOf l)) (.string (bsOf m)) = some false := by simp [eqV, bsOf_toList, h]
theorem eqL_t {x y : Value} {xs ys : List Value} {b : Bool} (h : eqV x y = some true) (r : eqL xs ys = some b) : eqL (x :: xs) (y :: ys) = some b := by simp [eqL, h, r]
theorem eqL_f {x y : Value} {xs ys : List Value} (h : eqV x y = some false) : eqL (x :: xs) (y :: ys) = some false := by simp [eqL, h]
theorem eqL_append : ∀ {xs ys xs' ys' : List Value} {b : Bool}, xs.length = ys.length → eqL (xs ++ xs') (ys ++ ys') = some b → ∃ c, eqL xs ys = some c ∧ (if c then eqL xs' ys' else some false) = some b
  | [], [], xs', ys', b, _, h => ⟨true, rfl, by simpa using h⟩
  | x :: xs, y :: ys, xs', ys', b, hl, h => by
    simp only [List.cons_append, eqL] at h ⊢
    cases hv : eqV x y with
    | none => rw [hv] at h; cases h
    | some c =>
      cases c with
      | true =>
        rw [hv] at h
        exact eqL_append (by simpa using hl) h
      | false =>
        rw [hv] at h
        exact ⟨false, rfl, by simpa using h⟩
def okD : TypeDesc → Value → Bool
  | .int _, .int _ _ => true
  | .bool, .bool _ => true
  | .string, .string _ => true
  | _, _ => false
def oksD : List TypeDesc → List Value → Bool
  | [], [] => true
  | d :: ds, v :: vs => okD d v && oksD ds vs
  | _, _ => false
theorem oksD_length : ∀ {ds : List TypeDesc} {vs : List Value}, oksD ds vs = true → vs.length = ds.length
  | [], [], _ => rfl
  | d :: ds, v :: vs, h => by
    simp only [oksD, Bool.and_eq_true] at h
    simp [oksD_length h.2]
theorem oksD_app : ∀ {ds ds' : List TypeDesc} {vs : List Value}, oksD (ds ++ ds') vs = true → oksD ds (vs.take ds.length) = true ∧ oksD ds' (vs.drop ds.length) = true
  | [], ds', vs, h => by simpa [oksD] using h
  | d :: ds, ds', [], h => by simp [oksD] at h
  | d :: ds, ds', v :: vs, h => by
    simp only [List.cons_append, oksD, Bool.and_eq_true] at h
    have := oksD_app h.2
    simp [oksD, h.1, this]
def mkV (agg : Bool) (xs : List Value) : Value := if agg then .agg xs.toArray else xs.headD undef
structure Flat (P : Program) (k : Nat) (t : TypeId) (ds : List TypeDesc) (agg : Bool) : Prop where
  ia : ∀ w, (isAgg t).run P w = .ok agg w
  sz : ∀ w, (sizeOf t).run P w = .ok ds.length w
  one : agg = false → ds.length = 1
  eq : ∀ (d : Nat) (xs ys : List Value) (b : Bool) (w : World), k ≤ d → oksD ds xs = true → oksD ds ys = true → eqL xs ys = some b → (Op.equalIn d t (mkV agg xs) (mkV agg ys)).run P w = .ok b w
section
variable {P : Program} {t : TypeId}
theorem eqL_one {x y : Value} {b : Bool} (h : eqL [x] [y] = some b) : eqV x y = some b := by
  simp only [eqL] at h
  cases hv : eqV x y with
  | none => rw [hv] at h; cases h
  | some c => cases c <;> (rw [hv] at h; exact h)
theorem len1 {xs : List Value} (h : xs.length = 1) : ∃ x, xs = [x] := by
  match xs, h with
  | [x], _ => exact ⟨x, rfl⟩
theorem equal_one {d0 : TypeDesc} (hu : P.underlying t = some d0) (d : Nat) (x y : Value) (b : Bool) (w : World) (hx : okD d0 x = true) (hy : okD d0 y = true) (h : eqV x y = some b) : (Op.equalIn (d + 1) t x y).run P w = .ok b w := by
  cases d0 <;> cases x <;> first | (simp [okD] at hx; done) | skip
  all_goals cases y <;> first | (simp [okD] at hy; done) | skip
  · simp only [eqV, Option.some.injEq] at h
    subst h
    rw [run_equalIn_bool' w d t _ _ hu]
    rfl
  · rename_i q k a k' b'
    simp only [eqV] at h
    split at h
    · rename_i hk
      subst hk
      injection h with h
      subst h
      rw [run_equalIn_int w d t k _ a b' hu]
      rfl
    · cases h
  · simp only [eqV, Option.some.injEq] at h
    subst h
    rw [run_equalIn_string w d t _ _ hu]
    congr 1
    rename_i p q
    by_cases hpq : p.toList = q.toList <;> simp [hpq]
theorem Flat.one_ {d0 : TypeDesc} (ia : ∀ w, (isAgg t).run P w = .ok false w) (sz : ∀ w, (sizeOf t).run P w = .ok 1 w) (hu : P.underlying t = some d0) : Flat P 1 t [d0] false := by
  refine ⟨ia, sz, fun _ => rfl, ?_⟩
  intro d xs ys b w hd hx hy h
  obtain ⟨x, rfl⟩ := len1 (by simpa using oksD_length hx)
  obtain ⟨y, rfl⟩ := len1 (by simpa using oksD_length hy)
  obtain ⟨d, rfl⟩ : ∃ d', d = d' + 1 := ⟨d - 1, by omega⟩
  exact equal_one hu d x y b w (by simpa [oksD] using hx) (by simpa [oksD] using hy) (eqL_one h)
def FlatFs (P : Program) (k : Nat) : Nat → List Field → List TypeDesc → Prop
  | _, [], ds => ds = []
  | off, f :: fs, ds => f.name ≠ "_" ∧ f.offset = off ∧ ∃ d1 d2 agg, ds = d1 ++ d2 ∧ Flat P k f.type d1 agg ∧ FlatFs P k (off + d1.length) fs d2
theorem part_run {ty : TypeId} {ds : List TypeDesc} {agg : Bool} {k : Nat} (hf : Flat P k ty ds agg) (xs : List Value) (off : Nat) (w : World) (hl : off + ds.length ≤ xs.length) : (part ty xs.toArray off).run P w = .ok (mkV agg ((xs.drop off).take ds.length)) w := by
  cases agg with
  | true =>
    have h1 := hf.ia w
    simp only [part, Sem.run_bind, h1, Result.andThen_ok, if_true, hf.sz w, Sem.run_pure, mkV]
    congr 2
    apply Array.ext'
    simp [List.extract_eq_take_drop]
  | false =>
    have h1 := hf.ia w
    have h2 := hf.one rfl
    have h3 : off < xs.length := by omega
    have h4 : ((xs.drop off).take 1).headD undef = xs[off] := by
      rw [List.drop_eq_getElem_cons h3]
      rfl
    simp only [part, Sem.run_bind, h1, Result.andThen_ok, Bool.false_eq_true, if_false, mkV, h2, h4]
    simp [h3]
theorem fields_run {k : Nat} : ∀ {fs : List Field} {ds : List TypeDesc} {off : Nat}, FlatFs P k off fs ds → ∀ (d : Nat) (xs ys : List Value) (b : Bool) (w : World), k ≤ d → xs.length = off + ds.length → ys.length = off + ds.length →
    oksD ds (xs.drop off) = true → oksD ds (ys.drop off) = true → eqL (xs.drop off) (ys.drop off) = some b → (Op.eqFields d xs.toArray ys.toArray fs).run P w = .ok b w
  | [], ds, off, hf, d, xs, ys, b, w, hd, hx, hy, ox, oy, h => by
    obtain rfl : ds = [] := hf
    rw [List.drop_of_length_le (by simp at hx; omega), List.drop_of_length_le (by simp at hy; omega)] at h
    injection h with h
    subst h
    rfl
  | f :: fs, ds, off, hf, d, xs, ys, b, w, hd, hx, hy, ox, oy, h => by
    obtain ⟨hn, ho, d1, d2, agg, rfl, hF, hr⟩ := hf
    rw [List.length_append] at hx hy
    have ox' := oksD_app ox
    have oy' := oksD_app oy
    have e1 : xs.drop off = (xs.drop off).take d1.length ++ xs.drop (off + d1.length) := by rw [← List.drop_drop, List.take_append_drop]
    have e2 : ys.drop off = (ys.drop off).take d1.length ++ ys.drop (off + d1.length) := by rw [← List.drop_drop, List.take_append_drop]
    rw [e1, e2] at h
    obtain ⟨c, h1, h2⟩ := eqL_append (by simp; omega) h
    have p1 := part_run hF xs off w (by omega)
    have p2 := part_run hF ys off w (by omega)
    have q1 := hF.eq d _ _ c w hd ox'.1 oy'.1 h1
    simp only [Op.eqFields, hn, ne_eq, not_false_eq_true, if_true, Sem.run_bind, ho, p1, Result.andThen_ok, p2, q1, Sem.run_ite]
    cases c with
    | false =>
      simp only [Bool.false_eq_true, if_false] at h2
      injection h2 with h2
      subst h2
      rfl
    | true =>
      simp only [if_true] at h2
      have h3 := fields_run hr d xs ys b w hd (by omega) (by omega) (by rw [← List.drop_drop]; exact ox'.2) (by rw [← List.drop_drop]; exact oy'.2) h2
      simpa using h3
theorem Flat.struct {k : Nat} {fs : Array Field} {ds : List TypeDesc} (ia : ∀ w, (isAgg t).run P w = .ok true w) {z : Nat} (sz : ∀ w, (sizeOf t).run P w = .ok z w) (hz : ds.length = z) (hu : P.underlying t = some (.struct fs)) (hp : P.stoodInHeld t = false) (hf : FlatFs P k 0 fs.toList ds) : Flat P (k + 1) t ds true := by
  subst hz
  refine ⟨ia, sz, fun h => (by cases h), ?_⟩
  intro d xs ys b w hd hx hy h
  obtain ⟨d, rfl⟩ : ∃ d', d = d' + 1 := ⟨d - 1, by omega⟩
  have e : P.fieldsOf t = fs := by simp [Program.fieldsOf, hu]
  simp only [mkV, if_true]
  rw [run_equalIn_agg w d t _ _ (by rw [e]; exact hu) hp, e]
  exact fields_run hf d xs ys b w (by omega) (by simpa using oksD_length hx) (by simpa using oksD_length hy) hx hy h
theorem Flat.mono {k k' : Nat} {ds : List TypeDesc} {agg : Bool} (h : Flat P k t ds agg) (hk : k ≤ k') : Flat P k' t ds agg := ⟨h.ia, h.sz, h.one, fun d xs ys b w hd => h.eq d xs ys b w (by omega)⟩
end
section
variable {P : Program} {n : Nat} {F0 : Nat → Prop} {w0 : World} {e : Env} {Rs Rf : List Res} {Q : Exit → Act → World → Prop} {ops : Array Oper} {d : Option Tmp} {i : Nat} {ty t t' el : TypeId} {pos : String} {af : Array Edge} {gd : Option (Nat × Bool)} {v v' : Value} {x y : Operand} {l : List Nat} {lo : Sch} {c : Code} {S : World → Prop}
theorem Ex.aEq {k : Nat} {ds : List TypeDesc} {us vs : List Value} {b : Bool} (hF : Flat P k t ds true) (hk : Nat.ble k 10000 = true) (hG : P.eqGuardType P.depth t = false) (hx : e.ev x = some (.agg us.toArray)) (hy : e.ev y = some (.agg vs.toArray)) (ou : oksD ds us = true) (ov : oksD ds vs = true) (h : eqL us vs = some b) :
    Ex P n e S ⟨d, .binOp .eql t x y t', ty, pos, af, gd⟩ (.bool b) := by
  intro a w ha _
  have h1 := hF.eq 10000 us vs b w (Nat.le_of_ble_eq_true hk) ou ov h
  simp only [mkV, if_true] at h1
  simp only [execOp, ha.ev hx, ha.ev hy, Sem.run_bind]
  rw [run_eqGuard_agg w .eql t x y _ _ hG]
  simp only [Result.andThen_ok]
  rw [run_eql_struct w t _ _, h1]
  rfl
theorem Ex.aNe {k : Nat} {ds : List TypeDesc} {us vs : List Value} {b : Bool} (hF : Flat P k t ds true) (hk : Nat.ble k 10000 = true) (hG : P.eqGuardType P.depth t = false) (hx : e.ev x = some (.agg us.toArray)) (hy : e.ev y = some (.agg vs.toArray)) (ou : oksD ds us = true) (ov : oksD ds vs = true) (h : eqL us vs = some b) :
    Ex P n e S ⟨d, .binOp .neq t x y t', ty, pos, af, gd⟩ (.bool (!b)) := by
  intro a w ha _
  have h1 := hF.eq 10000 us vs b w (Nat.le_of_ble_eq_true hk) ou ov h
  simp only [mkV, if_true] at h1
  simp only [execOp, ha.ev hx, ha.ev hy, Sem.run_bind]
  rw [run_eqGuard_agg w .neq t x y _ _ hG]
  simp only [Result.andThen_ok]
  rw [run_neq_struct w t _ _, h1]
  rfl
theorem SOK.mk0 {T : Nat} {z : Nat} (hu : ∀ w, (underlying t).run P w = .ok (.slice T) w) (hz : ∀ w, (sizeOf T).run P w = .ok z w) : SOK P t T 0 z #[] := by
  intro parts cells w h
  have e0 : ∀ f : Nat → Value, Array.map f (Array.range 0) = #[] := by intro f; simp
  simp only [Instr.buildSlice, Sem.run_bind, hu, hz, Result.andThen_ok, Nat.zero_mul, Sem.run_pure]
  simp [e0, h, newRow]
end
def RowK {α : Type} (B : Res) (E : Rd α) (g q : Nat) (cs : List Value) (x : α) : Res where
  P := fun w G => B.P w G ∧ G g ∧ (∀ j, j < cs.length → w.cell? ⟨g, q + j, none⟩ = cs[j]?) ∧ E.P w G cs x
  lt := fun h => B.lt h.1
  move := fun {w w' G} h hm => ⟨B.move h.1 hm, h.2.1, fun j hj => by
    rw [← h.2.2.1 j hj]
    simp only [World.cell?, hm g h.2.1], E.move h.2.2.2 hm⟩
section
variable {P : Program} {n : Nat} {F0 : Nat → Prop} {w0 w : World} {e : Env} {Rs Rf : List Res} {Q : Exit → Act → World → Prop} {ops : Array Oper} {d : Option Tmp} {i : Nat} {ty t t' el : TypeId} {pos : String} {af : Array Edge} {gd : Option (Nat × Bool)} {v v' : Value} {y z : Operand} {l : List Nat} {lo : Sch} {c : Code} {S : World → Prop}
variable {α : Type} {E : Rd α} {B : Res} {A : Option Addr} {m cp size k : Nat} {xs : List α} {x : α}
theorem foc_P {G : Nat → Prop} (hG : B.P w G) (hB : (RX.of (sliceRd size E) [.slice A m cp] xs).P w G) (hp : 0 < size) (hx : xs[k]? = some x) : ∃ g o cs, A = some ⟨g, o, none⟩ ∧ cs.length = size ∧ (∃ S, E.P w S cs x) ∧ (RowK B E g (o + k * size) cs x).P w G := by
  rcases hB with ⟨h, rfl⟩ | ⟨a, cap, h, _, _, hb, h2⟩
  · simp at hx
  · injection h with h
    injection h with h3 h4 h5
    subst h3
    have hl : 0 < xs.length := by have := (List.getElem?_eq_some_iff.1 hx).1; omega
    obtain ⟨cs0, k1, k2, _⟩ := h2 0 xs[0] (List.getElem?_eq_getElem hl)
    have k3 := k2 0 hp
    rw [List.getElem?_eq_getElem (by omega)] at k3
    have k4 : a.add (0 * size + 0) = a := by simp [Addr.add]
    rw [k4] at k3
    have k5 := spot_none k3
    obtain ⟨cs, k6, k7, k8⟩ := h2 k x hx
    refine ⟨a.block, a.off, cs, by rw [← k5], k6, ⟨G, k8⟩, hG, hb hl, fun j hj => ?_, k8⟩
    rw [← k7 j (by omega), k5, WideShapes.add_plain, Nat.add_assoc]
theorem St.foc (i : Nat) (h : St F0 w0 Rs w) (hi : Rs[i]? = some B) (hB : ∀ w G, B.P w G → (RX.of (sliceRd size E) [.slice A m cp] xs).P w G) (hp : 0 < size) (hx : xs[k]? = some x) :
    ∃ g o cs, A = some ⟨g, o, none⟩ ∧ cs.length = size ∧ (∃ w S, E.P w S cs x) ∧ St F0 w0 (Rs.set i (RowK B E g (o + k * size) cs x)) w := by
  obtain ⟨f, hs⟩ := h
  obtain ⟨G, h1, h2, h3⟩ := Sep.pick i hi hs
  obtain ⟨g, o, cs, k1, k2, ⟨S, k3⟩, k4⟩ := foc_P h1 (hB w G h1) hp hx
  exact ⟨g, o, cs, k1, k2, ⟨w, S, k3⟩, f, Sep.back i hi k4 h2 h3⟩
theorem T.foc (i : Nat) (hi : Rs[i]? = some B) (hB : ∀ w G, B.P w G → (RX.of (sliceRd size E) [.slice A m cp] xs).P w G) (hp : 0 < size) (hx : xs[k]? = some x)
    (h : ∀ g o cs, A = some ⟨g, o, none⟩ → cs.length = size → (∃ w S, E.P w S cs x) → T P n F0 w0 e (Rs.set i (RowK B E g (o + k * size) cs x)) c Q) : T P n F0 w0 e Rs c Q := by
  intro a w ha hs
  obtain ⟨g, o, cs, k1, k2, k3, k4⟩ := hs.foc i hi hB hp hx
  exact h g o cs k1 k2 k3 a w ha k4
theorem TL.foc (i : Nat) (hi : Rs[i]? = some B) (hB : ∀ w G, B.P w G → (RX.of (sliceRd size E) [.slice A m cp] xs).P w G) (hp : 0 < size) (hx : xs[k]? = some x)
    (h : ∀ g o cs, A = some ⟨g, o, none⟩ → cs.length = size → (∃ w S, E.P w S cs x) → TL P n F0 w0 ops l e (Rs.set i (RowK B E g (o + k * size) cs x)) Q) : TL P n F0 w0 ops l e Rs Q := by
  intro a w ha hs
  obtain ⟨g, o, cs, k1, k2, k3, k4⟩ := hs.foc i hi hB hp hx
  exact h g o cs k1 k2 k3 a w ha k4
theorem St.unf {q g : Nat} {cs : List Value} (i : Nat) (h : St F0 w0 Rs w) (hi : Rs[i]? = some (RowK B E g q cs x)) : St F0 w0 (Rs.set i B) w := h.weaken i hi (fun G hG => hG.1)
theorem T.unf {q g : Nat} {cs : List Value} (i : Nat) (hi : Rs[i]? = some (RowK B E g q cs x)) (h : T P n F0 w0 e (Rs.set i B) c Q) : T P n F0 w0 e Rs c Q := fun a w ha hs => h a w ha (hs.unf i hi)
theorem TL.unf {q g : Nat} {cs : List Value} (i : Nat) (hi : Rs[i]? = some (RowK B E g q cs x)) (h : TL P n F0 w0 ops l e (Rs.set i B) Q) : TL P n F0 w0 ops l e Rs Q := fun a w ha hs => h a w ha (hs.unf i hi)
theorem X.unf {q g : Nat} {cs : List Value} {o : Exit} (i : Nat) (hi : Rs[i]? = some (RowK B E g q cs x)) (h : X n F0 w0 e (Rs.set i B) o Q) : X n F0 w0 e Rs o Q := fun a w ha hs => h a w ha (hs.unf i hi)
theorem Ex.k1 {q g : Nat} {cs : List Value} (i j : Nat) (hy : e.ev y = some (.pointer (some ⟨g, q + j, none⟩))) (ha : ∀ w, (isAgg t).run P w = .ok false w) (hi : Rs[i]? = some B) (hB : ∀ w G, B.P w G → ∀ j, j < cs.length → w.cell? ⟨g, q + j, none⟩ = cs[j]?) (hv : cs[j]? = some v) : Ex P n e (St F0 w0 Rs) ⟨d, .load t y, ty, pos, af, gd⟩ v :=
  Ex.ld1 hy ha (fun w hw => by
    obtain ⟨G, h1, _⟩ := hw.get i hi
    exact (hB w G h1 j (List.getElem?_eq_some_iff.1 hv).1).trans hv)
theorem Ex.kS {q g z' : Nat} {cs us : List Value} (i kk : Nat) (hy : e.ev y = some (.pointer (some ⟨g, q + kk, none⟩))) (ha : ∀ w, (isAgg t).run P w = .ok true w) (hz : ∀ w, (sizeOf t).run P w = .ok z' w) (hi : Rs[i]? = some B) (hB : ∀ w G, B.P w G → ∀ j, j < cs.length → w.cell? ⟨g, q + j, none⟩ = cs[j]?)
    (hv : (cs.drop kk).take z' = us) (hl : Nat.beq us.length z' = true) : Ex P n e (St F0 w0 Rs) ⟨d, .load t y, ty, pos, af, gd⟩ (.agg us.toArray) := by
  refine Ex.ldS hy ha hz (Nat.eq_of_beq_eq_true hl) (fun w hw j u hj => ?_)
  obtain ⟨G, h1, _⟩ := hw.get i hi
  have h2 : (⟨g, q + kk, none⟩ : Addr).add j = ⟨g, q + (kk + j), none⟩ := by unfold Addr.add; split <;> simp_all [Nat.add_assoc]
  rw [h2]
  subst hv
  rw [List.getElem?_take] at hj
  split at hj
  · rw [List.getElem?_drop] at hj
    exact (hB w G h1 (kk + j) (List.getElem?_eq_some_iff.1 hj).1).trans hj
  · cases hj
end
end Go.Proofs.Ytpiiopppbgpbpaa.Sl
namespace Go.Proofs.Ytpiiopppbgpbpaa.Sl
open Go.RowKit
set_option linter.unusedVariables false
set_option linter.unusedSimpArgs false
def RX.blk (b : Nat) (T : TypeId) (cs : Array Value) : RX := ⟨fun w S => w.heap[b]? = some (.cells cs T (0, 0)) ∧ S b, fun h k => ⟨h.1, k _ h.2⟩, fun h k => ⟨(k _ h.2).trans h.1, h.2⟩⟩
section
variable {P : Program} {n : Nat} {F0 : Nat → Prop} {w0 w : World} {e : Env} {Rs Rf : List Res} {Q : Exit → Act → World → Prop} {ops : Array Oper} {d : Option Tmp} {i : Nat} {ty t t' el : TypeId} {pos : String} {af : Array Edge} {gd : Option (Nat × Bool)} {v v' : Value} {x y z : Operand} {l : List Nat} {lo : Sch} {c : Code} {S : World → Prop}
end
end Go.Proofs.Ytpiiopppbgpbpaa.Sl
namespace Go.Proofs.Ytpiiopppbgpbpaa.Sl
open Go.RowKit
set_option linter.unusedVariables false
set_option linter.unusedSimpArgs false
section
variable {P : Program} {n : Nat} {F0 : Nat → Prop} {w0 w : World} {e : Env} {Rs : List Res} {d : Option Tmp} {ty t t' el : TypeId} {pos : String} {af : Array Edge} {gd : Option (Nat × Bool)} {x y : Operand} {S : World → Prop}
theorem Ex.remK {k : IntKind} {p q : Int} (hx : e.ev x = some (.int k p)) (hy : e.ev y = some (.int k q)) (hq : 1 ≤ q) (h : 0 ≤ p) : Ex P n e S ⟨d, .binOp .rem t x y t', ty, pos, af, gd⟩ (.int k (p % q)) := by
  intro a w ha _
  have h0 : ¬ q = 0 := by omega
  simp [execOp, ha.ev hx, ha.ev hy, eqGuard, binOp, Op.intDiv, h0, IntWalk.rem_in _ _ h]
end
end Go.Proofs.Ytpiiopppbgpbpaa.Sl
namespace Go.Proofs.Ytpiiopppbgpbpaa.Sl
open Go.RowKit
set_option linter.unusedVariables false
section
variable {P : Program} {n : Nat} {F0 : Nat → Prop} {w0 : World} {e e' : Env} {Rs Rs' : List Res} {Q : Exit → Act → World → Prop} {c : Code} {d : Nat} {v v' : Value}
def JK (n : Nat) (F0 : Nat → Prop) (w0 : World) (R : Env → List Res → Prop) (a : Act) (w : World) : Prop := ∃ e Rs, R e Rs ∧ Has n e a ∧ St F0 w0 Rs w
theorem T.jq (R : Env → List Res → Prop) (h : T P n F0 w0 e Rs c (Exit.then (JK n F0 w0 R) Q)) (k : ∀ e' Rs', R e' Rs' → X n F0 w0 e' Rs' .normal Q) : T P n F0 w0 e Rs c Q := by
  intro a w ha hs
  refine wp_mono (h a w ha hs) ?_
  intro x a' w' hx
  cases x <;> first | exact hx | skip
  obtain ⟨e', Rs', hR, ha', hs'⟩ := hx
  exact k e' Rs' hR a' w' ha' hs'
theorem X.jq {R : Env → List Res → Prop} (is : List Nat) (hR : R e' Rs') (he : Sub e' e) (hr : Sel Rs is Rs') : X n F0 w0 e Rs .normal (Exit.then (JK n F0 w0 R) Q) := fun a w ha hs => ⟨e', Rs', hR, ha.sub he.get, hs.sel is hr⟩
theorem X.as {z : Exit} (hv : e.get d = some v) (h : v = v') (k : X n F0 w0 ((d, v') :: e) Rs z Q) : X n F0 w0 e Rs z Q := fun a w ha hs => k a w (ha.as hv h) hs
end
end Go.Proofs.Ytpiiopppbgpbpaa.Sl
namespace Go.Proofs.Ytpiiopppbgpbpaa.Sl
open Go.RowKit Go.Deep Go.ChangeShapes
set_option linter.unusedVariables false
set_option linter.unusedSimpArgs false
def oldRd {α : Type} (w0 : World) (S : Nat → Prop) (E : Rd α) : Rd α where
  P := fun w G cs x => ∀ W : World, (∀ k, G k → W.heap[k]? = w.heap[k]?) → (∀ k, S k → W.heap[k]? = w0.heap[k]?) → E.P W (fun k => G k ∨ S k) cs x
  mono := fun h hS W h1 h2 => E.mono (h W (fun k hk => h1 k (hS k hk)) h2) (fun k hk => hk.imp (hS k) id)
  move := fun h hm W h1 h2 => h W (fun k hk => (h1 k hk).trans (hm k hk)) h2
section
variable {α : Type} {w0 w w1 : World} {S G F : Nat → Prop} {E : Rd α} {cs : List Value} {x : α} {X Y : RX} {size : Nat}
end
structure RO where
  α : Type
  E : Rd α
  cs : List Value
  x : α
def RO.res (w0 : World) (S : Nat → Prop) (o : RO) : Res := RdR (oldRd w0 S o.E) o.cs o.x
section
variable {P : Program} {n : Nat} {F0 : Nat → Prop} {w0 w : World} {S : Nat → Prop} {e : Env} {Rs Rs' Rf Bs : List Res} {L : List RO} {B : Res} {Xr Y : RX}
theorem Sep.split : ∀ {Bs Rs : List Res} {w : World} {F : Nat → Prop}, Sep (Bs ++ Rs) w F → ∃ G, Sep Bs w G ∧ (∀ k, G k → F k) ∧ (∀ k, G k → k < w.heap.size) ∧ Sep Rs w (fun k => F k ∧ ¬ G k)
  | [], Rs, w, F, h => ⟨fun _ => False, trivial, fun _ h => h.elim, fun _ h => h.elim, h.mono (fun k hk => ⟨hk, fun h => h⟩)⟩
  | B :: Bs, Rs, w, F, ⟨G1, h1, h2, h3⟩ => by
    obtain ⟨G, k1, k2, k3, k4⟩ := Sep.split h3
    refine ⟨fun k => G1 k ∨ G k, ⟨G1, h1, fun k hk => .inl hk, k1.mono (fun k hk => ⟨.inr hk, (k2 k hk).2⟩)⟩, fun k hk => hk.elim (h2 k) (fun h => (k2 k h).1), fun k hk => hk.elim (B.lt h1 k) (k3 k), k4.mono (fun k hk => ⟨hk.1.1, fun h => h.elim hk.1.2 hk.2⟩)⟩
theorem Sep.each : ∀ {L : List RO} {w1 : World} {S1 F : Nat → Prop}, Sep (L.map (RO.res w1 S1)) w F → ∀ o, o ∈ L → ∃ G, (RdR (oldRd w1 S1 o.E) o.cs o.x).P w G ∧ ∀ k, G k → F k
  | a :: L, w1, S1, F, ⟨G, h1, h2, h3⟩, o, ho => by
    rcases List.mem_cons.1 ho with rfl | ho
    · exact ⟨G, h1, h2⟩
    · obtain ⟨G', k1, k2⟩ := Sep.each h3 o ho
      exact ⟨G', k1, fun k hk => (k2 k hk).1⟩
variable {d : Option Tmp} {ty : TypeId} {pos : String} {af : Array Edge} {gd : Option (Nat × Bool)} {R : Value → Res → List RO → Prop}
variable {Q : Exit → Act → World → Prop} {ops : Array Oper} {i dd : Nat} {cl : Call} {f : FuncId} {vs : List Value}
variable {α : Type} {E : Rd α} {size : Nat} {T : TypeId} {u : Value} {xs : List α}
end
end Go.Proofs.Ytpiiopppbgpbpaa.Sl
namespace Go.Proofs.Ytpiiopppbgpbpaa.Sl
open Go.RowKit
set_option linter.unusedVariables false
set_option linter.unusedSimpArgs false
section
variable {α : Type} {size : Nat} {E : Rd α} {w : World} {S : Nat → Prop}
theorem elems_set : ∀ {xs : List α} {cs new : List Value} {k : Nat} {x x' : α}, elems size E w S cs xs → xs[k]? = some x → new.length = size → E.P w S new x' → elems size E w S (cs.take (k * size) ++ new ++ cs.drop ((k + 1) * size)) (xs.set k x')
  | [], _, _, k, _, _, _, hk, _, _ => by simp at hk
  | y :: ys, cs, new, 0, x, x', ⟨h0, _, h2⟩, _, hn, hx => by
    rw [Nat.zero_mul, List.take_zero, List.nil_append, Nat.zero_add, Nat.one_mul]
    exact ⟨by rw [List.take_append_of_le_length (by omega), List.take_of_length_le (by omega)]; exact hn, by rw [List.take_append_of_le_length (by omega), List.take_of_length_le (by omega)]; exact hx,
      by rw [List.drop_append_of_le_length (by omega), List.drop_of_length_le (by omega)]; exact h2⟩
  | y :: ys, cs, new, k + 1, x, x', ⟨h0, h1, h2⟩, hk, hn, hx => by
    have hle : size ≤ cs.length := by rw [List.length_take] at h0; omega
    have ih := elems_set (k := k) (x := x) h2 (by simpa using hk) hn hx
    have hc : cs = cs.take size ++ cs.drop size := (List.take_append_drop size cs).symm
    have e0 : (cs.take size).length = size := h0
    have e1 : cs.take ((k + 1) * size) = cs.take size ++ (cs.drop size).take (k * size) := by
      conv => lhs; rw [hc]
      rw [List.take_append, e0, show (k + 1) * size - size = k * size by rw [Nat.add_mul]; omega, List.take_of_length_le (by rw [e0, Nat.add_mul]; omega)]
    have e2 : cs.drop ((k + 1 + 1) * size) = (cs.drop size).drop ((k + 1) * size) := by
      rw [List.drop_drop, show size + (k + 1) * size = (k + 1 + 1) * size by rw [Nat.add_mul (k + 1)]; omega]
    rw [e1, e2, List.append_assoc, List.append_assoc, ← List.append_assoc ((cs.drop size).take (k * size))]
    exact ⟨by rw [List.take_append_of_le_length (by omega), List.take_of_length_le (by omega)]; exact h0, by rw [List.take_append_of_le_length (by omega), List.take_of_length_le (by omega)]; exact h1,
      by rw [List.drop_append_of_le_length (by omega), List.drop_of_length_le (by omega), List.nil_append]; exact ih⟩
theorem OwnR.stored {T m c g o k off q : Nat} {G : Nat → Prop} {xs : List α} {x x' : α} {us : List Value} (h : (OwnR T size E (.slice (some ⟨g, o, none⟩) m c) xs).P w G) (hk : xs[k]? = some x) (hq : q = o + k * size + off) (hl : off + us.length ≤ size)
    (hE : ∀ w S cs, cs.length = size → E.P w S cs x → E.P w S (cs.take off ++ us ++ cs.drop (off + us.length)) x') :
    ∃ cur, w.heap[g]? = some (.cells cur T (0, 0)) ∧ q + us.length ≤ cur.size ∧ (∀ k, k = g → G k) ∧ (OwnR T size E (.slice (some ⟨g, o, none⟩) m c) (xs.set k x')).P (w.setRow g (cur.toList.take q ++ us ++ cur.toList.drop (q + us.length)).toArray) G := by
  obtain ⟨cells, S, ⟨hlen, hown⟩, h2, h3, h4, h5⟩ := h
  rcases hown with ⟨hv, _⟩ | ⟨g', cap, cur, hv, hb0, hg, hnc, hcm, hcs, htk⟩
  · cases hv
  injection hv with hv1 hv2 hv3
  injection hv1 with hv1
  injection hv1 with hv4 hv5
  subst hv4 hv5 hv2 hv3
  have hkl : k < xs.length := (List.getElem?_eq_some_iff.1 hk).1
  have hks : (k + 1) * size ≤ xs.length * size := Nat.mul_le_mul_right _ hkl
  have hcap : xs.length * size ≤ c * size := Nat.mul_le_mul_right _ hnc
  have hk1 : (k + 1) * size = k * size + size := by rw [Nat.add_mul, Nat.one_mul]
  have hfit : q + us.length ≤ cur.size := by rw [hcs]; omega
  refine ⟨cur, hg, hfit, fun k hk => by subst hk; exact (h5 _).2 (.inl rfl), ?_⟩
  obtain ⟨c1, c2⟩ := elems_get h2 hk
  have hgS : ¬ S g := h4 g rfl
  have hnew : ((cells.drop (k * size)).take size).take off ++ us ++ ((cells.drop (k * size)).take size).drop (off + us.length) = ((cells.drop (k * size)).take size).take off ++ us ++ ((cells.drop (k * size)).take size).drop (off + us.length) := rfl
  have hset := elems_set h2 hk (new := ((cells.drop (k * size)).take size).take off ++ us ++ ((cells.drop (k * size)).take size).drop (off + us.length)) (by simp only [List.length_append, List.length_take, List.length_drop] at c1 ⊢; omega) (hE w S _ c1 c2)
  have hset' : elems size E (w.setRow g (cur.toList.take q ++ us ++ cur.toList.drop (q + us.length)).toArray) S _ (xs.set k x') := elems_move hset (fun k hk => setRow_other w g k _ (fun e => hgS (e ▸ hk)))
  refine ⟨_, S, ⟨?_, .inr ⟨g, c, _, by rw [List.length_set], hb0, setRow_heap w g cur _ T (0, 0) hg, by rw [List.length_set]; exact hnc, hcm, ?_, ?_⟩⟩, hset', fun k hk => by rw [size_setRow]; exact h3 k hk, h4, h5⟩
  · have := elems_length hset
    exact this
  · simp only [List.size_toArray, List.length_append, List.length_take, List.length_drop, Array.length_toList]
    omega
  · rw [List.length_set]
    have hcl : cur.toList.length = c * size := by simpa using hcs
    have hcells : cells.length = xs.length * size := hlen
    have d1 : (cells.drop (k * size)).take size = (cells.drop (k * size)).take size := rfl
    have hq2 : q + us.length ≤ xs.length * size := by omega
    have r1 : cells.take (k * size) ++ ((cells.drop (k * size)).take size).take off = cells.take q := by
      rw [List.take_take, Nat.min_eq_left (by omega), ← List.take_add, show k * size + off = q by omega]
    have r2 : ((cells.drop (k * size)).take size).drop (off + us.length) ++ cells.drop ((k + 1) * size) = cells.drop (q + us.length) := by
      have e1 : cells.drop ((k + 1) * size) = (cells.drop (k * size)).drop size := by rw [List.drop_drop, hk1]
      have e2 : cells.drop (q + us.length) = (cells.drop (k * size)).drop (off + us.length) := by rw [List.drop_drop, show k * size + (off + us.length) = q + us.length by omega]
      rw [e1, e2, ← List.drop_append_of_le_length (by omega), List.take_append_drop]
    have r3 : cells.take (k * size) ++ (((cells.drop (k * size)).take size).take off ++ us ++ ((cells.drop (k * size)).take size).drop (off + us.length)) ++ cells.drop ((k + 1) * size) = cells.take q ++ us ++ cells.drop (q + us.length) := by
      rw [← r1, ← r2]
      simp only [List.append_assoc]
    rw [r3, ← htk, List.drop_take, List.take_take, Nat.min_eq_left (by omega)]
    have l1 : (cur.toList.take q ++ us).length = q + us.length := by rw [List.length_append, List.length_take]; omega
    rw [List.toList_toArray, List.take_append, l1, List.take_of_length_le (by omega)]
end
section
variable {P : Program} {n : Nat} {F0 : Nat → Prop} {w0 : World} {e : Env} {Rs Rf : List Res} {Q : Exit → Act → World → Prop} {ops : Array Oper} {d : Option Tmp} {i : Nat} {ty t t' el : TypeId} {pos : String} {af : Array Edge} {gd : Option (Nat × Bool)} {v v' : Value} {x y : Operand} {l : List Nat} {lo : Sch} {c : Code} {S : World → Prop}
theorem TD.unf {α : Type} {E : Rd α} {B : Res} {q g : Nat} {cs : List Value} {u : α} (i : Nat) (hi : Rs[i]? = some (RowK B E g q cs u)) (h : TD P n F0 w0 ops lo Rf e (Rs.set i B) Q) : TD P n F0 w0 ops lo Rf e Rs Q := fun a w ha hs => h a w ha (hs.unf i hi)
section
variable {α : Type} {E : Rd α} {T m cp size g o k off q z : Nat} {xs : List α} {u u' : α}
theorem Ef.stE (j : Nat) (off : Nat) (hx : e.ev x = some (.pointer (some ⟨g, q, none⟩))) (hy : e.ev y = some v) (hz : ∀ w, (sizeOf t).run P w = .ok z w) (hi : Rs[j]? = some (OwnR T size E (.slice (some ⟨g, o, none⟩) m cp) xs)) (hk : xs[k]? = some u) (hq : q = o + k * size + off)
    (hvz : Nat.beq v.cells.size z = true) (hf : Nat.ble (off + v.cells.size) size = true) (ho : v.cells.toList.all (·.oneCell') = true) (hE : ∀ w S cs, cs.length = size → E.P w S cs u → E.P w S (cs.take off ++ v.cells.toList ++ cs.drop (off + v.cells.toList.length)) u') :
    Ef P n F0 w0 e Rs ⟨none, .store t x y, ty, pos, af, gd⟩ (fun e' Rs' => e' = e ∧ Rs' = Rs.set j (OwnR T size E (.slice (some ⟨g, o, none⟩) m cp) (xs.set k u'))) := by
  intro a w K Q ha hs hk'
  have hvz' := Nat.eq_of_beq_eq_true hvz
  have hf' : off + v.cells.toList.length ≤ size := by rw [Array.length_toList]; exact Nat.le_of_ble_eq_true hf
  obtain ⟨G, hG, _⟩ := hs.get j hi
  obtain ⟨cur, h1, h2, h3, h4⟩ := OwnR.stored hG hk hq hf' hE
  have h5 := run_storeCells_at (P := P) g q T v.cells.toList 0 cur w h1 (by simpa using h2) (List.all_eq_true.1 ho)
  have h6 : (execOp a.eval ⟨none, .store t x y, ty, pos, af, gd⟩).run P w = .ok .skip (w.setRow g (cur.toList.take q ++ v.cells.toList ++ cur.toList.drop (q + v.cells.toList.length)).toArray) := by
    simp only [Nat.add_zero] at h5
    simp [execOp, ha.ev hx, ha.ev hy, Instr.storeAt, Instr.sureAddr, storeVar, hz, hvz', h5]
  unfold Oper.wp
  rw [h6]
  refine hk' _ _ ⟨rfl, rfl⟩ _ _ ha.put0 (hs.step j hi (Ns := []) (fun G' hG' => ?_))
  obtain ⟨cur', k1, k2, k3, k4⟩ := OwnR.stored hG' hk hq hf' hE
  rw [h1] at k1
  injection k1 with k1
  injection k1 with k1
  subst k1
  exact ⟨⟨rfl, rfl, rfl, by simp [World.setRow], fun k hk hn => setRow_other w g k _ (fun e => hn (k3 k e))⟩, G', k4, fun k hk => .inl hk, trivial⟩
theorem TL.stE (j : Nat) (off : Nat) {u' : α} (ho : ops[i]? = some ⟨none, .store t x y, ty, pos, af, gd⟩) (hw : Wd n ops e ⟨none, .store t x y, ty, pos, af, gd⟩ true) (hx : e.ev x = some (.pointer (some ⟨g, q, none⟩))) (hy : e.ev y = some v) (hz : ∀ w, (sizeOf t).run P w = .ok z w) (hi : Rs[j]? = some (OwnR T size E (.slice (some ⟨g, o, none⟩) m cp) xs)) (hk : xs[k]? = some u) (hq : q = o + k * size + off)
    (hvz : Nat.beq v.cells.size z = true) (hf : Nat.ble (off + v.cells.size) size = true) (ho' : v.cells.toList.all (·.oneCell') = true) (hE : ∀ w S cs, cs.length = size → E.P w S cs u → E.P w S (cs.take off ++ v.cells.toList ++ cs.drop (off + v.cells.toList.length)) u')
    (h : TL P n F0 w0 ops l e (Rs.set j (OwnR T size E (.slice (some ⟨g, o, none⟩) m cp) (xs.set k u'))) Q) : TL P n F0 w0 ops (i :: l) e Rs Q := by
  refine TL.ef ho hw (Ef.stE j off hx hy hz hi hk hq hvz hf ho' hE) ?_
  rintro _ _ ⟨rfl, rfl⟩
  exact h
theorem TD.stE (j : Nat) (off : Nat) {u' : α} (ho : ops[i]? = some ⟨none, .store t x y, ty, pos, af, gd⟩) (hw : Wd n ops e ⟨none, .store t x y, ty, pos, af, gd⟩ true) (hx : e.ev x = some (.pointer (some ⟨g, q, none⟩))) (hy : e.ev y = some v) (hz : ∀ w, (sizeOf t).run P w = .ok z w) (hi : Rs[j]? = some (OwnR T size E (.slice (some ⟨g, o, none⟩) m cp) xs)) (hk : xs[k]? = some u) (hq : q = o + k * size + off)
    (hvz : Nat.beq v.cells.size z = true) (hf : Nat.ble (off + v.cells.size) size = true) (ho' : v.cells.toList.all (·.oneCell') = true) (hE : ∀ w S cs, cs.length = size → E.P w S cs u → E.P w S (cs.take off ++ v.cells.toList ++ cs.drop (off + v.cells.toList.length)) u')
    (is : List Nat) (hf' : Sel (Rs.set j (OwnR T size E (.slice (some ⟨g, o, none⟩) m cp) (xs.set k u'))) is Rf)
    (h : TD P n F0 w0 ops lo Rf e (Rs.set j (OwnR T size E (.slice (some ⟨g, o, none⟩) m cp) (xs.set k u'))) Q) : TD P n F0 w0 ops (.e i lo) Rf e Rs Q := by
  refine TD.ef ho hw (Ef.stE j off hx hy hz hi hk hq hvz hf ho' hE) ?_
  rintro _ _ ⟨rfl, rfl⟩
  exact ⟨Rf, fun w hw => hw.sel is hf', fun _ h => h, h⟩
end
section
variable {α : Type} {E : Rd α} {T bytes k : Nat} {zv : Value} {u : α} {m : Int} {kl : IntKind} {d' : Nat}
end
theorem T.blen {α : Type} {E : Rd α} {A : Option Addr} {m cp size : Nat} {xs : List α} {B : Res} (i : Nat) (hi : Rs[i]? = some B) (hB : ∀ w G, B.P w G → (RX.of (sliceRd size E) [.slice A m cp] xs).P w G) (h : xs.length ≤ 9223372036854775807 → T P n F0 w0 e Rs c Q) : T P n F0 w0 e Rs c Q := by
  intro a w ha hs
  refine h ?_ a w ha hs
  obtain ⟨G, hG, _⟩ := hs.get i hi
  rcases hB w G hG with ⟨_, rfl⟩ | ⟨_, cap, _, h1, h2, _⟩
  · simp
  · have : maxLen = 9223372036854775807 := rfl
    omega
end
end Go.Proofs.Ytpiiopppbgpbpaa.Sl
namespace Go.Proofs.Ytpiiopppbgpbpaa.Sl
open Go.RowKit
set_option linter.unusedVariables false
set_option linter.unusedSimpArgs false
section
variable {P : Program} {n : Nat} {F0 : Nat → Prop} {w0 w : World} {e : Env} {Rs Rf : List Res} {Q : Exit → Act → World → Prop} {ops : Array Oper} {d : Option Tmp} {i : Nat} {ty t t' el : TypeId} {pos : String} {af : Array Edge} {gd : Option (Nat × Bool)} {v v' : Value} {x y ix : Operand} {L : List Nat} {lo : Sch} {c : Code} {S : World → Prop}
variable {T g k : Nat} {l : List Int} {u u' : Int}
end
def LW (P : Program) (c : Code) (Q : Exit → Act → World → Prop) (a : Act) (w : World) : Prop := ∀ b k cs, ∃ x a' w', Q x a' w' ∧ Arrives P (lone (b.at a (.code c :: .inLoop c :: k)) cs w) b k cs x a' w'
def TW (P : Program) (n : Nat) (F0 : Nat → Prop) (w0 : World) (e : Env) (Rs : List Res) (c : Code) (Q : Exit → Act → World → Prop) : Prop := ∀ a w, Has n e a → St F0 w0 Rs w → LW P c Q a w
section
variable {P : Program} {n : Nat} {F0 : Nat → Prop} {w0 : World} {e : Env} {Rs : List Res} {Q : Exit → Act → World → Prop} {c : Code}
theorem TW.step (h : T P n F0 w0 e Rs c (Exit.then (LW P c Q) Q)) : TW P n F0 w0 e Rs c Q := by
  intro a w ha hs b k cs
  obtain ⟨x, a₁, w₁, hq, harr⟩ := h a w ha hs b (.inLoop c :: k) cs
  cases x with
  | normal =>
    obtain ⟨x₂, a₂, w₂, hq₂, harr₂⟩ := hq b k cs
    exact ⟨x₂, a₂, w₂, hq₂, .of_steps (Steps.trans harr (.one step_inLoop)) harr₂⟩
  | exit id => exact ⟨_, a₁, w₁, hq, .pass (x := .inLoop c) rfl (fun _ _ => .inl (by simp)) harr⟩
  | goto l => exact ⟨_, a₁, w₁, hq, .pass (x := .inLoop c) rfl (fun _ _ => .inl (by simp)) harr⟩
  | ret => exact ⟨_, a₁, w₁, hq, .pass (x := .inLoop c) rfl (fun _ _ => .inl (by simp)) harr⟩
  | panic ch => exact ⟨_, a₁, w₁, hq, .pass (x := .inLoop c) rfl (fun _ _ => .inl (by simp)) harr⟩
  | outgrown => exact ⟨_, a₁, w₁, hq, .pass (x := .inLoop c) rfl (fun _ _ => .inl (by simp)) harr⟩
end
end Go.Proofs.Ytpiiopppbgpbpaa.Sl
namespace Go.Proofs.Ytpiiopppbgpbpaa.Sl
open Go.RowKit
set_option linter.unusedVariables false
set_option linter.unusedSimpArgs false
section
variable {α : Type} {size : Nat} {E : Rd α} {w : World} {S : Nat → Prop}
structure Plain (size : Nat) (E : Rd α) (cf : α → List Value) : Prop where
  eq : ∀ w S cs x, E.P w S cs x → cs = cf x
  len : ∀ x, (cf x).length = size
  all : ∀ w S x, E.P w S (cf x) x
  one : ∀ x, (cf x).all (·.oneCell') = true
theorem elems_many {cf : α → List Value} (hc : Plain size E cf) : ∀ (l : List α) {cs : List Value} {xs : List α}, elems size E w S cs xs → elems size E w S (cs ++ l.flatMap cf) (xs ++ l)
  | [], cs, xs, h => by simpa using h
  | x :: l, cs, xs, h => by
    have h1 := elems_snoc h (hc.len x) (hc.all w S x)
    have h2 := elems_many hc l h1
    simpa [List.flatMap_cons, List.append_assoc] using h2
theorem flat_len {cf : α → List Value} (hc : ∀ x, (cf x).length = size) : ∀ l : List α, (l.flatMap cf).length = l.length * size
  | [] => by simp
  | x :: l => by rw [List.flatMap_cons, List.length_append, hc, flat_len hc l, List.length_cons, Nat.add_mul, Nat.one_mul, Nat.add_comm]
theorem flat_get {cf : α → List Value} (hc : ∀ x, (cf x).length = size) (hp : 0 < size) : ∀ (l : List α) (j : Nat) (u : Value), (l.flatMap cf)[j]? = some u → ∃ x, l[j / size]? = some x ∧ (cf x)[j % size]? = some u
  | [], j, u, h => by simp at h
  | x :: l, j, u, h => by
    rw [List.flatMap_cons] at h
    by_cases c : j < size
    · rw [List.getElem?_append_left (by rw [hc]; exact c)] at h
      exact ⟨x, by rw [Nat.div_eq_of_lt c]; rfl, by rw [Nat.mod_eq_of_lt c]; exact h⟩
    · rw [List.getElem?_append_right (by rw [hc]; omega), hc] at h
      obtain ⟨y, h1, h2⟩ := flat_get hc hp l (j - size) u h
      refine ⟨y, ?_, ?_⟩
      · rw [Nat.div_eq_sub_div hp (by omega), List.getElem?_cons_succ]; exact h1
      · rw [Nat.mod_eq_sub_mod (by omega)]; exact h2
theorem OwnR.openN {F0 : Nat → Prop} {w0 : World} {Rs : List Res} {T : TypeId} {v : Value} {xs : List α} (i : Nat) (h : St F0 w0 Rs w) (hi : Rs[i]? = some (OwnR T size E v xs)) :
    ∃ cells, w.ownsRow 0 T size v xs.length cells ∧ ∀ v1 w1 news l, w1.ownsRow 0 T size v1 (xs.length + l.length) (cells ++ news) → w.grownBy w1 v.ownBlock → (v1.ownBlock = v.ownBlock ∨ ∃ k, v1.ownBlock = some k ∧ w.heap.size ≤ k) →
      (∀ w S cs, elems size E w S cs xs → elems size E w S (cs ++ news) (xs ++ l)) → St F0 w0 (Rs.set i (OwnR T size E v1 (xs ++ l))) w1 := by
  obtain ⟨f, hs⟩ := h
  obtain ⟨G, ⟨cells, S, h1, h2, h3, h4, h5⟩, hG, hr⟩ := Sep.pick i hi hs
  refine ⟨cells, h1, fun v1 w1 news l ho hg hat hl => ?_⟩
  have hne : ∀ k, S k → k < w.heap.size ∧ some k ≠ v.ownBlock := fun k hk => ⟨h3 k hk, fun e => h4 k e.symm hk⟩
  have hS1 : elems size E w1 S cells xs := elems_move h2 (fun k hk => hg.block k (hne k hk).1 (hne k hk).2)
  have hle := hg.size
  have f2 : Fr G w w1 := Fr.of_grown hg (fun k hk => (h5 k).2 (.inl hk))
  refine ⟨f.trans f2 hG, ?_⟩
  have hfs := f.size
  have hR : Sep (Rs.eraseIdx i) w1 (fun k => ((F0 k ∨ w0.heap.size ≤ k) ∧ ¬ G k) ∧ k < w.heap.size) := hr.inside.move (fun k hk _ => f2.block k hk.2 hk.1.2)
  refine Sep.back (G := fun k => v1.ownBlock = some k ∨ S k) i hi ⟨cells ++ news, S, ?_, hl _ _ _ hS1, fun k hk => Nat.lt_of_lt_of_le (h3 k hk) hle, ?_, fun _ => Iff.rfl⟩ ?_ (hR.mono (fun k hk => ⟨hk.1.1, ?_⟩))
  · rw [List.length_append]; exact ho
  · intro k hk
    rcases hat with e | ⟨k', e, hk'⟩
    · rw [e] at hk; exact h4 k hk
    · rw [e] at hk
      injection hk with hk
      subst hk
      intro hs'
      have := h3 _ hs'
      omega
  · rintro k (hk | hk)
    · rcases hat with e | ⟨k', e, hk'⟩
      · rw [e] at hk; exact hG k ((h5 k).2 (.inl hk))
      · rw [e] at hk
        injection hk with hk
        subst hk
        exact .inr (by omega)
    · exact hG k ((h5 k).2 (.inr hk))
  · rintro (h6 | h6)
    · rcases hat with e | ⟨k', e, hk'⟩
      · rw [e] at h6; exact hk.1.2 ((h5 k).2 (.inl h6))
      · rw [e] at h6
        injection h6 with h6
        subst h6
        have := hk.2
        omega
    · exact hk.1.2 ((h5 k).2 (.inr h6))
end
section
variable {P : Program} {n : Nat} {F0 : Nat → Prop} {w0 : World} {e : Env} {Rs Rf : List Res} {Q : Exit → Act → World → Prop} {ops : Array Oper} {d : Option Tmp} {i : Nat} {ty t : TypeId} {pos : String} {af : Array Edge} {gd : Option (Nat × Bool)} {sl x : Operand} {L : List Nat} {lo : Sch}
variable {α : Type} {E : Rd α} {cf : α → List Value} {T z bytes : Nat} {zv : Value} {A A2 : Option Addr} {c c2 : Nat} {l l2 : List α}
theorem Ef.appX (j : Nat) (hc : Plain z E cf) (hu : P.underlying t = some (.slice T)) (hinfo : (P.info? T).map (fun i => (i.zero, i.size, i.bytes)) = some (some zv, z, bytes)) (hzv : zv.cells.size = z) (hp : 0 < z)
    (hs : e.ev sl = some (.slice A l.length c)) (hx : e.ev x = some (.slice A2 l2.length c2)) (hX : (RX.of (sliceRd z E) [.slice A2 l2.length c2] l2).reads w0 F0) (hj : Rs[j]? = some (OwnR T z E (.slice A l.length c) l))
    (hb : (l.length + l2.length) * bytes ≤ 140737488355328) (hm : l.length + l2.length ≤ 140737488355328) (hd : okd d n = true) :
    Ef P n F0 w0 e Rs ⟨d, .call ⟨.builtin .append, #[sl, x], #[t, t]⟩, ty, pos, af, gd⟩ (fun e' Rs' => ∃ A' c', e' = envput d (.slice A' (l ++ l2).length c') e ∧ Rs' = Rs.set j (OwnR T z E (.slice A' (l ++ l2).length c') (l ++ l2))) := by
  intro a w K Q ha hst hk
  obtain ⟨ti, hi, hzz⟩ := Option.map_eq_some_iff.1 hinfo
  simp only [Prod.mk.injEq] at hzz
  obtain ⟨h0, h1, h2⟩ := hzz
  obtain ⟨cells, hown, hgo⟩ := OwnR.openN j hst hj
  have hX0 := hX
  obtain ⟨S, hXS, hSF⟩ := hX
  rcases hXS with ⟨hv, rfl⟩ | ⟨ad, cap, hv, _, _, hbk, hel⟩
  · injection hv with hv _
    injection hv with hv1 hv2 hv3
    subst hv1 hv3
    have hr := run_append_owned_none (P := P) (w := w) 0 t ty T ti z hu hi _ _ _ hown
    have h3 : (execOp a.eval ⟨d, .call ⟨.builtin .append, #[sl, x], #[t, t]⟩, ty, pos, af, gd⟩).run P w = .ok (.value (.slice A l.length c)) w := by
      rw [List.length_nil] at hx
      simp [execOp, resolve, invoke, builtin, ha.ev hs, ha.ev hx, hr]
    unfold Oper.wp
    rw [h3]
    refine hk _ _ ⟨A, c, rfl, rfl⟩ _ _ (by rw [List.append_nil]; exact ha.putd hd) ?_
    rw [List.append_nil]
    have e1 : Rs.set j (OwnR T z E (.slice A l.length c) l) = Rs := by
      apply List.ext_getElem?
      intro k
      rw [List.getElem?_set]
      by_cases ek : j = k
      · subst ek
        rw [if_pos rfl, hj, if_pos (List.getElem?_eq_some_iff.1 hj).1]
      · rw [if_neg ek]
    rw [e1]
    exact hst
  · injection hv with hv _
    injection hv with hv1 hv2 hv3
    subst hv1 hv3
    have hcell : ∀ q u, (l2.flatMap cf)[q]? = some u → w.cell? (ad.add q) = some u := by
      intro q u hq
      obtain ⟨y, g1, g2⟩ := flat_get hc.len hp l2 q u hq
      obtain ⟨g, o, hA, cs, k1, k2, k3, S2, k4, k5⟩ := RX.elem hp hX0 g1
      injection hA with hA
      subst hA
      have ecs := hc.eq _ _ _ _ k4
      subst ecs
      have hz : q % z < z := Nat.mod_lt _ hp
      have k6 := k2 (q % z) hz
      have hq2 : o + q / z * z + q % z = o + q := by
        have := Nat.div_add_mod q z
        rw [Nat.mul_comm] at this
        omega
      rw [hq2] at k6
      have hadd : (⟨g, o, none⟩ : Addr).add q = ⟨g, o + q, none⟩ := by unfold Addr.add; split <;> simp_all
      rw [hadd]
      exact hst.old2 k3 (k6.trans g2)
    have hones : ∀ u ∈ l2.flatMap cf, u.oneCell' = true := by
      intro u hu'
      obtain ⟨y, _, hy⟩ := List.mem_flatMap.1 hu'
      exact List.all_eq_true.1 (hc.one y) u hy
    obtain ⟨q', w', hr, k2, k3, _, k5⟩ := run_append_own_at (P := P) w 0 t ty T ti zv z bytes hu hi h0 h1 h2 hzv hp _ l.length cells hown ad l2.length c2 (l2.flatMap cf) (flat_len hc.len l2) hcell hones (by simp only [maxLen]; omega) hb (Nat.zero_le _)
    have h3 : (execOp a.eval ⟨d, .call ⟨.builtin .append, #[sl, x], #[t, t]⟩, ty, pos, af, gd⟩).run P w = .ok (.value q') w' := by
      simp [execOp, resolve, invoke, builtin, ha.ev hs, ha.ev hx, hr]
    have hst' := hgo q' w' (l2.flatMap cf) l2 k2 k3 (k5.imp id (fun h => ⟨_, h, Nat.le_refl _⟩)) (fun w S cs h => elems_many hc l2 h)
    obtain ⟨A', c', hq⟩ : ∃ A' c', q' = .slice A' (l ++ l2).length c' := by
      rw [List.length_append]
      rcases k2.2 with ⟨hq, hn⟩ | ⟨g, cap', cur, hq, _⟩
      · exact ⟨none, 0, by rw [hq, hn]⟩
      · exact ⟨_, _, hq⟩
    subst hq
    unfold Oper.wp
    rw [h3]
    exact hk _ _ ⟨A', c', rfl, rfl⟩ _ _ (ha.putd hd) hst'
theorem TL.appX {d : Nat} (j : Nat) (ho : ops[i]? = some ⟨some d, .call ⟨.builtin .append, #[sl, x], #[t, t]⟩, ty, pos, af, gd⟩) (hw : Wd n ops e ⟨some d, .call ⟨.builtin .append, #[sl, x], #[t, t]⟩, ty, pos, af, gd⟩ true) (hc : Plain z E cf) (hu : P.underlying t = some (.slice T)) (hinfo : (P.info? T).map (fun i => (i.zero, i.size, i.bytes)) = some (some zv, z, bytes)) (hzv : zv.cells.size = z) (hp : 0 < z)
    (hs : e.ev sl = some (.slice A l.length c)) (hx : e.ev x = some (.slice A2 l2.length c2)) (hX : (RX.of (sliceRd z E) [.slice A2 l2.length c2] l2).reads w0 F0) (hj : Rs[j]? = some (OwnR T z E (.slice A l.length c) l))
    (hb : (l.length + l2.length) * bytes ≤ 140737488355328) (hm : l.length + l2.length ≤ 140737488355328) (hd : Nat.blt d n = true)
    (h : ∀ A' c', TL P n F0 w0 ops L ((d, .slice A' (l ++ l2).length c') :: e) (Rs.set j (OwnR T z E (.slice A' (l ++ l2).length c') (l ++ l2))) Q) : TL P n F0 w0 ops (i :: L) e Rs Q := by
  refine TL.ef ho hw (Ef.appX j hc hu hinfo hzv hp hs hx hX hj hb hm hd) ?_
  rintro _ _ ⟨A', c', rfl, rfl⟩
  exact h A' c'
end
end Go.Proofs.Ytpiiopppbgpbpaa.Sl
namespace Go.Proofs.Ytpiiopppbgpbpaa.Sl
open Go.RowKit
set_option linter.unusedVariables false
set_option linter.unusedSimpArgs false
set_option maxRecDepth 100000
def ft_cursitorlaw04 : FTab := [(70, 0, 0), (70, 1, 1)]
theorem ft_cursitorlaw04_ok : (ft_cursitorlaw04).OK Try.prog := ⟨FOK.mk Try.runUnderlying70 rfl Try.sizeOf4 rfl, FOK.mk Try.runUnderlying70 rfl Try.sizeOf9 rfl, trivial⟩
theorem flat_cursitorlaw04_70 : Flat Try.prog 2 70 [.bool, .string] true := (Flat.struct Try.isAgg70 Try.sizeOf70 rfl Try.underlying70 Try.stoodInHeld70 ⟨by decide, rfl, [.bool], [.string], false, rfl, (Flat.one_ Try.isAgg4 Try.sizeOf4 Try.underlying4), ⟨by decide, rfl, [.string], [], false, rfl, (Flat.one_ Try.isAgg9 Try.sizeOf9 Try.underlying9), rfl⟩⟩)
theorem bok_cursitorlaw04_70 : BOK Try.prog 70 #[.bool false, .string ⟨#[]⟩] [(0, 1), (1, 1)] := BOK.mk Try.zeroValue70 Try.runUnderlying70 (by intro w; simp)
theorem sok_cursitorlaw04_68_0 : SOK Try.prog 68 70 0 2 #[] := SOK.mk0 Try.runUnderlying68 Try.sizeOf70
theorem inf_cursitorlaw04_70 : (Try.prog.info? 70).map (fun i => (i.zero, i.size, i.bytes)) = some (some (.agg #[.bool false, .string ⟨#[]⟩]), 2, 24) := by kernel_rfl
def f_l04_speaks  : Option (Bool) := (gNone).bind fun x2 => (gPutFixed ([], 0) x2 2).bind fun st4 => (gOf [97]).bind fun x6 => (gPutVaried st4 x6).bind fun st8 => (gOText st8).bind fun (x10, x11, st12) => (gNew x10).bind fun st14 => if x11 = 0 then (if x10 = [255, 255, 2, 97] then ((gFixed st14 2).bind fun (x19, st20) => if x19.null = true then (if x19.data = [] then ((gVaried st20).bind fun (x24, st25) => if x24.null = true then some false else (if x24.data = [97] then ((gRight (⟨true, [97]⟩ : Bl)).bind fun x29 => if x29 = true then some false else some true) else some false)) else some false) else some false) else some false) else some false
set_option maxRecDepth 100000 in
set_option maxHeartbeats 4000000 in
theorem f_l04_speaks_spec  (r : Bool) (h : f_l04_speaks  = some r) : SpecX Try.prog 39 #[] .triv (EmpR) (fun v A' N => v = .bool r ∧ A' = EmpR ∧ N = []) := by
  refine enterA Try.func39 rfl Try.ntmps39 rfl ?_
  intro F w hX
  unfold f_l04_speaks at h
  refine T.seq (T.region rfl ?_)
  refine TL.run ft_cursitorlaw04_ok [0] rfl rfl ?_
  refine TL.nil (X.seq (T.seq (T.region rfl ?_)))
  refine TL.newout rfl .u Try.zeroValue42 rfl (fun b1 => ?_)
  obtain ⟨x2, hx3, h⟩ := Option.bind_eq_some_iff.1 h
  refine TL.nil (X.seq (T.seq (T.region rfl ?_)))
  refine TL.ce rfl .u (.fn Try.call80 rfl) (gNone_spec _ hx3) (fun _ hs => (RX.reads_triv _ _)) rfl ?_
  obtain ⟨st4, hx5, h⟩ := Option.bind_eq_some_iff.1 h
  refine TL.c0 rfl .u (.fn Try.call40 rfl) (gPutFixed_spec b1 ([], 0) x2 2 _ hx5) (fun _ hs => (Src.triv _)) rfl ?_
  obtain ⟨x6, hx7, h⟩ := Option.bind_eq_some_iff.1 h
  refine TL.nil (X.seq (T.seq (T.region rfl ?_)))
  refine TL.ce rfl .u (.fn Try.call46 rfl) (gOf_spec [97] _ hx7) (fun _ hs => (RX.reads_triv _ _)) rfl ?_
  obtain ⟨st8, hx9, h⟩ := Option.bind_eq_some_iff.1 h
  refine TL.c0 rfl .u (.fn Try.call41 rfl) (gPutVaried_spec b1 st4 x6 _ hx9) (fun _ hs => (Src.triv _)) rfl ?_
  obtain ⟨⟨x10, x11, st12⟩, hx13, h⟩ := Option.bind_eq_some_iff.1 h
  try dsimp only at h
  refine TL.nil (X.seq (T.seq (T.region rfl ?_)))
  refine TL.c0 rfl .u (.fn Try.call24 rfl) (gOText_spec b1 st8 _ hx13) (fun _ hs => (Src.triv _)) rfl ?_
  refine TL.run ft_cursitorlaw04_ok [1, 2, 3, 4, 5] rfl rfl ?_
  refine TL.nil (X.seq (T.seq (T.region rfl ?_)))
  obtain ⟨st14, hx15, h⟩ := Option.bind_eq_some_iff.1 h
  refine TL.run ft_cursitorlaw04_ok [0] rfl rfl ?_
  refine TL.cge rfl .u (.fn Try.call27 rfl) (gNew_spec x10 _ hx15) (fun _ hs => (RX.reads_triv _ _)) rfl ?_
  rintro _ _ _ ⟨b16, rfl, rfl, rfl⟩
  refine TL.sel [0, 0, 0] rfl ?_
  refine TL.run ft_cursitorlaw04_ok [2] rfl rfl ?_
  refine TL.nil (X.seq (T.seq (T.region rfl ?_)))
  by_cases c17 : x11 = 0
  · replace h := ifT c17 h
    refine TL.run ft_cursitorlaw04_ok [0, 1, 2] rfl rfl ?_
    refine TL.q rfl (.g rfl rfl (decide_eq_true c17)) (Ex.ft ft_cursitorlaw04_ok rfl) rfl ?_
    refine TL.q rfl (.g rfl rfl (decide_eq_true c17)) (Ex.sEq rfl (m := [255, 255, 2, 97]) rfl) rfl ?_
    refine TL.q rfl .u (Ex.py rfl (decide_eq_true c17) rfl) rfl ?_
    by_cases c18 : x10 = [255, 255, 2, 97]
    · replace h := ifT c18 h
      refine TL.run ft_cursitorlaw04_ok [6] rfl rfl ?_
      refine TL.q rfl (.g rfl rfl (decide_eq_true c18)) (Ex.ft ft_cursitorlaw04_ok rfl) rfl ?_
      refine TL.q rfl (.g rfl rfl (decide_eq_true c18)) (Ex.pNe (.inr ⟨rfl, rfl⟩) rfl rfl Try.runUnderlying50) rfl ?_
      refine TL.q rfl .u (Ex.py rfl (decide_eq_true c18) rfl) rfl ?_
      refine TL.run ft_cursitorlaw04_ok [10] rfl rfl ?_
      refine TL.q rfl (.g rfl rfl rfl) (Ex.ft ft_cursitorlaw04_ok rfl) rfl ?_
      obtain ⟨⟨x19, st20⟩, hx21, h⟩ := Option.bind_eq_some_iff.1 h
      try dsimp only at h
      refine TL.c0 rfl (.g rfl rfl rfl) (.fn Try.call44 rfl) (gFixed_spec b16 st14 2 _ hx21) (fun _ hs => (Src.triv _)) rfl ?_
      refine TL.q rfl (.g rfl rfl rfl) (Ex.bld (cells := #[.bool true, .string ⟨#[]⟩]) bok_cursitorlaw04_70 rfl (by kernel_rfl)) rfl ?_
      by_cases c22 : x19.null = true
      · replace h := ifT c22 h
        by_cases c23 : x19.data = []
        · replace h := ifT c23 h
          refine TL.q rfl (.g rfl rfl rfl) (Ex.aEq (us := [.bool x19.null, .string (bsOf x19.data)]) (vs := [.bool true, .string ⟨#[]⟩]) flat_cursitorlaw04_70 rfl Try.eqGuardType70 rfl rfl rfl rfl (eqL_t (eqV_b (c22.trans (Eq.symm rfl))) (eqL_t (eqV_s (l := x19.data) (m := []) c23) rfl))) rfl ?_
          refine TL.q rfl .u (Ex.py rfl rfl rfl) rfl ?_
          refine TL.run ft_cursitorlaw04_ok [16] rfl rfl ?_
          refine TL.q rfl (.g rfl rfl rfl) (Ex.ft ft_cursitorlaw04_ok rfl) rfl ?_
          obtain ⟨⟨x24, st25⟩, hx26, h⟩ := Option.bind_eq_some_iff.1 h
          try dsimp only at h
          refine TL.c0 rfl (.g rfl rfl rfl) (.fn Try.call45 rfl) (gVaried_spec b16 st20 _ hx26) (fun _ hs => (Src.triv _)) rfl ?_
          refine TL.q rfl (.g rfl rfl rfl) (Ex.bld (cells := #[.bool false, .string ⟨#[97]⟩]) bok_cursitorlaw04_70 rfl (by kernel_rfl)) rfl ?_
          by_cases c27 : x24.null = true
          · replace h := ifT c27 h
            refine TL.q rfl (.g rfl rfl rfl) (Ex.aEq (us := [.bool x24.null, .string (bsOf x24.data)]) (vs := [.bool false, .string ⟨#[97]⟩]) flat_cursitorlaw04_70 rfl Try.eqGuardType70 rfl rfl rfl rfl (eqL_f (eqV_bn (fun h => absurd ((Eq.symm c27).trans (h.trans rfl)) (by decide))))) rfl ?_
            refine TL.q rfl .u (Ex.py rfl rfl rfl) rfl ?_
            refine TL.run ft_cursitorlaw04_ok [22] rfl rfl ?_
            refine TL.no rfl (.gn rfl rfl rfl) rfl ?_
            refine TL.no rfl (.gn rfl rfl rfl) rfl ?_
            refine TL.no rfl (.gn rfl rfl rfl) rfl ?_
            refine TL.q rfl .u (Ex.pn rfl rfl rfl) rfl ?_
            refine TL.run ft_cursitorlaw04_ok [27] rfl rfl ?_
            obtain rfl := Option.some.inj h
            exact TL.nil (X.seq (T.ret (X.done1 [2] Try.results39 (RV.tm rfl) ⟨rfl, rfl, rfl⟩ (by rfl) (.inl rfl))))
          · replace h := ifF c27 h
            replace c27 := eq_false_of_ne_true c27
            by_cases c28 : x24.data = [97]
            · replace h := ifT c28 h
              refine TL.q rfl (.g rfl rfl rfl) (Ex.aEq (us := [.bool x24.null, .string (bsOf x24.data)]) (vs := [.bool false, .string ⟨#[97]⟩]) flat_cursitorlaw04_70 rfl Try.eqGuardType70 rfl rfl rfl rfl (eqL_t (eqV_b (c27.trans (Eq.symm rfl))) (eqL_t (eqV_s (l := x24.data) (m := [97]) c28) rfl))) rfl ?_
              refine TL.q rfl .u (Ex.py rfl rfl rfl) rfl ?_
              refine TL.run ft_cursitorlaw04_ok [22] rfl rfl ?_
              refine TL.q rfl (.g rfl rfl rfl) (Ex.bld (cells := #[.bool true, .string ⟨#[97]⟩]) bok_cursitorlaw04_70 rfl (by kernel_rfl)) rfl ?_
              obtain ⟨x29, hx30, h⟩ := Option.bind_eq_some_iff.1 h
              refine TL.ce rfl (.g rfl rfl rfl) (.fn Try.call81 rfl) (gRight_spec (⟨true, [97]⟩ : Bl) _ hx30) (fun _ hs => (RX.reads_triv _ _)) rfl ?_
              refine TL.q rfl (.g rfl rfl rfl) (Ex.ft ft_cursitorlaw04_ok rfl) rfl ?_
              refine TL.q rfl .u (Ex.py rfl rfl rfl) rfl ?_
              refine TL.run ft_cursitorlaw04_ok [27] rfl rfl ?_
              by_cases c31 : x29 = true
              · replace h := ifT c31 h
                obtain rfl := Option.some.inj h
                exact TL.nil (X.seq (T.ret (X.done1 [2] Try.results39 (RV.tm (v := .bool false) (congrArg (fun b => some (Value.bool b)) (bn_f c31))) ⟨rfl, rfl, rfl⟩ (by rfl) (.inl rfl))))
              · replace h := ifF c31 h
                replace c31 := eq_false_of_ne_true c31
                obtain rfl := Option.some.inj h
                exact TL.nil (X.seq (T.ret (X.done1 [2] Try.results39 (RV.tm (v := .bool true) (congrArg (fun b => some (Value.bool b)) (bn_t c31))) ⟨rfl, rfl, rfl⟩ (by rfl) (.inl rfl))))
            · replace h := ifF c28 h
              refine TL.q rfl (.g rfl rfl rfl) (Ex.aEq (us := [.bool x24.null, .string (bsOf x24.data)]) (vs := [.bool false, .string ⟨#[97]⟩]) flat_cursitorlaw04_70 rfl Try.eqGuardType70 rfl rfl rfl rfl (eqL_t (eqV_b (c27.trans (Eq.symm rfl))) (eqL_f (eqV_sn (l := x24.data) (m := [97]) c28)))) rfl ?_
              refine TL.q rfl .u (Ex.py rfl rfl rfl) rfl ?_
              refine TL.run ft_cursitorlaw04_ok [22] rfl rfl ?_
              refine TL.no rfl (.gn rfl rfl rfl) rfl ?_
              refine TL.no rfl (.gn rfl rfl rfl) rfl ?_
              refine TL.no rfl (.gn rfl rfl rfl) rfl ?_
              refine TL.q rfl .u (Ex.pn rfl rfl rfl) rfl ?_
              refine TL.run ft_cursitorlaw04_ok [27] rfl rfl ?_
              obtain rfl := Option.some.inj h
              exact TL.nil (X.seq (T.ret (X.done1 [2] Try.results39 (RV.tm rfl) ⟨rfl, rfl, rfl⟩ (by rfl) (.inl rfl))))
        · replace h := ifF c23 h
          refine TL.q rfl (.g rfl rfl rfl) (Ex.aEq (us := [.bool x19.null, .string (bsOf x19.data)]) (vs := [.bool true, .string ⟨#[]⟩]) flat_cursitorlaw04_70 rfl Try.eqGuardType70 rfl rfl rfl rfl (eqL_t (eqV_b (c22.trans (Eq.symm rfl))) (eqL_f (eqV_sn (l := x19.data) (m := []) c23)))) rfl ?_
          refine TL.q rfl .u (Ex.py rfl rfl rfl) rfl ?_
          refine TL.run ft_cursitorlaw04_ok [16] rfl rfl ?_
          refine TL.no rfl (.gn rfl rfl rfl) rfl ?_
          refine TL.no rfl (.gn rfl rfl rfl) rfl ?_
          refine TL.no rfl (.gn rfl rfl rfl) rfl ?_
          refine TL.no rfl (.gn rfl rfl rfl) rfl ?_
          refine TL.q rfl .u (Ex.pn rfl rfl rfl) rfl ?_
          refine TL.run ft_cursitorlaw04_ok [22] rfl rfl ?_
          refine TL.no rfl (.gn rfl rfl rfl) rfl ?_
          refine TL.no rfl (.gn rfl rfl rfl) rfl ?_
          refine TL.no rfl (.gn rfl rfl rfl) rfl ?_
          refine TL.q rfl .u (Ex.pn rfl rfl rfl) rfl ?_
          refine TL.run ft_cursitorlaw04_ok [27] rfl rfl ?_
          obtain rfl := Option.some.inj h
          exact TL.nil (X.seq (T.ret (X.done1 [2] Try.results39 (RV.tm rfl) ⟨rfl, rfl, rfl⟩ (by rfl) (.inl rfl))))
      · replace h := ifF c22 h
        replace c22 := eq_false_of_ne_true c22
        refine TL.q rfl (.g rfl rfl rfl) (Ex.aEq (us := [.bool x19.null, .string (bsOf x19.data)]) (vs := [.bool true, .string ⟨#[]⟩]) flat_cursitorlaw04_70 rfl Try.eqGuardType70 rfl rfl rfl rfl (eqL_f (eqV_bn (fun h => absurd ((Eq.symm c22).trans (h.trans rfl)) (by decide))))) rfl ?_
        refine TL.q rfl .u (Ex.py rfl rfl rfl) rfl ?_
        refine TL.run ft_cursitorlaw04_ok [16] rfl rfl ?_
        refine TL.no rfl (.gn rfl rfl rfl) rfl ?_
        refine TL.no rfl (.gn rfl rfl rfl) rfl ?_
        refine TL.no rfl (.gn rfl rfl rfl) rfl ?_
        refine TL.no rfl (.gn rfl rfl rfl) rfl ?_
        refine TL.q rfl .u (Ex.pn rfl rfl rfl) rfl ?_
        refine TL.run ft_cursitorlaw04_ok [22] rfl rfl ?_
        refine TL.no rfl (.gn rfl rfl rfl) rfl ?_
        refine TL.no rfl (.gn rfl rfl rfl) rfl ?_
        refine TL.no rfl (.gn rfl rfl rfl) rfl ?_
        refine TL.q rfl .u (Ex.pn rfl rfl rfl) rfl ?_
        refine TL.run ft_cursitorlaw04_ok [27] rfl rfl ?_
        obtain rfl := Option.some.inj h
        exact TL.nil (X.seq (T.ret (X.done1 [2] Try.results39 (RV.tm rfl) ⟨rfl, rfl, rfl⟩ (by rfl) (.inl rfl))))
    · replace h := ifF c18 h
      refine TL.run ft_cursitorlaw04_ok [6] rfl rfl ?_
      refine TL.no rfl (.gn rfl rfl (decide_eq_false c18)) rfl ?_
      refine TL.no rfl (.gn rfl rfl (decide_eq_false c18)) rfl ?_
      refine TL.q rfl .u (Ex.pn rfl (decide_eq_false c18) rfl) rfl ?_
      refine TL.run ft_cursitorlaw04_ok [10] rfl rfl ?_
      refine TL.no rfl (.gn rfl rfl rfl) rfl ?_
      refine TL.no rfl (.gn rfl rfl rfl) rfl ?_
      refine TL.no rfl (.gn rfl rfl rfl) rfl ?_
      refine TL.no rfl (.gn rfl rfl rfl) rfl ?_
      refine TL.q rfl .u (Ex.pn rfl rfl rfl) rfl ?_
      refine TL.run ft_cursitorlaw04_ok [16] rfl rfl ?_
      refine TL.no rfl (.gn rfl rfl rfl) rfl ?_
      refine TL.no rfl (.gn rfl rfl rfl) rfl ?_
      refine TL.no rfl (.gn rfl rfl rfl) rfl ?_
      refine TL.no rfl (.gn rfl rfl rfl) rfl ?_
      refine TL.q rfl .u (Ex.pn rfl rfl rfl) rfl ?_
      refine TL.run ft_cursitorlaw04_ok [22] rfl rfl ?_
      refine TL.no rfl (.gn rfl rfl rfl) rfl ?_
      refine TL.no rfl (.gn rfl rfl rfl) rfl ?_
      refine TL.no rfl (.gn rfl rfl rfl) rfl ?_
      refine TL.q rfl .u (Ex.pn rfl rfl rfl) rfl ?_
      refine TL.run ft_cursitorlaw04_ok [27] rfl rfl ?_
      obtain rfl := Option.some.inj h
      exact TL.nil (X.seq (T.ret (X.done1 [2] Try.results39 (RV.tm rfl) ⟨rfl, rfl, rfl⟩ (by rfl) (.inl rfl))))
  · replace h := ifF c17 h
    refine TL.run ft_cursitorlaw04_ok [0, 1, 2] rfl rfl ?_
    refine TL.no rfl (.gn rfl rfl (decide_eq_false c17)) rfl ?_
    refine TL.no rfl (.gn rfl rfl (decide_eq_false c17)) rfl ?_
    refine TL.q rfl .u (Ex.pn rfl (decide_eq_false c17) rfl) rfl ?_
    refine TL.run ft_cursitorlaw04_ok [6] rfl rfl ?_
    refine TL.no rfl (.gn rfl rfl rfl) rfl ?_
    refine TL.no rfl (.gn rfl rfl rfl) rfl ?_
    refine TL.q rfl .u (Ex.pn rfl rfl rfl) rfl ?_
    refine TL.run ft_cursitorlaw04_ok [10] rfl rfl ?_
    refine TL.no rfl (.gn rfl rfl rfl) rfl ?_
    refine TL.no rfl (.gn rfl rfl rfl) rfl ?_
    refine TL.no rfl (.gn rfl rfl rfl) rfl ?_
    refine TL.no rfl (.gn rfl rfl rfl) rfl ?_
    refine TL.q rfl .u (Ex.pn rfl rfl rfl) rfl ?_
    refine TL.run ft_cursitorlaw04_ok [16] rfl rfl ?_
    refine TL.no rfl (.gn rfl rfl rfl) rfl ?_
    refine TL.no rfl (.gn rfl rfl rfl) rfl ?_
    refine TL.no rfl (.gn rfl rfl rfl) rfl ?_
    refine TL.no rfl (.gn rfl rfl rfl) rfl ?_
    refine TL.q rfl .u (Ex.pn rfl rfl rfl) rfl ?_
    refine TL.run ft_cursitorlaw04_ok [22] rfl rfl ?_
    refine TL.no rfl (.gn rfl rfl rfl) rfl ?_
    refine TL.no rfl (.gn rfl rfl rfl) rfl ?_
    refine TL.no rfl (.gn rfl rfl rfl) rfl ?_
    refine TL.q rfl .u (Ex.pn rfl rfl rfl) rfl ?_
    refine TL.run ft_cursitorlaw04_ok [27] rfl rfl ?_
    obtain rfl := Option.some.inj h
    exact TL.nil (X.seq (T.ret (X.done1 [2] Try.results39 (RV.tm rfl) ⟨rfl, rfl, rfl⟩ (by rfl) (.inl rfl))))
def f_l04_BlobBack_l2 (a1 : List Int) : List Bl → Bool → Nat → I → Option (Lp Bool (Bool × I))
  | [], y200, k201, st202 => some (Lp.go (y200, st202))
  | x207 :: xs, y200, k201, st202 => (a1[k201]?).bind fun x365 => if 0 ≤ x365 then ((if (x365 % 4) = 0 then ((gFixed st202 4).bind fun (x444, st445) => some (x444.null, x444.data, x207.null, st445)) else ((if (x365 % 4) = 1 then ((gVaried st202).bind fun (x483, st484) => some (x483.null, x483.data, x207.null, st484)) else ((if (x365 % 4) = 2 then ((gText st202).bind fun (x502, st503) => (gOf x502).bind fun x505 => some (x505.null, x505.data, st503)) else ((gName st202).bind fun (x507, st508) => (gOf x507).bind fun x510 => some (x510.null, x510.data, st508))).bind fun (y497, y498, st499) => some (y497, y498, false, st499))).bind fun (y477, y478, y479, st480) => some (y477, y478, y479, st480))).bind fun (y438, y439, y440, st441) => if y438 = y440 then (if y439 = x207.data then (f_l04_BlobBack_l2 a1 xs y200 (k201 + 1) st441) else none) else none) else none
def f_l04_BlobBack_l1 (a0 : List Bl) (a1 : List Int) : Nat → List Bl → Bool → Nat → (List UInt8 × Int) → Option (Lp Bool (List Bl × Bool × Nat × (List UInt8 × Int)))
  | 0, _, _, _, _ => none
  | m28 + 1, y19, y22, k23, st24 => if (k23 : Int) < ((([] : List Bl) ++ a0).length : Int) then ((y19[k23]?).bind fun x33 => if (x33.data.length : Int) > 120 then some (Lp.ret true) else (if x33.null = true then ((a1[k23]?).bind fun x39 => if 0 ≤ x39 then ((if (x39 % 4) = 0 then ((gPutFixed st24 (⟨x33.null, []⟩ : Bl) 4).bind fun st81 => some st81) else ((if (x39 % 4) = 1 then ((gPutVaried st24 (⟨x33.null, []⟩ : Bl)).bind fun st101 => some st101) else ((if (x39 % 4) = 2 then ((gPutText st24 []).bind fun st111 => some st111) else ((gPutName st24 []).bind fun st113 => some st113)).bind fun st108 => some st108)).bind fun st98 => some st98)).bind fun st78 => if -9223372036854775808 ≤ ((k23 : Int) + 1) ∧ ((k23 : Int) + 1) ≤ 9223372036854775807 then (f_l04_BlobBack_l1 a0 a1 m28 (y19.set k23 (⟨x33.null, []⟩ : Bl)) y22 (k23 + 1) st78) else none) else none) else ((a1[k23]?).bind fun x116 => if 0 ≤ x116 then ((if (x116 % 4) = 0 then ((gPutFixed st24 x33 4).bind fun st158 => some st158) else ((if (x116 % 4) = 1 then ((gPutVaried st24 x33).bind fun st178 => some st178) else ((if (x116 % 4) = 2 then ((gPutText st24 x33.data).bind fun st188 => some st188) else ((gPutName st24 x33.data).bind fun st190 => some st190)).bind fun st185 => some st185)).bind fun st175 => some st175)).bind fun st155 => if -9223372036854775808 ≤ ((k23 : Int) + 1) ∧ ((k23 : Int) + 1) ≤ 9223372036854775807 then (f_l04_BlobBack_l1 a0 a1 m28 y19 y22 (k23 + 1) st155) else none) else none))) else (some (Lp.go (y19, y22, k23, st24)))
def f_l04_BlobBack (a0 : List Bl) (a1 : List Int) : Option (Bool) := (f_l04_speaks).bind fun x5 => if x5 = true then ((if (a0.length : Int) > 30 then some true else (if (a1.length : Int) < (a0.length : Int) then some true else some false)).bind fun y9 => if y9 = true then some true else (if (([] : List Bl).length + a0.length) * 24 ≤ 140737488355328 then ((f_l04_BlobBack_l1 a0 a1 ((((([] : List Bl) ++ a0).length : Int)).toNat + 1) (([] : List Bl) ++ a0) false 0 ([], 0)).bind fun e => match e with | .ret r => some r | .go (y541, y544, k545, st546) => ((gOText st546).bind fun (x547, x548, st549) => (gNew x547).bind fun st551 => (f_l04_BlobBack_l2 a1 y541 y544 0 st551).bind fun e => match e with | .ret r => some r | .go (y868, st870) => ((if x548 = 0 then ((gClose st870).bind fun (x879, st880) => if x879 = 0 then some (true, st880) else some (false, st880)) else some (false, st870)).bind fun (y875, st876) => some y875))) else none)) else none
set_option maxRecDepth 100000 in
set_option maxHeartbeats 4000000 in
theorem f_l04_BlobBack_spec (a0 : List Bl) (A1 : Option Addr) (c2 : Nat) (a1 : List Int) (A3 : Option Addr) (c4 : Nat) (r : Bool) (h : f_l04_BlobBack a0 a1 = some r) : SpecX Try.prog 7 #[.slice A1 a0.length c2, .slice A3 a1.length c4] (RX.and (RX.of (sliceRd 2 Bl_rd) [.slice A1 a0.length c2] a0) (RX.of (sliceRd 1 u8E) [.slice A3 a1.length c4] a1)) (EmpR) (fun v A' N => v = .bool r ∧ A' = EmpR ∧ N = []) := by
  refine enterA Try.func7 rfl Try.ntmps7 rfl ?_
  intro F w hX
  unfold f_l04_BlobBack at h
  refine T.seq (T.region rfl ?_)
  refine TL.run ft_cursitorlaw04_ok [0] rfl rfl ?_
  obtain ⟨x5, hx6, h⟩ := Option.bind_eq_some_iff.1 h
  refine TL.nil (X.seq (T.seq (T.seq (T.region rfl ?_))))
  refine TL.ce rfl .u (.fn Try.call39 rfl) (f_l04_speaks_spec _ hx6) (fun _ hs => (RX.reads_triv _ _)) rfl ?_
  refine TL.run ft_cursitorlaw04_ok [1] rfl rfl ?_
  by_cases c7 : x5 = true
  · replace h := ifT c7 h
    refine TL.nil (X.seq ?_)
    refine T.no rfl (bn_f c7) ?_
    refine T.skip (X.seq (T.seq (T.seq ?_)))
    obtain ⟨y9, h, hk10⟩ := Option.bind_eq_some_iff.1 h
    refine T.jq (fun e Rs => e = [(0, .slice A1 a0.length c2), (1, .slice A3 a1.length c4), (4, .bool false), (25, .bool y9)] ∧ Rs = [EmpR]) ?_ ?_
    · clear hk10
      refine T.region rfl ?_
      refine TL.run ft_cursitorlaw04_ok [0] rfl rfl ?_
      refine TL.q rfl .u (Ex.lenS rfl Try.runUnderlying68) rfl ?_
      by_cases c11 : (a0.length : Int) > 30
      · replace h := ifT c11 h
        refine TL.run ft_cursitorlaw04_ok [2, 3] rfl rfl ?_
        refine TL.no rfl (.gn rfl rfl (decide_eq_true c11)) rfl ?_
        refine TL.no rfl (.gn rfl rfl (decide_eq_true c11)) rfl ?_
        refine TL.no rfl (.gn rfl rfl (decide_eq_true c11)) rfl ?_
        refine TL.no rfl (.gn rfl rfl (decide_eq_true c11)) rfl ?_
        refine TL.no rfl (.gn rfl rfl (decide_eq_true c11)) rfl ?_
        refine TL.q rfl .u (Ex.py rfl (decide_eq_true c11) rfl) rfl ?_
        cases h
        exact TL.nil (X.jq [0] ⟨rfl, rfl⟩ (by rfl) (by rfl))
      · replace h := ifF c11 h
        refine TL.run ft_cursitorlaw04_ok [2, 3] rfl rfl ?_
        refine TL.q rfl (.g rfl rfl (decide_eq_false c11)) (Ex.ft ft_cursitorlaw04_ok rfl) rfl ?_
        refine TL.q rfl (.g rfl rfl (decide_eq_false c11)) (Ex.lenS rfl Try.runUnderlying39) rfl ?_
        refine TL.q rfl (.g rfl rfl (decide_eq_false c11)) (Ex.ft ft_cursitorlaw04_ok rfl) rfl ?_
        refine TL.q rfl (.g rfl rfl (decide_eq_false c11)) (Ex.lenS rfl Try.runUnderlying68) rfl ?_
        refine TL.q rfl (.g rfl rfl (decide_eq_false c11)) (Ex.ft ft_cursitorlaw04_ok rfl) rfl ?_
        refine TL.q rfl .u (Ex.pn rfl (decide_eq_false c11) rfl) rfl ?_
        by_cases c12 : (a1.length : Int) < (a0.length : Int)
        · replace h := ifT c12 h
          cases h
          exact TL.nil (X.as (d := 25) (v' := .bool true) rfl (congrArg Value.bool (decide_eq_true c12)) (X.jq [0] ⟨rfl, rfl⟩ (by rfl) (by rfl)))
        · replace h := ifF c12 h
          cases h
          exact TL.nil (X.as (d := 25) (v' := .bool false) rfl (congrArg Value.bool (decide_eq_false c12)) (X.jq [0] ⟨rfl, rfl⟩ (by rfl) (by rfl)))
    · rintro _ _ ⟨rfl, rfl⟩
      clear h
      have h := hk10
      clear hk10
      try dsimp only at h
      by_cases c13 : y9 = true
      · replace h := ifT c13 h
        refine X.seq ?_
        refine T.yes rfl c13 ?_
        refine T.seq (T.region rfl ?_)
        refine TL.run ft_cursitorlaw04_ok [0] rfl rfl ?_
        obtain rfl := Option.some.inj h
        exact TL.nil (X.seq (T.ret (X.rs (X.done1 [0] Try.results7 (RV.tm rfl) ⟨rfl, rfl, rfl⟩ (by rfl) (.inl rfl)))))
      · replace h := ifF c13 h
        replace c13 := eq_false_of_ne_true c13
        refine X.seq ?_
        refine T.no rfl c13 ?_
        refine T.skip (X.seq (T.seq (T.region rfl ?_)))
        refine TL.lit (cells := #[]) rfl .u sok_cursitorlaw04_68_0 rfl (by rfl) rfl (fun b14 => ?_)
        refine TL.rowOf (us := []) (xs := ([] : List Bl)) (E := Bl_rd) (z := 2) rfl (Nat.le_of_ble_eq_true rfl) (fun _ => rfl) ?_
        replace h := guard_some h
        obtain ⟨c15, h⟩ := h
        refine TL.run ft_cursitorlaw04_ok [1] rfl rfl ?_
        refine TL.appX (cf := fun x : Bl => [.bool x.null, .string (bsOf x.data)]) (l := ([] : List Bl)) (l2 := a0) (E := Bl_rd) 0 rfl .u ⟨fun _ _ _ _ h => h, fun _ => rfl, fun _ _ _ => rfl, fun _ => rfl⟩ Try.underlying68 inf_cursitorlaw04_70 rfl (by decide) rfl rfl (RX.reads_left hX) rfl (by have hq := c15; simpa using hq) (by have hq := c15; simp only [List.length_nil] at hq ⊢; omega) rfl (fun A16 c17 => ?_)
        refine TL.sel [0, 0] rfl ?_
        refine TL.run ft_cursitorlaw04_ok [3] rfl rfl ?_
        refine TL.nil (X.seq (T.seq (T.region rfl ?_)))
        refine TL.newout rfl .u Try.zeroValue42 rfl (fun b18 => ?_)
        refine TL.nil (X.seq (T.seq (T.seq (T.region rfl ?_))))
        refine TL.run ft_cursitorlaw04_ok [0] rfl rfl ?_
        refine TL.q rfl .u (Ex.lenS rfl Try.runUnderlying68) rfl ?_
        refine TL.run ft_cursitorlaw04_ok [2] rfl rfl ?_
        refine TL.nil (X.seq (T.block ?_))
        obtain ⟨E25, hE26, hO27⟩ := Option.bind_eq_some_iff.1 h
        refine T.lp (fun m e Rs => ∃ (y19 : List Bl) (A20 : Option Addr) (c21 : Nat) (y22 : Bool) (k23 : Nat) (st24 : List UInt8 × Int), e = [(0, .slice A20 y19.length c21), (1, .slice A3 a1.length c4), (4, .bool y22), (5, .pointer (some ⟨b18, 0, none⟩)), (29, .slice A20 y19.length c21), (30, .int .i64 ((([] : List Bl) ++ a0).length : Int)), (31, .int .i64 (k23 : Int))] ∧ Rs = [OutR b18 st24, OwnR 70 2 Bl_rd (.slice A20 y19.length c21) y19, EmpR] ∧ f_l04_BlobBack_l1 a0 a1 m y19 y22 k23 st24 = some E25) ((((([] : List Bl) ++ a0).length : Int)).toNat + 1) [0, 0, 0] ⟨(([] : List Bl) ++ a0), A16, c17, false, 0, ([], 0), rfl, rfl, by exact hE26⟩ (by rfl) (by rfl) ?_
        rintro m28 _ _ ⟨y19, A20, c21, y22, k23, st24, rfl, rfl, hl30⟩
        clear hE26 h
        cases m28 with
        | zero =>
          rw [f_l04_BlobBack_l1] at hl30
          cases hl30
        | succ m28 =>
          have h := hl30
          clear hl30
          rw [f_l04_BlobBack_l1] at h
          refine T.seq (T.region rfl ?_)
          refine TL.run ft_cursitorlaw04_ok [0] rfl rfl ?_
          by_cases c32 : (k23 : Int) < ((([] : List Bl) ++ a0).length : Int)
          · replace h := ifT c32 h
            refine TL.nil (X.seq (T.seq ?_))
            refine T.yes rfl (decide_eq_true c32) ?_
            refine T.skip (X.seq (T.seq (T.block (T.seq (T.region rfl ?_)))))
            obtain ⟨x33, hx34, h⟩ := Option.bind_eq_some_iff.1 h
            refine TL.run ft_cursitorlaw04_ok [0] rfl rfl ?_
            refine TL.foc (E := Bl_rd) (k := k23) 1 rfl (fun w G h => own_reads (by decide) w G h) (by decide) hx34 ?_
            rintro gz35 oz35 z35cs hA z35cl ⟨_, _, z35r⟩
            cases hA
            obtain rfl : z35cs = [.bool x33.null, .string (bsOf x33.data)] := z35r
            clear z35cl
            refine TL.sel [0, 0, 0] rfl ?_
            refine TL.q rfl .u (Ex.ixS (k := k23) rfl rfl rfl Try.runUnderlying68 Try.sizeOf70 (List.getElem?_eq_some_iff.1 hx34).1) rfl ?_
            refine TL.q rfl .u (Ex.kS (cs := [.bool x33.null, .string (bsOf x33.data)]) (us := [.bool x33.null, .string (bsOf x33.data)]) 1 0 rfl Try.isAgg70 Try.sizeOf70 rfl (fun _ _ h => h.2.2.1) rfl rfl) rfl ?_
            refine TL.alloc rfl .u Try.zeroValue70 rfl (fun b36 => ?_)
            refine TL.run ft_cursitorlaw04_ok [4] rfl rfl ?_
            refine TL.st0 (cs' := #[.bool x33.null, .string (bsOf x33.data)]) rfl .u rfl rfl Try.sizeOf70 rfl rfl rfl rfl ?_
            refine TL.nil (X.seq (T.seq (T.seq (T.region rfl ?_))))
            refine TL.run ft_cursitorlaw04_ok [0] rfl rfl ?_
            refine TL.q rfl .u (Ex.b1 0 rfl Try.isAgg9 rfl rfl) rfl ?_
            refine TL.q rfl .u (Ex.lenB rfl Try.runUnderlying9) rfl ?_
            refine TL.run ft_cursitorlaw04_ok [3] rfl rfl ?_
            by_cases c37 : (x33.data.length : Int) > 120
            · replace h := ifT c37 h
              refine TL.nil (X.seq ?_)
              refine T.yes rfl (decide_eq_true c37) ?_
              refine T.seq (T.region rfl ?_)
              refine TL.run ft_cursitorlaw04_ok [0] rfl rfl ?_
              obtain rfl := Option.some.inj h
              replace h := hO27
              clear hO27
              try dsimp only at h
              obtain rfl := Option.some.inj h
              exact TL.nil (X.seq (T.ret (X.rs (X.rb (X.rs (X.rs (X.rb (X.rs (X.done1 [3] Try.results7 (RV.tm rfl) ⟨rfl, rfl, rfl⟩ (by rfl) (.inl rfl))))))))))
            · replace h := ifF c37 h
              refine TL.nil (X.seq ?_)
              refine T.no rfl (decide_eq_false c37) ?_
              refine T.skip (X.seq (T.seq (T.seq (T.region rfl ?_))))
              refine TL.run ft_cursitorlaw04_ok [0] rfl rfl ?_
              refine TL.q rfl .u (Ex.b1 0 rfl Try.isAgg4 rfl rfl) rfl ?_
              by_cases c38 : x33.null = true
              · replace h := ifT c38 h
                refine TL.nil (X.seq ?_)
                refine T.yes rfl c38 ?_
                refine T.region rfl ?_
                refine TL.run ft_cursitorlaw04_ok [0, 1, 2] rfl rfl ?_
                refine TL.st0 (cs' := #[.bool x33.null, .string ⟨#[]⟩]) rfl .u rfl rfl Try.sizeOf9 rfl rfl rfl rfl ?_
                refine TL.q rfl .u (Ex.ixS (k := k23) rfl rfl rfl Try.runUnderlying68 Try.sizeOf70 (List.getElem?_eq_some_iff.1 hx34).1) rfl ?_
                refine TL.run ft_cursitorlaw04_ok [5] rfl rfl ?_
                refine TL.unf 2 rfl ?_
                refine TL.sel [0, 0, 0, 0] rfl ?_
                refine TL.stE (k := k23) (u := x33) (u' := (⟨x33.null, []⟩ : Bl)) 2 1 rfl .u rfl rfl Try.sizeOf9 rfl hx34 rfl rfl rfl rfl (fun _ _ _ _ h => by subst h; rfl) ?_
                refine TL.sel [0, 0, 0, 0] rfl ?_
                rw [show y19.length = (y19.set k23 (⟨x33.null, []⟩ : Bl)).length from (List.length_set ..).symm]
                refine TL.nil (X.seq (T.seq (T.region rfl ?_)))
                obtain ⟨x39, hx40, h⟩ := Option.bind_eq_some_iff.1 h
                obtain ⟨gz41, oz41, rfl, z41cs, z41cl, z41cc, z41nf, z41r⟩ := RX.elem (by decide) (RX.reads_right hX) hx40
                obtain ⟨z41S, z41r, z41rr⟩ := z41r
                obtain rfl : z41cs = [.int .u8 x39] := z41r
                refine TL.run ft_cursitorlaw04_ok [0, 1] rfl rfl ?_
                refine TL.q rfl .u (Ex.ixS (k := k23) rfl rfl rfl Try.runUnderlying39 Try.sizeOf5 (List.getElem?_eq_some_iff.1 hx40).1) rfl ?_
                refine TL.q rfl .u (Ex.o1 0 rfl Try.isAgg5 z41nf z41cc rfl rfl) rfl ?_
                replace h := guard_some h
                obtain ⟨c42, h⟩ := h
                refine TL.q rfl .u (Ex.remK rfl rfl (by omega) c42) rfl ?_
                refine TL.nil (X.seq (T.block (T.seq (T.region rfl ?_))))
                refine TL.run ft_cursitorlaw04_ok [0, 1] rfl rfl ?_
                refine TL.nil (X.seq ?_)
                obtain ⟨st78, h, hk79⟩ := Option.bind_eq_some_iff.1 h
                refine T.jq (fun e Rs => e = [(0, .slice (some ⟨gz35, oz35, none⟩) (y19.set k23 (⟨x33.null, []⟩ : Bl)).length c21), (1, .slice (some ⟨gz41, oz41, none⟩) a1.length c4), (4, .bool y22), (5, .pointer (some ⟨b18, 0, none⟩)), (29, .slice (some ⟨gz35, oz35, none⟩) (y19.set k23 (⟨x33.null, []⟩ : Bl)).length c21), (30, .int .i64 ((([] : List Bl) ++ a0).length : Int)), (31, .int .i64 (k23 : Int))] ∧ Rs = [BlkR b36 70 #[.bool x33.null, .string ⟨#[]⟩], OutR b18 st78, OwnR 70 2 Bl_rd (.slice (some ⟨gz35, oz35, none⟩) (y19.set k23 (⟨x33.null, []⟩ : Bl)).length c21) (y19.set k23 (⟨x33.null, []⟩ : Bl)), EmpR]) ?_ ?_
                · clear hk79
                  by_cases c80 : (x39 % 4) = 0
                  · replace h := ifT c80 h
                    refine T.yes rfl (decide_eq_true c80) ?_
                    refine T.region rfl ?_
                    refine TL.q rfl .u (Ex.bS (us := [.bool x33.null, .string ⟨#[]⟩]) 0 rfl Try.isAgg70 Try.sizeOf70 rfl rfl rfl) rfl ?_
                    obtain ⟨st81, hx82, h⟩ := Option.bind_eq_some_iff.1 h
                    refine TL.c1 rfl .u (.fn Try.call40 rfl) (gPutFixed_spec b18 st24 (⟨x33.null, []⟩ : Bl) 4 _ hx82) (fun _ hs => (Src.triv _)) rfl ?_
                    cases h
                    exact TL.nil (X.jq [0, 0, 0, 0] ⟨rfl, rfl⟩ (by rfl) (by rfl))
                  · replace h := ifF c80 h
                    refine T.no rfl (decide_eq_false c80) ?_
                    refine T.seq (T.region rfl ?_)
                    refine TL.run ft_cursitorlaw04_ok [0, 1] rfl rfl ?_
                    refine TL.nil (X.seq ?_)
                    obtain ⟨st98, h, hk99⟩ := Option.bind_eq_some_iff.1 h
                    refine T.jq (fun e Rs => e = [(0, .slice (some ⟨gz35, oz35, none⟩) (y19.set k23 (⟨x33.null, []⟩ : Bl)).length c21), (1, .slice (some ⟨gz41, oz41, none⟩) a1.length c4), (4, .bool y22), (5, .pointer (some ⟨b18, 0, none⟩)), (29, .slice (some ⟨gz35, oz35, none⟩) (y19.set k23 (⟨x33.null, []⟩ : Bl)).length c21), (30, .int .i64 ((([] : List Bl) ++ a0).length : Int)), (31, .int .i64 (k23 : Int))] ∧ Rs = [BlkR b36 70 #[.bool x33.null, .string ⟨#[]⟩], OutR b18 st98, OwnR 70 2 Bl_rd (.slice (some ⟨gz35, oz35, none⟩) (y19.set k23 (⟨x33.null, []⟩ : Bl)).length c21) (y19.set k23 (⟨x33.null, []⟩ : Bl)), EmpR]) ?_ ?_
                    · clear hk99
                      by_cases c100 : (x39 % 4) = 1
                      · replace h := ifT c100 h
                        refine T.yes rfl (decide_eq_true c100) ?_
                        refine T.region rfl ?_
                        refine TL.q rfl .u (Ex.bS (us := [.bool x33.null, .string ⟨#[]⟩]) 0 rfl Try.isAgg70 Try.sizeOf70 rfl rfl rfl) rfl ?_
                        obtain ⟨st101, hx102, h⟩ := Option.bind_eq_some_iff.1 h
                        refine TL.c1 rfl .u (.fn Try.call41 rfl) (gPutVaried_spec b18 st24 (⟨x33.null, []⟩ : Bl) _ hx102) (fun _ hs => (Src.triv _)) rfl ?_
                        cases h
                        exact TL.nil (X.jq [0, 0, 0, 0] ⟨rfl, rfl⟩ (by rfl) (by rfl))
                      · replace h := ifF c100 h
                        refine T.no rfl (decide_eq_false c100) ?_
                        refine T.seq (T.region rfl ?_)
                        refine TL.run ft_cursitorlaw04_ok [0, 1] rfl rfl ?_
                        refine TL.nil (X.seq ?_)
                        obtain ⟨st108, h, hk109⟩ := Option.bind_eq_some_iff.1 h
                        refine T.jq (fun e Rs => e = [(0, .slice (some ⟨gz35, oz35, none⟩) (y19.set k23 (⟨x33.null, []⟩ : Bl)).length c21), (1, .slice (some ⟨gz41, oz41, none⟩) a1.length c4), (4, .bool y22), (5, .pointer (some ⟨b18, 0, none⟩)), (29, .slice (some ⟨gz35, oz35, none⟩) (y19.set k23 (⟨x33.null, []⟩ : Bl)).length c21), (30, .int .i64 ((([] : List Bl) ++ a0).length : Int)), (31, .int .i64 (k23 : Int))] ∧ Rs = [BlkR b36 70 #[.bool x33.null, .string ⟨#[]⟩], OutR b18 st108, OwnR 70 2 Bl_rd (.slice (some ⟨gz35, oz35, none⟩) (y19.set k23 (⟨x33.null, []⟩ : Bl)).length c21) (y19.set k23 (⟨x33.null, []⟩ : Bl)), EmpR]) ?_ ?_
                        · clear hk109
                          by_cases c110 : (x39 % 4) = 2
                          · replace h := ifT c110 h
                            refine T.yes rfl (decide_eq_true c110) ?_
                            refine T.region rfl ?_
                            refine TL.run ft_cursitorlaw04_ok [0] rfl rfl ?_
                            refine TL.q rfl .u (Ex.b1 0 rfl Try.isAgg9 rfl rfl) rfl ?_
                            obtain ⟨st111, hx112, h⟩ := Option.bind_eq_some_iff.1 h
                            refine TL.c1 rfl .u (.fn Try.call42 rfl) (gPutText_spec b18 st24 [] _ hx112) (fun _ hs => (Src.triv _)) rfl ?_
                            cases h
                            exact TL.nil (X.jq [0, 0, 0, 0] ⟨rfl, rfl⟩ (by rfl) (by rfl))
                          · replace h := ifF c110 h
                            refine T.no rfl (decide_eq_false c110) ?_
                            refine T.region rfl ?_
                            refine TL.run ft_cursitorlaw04_ok [0] rfl rfl ?_
                            refine TL.q rfl .u (Ex.b1 0 rfl Try.isAgg9 rfl rfl) rfl ?_
                            obtain ⟨st113, hx114, h⟩ := Option.bind_eq_some_iff.1 h
                            refine TL.c1 rfl .u (.fn Try.call43 rfl) (gPutName_spec b18 st24 [] _ hx114) (fun _ hs => (Src.triv _)) rfl ?_
                            cases h
                            exact TL.nil (X.jq [0, 0, 0, 0] ⟨rfl, rfl⟩ (by rfl) (by rfl))
                        · rintro _ _ ⟨rfl, rfl⟩
                          clear h
                          have h := hk109
                          clear hk109
                          try dsimp only at h
                          cases h
                          exact X.jq [0, 0, 0, 0] ⟨rfl, rfl⟩ (by rfl) (by rfl)
                    · rintro _ _ ⟨rfl, rfl⟩
                      clear h
                      have h := hk99
                      clear hk99
                      try dsimp only at h
                      cases h
                      exact X.jq [0, 0, 0, 0] ⟨rfl, rfl⟩ (by rfl) (by rfl)
                · rintro _ _ ⟨rfl, rfl⟩
                  clear h
                  have h := hk79
                  clear hk79
                  try dsimp only at h
                  replace h := guard_some h
                  obtain ⟨c115, h⟩ := h
                  refine X.blk (X.blk (X.seq (T.region rfl ?_)))
                  refine TL.q rfl .u (Ex.add rfl rfl c115) rfl ?_
                  refine TL.run ft_cursitorlaw04_ok [1] rfl rfl ?_
                  exact TL.nil (X.back (m' := m28) [1, 1, 1] (by omega) ⟨(y19.set k23 (⟨x33.null, []⟩ : Bl)), (some ⟨gz35, oz35, none⟩), c21, y22, k23 + 1, st78, rfl, rfl, h⟩ (by rfl) (by rfl))
              · replace h := ifF c38 h
                replace c38 := eq_false_of_ne_true c38
                refine TL.nil (X.seq ?_)
                refine T.no rfl c38 ?_
                refine T.skip (X.seq (T.seq (T.region rfl ?_)))
                obtain ⟨x116, hx117, h⟩ := Option.bind_eq_some_iff.1 h
                obtain ⟨gz118, oz118, rfl, z118cs, z118cl, z118cc, z118nf, z118r⟩ := RX.elem (by decide) (RX.reads_right hX) hx117
                obtain ⟨z118S, z118r, z118rr⟩ := z118r
                obtain rfl : z118cs = [.int .u8 x116] := z118r
                refine TL.run ft_cursitorlaw04_ok [0, 1] rfl rfl ?_
                refine TL.q rfl .u (Ex.ixS (k := k23) rfl rfl rfl Try.runUnderlying39 Try.sizeOf5 (List.getElem?_eq_some_iff.1 hx117).1) rfl ?_
                refine TL.q rfl .u (Ex.o1 0 rfl Try.isAgg5 z118nf z118cc rfl rfl) rfl ?_
                replace h := guard_some h
                obtain ⟨c119, h⟩ := h
                refine TL.q rfl .u (Ex.remK rfl rfl (by omega) c119) rfl ?_
                refine TL.nil (X.seq (T.block (T.seq (T.region rfl ?_))))
                refine TL.run ft_cursitorlaw04_ok [0, 1] rfl rfl ?_
                refine TL.nil (X.seq ?_)
                obtain ⟨st155, h, hk156⟩ := Option.bind_eq_some_iff.1 h
                refine T.jq (fun e Rs => e = [(0, .slice (some ⟨gz35, oz35, none⟩) y19.length c21), (1, .slice (some ⟨gz118, oz118, none⟩) a1.length c4), (4, .bool y22), (5, .pointer (some ⟨b18, 0, none⟩)), (29, .slice (some ⟨gz35, oz35, none⟩) y19.length c21), (30, .int .i64 ((([] : List Bl) ++ a0).length : Int)), (31, .int .i64 (k23 : Int))] ∧ Rs = [BlkR b36 70 #[.bool x33.null, .string (bsOf x33.data)], OutR b18 st155, RowK (OwnR 70 2 Bl_rd (.slice (some ⟨gz35, oz35, none⟩) y19.length c21) y19) Bl_rd gz35 (oz35 + k23 * 2) [.bool x33.null, .string (bsOf x33.data)] x33, EmpR]) ?_ ?_
                · clear hk156
                  by_cases c157 : (x116 % 4) = 0
                  · replace h := ifT c157 h
                    refine T.yes rfl (decide_eq_true c157) ?_
                    refine T.region rfl ?_
                    refine TL.q rfl .u (Ex.bS (us := [.bool x33.null, .string (bsOf x33.data)]) 0 rfl Try.isAgg70 Try.sizeOf70 rfl rfl rfl) rfl ?_
                    obtain ⟨st158, hx159, h⟩ := Option.bind_eq_some_iff.1 h
                    refine TL.c1 rfl .u (.fn Try.call40 rfl) (gPutFixed_spec b18 st24 x33 4 _ hx159) (fun _ hs => (Src.triv _)) rfl ?_
                    cases h
                    exact TL.nil (X.jq [0, 0, 0, 0] ⟨rfl, rfl⟩ (by rfl) (by rfl))
                  · replace h := ifF c157 h
                    refine T.no rfl (decide_eq_false c157) ?_
                    refine T.seq (T.region rfl ?_)
                    refine TL.run ft_cursitorlaw04_ok [0, 1] rfl rfl ?_
                    refine TL.nil (X.seq ?_)
                    obtain ⟨st175, h, hk176⟩ := Option.bind_eq_some_iff.1 h
                    refine T.jq (fun e Rs => e = [(0, .slice (some ⟨gz35, oz35, none⟩) y19.length c21), (1, .slice (some ⟨gz118, oz118, none⟩) a1.length c4), (4, .bool y22), (5, .pointer (some ⟨b18, 0, none⟩)), (29, .slice (some ⟨gz35, oz35, none⟩) y19.length c21), (30, .int .i64 ((([] : List Bl) ++ a0).length : Int)), (31, .int .i64 (k23 : Int))] ∧ Rs = [BlkR b36 70 #[.bool x33.null, .string (bsOf x33.data)], OutR b18 st175, RowK (OwnR 70 2 Bl_rd (.slice (some ⟨gz35, oz35, none⟩) y19.length c21) y19) Bl_rd gz35 (oz35 + k23 * 2) [.bool x33.null, .string (bsOf x33.data)] x33, EmpR]) ?_ ?_
                    · clear hk176
                      by_cases c177 : (x116 % 4) = 1
                      · replace h := ifT c177 h
                        refine T.yes rfl (decide_eq_true c177) ?_
                        refine T.region rfl ?_
                        refine TL.q rfl .u (Ex.bS (us := [.bool x33.null, .string (bsOf x33.data)]) 0 rfl Try.isAgg70 Try.sizeOf70 rfl rfl rfl) rfl ?_
                        obtain ⟨st178, hx179, h⟩ := Option.bind_eq_some_iff.1 h
                        refine TL.c1 rfl .u (.fn Try.call41 rfl) (gPutVaried_spec b18 st24 x33 _ hx179) (fun _ hs => (Src.triv _)) rfl ?_
                        cases h
                        exact TL.nil (X.jq [0, 0, 0, 0] ⟨rfl, rfl⟩ (by rfl) (by rfl))
                      · replace h := ifF c177 h
                        refine T.no rfl (decide_eq_false c177) ?_
                        refine T.seq (T.region rfl ?_)
                        refine TL.run ft_cursitorlaw04_ok [0, 1] rfl rfl ?_
                        refine TL.nil (X.seq ?_)
                        obtain ⟨st185, h, hk186⟩ := Option.bind_eq_some_iff.1 h
                        refine T.jq (fun e Rs => e = [(0, .slice (some ⟨gz35, oz35, none⟩) y19.length c21), (1, .slice (some ⟨gz118, oz118, none⟩) a1.length c4), (4, .bool y22), (5, .pointer (some ⟨b18, 0, none⟩)), (29, .slice (some ⟨gz35, oz35, none⟩) y19.length c21), (30, .int .i64 ((([] : List Bl) ++ a0).length : Int)), (31, .int .i64 (k23 : Int))] ∧ Rs = [BlkR b36 70 #[.bool x33.null, .string (bsOf x33.data)], OutR b18 st185, RowK (OwnR 70 2 Bl_rd (.slice (some ⟨gz35, oz35, none⟩) y19.length c21) y19) Bl_rd gz35 (oz35 + k23 * 2) [.bool x33.null, .string (bsOf x33.data)] x33, EmpR]) ?_ ?_
                        · clear hk186
                          by_cases c187 : (x116 % 4) = 2
                          · replace h := ifT c187 h
                            refine T.yes rfl (decide_eq_true c187) ?_
                            refine T.region rfl ?_
                            refine TL.run ft_cursitorlaw04_ok [0] rfl rfl ?_
                            refine TL.q rfl .u (Ex.b1 0 rfl Try.isAgg9 rfl rfl) rfl ?_
                            obtain ⟨st188, hx189, h⟩ := Option.bind_eq_some_iff.1 h
                            refine TL.c1 rfl .u (.fn Try.call42 rfl) (gPutText_spec b18 st24 x33.data _ hx189) (fun _ hs => (Src.triv _)) rfl ?_
                            cases h
                            exact TL.nil (X.jq [0, 0, 0, 0] ⟨rfl, rfl⟩ (by rfl) (by rfl))
                          · replace h := ifF c187 h
                            refine T.no rfl (decide_eq_false c187) ?_
                            refine T.region rfl ?_
                            refine TL.run ft_cursitorlaw04_ok [0] rfl rfl ?_
                            refine TL.q rfl .u (Ex.b1 0 rfl Try.isAgg9 rfl rfl) rfl ?_
                            obtain ⟨st190, hx191, h⟩ := Option.bind_eq_some_iff.1 h
                            refine TL.c1 rfl .u (.fn Try.call43 rfl) (gPutName_spec b18 st24 x33.data _ hx191) (fun _ hs => (Src.triv _)) rfl ?_
                            cases h
                            exact TL.nil (X.jq [0, 0, 0, 0] ⟨rfl, rfl⟩ (by rfl) (by rfl))
                        · rintro _ _ ⟨rfl, rfl⟩
                          clear h
                          have h := hk186
                          clear hk186
                          try dsimp only at h
                          cases h
                          exact X.jq [0, 0, 0, 0] ⟨rfl, rfl⟩ (by rfl) (by rfl)
                    · rintro _ _ ⟨rfl, rfl⟩
                      clear h
                      have h := hk176
                      clear hk176
                      try dsimp only at h
                      cases h
                      exact X.jq [0, 0, 0, 0] ⟨rfl, rfl⟩ (by rfl) (by rfl)
                · rintro _ _ ⟨rfl, rfl⟩
                  clear h
                  have h := hk156
                  clear hk156
                  try dsimp only at h
                  replace h := guard_some h
                  obtain ⟨c192, h⟩ := h
                  refine X.blk (X.blk (X.seq (T.region rfl ?_)))
                  refine TL.q rfl .u (Ex.add rfl rfl c192) rfl ?_
                  refine TL.run ft_cursitorlaw04_ok [1] rfl rfl ?_
                  refine TL.nil ?_
                  refine X.unf 2 rfl ?_
                  refine X.sel [0, 0, 0, 0] rfl ?_
                  exact X.back (m' := m28) [1, 1, 1] (by omega) ⟨y19, (some ⟨gz35, oz35, none⟩), c21, y22, k23 + 1, st155, rfl, rfl, h⟩ (by rfl) (by rfl)
          · replace h := ifF c32 h
            refine TL.nil (X.seq (T.seq ?_))
            refine T.no rfl (decide_eq_false c32) ?_
            obtain rfl := Option.some.inj h
            replace h := hO27
            clear hO27
            try dsimp only at h
            obtain ⟨⟨x193, x194, st195⟩, hx196, h⟩ := Option.bind_eq_some_iff.1 h
            try dsimp only at h
            refine T.exit (X.exs (X.exs (X.ex (X.seq (T.seq (T.region rfl ?_))))))
            refine TL.c0 rfl .u (.fn Try.call24 rfl) (gOText_spec b18 st24 _ hx196) (fun _ hs => (Src.triv _)) rfl ?_
            refine TL.run ft_cursitorlaw04_ok [1, 2, 3, 4, 5] rfl rfl ?_
            refine TL.nil (X.seq (T.seq (T.region rfl ?_)))
            obtain ⟨st197, hx198, h⟩ := Option.bind_eq_some_iff.1 h
            refine TL.run ft_cursitorlaw04_ok [0] rfl rfl ?_
            refine TL.cge rfl .u (.fn Try.call27 rfl) (gNew_spec x193 _ hx198) (fun _ hs => (RX.reads_triv _ _)) rfl ?_
            rintro _ _ _ ⟨b199, rfl, rfl, rfl⟩
            refine TL.sel [0, 0, 0, 0] rfl ?_
            refine TL.run ft_cursitorlaw04_ok [2] rfl rfl ?_
            refine TL.nil (X.seq (T.seq (T.seq (T.region rfl ?_))))
            refine TL.run ft_cursitorlaw04_ok [0] rfl rfl ?_
            refine TL.q rfl .u (Ex.lenS rfl Try.runUnderlying68) rfl ?_
            refine TL.run ft_cursitorlaw04_ok [2] rfl rfl ?_
            refine TL.nil (X.seq (T.block ?_))
            obtain ⟨E203, hE204, hO205⟩ := Option.bind_eq_some_iff.1 h
            refine T.blen 2 rfl (fun w G h => own_reads (by decide) w G h) (fun hk209len => ?_)
            refine T.lp (fun m e Rs => ∃ (y200 : Bool) (k201 : Nat) (st202 : I), k201 + m = y19.length ∧ e = [(1, .slice A3 a1.length c4), (4, .bool y200), (9, .int .i64 x194), (10, .pointer (some ⟨b199, 0, none⟩)), (75, .slice A20 y19.length c21), (76, .int .i64 (y19.length : Int)), (77, .int .i64 (k201 : Int))] ∧ Rs = [InR b199 st202, OutR b18 st195, OwnR 70 2 Bl_rd (.slice A20 y19.length c21) y19, EmpR] ∧ f_l04_BlobBack_l2 a1 (y19.drop k201) y200 k201 st202 = some E203) (y19.length) [0, 0, 0, 0] ⟨y22, 0, st197, by simp, rfl, rfl, by rw [List.drop_zero]; exact hE204⟩ (by rfl) (by rfl) ?_
            rintro m206 _ _ ⟨y200, k201, st202, hk209, rfl, rfl, hl208⟩
            clear hE204 h
            cases m206 with
            | zero =>
              have h := hl208
              clear hl208
              rw [List.drop_of_length_le (by omega), f_l04_BlobBack_l2] at h
              have hk209ge : ¬ ((k201 : Int) < (y19.length : Int)) := by omega
              refine T.seq (T.region rfl ?_)
              refine TL.run ft_cursitorlaw04_ok [0] rfl rfl ?_
              refine TL.nil (X.seq (T.seq ?_))
              refine T.no rfl (decide_eq_false hk209ge) ?_
              obtain rfl := Option.some.inj h
              replace h := hO205
              clear hO205
              try dsimp only at h
              refine T.exit (X.exs (X.exs (X.ex (X.seq (T.seq ?_)))))
              obtain ⟨⟨y533, st534⟩, h, hk535⟩ := Option.bind_eq_some_iff.1 h
              refine T.jq (fun e Rs => e = [(4, .bool y533)] ∧ Rs = [InR b199 st534, OutR b18 st195, OwnR 70 2 Bl_rd (.slice A20 y19.length c21) y19, EmpR]) ?_ ?_
              · clear hk535
                refine T.region rfl ?_
                by_cases c536 : x194 = 0
                · replace h := ifT c536 h
                  refine TL.run ft_cursitorlaw04_ok [0, 1, 2] rfl rfl ?_
                  refine TL.q rfl (.g rfl rfl (decide_eq_true c536)) (Ex.ft ft_cursitorlaw04_ok rfl) rfl ?_
                  obtain ⟨⟨x537, st538⟩, hx539, h⟩ := Option.bind_eq_some_iff.1 h
                  try dsimp only at h
                  refine TL.c0 rfl (.g rfl rfl (decide_eq_true c536)) (.fn Try.call30 rfl) (gClose_spec b199 st202 _ hx539) (fun _ hs => (Src.triv _)) rfl ?_
                  refine TL.q rfl (.g rfl rfl (decide_eq_true c536)) (Ex.ft ft_cursitorlaw04_ok rfl) rfl ?_
                  refine TL.q rfl .u (Ex.py rfl (decide_eq_true c536) rfl) rfl ?_
                  refine TL.run ft_cursitorlaw04_ok [7] rfl rfl ?_
                  by_cases c540 : x537 = 0
                  · replace h := ifT c540 h
                    cases h
                    exact TL.nil (X.as (d := 4) (v' := .bool true) rfl (congrArg Value.bool (decide_eq_true c540)) (X.jq [0, 0, 0, 0] ⟨rfl, rfl⟩ (by rfl) (by rfl)))
                  · replace h := ifF c540 h
                    cases h
                    exact TL.nil (X.as (d := 4) (v' := .bool false) rfl (congrArg Value.bool (decide_eq_false c540)) (X.jq [0, 0, 0, 0] ⟨rfl, rfl⟩ (by rfl) (by rfl)))
                · replace h := ifF c536 h
                  refine TL.run ft_cursitorlaw04_ok [0, 1, 2] rfl rfl ?_
                  refine TL.no rfl (.gn rfl rfl (decide_eq_false c536)) rfl ?_
                  refine TL.no rfl (.gn rfl rfl (decide_eq_false c536)) rfl ?_
                  refine TL.no rfl (.gn rfl rfl (decide_eq_false c536)) rfl ?_
                  refine TL.q rfl .u (Ex.pn rfl (decide_eq_false c536) rfl) rfl ?_
                  refine TL.run ft_cursitorlaw04_ok [7] rfl rfl ?_
                  cases h
                  exact TL.nil (X.jq [0, 0, 0, 0] ⟨rfl, rfl⟩ (by rfl) (by rfl))
              · rintro _ _ ⟨rfl, rfl⟩
                clear h
                have h := hk535
                clear hk535
                try dsimp only at h
                obtain rfl := Option.some.inj h
                exact X.seq (T.ret (X.done1 [3] Try.results7 (RV.tm rfl) ⟨rfl, rfl, rfl⟩ (by rfl) (.inl rfl)))
            | succ m206 =>
              have h := hl208
              clear hl208
              obtain ⟨x207, hxx207⟩ : ∃ x, y19[k201]? = some x := ⟨_, List.getElem?_eq_getElem (by omega)⟩
              rw [drop_cons hxx207, f_l04_BlobBack_l2] at h
              have hk209lt : (k201 : Int) < (y19.length : Int) := by omega
              refine T.seq (T.region rfl ?_)
              refine TL.run ft_cursitorlaw04_ok [0] rfl rfl ?_
              refine TL.nil (X.seq (T.seq ?_))
              refine T.yes rfl (decide_eq_true hk209lt) ?_
              refine T.skip (X.seq (T.seq (T.block (T.seq (T.region rfl ?_)))))
              refine TL.run ft_cursitorlaw04_ok [0] rfl rfl ?_
              refine TL.foc (E := Bl_rd) (k := k201) 2 rfl (fun w G h => own_reads (by decide) w G h) (by decide) hxx207 ?_
              rintro gz362 oz362 z362cs hA z362cl ⟨_, _, z362r⟩
              cases hA
              obtain rfl : z362cs = [.bool x207.null, .string (bsOf x207.data)] := z362r
              clear z362cl
              refine TL.sel [0, 0, 0, 0] rfl ?_
              refine TL.q rfl .u (Ex.ixS (k := k201) rfl rfl rfl Try.runUnderlying68 Try.sizeOf70 (List.getElem?_eq_some_iff.1 hxx207).1) rfl ?_
              refine TL.q rfl .u (Ex.kS (cs := [.bool x207.null, .string (bsOf x207.data)]) (us := [.bool x207.null, .string (bsOf x207.data)]) 2 0 rfl Try.isAgg70 Try.sizeOf70 rfl (fun _ _ h => h.2.2.1) rfl rfl) rfl ?_
              refine TL.alloc rfl .u Try.zeroValue70 rfl (fun b363 => ?_)
              refine TL.run ft_cursitorlaw04_ok [4] rfl rfl ?_
              refine TL.st0 (cs' := #[.bool x207.null, .string (bsOf x207.data)]) rfl .u rfl rfl Try.sizeOf70 rfl rfl rfl rfl ?_
              refine TL.nil (X.seq (T.seq (T.region rfl ?_)))
              refine TL.alloc rfl .u Try.zeroValue70 rfl (fun b364 => ?_)
              refine TL.nil (X.seq (T.seq (T.seq (T.region rfl ?_))))
              obtain ⟨x365, hx366, h⟩ := Option.bind_eq_some_iff.1 h
              obtain ⟨gz367, oz367, rfl, z367cs, z367cl, z367cc, z367nf, z367r⟩ := RX.elem (by decide) (RX.reads_right hX) hx366
              obtain ⟨z367S, z367r, z367rr⟩ := z367r
              obtain rfl : z367cs = [.int .u8 x365] := z367r
              refine TL.run ft_cursitorlaw04_ok [0, 1] rfl rfl ?_
              refine TL.q rfl .u (Ex.ixS (k := k201) rfl rfl rfl Try.runUnderlying39 Try.sizeOf5 (List.getElem?_eq_some_iff.1 hx366).1) rfl ?_
              refine TL.q rfl .u (Ex.o1 0 rfl Try.isAgg5 z367nf z367cc rfl rfl) rfl ?_
              replace h := guard_some h
              obtain ⟨c368, h⟩ := h
              refine TL.q rfl .u (Ex.remK rfl rfl (by omega) c368) rfl ?_
              refine TL.nil (X.seq (T.block (T.seq (T.region rfl ?_))))
              refine TL.run ft_cursitorlaw04_ok [0, 1] rfl rfl ?_
              refine TL.nil (X.seq ?_)
              obtain ⟨⟨y438, y439, y440, st441⟩, h, hk442⟩ := Option.bind_eq_some_iff.1 h
              refine T.jq (fun e Rs => e = [(1, .slice (some ⟨gz367, oz367, none⟩) a1.length c4), (4, .bool y200), (9, .int .i64 x194), (10, .pointer (some ⟨b199, 0, none⟩)), (12, .pointer (some ⟨b363, 0, none⟩)), (13, .pointer (some ⟨b364, 0, none⟩)), (75, .slice (some ⟨gz362, oz362, none⟩) y19.length c21), (76, .int .i64 (y19.length : Int)), (77, .int .i64 (k201 : Int))] ∧ Rs = [BlkR b364 70 #[.bool y438, .string (bsOf y439)], BlkR b363 70 #[.bool y440, .string (bsOf x207.data)], InR b199 st441, OutR b18 st195, RowK (OwnR 70 2 Bl_rd (.slice (some ⟨gz362, oz362, none⟩) y19.length c21) y19) Bl_rd gz362 (oz362 + k201 * 2) [.bool x207.null, .string (bsOf x207.data)] x207, EmpR]) ?_ ?_
              · clear hk442
                by_cases c443 : (x365 % 4) = 0
                · replace h := ifT c443 h
                  refine T.yes rfl (decide_eq_true c443) ?_
                  refine T.region rfl ?_
                  obtain ⟨⟨x444, st445⟩, hx446, h⟩ := Option.bind_eq_some_iff.1 h
                  try dsimp only at h
                  refine TL.run ft_cursitorlaw04_ok [0] rfl rfl ?_
                  refine TL.c2 rfl .u (.fn Try.call44 rfl) (gFixed_spec b199 st202 4 _ hx446) (fun _ hs => (Src.triv _)) rfl ?_
                  refine TL.st0 (cs' := #[.bool x444.null, .string (bsOf x444.data)]) rfl .u rfl rfl Try.sizeOf70 rfl rfl rfl rfl ?_
                  cases h
                  exact TL.nil (X.jq [0, 0, 0, 0, 0, 0] ⟨rfl, rfl⟩ (by rfl) (by rfl))
                · replace h := ifF c443 h
                  refine T.no rfl (decide_eq_false c443) ?_
                  refine T.seq (T.region rfl ?_)
                  refine TL.run ft_cursitorlaw04_ok [0, 1] rfl rfl ?_
                  refine TL.nil (X.seq ?_)
                  obtain ⟨⟨y477, y478, y479, st480⟩, h, hk481⟩ := Option.bind_eq_some_iff.1 h
                  refine T.jq (fun e Rs => e = [(1, .slice (some ⟨gz367, oz367, none⟩) a1.length c4), (4, .bool y200), (9, .int .i64 x194), (10, .pointer (some ⟨b199, 0, none⟩)), (12, .pointer (some ⟨b363, 0, none⟩)), (13, .pointer (some ⟨b364, 0, none⟩)), (75, .slice (some ⟨gz362, oz362, none⟩) y19.length c21), (76, .int .i64 (y19.length : Int)), (77, .int .i64 (k201 : Int))] ∧ Rs = [BlkR b364 70 #[.bool y477, .string (bsOf y478)], BlkR b363 70 #[.bool y479, .string (bsOf x207.data)], InR b199 st480, OutR b18 st195, RowK (OwnR 70 2 Bl_rd (.slice (some ⟨gz362, oz362, none⟩) y19.length c21) y19) Bl_rd gz362 (oz362 + k201 * 2) [.bool x207.null, .string (bsOf x207.data)] x207, EmpR]) ?_ ?_
                  · clear hk481
                    by_cases c482 : (x365 % 4) = 1
                    · replace h := ifT c482 h
                      refine T.yes rfl (decide_eq_true c482) ?_
                      refine T.region rfl ?_
                      obtain ⟨⟨x483, st484⟩, hx485, h⟩ := Option.bind_eq_some_iff.1 h
                      try dsimp only at h
                      refine TL.run ft_cursitorlaw04_ok [0] rfl rfl ?_
                      refine TL.c2 rfl .u (.fn Try.call45 rfl) (gVaried_spec b199 st202 _ hx485) (fun _ hs => (Src.triv _)) rfl ?_
                      refine TL.st0 (cs' := #[.bool x483.null, .string (bsOf x483.data)]) rfl .u rfl rfl Try.sizeOf70 rfl rfl rfl rfl ?_
                      cases h
                      exact TL.nil (X.jq [0, 0, 0, 0, 0, 0] ⟨rfl, rfl⟩ (by rfl) (by rfl))
                    · replace h := ifF c482 h
                      refine T.no rfl (decide_eq_false c482) ?_
                      refine T.seq (T.region rfl ?_)
                      refine TL.run ft_cursitorlaw04_ok [0, 1] rfl rfl ?_
                      refine TL.nil (X.seq ?_)
                      obtain ⟨⟨y497, y498, st499⟩, h, hk500⟩ := Option.bind_eq_some_iff.1 h
                      refine T.jq (fun e Rs => e = [(1, .slice (some ⟨gz367, oz367, none⟩) a1.length c4), (4, .bool y200), (9, .int .i64 x194), (10, .pointer (some ⟨b199, 0, none⟩)), (12, .pointer (some ⟨b363, 0, none⟩)), (13, .pointer (some ⟨b364, 0, none⟩)), (75, .slice (some ⟨gz362, oz362, none⟩) y19.length c21), (76, .int .i64 (y19.length : Int)), (77, .int .i64 (k201 : Int))] ∧ Rs = [BlkR b364 70 #[.bool y497, .string (bsOf y498)], BlkR b363 70 #[.bool false, .string (bsOf x207.data)], InR b199 st499, OutR b18 st195, RowK (OwnR 70 2 Bl_rd (.slice (some ⟨gz362, oz362, none⟩) y19.length c21) y19) Bl_rd gz362 (oz362 + k201 * 2) [.bool x207.null, .string (bsOf x207.data)] x207, EmpR]) ?_ ?_
                      · clear hk500
                        by_cases c501 : (x365 % 4) = 2
                        · replace h := ifT c501 h
                          refine T.yes rfl (decide_eq_true c501) ?_
                          refine T.region rfl ?_
                          obtain ⟨⟨x502, st503⟩, hx504, h⟩ := Option.bind_eq_some_iff.1 h
                          try dsimp only at h
                          refine TL.run ft_cursitorlaw04_ok [0] rfl rfl ?_
                          refine TL.c2 rfl .u (.fn Try.call47 rfl) (gText_spec b199 st202 _ hx504) (fun _ hs => (Src.triv _)) rfl ?_
                          obtain ⟨x505, hx506, h⟩ := Option.bind_eq_some_iff.1 h
                          refine TL.ce rfl .u (.fn Try.call46 rfl) (gOf_spec x502 _ hx506) (fun _ hs => (RX.reads_triv _ _)) rfl ?_
                          refine TL.st0 (cs' := #[.bool x505.null, .string (bsOf x505.data)]) rfl .u rfl rfl Try.sizeOf70 rfl rfl rfl rfl ?_
                          refine TL.run ft_cursitorlaw04_ok [4] rfl rfl ?_
                          refine TL.st1 (cs' := #[.bool false, .string (bsOf x207.data)]) rfl .u rfl rfl Try.sizeOf4 rfl rfl rfl rfl ?_
                          cases h
                          exact TL.nil (X.jq [0, 0, 0, 0, 0, 0] ⟨rfl, rfl⟩ (by rfl) (by rfl))
                        · replace h := ifF c501 h
                          refine T.no rfl (decide_eq_false c501) ?_
                          refine T.region rfl ?_
                          obtain ⟨⟨x507, st508⟩, hx509, h⟩ := Option.bind_eq_some_iff.1 h
                          try dsimp only at h
                          refine TL.run ft_cursitorlaw04_ok [0] rfl rfl ?_
                          refine TL.c2 rfl .u (.fn Try.call48 rfl) (gName_spec b199 st202 _ hx509) (fun _ hs => (Src.triv _)) rfl ?_
                          obtain ⟨x510, hx511, h⟩ := Option.bind_eq_some_iff.1 h
                          refine TL.ce rfl .u (.fn Try.call46 rfl) (gOf_spec x507 _ hx511) (fun _ hs => (RX.reads_triv _ _)) rfl ?_
                          refine TL.st0 (cs' := #[.bool x510.null, .string (bsOf x510.data)]) rfl .u rfl rfl Try.sizeOf70 rfl rfl rfl rfl ?_
                          refine TL.run ft_cursitorlaw04_ok [4] rfl rfl ?_
                          refine TL.st1 (cs' := #[.bool false, .string (bsOf x207.data)]) rfl .u rfl rfl Try.sizeOf4 rfl rfl rfl rfl ?_
                          cases h
                          exact TL.nil (X.jq [0, 0, 0, 0, 0, 0] ⟨rfl, rfl⟩ (by rfl) (by rfl))
                      · rintro _ _ ⟨rfl, rfl⟩
                        clear h
                        have h := hk500
                        clear hk500
                        try dsimp only at h
                        cases h
                        exact X.jq [0, 0, 0, 0, 0, 0] ⟨rfl, rfl⟩ (by rfl) (by rfl)
                  · rintro _ _ ⟨rfl, rfl⟩
                    clear h
                    have h := hk481
                    clear hk481
                    try dsimp only at h
                    cases h
                    exact X.jq [0, 0, 0, 0, 0, 0] ⟨rfl, rfl⟩ (by rfl) (by rfl)
              · rintro _ _ ⟨rfl, rfl⟩
                clear h
                have h := hk442
                clear hk442
                try dsimp only at h
                refine X.blk (X.seq (T.seq (T.region rfl ?_)))
                refine TL.q rfl .u (Ex.bS (us := [.bool y438, .string (bsOf y439)]) 0 rfl Try.isAgg70 Try.sizeOf70 rfl rfl rfl) rfl ?_
                refine TL.q rfl .u (Ex.bS (us := [.bool y440, .string (bsOf x207.data)]) 1 rfl Try.isAgg70 Try.sizeOf70 rfl rfl rfl) rfl ?_
                by_cases c512 : y438 = y440
                · replace h := ifT c512 h
                  by_cases c513 : y439 = x207.data
                  · replace h := ifT c513 h
                    refine TL.q rfl .u (Ex.aNe (us := [.bool y438, .string (bsOf y439)]) (vs := [.bool y440, .string (bsOf x207.data)]) flat_cursitorlaw04_70 rfl Try.eqGuardType70 rfl rfl rfl rfl (eqL_t (eqV_b c512) (eqL_t (eqV_s (l := y439) (m := x207.data) c513) rfl))) rfl ?_
                    refine TL.nil (X.seq ?_)
                    refine T.no rfl rfl ?_
                    refine T.skip (X.blk (X.seq (T.region rfl ?_)))
                    refine TL.q rfl .u (Ex.add rfl rfl (by omega)) rfl ?_
                    refine TL.run ft_cursitorlaw04_ok [1] rfl rfl ?_
                    refine TL.nil ?_
                    refine X.unf 4 rfl ?_
                    refine X.sel [0, 0, 0, 0, 0, 0] rfl ?_
                    exact X.back (m' := m206) [2, 2, 2, 2] (by omega) ⟨y200, k201 + 1, st441, by omega, rfl, rfl, h⟩ (by rfl) (by rfl)
                  · replace h := ifF c513 h
                    refine TL.q rfl .u (Ex.aNe (us := [.bool y438, .string (bsOf y439)]) (vs := [.bool y440, .string (bsOf x207.data)]) flat_cursitorlaw04_70 rfl Try.eqGuardType70 rfl rfl rfl rfl (eqL_t (eqV_b c512) (eqL_f (eqV_sn (l := y439) (m := x207.data) c513)))) rfl ?_
                    exact nomatch h
                · replace h := ifF c512 h
                  refine TL.q rfl .u (Ex.aNe (us := [.bool y438, .string (bsOf y439)]) (vs := [.bool y440, .string (bsOf x207.data)]) flat_cursitorlaw04_70 rfl Try.eqGuardType70 rfl rfl rfl rfl (eqL_f (eqV_bn c512))) rfl ?_
                  exact nomatch h
  · replace h := ifF c7 h
    replace c7 := eq_false_of_ne_true c7
    refine TL.nil (X.seq ?_)
    refine T.yes rfl (bn_t c7) ?_
    exact nomatch h
end Go.Proofs.Ytpiiopppbgpbpaa.Sl
namespace Go.Proofs.Ytpiiopppbgpbpaa.Sl
open Go.RowKit
set_option linter.unusedVariables false
set_option linter.unusedSimpArgs false
theorem l04_speaks : f_l04_speaks = some true := by decide +kernel
def nbl (b : Bl) : Bl := if b.null = true then ⟨b.null, []⟩ else b
def enc1 (x : Int) (b : Bl) : List UInt8 := if x % 4 = 0 then be (blen b) 4 ++ b.data else if x % 4 = 1 then vput (vfold (blen b)) ++ b.data else if x % 4 = 2 then be (b.data.length : Int) 2 ++ b.data else vput (vfold (b.data.length : Int)) ++ b.data
def encK : List Bl → List Int → List UInt8
  | b :: l, x :: xs => enc1 x b ++ encK l xs
  | _, _ => []
def okn (b : Bl) : Prop := bright b = true ∧ b.data.length ≤ 120
theorem okn_len {b : Bl} (h : okn b) : -1 ≤ blen b ∧ blen b ≤ 120 := by
  have := h.2
  unfold blen
  split <;> omega
theorem nbl_ok {b : Bl} (h : b.data.length ≤ 120) : okn (nbl b) := by
  unfold nbl
  by_cases c : b.null = true
  · rw [if_pos c]; exact ⟨by unfold bright; simp, by simp⟩
  · rw [if_neg c]; exact ⟨by unfold bright; simp [c], h⟩
theorem vf32 (n : Int) (h : -1 ≤ n ∧ n ≤ 120) : vfold n < 2 ^ (32 : Int).toNat := by
  rw [show 2 ^ (32 : Int).toNat = 4294967296 by decide]
  unfold vfold
  split <;> omega
theorem vp10 (n : Int) (h : -1 ≤ n ∧ n ≤ 120) : (vput (vfold n)).length ≤ 10 := vput_ten _ (vfold_lt n (by omega) (by omega))
theorem enc1_len {b : Bl} (x : Int) (h : okn b) : (enc1 x b).length ≤ 130 := by
  have h1 := vp10 _ (okn_len h)
  have h2 := h.2
  have h3 := vp10 (b.data.length : Int) (by omega)
  unfold enc1
  split
  · rw [List.length_append, be_length]; omega
  · split
    · rw [List.length_append]; omega
    · split
      · rw [List.length_append, be_length]; omega
      · rw [List.length_append]; omega
theorem put_name4 {t d : List UInt8} (hf : d.length ≤ 1000000) (ht : t.length ≤ 1000000000) : gPutName (t, 0) d = some (t ++ (vput (vfold (d.length : Int)) ++ d), 0) := by
  have := gPutVaried_z (t := t) (b := ⟨false, d⟩) rfl (by simp only; omega) (by simp only; omega)
  rw [gPutName_eq _ _ (by simp only; omega)]
  rw [gPutVaried_eq _ _ (by simp only; omega)] at this
  exact this
theorem put_text4 {t d : List UInt8} (hf : d.length ≤ 30000) (ht : t.length ≤ 1000000000) : gPutText (t, 0) d = some (t ++ (be (d.length : Int) 2 ++ d), 0) := by
  have := gPutFixed_z (t := t) (b := ⟨false, d⟩) (k := 2) (fits_small (.inl rfl) (by show -32768 ≤ (d.length : Int); omega) (by show (d.length : Int) ≤ 32767; omega)) rfl (by simp only; omega)
  rw [gPutText_eq _ _ (by simp only; omega)]
  rw [gPutFixed_eq _ _ _ ⟨by decide, by simp only; omega⟩] at this
  exact this
theorem put1 (x : Int) (b : Bl) (h : okn b) (t : List UInt8) (ht : t.length ≤ 1000000) :
    ((if (x % 4) = 0 then ((gPutFixed (t, 0) b 4).bind fun st81 => some st81) else ((if (x % 4) = 1 then ((gPutVaried (t, 0) b).bind fun st101 => some st101) else ((if (x % 4) = 2 then ((gPutText (t, 0) b.data).bind fun st111 => some st111) else ((gPutName (t, 0) b.data).bind fun st113 => some st113)).bind fun st108 => some st108)).bind fun st98 => some st98))) = some (t ++ enc1 x b, 0) := by
  have hb := okn_len h
  have h2 := h.2
  unfold enc1
  by_cases c0 : x % 4 = 0
  · rw [if_pos c0, if_pos c0, gPutFixed_z (fits_small (.inr (.inl rfl)) (by omega) (by omega)) h.1 (by omega)]
    rfl
  rw [if_neg c0, if_neg c0]
  by_cases c1 : x % 4 = 1
  · rw [if_pos c1, if_pos c1, gPutVaried_z h.1 (by omega) (by omega)]
    rfl
  rw [if_neg c1, if_neg c1]
  by_cases c2 : x % 4 = 2
  · rw [if_pos c2, if_pos c2, put_text4 (by omega) (by omega)]
    rfl
  · rw [if_neg c2, if_neg c2, put_name4 (by omega) (by omega)]
    rfl
theorem bb_l1 (a0 : List Bl) (a1 : List Int) (hl : a0.length ≤ 30) (h1 : a0.length ≤ a1.length) (hx : ∀ x, x ∈ a1 → wU8 x) (y : Bool) : ∀ (m k : Nat) (t : List UInt8), k ≤ a0.length → a0.length - k < m → t.length ≤ 130 * k →
    f_l04_BlobBack_l1 a0 a1 m ((a0.take k).map nbl ++ a0.drop k) y k (t, 0) = some (.ret true) ∨
    (f_l04_BlobBack_l1 a0 a1 m ((a0.take k).map nbl ++ a0.drop k) y k (t, 0) = some (.go (a0.map nbl, y, a0.length, (t ++ encK ((a0.drop k).map nbl) (a1.drop k), 0))) ∧ ∀ b, b ∈ a0.drop k → b.data.length ≤ 120)
  | 0, _, _, _, h, _ => by omega
  | m + 1, k, t, hk, hm, ht => by
    rw [f_l04_BlobBack_l1, List.nil_append]
    by_cases h : k < a0.length
    · have hkl : ((a0.take k).map nbl).length = k := by rw [List.length_map, List.length_take]; omega
      have hd0 : a0.drop k = a0[k] :: a0.drop (k + 1) := List.drop_eq_getElem_cons h
      have hdx : a1.drop k = a1[k] :: a1.drop (k + 1) := List.drop_eq_getElem_cons (by omega)
      have g1 : ((a0.take k).map nbl ++ a0.drop k)[k]? = some a0[k] := by
        rw [List.getElem?_append_right (by omega), hkl, Nat.sub_self, hd0]
        rfl
      have g2 : a1[k]? = some (a1[k]'(by omega)) := List.getElem?_eq_getElem (by omega)
      have hx0 := hx _ (List.getElem_mem (show k < a1.length by omega))
      have htk : (a0.take (k + 1)).map nbl ++ a0.drop (k + 1) = (a0.take k).map nbl ++ (nbl a0[k] :: a0.drop (k + 1)) := by
        rw [List.take_succ_eq_append_getElem h, List.map_append, List.append_assoc]
        rfl
      rw [if_pos (by omega), g1, Option.bind_some]
      by_cases c : (a0[k].data.length : Int) > 120
      · rw [if_pos c]; exact .inl rfl
      rw [if_neg c]
      have hok : okn (nbl a0[k]) := nbl_ok (by omega)
      have hel := enc1_len (a1[k]'(by omega)) hok
      have hp := put1 (a1[k]'(by omega)) (nbl a0[k]) hok t (by omega)
      have ih := bb_l1 a0 a1 hl h1 hx y m (k + 1) (t ++ enc1 (a1[k]'(by omega)) (nbl a0[k])) (by omega) (by omega) (by rw [List.length_append]; omega)
      have fin : ∀ o, o = f_l04_BlobBack_l1 a0 a1 m ((a0.take (k + 1)).map nbl ++ a0.drop (k + 1)) y (k + 1) (t ++ enc1 (a1[k]'(by omega)) (nbl a0[k]), 0) → o = some (.ret true) ∨ (o = some (.go (a0.map nbl, y, a0.length, (t ++ encK ((a0.drop k).map nbl) (a1.drop k), 0))) ∧ ∀ b, b ∈ a0.drop k → b.data.length ≤ 120) := by
        intro o ho
        subst ho
        rcases ih with i1 | ⟨i1, i2⟩
        · exact .inl i1
        · refine .inr ⟨by rw [i1, hd0, hdx, List.map_cons, encK, List.append_assoc], fun b hb => ?_⟩
          rw [hd0] at hb
          rcases List.mem_cons.1 hb with rfl | hb
          · omega
          · exact i2 b hb
      by_cases cn : a0[k].null = true
      · have en : nbl a0[k] = ⟨a0[k].null, []⟩ := by unfold nbl; rw [if_pos cn]
        rw [en] at hp
        rw [if_pos cn, g2, Option.bind_some, if_pos hx0.1, hp, Option.bind_some, if_pos (by omega)]
        refine fin _ ?_
        rw [htk, en, List.set_append_right _ _ (by omega), hkl, Nat.sub_self, hd0]
        rfl
      · have en : nbl a0[k] = a0[k] := by unfold nbl; rw [if_neg cn]
        rw [en] at hp
        rw [if_neg cn, g2, Option.bind_some, if_pos hx0.1, hp, Option.bind_some, if_pos (by omega)]
        refine fin _ ?_
        rw [htk, en, hd0]
    · have : k = a0.length := by omega
      subst this
      rw [if_neg (by omega)]
      refine .inr ⟨by rw [List.take_length, List.drop_length, List.append_nil]; simp [encK], fun b hb => ?_⟩
      rw [List.drop_length] at hb
      exact nomatch hb
theorem bb_read {α : Type} {op : I → Option (α × I)} {p : Pr α} {z : α} {enc : α → List UInt8} {ok : α → Prop} (h : CQ op p z) (hs : Sp p enc ok) {S t : List UInt8} {q : Nat} {a : α} (hl : S.length ≤ 1000000) (hq : q ≤ S.length) (ha : ok a) (hd : S.drop q = enc a ++ t) :
    op ⟨S.drop q, q, 0⟩ = some (a, ⟨S.drop (q + (enc a).length), q + (enc a).length, 0⟩) ∧ q + (enc a).length ≤ S.length ∧ S.drop (q + (enc a).length) = t := CB.at h.cb hs hl hq ha hd
theorem bb_l2 (S : List UInt8) (hS : S.length ≤ 1000000) (a1 : List Int) (hx : ∀ x, x ∈ a1 → wU8 x) (y : Bool) : ∀ (l : List Bl) (k q : Nat) (t : List UInt8), (∀ b, b ∈ l → okn b) → k + l.length ≤ a1.length → q ≤ S.length → S.drop q = encK l (a1.drop k) ++ t →
    ∃ q', f_l04_BlobBack_l2 a1 l y k ⟨S.drop q, q, 0⟩ = some (.go (y, ⟨t, q', 0⟩))
  | [], k, q, t, _, _, hq, hd => by
    rw [show encK [] (a1.drop k) = [] by cases a1.drop k <;> rfl, List.nil_append] at hd
    exact ⟨q, by rw [f_l04_BlobBack_l2, hd]⟩
  | b :: l, k, q, t, hb, hk, hq, hd => by
    rw [List.length_cons] at hk
    have hb1 := hb b (List.mem_cons_self ..)
    have hn := okn_len hb1
    have h2 := hb1.2
    have hdx : a1.drop k = a1[k] :: a1.drop (k + 1) := List.drop_eq_getElem_cons (by omega)
    have g2 : a1[k]? = some (a1[k]'(by omega)) := List.getElem?_eq_getElem (by omega)
    have hx0 := hx _ (List.getElem_mem (show k < a1.length by omega))
    rw [hdx, encK, List.append_assoc] at hd
    have ih := fun q h1 h2 => bb_l2 S hS a1 hx y l (k + 1) q t (fun c hc => hb c (List.mem_cons_of_mem _ hc)) (by omega) h1 h2
    rw [f_l04_BlobBack_l2, g2, Option.bind_some, if_pos hx0.1]
    generalize a1[k]'(by omega) = x at hd hx0
    unfold enc1 at hd
    by_cases c0 : x % 4 = 0
    · rw [if_pos c0] at hd
      obtain ⟨r1, r2, r3⟩ := bb_read QF4 (Sp_fixed 4 (by decide) (by decide)) (a := b) hS hq ⟨fits_small (.inr (.inl rfl)) (by omega) (by omega), hb1.1⟩ hd
      rw [if_pos c0, r1, Option.bind_some, Option.bind_some]
      dsimp only
      rw [if_pos rfl, if_pos rfl]
      exact ih _ r2 r3
    rw [if_neg c0] at hd ⊢
    by_cases c1 : x % 4 = 1
    · rw [if_pos c1] at hd
      obtain ⟨r1, r2, r3⟩ := bb_read QV Sp_varied (a := b) hS hq ⟨vf32 _ hn, hb1.1⟩ hd
      rw [if_pos c1, r1, Option.bind_some, Option.bind_some, Option.bind_some]
      dsimp only
      rw [if_pos rfl, if_pos rfl]
      exact ih _ r2 r3
    rw [if_neg c1] at hd ⊢
    by_cases c2 : x % 4 = 2
    · rw [if_pos c2] at hd
      obtain ⟨r1, r2, r3⟩ := bb_read QT Sp_text (a := b.data) hS hq ⟨fits_small (.inl rfl) (by omega) (by omega), rfl⟩ hd
      rw [if_pos c2, r1, Option.bind_some]
      dsimp only
      rw [gOf_eq, Option.bind_some, Option.bind_some]
      dsimp only
      rw [Option.bind_some, Option.bind_some]
      dsimp only
      rw [if_pos rfl, if_pos rfl]
      exact ih _ r2 r3
    · rw [if_neg c2] at hd
      obtain ⟨r1, r2, r3⟩ := bb_read QN Sp_name (a := b.data) hS hq ⟨vf32 _ (by omega), rfl⟩ hd
      rw [if_neg c2, r1, Option.bind_some]
      dsimp only
      rw [gOf_eq, Option.bind_some, Option.bind_some]
      dsimp only
      rw [Option.bind_some, Option.bind_some]
      dsimp only
      rw [if_pos rfl, if_pos rfl]
      exact ih _ r2 r3
theorem encK_len : ∀ (l : List Bl) (xs : List Int), (∀ b, b ∈ l → okn b) → (encK l xs).length ≤ 130 * l.length
  | [], xs, _ => by cases xs <;> simp [encK]
  | b :: l, [], _ => by simp [encK]
  | b :: l, x :: xs, h => by
    have h1 := enc1_len x (h b (List.mem_cons_self ..))
    have h2 := encK_len l xs (fun c hc => h c (List.mem_cons_of_mem _ hc))
    rw [encK, List.length_append, List.length_cons]
    omega
theorem pure_BlobBack (a0 : List Bl) (a1 : List Int) (w0 : (wL wf_Bl) a0) (w1 : (wL wU8) a1) : f_l04_BlobBack a0 a1 = some true := by
  unfold f_l04_BlobBack
  rw [l04_speaks, Option.bind_some, if_pos rfl]
  by_cases c1 : (a0.length : Int) > 30
  · rw [if_pos c1, Option.bind_some, if_pos rfl]
  rw [if_neg c1]
  by_cases c2 : (a1.length : Int) < (a0.length : Int)
  · rw [if_pos c2, Option.bind_some, if_pos rfl]
  rw [if_neg c2, Option.bind_some, if_neg (by decide), if_pos (by rw [List.length_nil]; omega), List.nil_append, Int.toNat_natCast]
  have h := bb_l1 a0 a1 (by omega) (by omega) w1.2 false (a0.length + 1) 0 [] (Nat.zero_le _) (by omega) (by simp)
  rw [List.take_zero, List.map_nil, List.nil_append, List.drop_zero, List.drop_zero, List.nil_append] at h
  rcases h with h | ⟨h, hb⟩
  · rw [h, Option.bind_some]
  rw [h, Option.bind_some]
  dsimp only
  have hok : ∀ b, b ∈ a0.map nbl → okn b := by
    intro b hbm
    obtain ⟨c, hc, rfl⟩ := List.mem_map.1 hbm
    exact nbl_ok (hb c hc)
  have hl := encK_len (a0.map nbl) a1 hok
  rw [List.length_map] at hl
  rw [gOText_eq, Option.bind_some]
  dsimp only
  rw [otx_z]
  dsimp only
  rw [gNew_eq _ (by omega), Option.bind_some]
  obtain ⟨q', h2⟩ := bb_l2 (encK (a0.map nbl) a1) (by omega) a1 w1.2 false (a0.map nbl) 0 0 [] hok (by rw [List.length_map]; omega) (Nat.zero_le _) (by rw [List.drop_zero, List.drop_zero, List.append_nil])
  rw [List.drop_zero] at h2
  rw [h2, Option.bind_some]
  dsimp only
  rw [if_pos rfl, gClose_z, Option.bind_some]
  dsimp only
  rw [if_pos rfl]
  rfl
end Go.Proofs.Ytpiiopppbgpbpaa.Sl
namespace Go.Proofs.Ytpiiopppbgpbpaa.Sl
open Go.RowKit Go.Deep Go.ChangeShapes
set_option linter.unusedVariables false
theorem op_Bl {H : Type} {enc : TypeId × Value → H} : OpensW enc Try.prog 70 (andRd Bl_rd wf_Bl) :=
  opensW_weak (fun x => ⟨x.1, x.2.1⟩) (opensW_struct Try.underlying70 (by kernel_rfl) (opensWFs_cons 1 (by kernel_rfl) (by kernel_rfl) (op_bool Try.underlying4) (opensWFs_cons 1 (by kernel_rfl) (by kernel_rfl) (op_str Try.underlying9) (opensWFs_nil _)))) (by
    rintro w S cs ⟨x0, x1, _⟩ ⟨_, _, rfl, ⟨p0, q0⟩, _, _, rfl, ⟨p1, q1⟩, rfl⟩
    obtain rfl := p0
    obtain rfl := p1
    exact ⟨rfl, q0, q1⟩)
end Go.Proofs.Ytpiiopppbgpbpaa.Sl
namespace Go.Proofs.Ytpiiopppbgpbpaa.blobBack
open Go.ChangeShapes Go.WideShapes Go.ChangeAt Go.RowKit
open Go.ChangeMaps (open_string shut_string)
set_option linter.unusedVariables false
theorem own : ownKnob Try.prog.godebug = none := by kernel_rfl
theorem laidOut : laidOutB Try.prog = true := by kernel_rfl
set_option maxRecDepth 100000 in
set_option maxHeartbeats 1000000 in
theorem lifted (os : Os) (started : os.Started) (H : Type) (enc : TypeId × Value → H) :
    ReturnsInHanded {} Try.checked os 7 .any (Rows.blobBackSpec.pre6 enc Try.prog Try.f7 Rows.blobBackRow.domain false) (Rows.blobBackSpec.post enc Try.prog Try.f7 false true false false) := by
  refine returnsInHanded_of_change_sized (C := Try.checked) own started (by kernel_rfl) Try.func7
    (ChangeSpec.witness6 (enc := enc) (C := Try.checked) false ⟨#[], #[.slice none 0 0, .slice none 0 0], []⟩ 8 (by kernel_rfl) (by kernel_rfl) (by kernel_rfl) (by kernel_rfl)) ?_
  intro W base args ds gs before hval0 hW hcnd hsz0 _
  have hsz : (DataW.weightsEach Try.prog (Try.f7.params.toList ++ Rows.blobBackSpec.plain.varTypes Try.prog) (ds ++ gs)).all (· ≤ reachBytes) = true := hsz0
  have hval : ∀ (j : Nat) t v, Try.f7.params[j]? = some t → args[j]? = some v → Value.okWide Try.prog W .any base t v := hval0
  have hW' := hW
  obtain ⟨p, q, hA0, hV, rfl, hfz, hnd⟩ := hW
  have hA : DataW.TrodAll enc Try.prog W 0 (fun _ => true) true Try.f7.params.toList args.toList ds p := hA0
  rw [Try.params7] at hA hval hsz
  obtain ⟨v0, vs0, d0, ds0, p0, q0, hargs, rfl, rfl, h0, r0⟩ := trodAll_cons hA
  obtain ⟨v1, vs1, d1, ds1, p1, q1, rfl, rfl, rfl, h1, r1⟩ := trodAll_cons r0
  obtain ⟨rfl, rfl, rfl⟩ := trodAll_nil r1
  obtain rfl : args = #[v0, v1] := by cases args; simp_all
  obtain ⟨rfl, rfl⟩ := trodVars_none hV
  have k0 := h0
  have lt0 : ∀ x ∈ p0, x.block < W.heap.size := by obtain ⟨m, hm⟩ := k0; exact DataW.trod_lt m _ _ _ hm
  obtain ⟨a0, r_0, w0⟩ := Sl.opens_arg1 Try.underlying68 (hval 0 68 v0 rfl rfl) (Sl.op_slice 2 24 Try.underlying68 (by kernel_rfl) (by kernel_rfl) (by decide) (by decide) Sl.op_Bl) h0 (fun x hx => of_decide_eq_true (List.all_eq_true.1 hsz x (Sl.weights_in 0 rfl rfl hx)))
  obtain ⟨A0, c0, e0⟩ := Sl.slice_cells r_0
  injection e0 with e0
  subst e0
  have k1 := h1
  have lt1 : ∀ x ∈ p1, x.block < W.heap.size := by obtain ⟨m, hm⟩ := k1; exact DataW.trod_lt m _ _ _ hm
  obtain ⟨a1, r_1, w1⟩ := Sl.opens_arg1 Try.underlying39 (hval 1 39 v1 rfl rfl) (Sl.op_slice 1 1 Try.underlying39 (by kernel_rfl) (by kernel_rfl) (by decide) (by decide) (Sl.op_u8 Try.underlying5)) h1 (fun x hx => of_decide_eq_true (List.all_eq_true.1 hsz x (Sl.weights_in 1 rfl rfl hx)))
  obtain ⟨A1, c1, e1⟩ := Sl.slice_cells r_1
  injection e1 with e1
  subst e1
  clear hA0 hval0 hsz0 hsz
  refine (Sl.f_l04_BlobBack_spec a0 A0 c0 a1 A1 c1 true (Sl.pure_BlobBack a0 a1 w0 w1) (fun _ => False) W (fun _ h => h) (Sl.RX.reads_and (Sl.RX.reads_all r_0) (Sl.RX.reads_all r_1))).mono fun e W' hP => ?_
  obtain ⟨v, A', Ns, rfl, ⟨rfl, rfl, rfl⟩, hst⟩ := hP
  have bel := Sl.St.below hst
  exact ⟨_, rfl, _, _, _, [], _, [], hW', trodAll_mk1 (shut_bool Try.underlying4 _), (trodAll_cons_mk (Below.trod laidOut (by kernel_rfl) (of_decide_eq_true (by kernel_rfl)) k0 bel lt0) (trodAll_cons_mk (Below.trod laidOut (by kernel_rfl) (of_decide_eq_true (by kernel_rfl)) k1 bel lt1) trodAll_mk0)), rfl, bel.frame _, fun h => by cases h⟩
theorem over : Rows.blobBackRow.holds Try.pinned (OpenSpec.ofChange Rows.blobBackSpec) :=
  OpenClaim.holds_of_wide 7 Try.f7 rfl rfl rfl rfl rfl rfl rfl ⟨rfl, rfl, rfl, rfl, rfl⟩ rfl rfl rfl rfl rfl (by kernel_rfl) Try.func7 (by kernel_rfl)
    (of_decide_eq_true (by kernel_rfl)) (by unfold Func.isWrapper; first | (rw [if_pos (by decide +kernel)]; kernel_rfl) | (rw [if_neg (by decide +kernel)]; exact ⟨rfl, rfl⟩))
    (fun os started H enc _ => lifted os started H enc)
theorem proved : Rows.BlobBackSaid := over
end Go.Proofs.Ytpiiopppbgpbpaa.blobBack
namespace Go.Proofs.Ytpiiopppbgpbpaa
theorem blobBack_holds : Rows.BlobBackSaid := blobBack.proved
end Go.Proofs.Ytpiiopppbgpbpaa
