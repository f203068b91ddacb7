/- WholeFields: for every input the law returns true, and its arguments read behind the call as they did before. -/
import Derived.Laws.BytesString
import Derived.Laws.Cells
import Derived.Laws.MakeOwn
import Derived.Laws.CopyRow
import Derived.Test.YtpiiopppbgpbpaaRows
import Derived.WalkKit
import Derived.ProofKit
import Derived.OpenShut
import Derived.ShutString
import Derived.ChangeOld
import Derived.Below
import Derived.SizedLaws
import Derived.Test.YtpiiopppbgpbpaaK0
namespace Go.Proofs.Ytpiiopppbgpbpaa.Sl
open Go.RowKit
set_option linter.unusedVariables false
set_option linter.unusedSimpArgs false
def envput : Option Nat → Value → Env → Env
  | none, _, e => e
  | some d, v, e => (d, v) :: e
def okd : Option Nat → Nat → Bool
  | none, _ => true
  | some d, n => Nat.blt d n
section
variable {P : Program} {n : Nat} {F0 : Nat → Prop} {w0 : World} {e : Env} {Rs : List Res} {d : Option Tmp} {ty : TypeId} {pos : String} {af : Array Edge} {gd : Option (Nat × Bool)} {v : Value} {x y : Operand} {t t' el : TypeId}
theorem Has.putd {a : Act} (h : Has n e a) (hd : okd d n = true) : Has n (envput d v e) (a.put d v) := by
  cases d with
  | none => exact h
  | some d => exact h.put hd
theorem St.setRowS {b : Nat} {T : TypeId} {cs cs' : Array Value} {w : World} (i : Nat) (h : St F0 w0 Rs w) (hi : Rs[i]? = some (BlkR b T cs)) : St F0 w0 (Rs.set i (BlkR b T cs')) (w.setRow b cs') := by
  refine h.step i hi (Ns := []) (fun G hG => ⟨⟨rfl, rfl, rfl, by simp [World.setRow], fun k hk hn => setRow_other w b k cs' (fun e => hn (e ▸ (hG.2 b).2 rfl))⟩, G, ⟨setRow_heap w b cs cs' T (0, 0) hG.1, hG.2⟩, fun k hk => .inl hk, trivial⟩)
theorem Ef.alloc {zv : Value} (hz : ∀ w, (zeroValue t).run P w = .ok zv w) (hd : okd d n = true) : Ef P n F0 w0 e Rs ⟨d, .alloc t, ty, pos, af, gd⟩ (fun e' Rs' => ∃ b, e' = envput d (.pointer (some ⟨b, 0, none⟩)) e ∧ Rs' = BlkR b t zv.cells :: Rs) := by
  intro a w K Q ha hs hk
  have h1 : (execOp a.eval ⟨d, .alloc t, ty, pos, af, gd⟩).run P w = .ok (.value (.pointer (some ⟨w.heap.size, 0, none⟩))) (w.alloc (.cells zv.cells t)) := by
    simp [execOp, Instr.alloc, hz, newVar, newRow, newObj]
    rfl
  unfold Oper.wp
  rw [h1]
  exact hk _ _ ⟨_, rfl, rfl⟩ _ _ (ha.putd hd) (hs.alloc _ _)
theorem Ef.box (hx : e.ev x = some v) (hd : okd d n = true) : Ef P n F0 w0 e Rs ⟨d, .box t x, ty, pos, af, gd⟩ (fun e' Rs' => ∃ b, e' = envput d (.pointer (some ⟨b, 0, none⟩)) e ∧ Rs' = BlkR b t v.cells :: Rs) := by
  intro a w K Q ha hs hk
  have h1 : (execOp a.eval ⟨d, .box t x, ty, pos, af, gd⟩).run P w = .ok (.value (.pointer (some ⟨w.heap.size, 0, none⟩))) (w.alloc (.cells v.cells t)) := by
    simp [execOp, ha.ev hx, Instr.box, newVar, newRow, newObj]
    rfl
  unfold Oper.wp
  rw [h1]
  exact hk _ _ ⟨_, rfl, rfl⟩ _ _ (ha.putd hd) (hs.alloc _ _)
theorem Ef.st (i : Nat) {b o z : Nat} {T : TypeId} {cs cs' : Array Value} (hx : e.ev x = some (.pointer (some ⟨b, o, none⟩))) (hy : e.ev y = some v) (hz : ∀ w, (sizeOf t).run P w = .ok z w) (hi : Rs[i]? = some (BlkR b T cs))
    (hvz : Nat.beq v.cells.size z = true) (hf : Nat.ble (o + v.cells.size) cs.size = true) (ho : v.cells.toList.all (·.oneCell') = true) (hc : (cs.toList.take o ++ v.cells.toList ++ cs.toList.drop (o + v.cells.size)).toArray = cs') :
    Ef P n F0 w0 e Rs ⟨none, .store t x y, ty, pos, af, gd⟩ (fun e' Rs' => e' = e ∧ Rs' = Rs.set i (BlkR b T cs')) := by
  intro a w K Q ha hs hk
  have hb := hs.blk i hi
  have hvz' := Nat.eq_of_beq_eq_true hvz
  have hf' := Nat.le_of_ble_eq_true hf
  have h2 := run_storeCells_at (P := P) b o T v.cells.toList 0 cs w hb (by simpa using hf') (List.all_eq_true.1 ho)
  have h1 : (execOp a.eval ⟨none, .store t x y, ty, pos, af, gd⟩).run P w = .ok .skip (w.setRow b cs') := by
    simp only [Nat.add_zero, Array.length_toList] at h2
    rw [hc] at h2
    simp [execOp, ha.ev hx, ha.ev hy, Instr.storeAt, Instr.sureAddr, storeVar, hz, hvz', h2]
  unfold Oper.wp
  rw [h1]
  exact hk _ _ ⟨rfl, rfl⟩ _ _ (ha.put0) (hs.setRowS i hi)
def CT (P : Program) (n : Nat) (e : Env) (o : Oper) (f : FuncId) (us : List Value) : Prop := ∀ a w, Has n e a → (execOp a.eval o).run P w = .ok (.enter f us.toArray) w
theorem CT.fn {f : FuncId} {xs : List Operand} {vs : List Value} {ts : Array TypeId} (hc : ∀ args w, (callFunc f args).run P w = .ok (.enter f args) w) (hv : e.evs xs = some vs) : CT P n e ⟨d, .call ⟨.value (.func f), xs.toArray, ts⟩, ty, pos, af, gd⟩ f vs := by
  intro a w ha
  simp [execOp, resolve, Act.eval, Deferred.ofValue, invoke, List.map_toArray, ha.evs hv, hc]
theorem CT.val {f : FuncId} {x : Operand} {xs : List Operand} {vs us fs cs : List Value} {ts : Array TypeId} (hx : e.ev x = some (.func (.func f) fs.toArray cs.toArray)) (hc : ∀ args w, (callFunc f args).run P w = .ok (.enter f args) w) (hv : e.evs xs = some vs) (hu : fs ++ vs ++ cs = us) : CT P n e ⟨d, .call ⟨.value x, xs.toArray, ts⟩, ty, pos, af, gd⟩ f us := by
  intro a w ha
  subst hu
  simp [execOp, resolve, ha.ev hx, Deferred.ofValue, invoke, List.map_toArray, ha.evs hv, hc]
theorem Ef.call (i : Nat) {op : Op} {f : FuncId} {vs : List Value} {A : Res} {Y : RX} {R : Value → Res → List Res → Prop} (hc : CT P n e ⟨d, op, ty, pos, af, gd⟩ f vs) (hi : Rs[i]? = some A)
    (hs : SpecX P f vs.toArray Y A R) (hr : ∀ w, St F0 w0 Rs w → Src F0 w0 Rs w i Y) (hd : okd d n = true) :
    Ef P n F0 w0 e Rs ⟨d, op, ty, pos, af, gd⟩ (fun e' Rs' => ∃ v A' N, R v A' N ∧ e' = envput d v e ∧ Rs' = N ++ Rs.set i A') := by
  intro a w K Q ha hst hk
  unfold Oper.wp
  rw [hc a w ha]
  refine (hst.callX i hi hs (hr w hst)).mono ?_
  rintro x w' ⟨v, A', N, rfl, hq, hst'⟩
  exact hk _ _ ⟨v, A', N, hq, rfl, rfl⟩ _ _ (ha.putd hd) hst'
theorem Ef.callE {op : Op} {f : FuncId} {vs : List Value} {Y : RX} {R : Value → Res → List Res → Prop} (hc : CT P n e ⟨d, op, ty, pos, af, gd⟩ f vs)
    (hs : SpecX P f vs.toArray Y EmpR R) (hr : ∀ w, St F0 w0 Rs w → Y.reads w (fun _ => False)) (hd : okd d n = true) :
    Ef P n F0 w0 e Rs ⟨d, op, ty, pos, af, gd⟩ (fun e' Rs' => ∃ v A' N, R v A' N ∧ e' = envput d v e ∧ Rs' = N ++ Rs) := by
  intro a w K Q ha hst hk
  unfold Oper.wp
  rw [hc a w ha]
  refine (hst.callE hs (hr w hst)).mono ?_
  rintro x w' ⟨v, A', N, rfl, hq, hst'⟩
  exact hk _ _ ⟨v, A', N, hq, rfl, rfl⟩ _ _ (ha.putd hd) hst'
def SOK (P : Program) (t T : TypeId) (m z : Nat) (zs : Array Value) : Prop := ∀ (parts : Array (Nat × Value)) (cells : Array Value) (w : World), Instr.fill (fun i => some (i * z, z)) zs parts.toList = some cells → (Instr.buildSlice t m parts).run P w = .ok (.slice (some ⟨w.heap.size, 0, none⟩) m m) (w.alloc (.cells cells T))
end
section
variable {P : Program} {n : Nat} {F0 : Nat → Prop} {w0 : World} {e : Env} {Rs Rf : List Res} {Q : Exit → Act → World → Prop} {ops : Array Oper} {i d b o z f T : Nat} {ty t el : TypeId} {pos : String} {af : Array Edge} {gd : Option (Nat × Bool)} {v zv : Value} {x y : Operand} {l : List Nat} {xs : List Operand} {vs : List Value} {ts : Array TypeId} {Y : RX} {A B : Res} {R : Value → Res → List Res → Prop} {c : Code} {cl : Call}
theorem TL.alloc  (ho : ops[i]? = some ⟨some d, .alloc t, ty, pos, af, gd⟩) (hw : Wd n ops e ⟨some d, .alloc t, ty, pos, af, gd⟩ true) (hz : ∀ w, (zeroValue t).run P w = .ok zv w) (hd : Nat.blt d n = true) (h : ∀ b, TL P n F0 w0 ops l ((d, .pointer (some ⟨b, 0, none⟩)) :: e) (BlkR b t zv.cells :: Rs) Q) : TL P n F0 w0 ops (i :: l) e Rs Q := by
  refine TL.ef ho hw (Ef.alloc hz hd) ?_
  rintro _ _ ⟨b, rfl, rfl⟩
  exact h b
theorem TD.alloc  {l : Sch} (ho : ops[i]? = some ⟨some d, .alloc t, ty, pos, af, gd⟩) (hw : Wd n ops e ⟨some d, .alloc t, ty, pos, af, gd⟩ true) (hz : ∀ w, (zeroValue t).run P w = .ok zv w) (hd : Nat.blt d n = true) (is : List Nat) (hf : ∀ b, Sel (BlkR b t zv.cells :: Rs) is Rf) (h : ∀ b, TD P n F0 w0 ops l Rf ((d, .pointer (some ⟨b, 0, none⟩)) :: e) (BlkR b t zv.cells :: Rs) Q) : TD P n F0 w0 ops (.e i l) Rf e Rs Q := by
  refine TD.ef ho hw (Ef.alloc hz hd) ?_
  rintro _ _ ⟨b, rfl, rfl⟩
  exact ⟨Rf, fun w hw => hw.sel is (hf b), fun _ h => h, h b⟩
theorem TL.box  (ho : ops[i]? = some ⟨some d, .box t x, ty, pos, af, gd⟩) (hw : Wd n ops e ⟨some d, .box t x, ty, pos, af, gd⟩ true) (hx : e.ev x = some v) (hd : Nat.blt d n = true) (h : ∀ b, TL P n F0 w0 ops l ((d, .pointer (some ⟨b, 0, none⟩)) :: e) (BlkR b t v.cells :: Rs) Q) : TL P n F0 w0 ops (i :: l) e Rs Q := by
  refine TL.ef ho hw (Ef.box hx hd) ?_
  rintro _ _ ⟨b, rfl, rfl⟩
  exact h b
theorem TD.box  {l : Sch} (ho : ops[i]? = some ⟨some d, .box t x, ty, pos, af, gd⟩) (hw : Wd n ops e ⟨some d, .box t x, ty, pos, af, gd⟩ true) (hx : e.ev x = some v) (hd : Nat.blt d n = true) (is : List Nat) (hf : ∀ b, Sel (BlkR b t v.cells :: Rs) is Rf) (h : ∀ b, TD P n F0 w0 ops l Rf ((d, .pointer (some ⟨b, 0, none⟩)) :: e) (BlkR b t v.cells :: Rs) Q) : TD P n F0 w0 ops (.e i l) Rf e Rs Q := by
  refine TD.ef ho hw (Ef.box hx hd) ?_
  rintro _ _ ⟨b, rfl, rfl⟩
  exact ⟨Rf, fun w hw => hw.sel is (hf b), fun _ h => h, h b⟩
theorem TL.st0 {cs cs' : Array Value}  (ho : ops[i]? = some ⟨none, .store t x y, ty, pos, af, gd⟩) (hw : Wd n ops e ⟨none, .store t x y, ty, pos, af, gd⟩ true) (hx : e.ev x = some (.pointer (some ⟨b, o, none⟩))) (hy : e.ev y = some v) (hz : ∀ w, (sizeOf t).run P w = .ok z w) (hvz : Nat.beq v.cells.size z = true) (hf' : Nat.ble (o + v.cells.size) cs.size = true) (ho' : v.cells.toList.all (·.oneCell') = true) (hc : (cs.toList.take o ++ v.cells.toList ++ cs.toList.drop (o + v.cells.size)).toArray = cs') (h : TL P n F0 w0 ops l e (BlkR b T cs' :: Rs) Q) : TL P n F0 w0 ops (i :: l) e (BlkR b T cs :: Rs) Q := by
  refine TL.ef ho hw (Ef.st 0 hx hy hz rfl hvz hf' ho' hc) ?_
  rintro _ _ ⟨rfl, rfl⟩
  exact h
theorem TD.st0 {cs cs' : Array Value}  {l : Sch} (ho : ops[i]? = some ⟨none, .store t x y, ty, pos, af, gd⟩) (hw : Wd n ops e ⟨none, .store t x y, ty, pos, af, gd⟩ true) (hx : e.ev x = some (.pointer (some ⟨b, o, none⟩))) (hy : e.ev y = some v) (hz : ∀ w, (sizeOf t).run P w = .ok z w) (hvz : Nat.beq v.cells.size z = true) (hf' : Nat.ble (o + v.cells.size) cs.size = true) (ho' : v.cells.toList.all (·.oneCell') = true) (hc : (cs.toList.take o ++ v.cells.toList ++ cs.toList.drop (o + v.cells.size)).toArray = cs') (is : List Nat) (hf : Sel (BlkR b T cs' :: Rs) is Rf) (h : TD P n F0 w0 ops l Rf e (BlkR b T cs' :: Rs) Q) : TD P n F0 w0 ops (.e i l) Rf e (BlkR b T cs :: Rs) Q := by
  refine TD.ef ho hw (Ef.st 0 hx hy hz rfl hvz hf' ho' hc) ?_
  rintro _ _ ⟨rfl, rfl⟩
  exact ⟨Rf, fun w hw => hw.sel is (hf), fun _ h => h, h⟩
theorem TL.c0  (ho : ops[i]? = some ⟨some d, .call cl, ty, pos, af, gd⟩) (hw : Wd n ops e ⟨some d, .call cl, ty, pos, af, gd⟩ true) (hc : CT P n e ⟨some d, .call cl, ty, pos, af, gd⟩ f vs) (hs : SpecX P f vs.toArray Y A (fun v' A' N => v' = v ∧ A' = B ∧ N = [])) (hr : ∀ w, St F0 w0 (A :: Rs) w → Src F0 w0 (A :: Rs) w 0 Y) (hd : Nat.blt d n = true) (h : TL P n F0 w0 ops l ((d, v) :: e) (B :: Rs) Q) : TL P n F0 w0 ops (i :: l) e (A :: Rs) Q := by
  refine TL.ef ho hw (Ef.call 0 hc rfl hs hr hd) ?_
  rintro _ _ ⟨_, _, _, ⟨rfl, rfl, rfl⟩, rfl, rfl⟩
  exact h
theorem TD.c0  {l : Sch} (ho : ops[i]? = some ⟨some d, .call cl, ty, pos, af, gd⟩) (hw : Wd n ops e ⟨some d, .call cl, ty, pos, af, gd⟩ true) (hc : CT P n e ⟨some d, .call cl, ty, pos, af, gd⟩ f vs) (hs : SpecX P f vs.toArray Y A (fun v' A' N => v' = v ∧ A' = B ∧ N = [])) (hr : ∀ w, St F0 w0 (A :: Rs) w → Src F0 w0 (A :: Rs) w 0 Y) (hd : Nat.blt d n = true) (is : List Nat) (hf : Sel (B :: Rs) is Rf) (h : TD P n F0 w0 ops l Rf ((d, v) :: e) (B :: Rs) Q) : TD P n F0 w0 ops (.e i l) Rf e (A :: Rs) Q := by
  refine TD.ef ho hw (Ef.call 0 hc rfl hs hr hd) ?_
  rintro _ _ ⟨_, _, _, ⟨rfl, rfl, rfl⟩, rfl, rfl⟩
  exact ⟨Rf, fun w hw => hw.sel is (hf), fun _ h => h, h⟩
theorem TL.st1 {cs cs' : Array Value} {R0 : Res} (ho : ops[i]? = some ⟨none, .store t x y, ty, pos, af, gd⟩) (hw : Wd n ops e ⟨none, .store t x y, ty, pos, af, gd⟩ true) (hx : e.ev x = some (.pointer (some ⟨b, o, none⟩))) (hy : e.ev y = some v) (hz : ∀ w, (sizeOf t).run P w = .ok z w) (hvz : Nat.beq v.cells.size z = true) (hf' : Nat.ble (o + v.cells.size) cs.size = true) (ho' : v.cells.toList.all (·.oneCell') = true) (hc : (cs.toList.take o ++ v.cells.toList ++ cs.toList.drop (o + v.cells.size)).toArray = cs') (h : TL P n F0 w0 ops l e (R0 :: BlkR b T cs' :: Rs) Q) : TL P n F0 w0 ops (i :: l) e (R0 :: BlkR b T cs :: Rs) Q := by
  refine TL.ef ho hw (Ef.st 1 hx hy hz rfl hvz hf' ho' hc) ?_
  rintro _ _ ⟨rfl, rfl⟩
  exact h
theorem TD.st1 {cs cs' : Array Value} {R0 : Res} {l : Sch} (ho : ops[i]? = some ⟨none, .store t x y, ty, pos, af, gd⟩) (hw : Wd n ops e ⟨none, .store t x y, ty, pos, af, gd⟩ true) (hx : e.ev x = some (.pointer (some ⟨b, o, none⟩))) (hy : e.ev y = some v) (hz : ∀ w, (sizeOf t).run P w = .ok z w) (hvz : Nat.beq v.cells.size z = true) (hf' : Nat.ble (o + v.cells.size) cs.size = true) (ho' : v.cells.toList.all (·.oneCell') = true) (hc : (cs.toList.take o ++ v.cells.toList ++ cs.toList.drop (o + v.cells.size)).toArray = cs') (is : List Nat) (hf : Sel (R0 :: BlkR b T cs' :: Rs) is Rf) (h : TD P n F0 w0 ops l Rf e (R0 :: BlkR b T cs' :: Rs) Q) : TD P n F0 w0 ops (.e i l) Rf e (R0 :: BlkR b T cs :: Rs) Q := by
  refine TD.ef ho hw (Ef.st 1 hx hy hz rfl hvz hf' ho' hc) ?_
  rintro _ _ ⟨rfl, rfl⟩
  exact ⟨Rf, fun w hw => hw.sel is (hf), fun _ h => h, h⟩
theorem TL.c1 {R0 : Res} (ho : ops[i]? = some ⟨some d, .call cl, ty, pos, af, gd⟩) (hw : Wd n ops e ⟨some d, .call cl, ty, pos, af, gd⟩ true) (hc : CT P n e ⟨some d, .call cl, ty, pos, af, gd⟩ f vs) (hs : SpecX P f vs.toArray Y A (fun v' A' N => v' = v ∧ A' = B ∧ N = [])) (hr : ∀ w, St F0 w0 (R0 :: A :: Rs) w → Src F0 w0 (R0 :: A :: Rs) w 1 Y) (hd : Nat.blt d n = true) (h : TL P n F0 w0 ops l ((d, v) :: e) (R0 :: B :: Rs) Q) : TL P n F0 w0 ops (i :: l) e (R0 :: A :: Rs) Q := by
  refine TL.ef ho hw (Ef.call 1 hc rfl hs hr hd) ?_
  rintro _ _ ⟨_, _, _, ⟨rfl, rfl, rfl⟩, rfl, rfl⟩
  exact h
theorem TD.c1 {R0 : Res} {l : Sch} (ho : ops[i]? = some ⟨some d, .call cl, ty, pos, af, gd⟩) (hw : Wd n ops e ⟨some d, .call cl, ty, pos, af, gd⟩ true) (hc : CT P n e ⟨some d, .call cl, ty, pos, af, gd⟩ f vs) (hs : SpecX P f vs.toArray Y A (fun v' A' N => v' = v ∧ A' = B ∧ N = [])) (hr : ∀ w, St F0 w0 (R0 :: A :: Rs) w → Src F0 w0 (R0 :: A :: Rs) w 1 Y) (hd : Nat.blt d n = true) (is : List Nat) (hf : Sel (R0 :: B :: Rs) is Rf) (h : TD P n F0 w0 ops l Rf ((d, v) :: e) (R0 :: B :: Rs) Q) : TD P n F0 w0 ops (.e i l) Rf e (R0 :: A :: Rs) Q := by
  refine TD.ef ho hw (Ef.call 1 hc rfl hs hr hd) ?_
  rintro _ _ ⟨_, _, _, ⟨rfl, rfl, rfl⟩, rfl, rfl⟩
  exact ⟨Rf, fun w hw => hw.sel is (hf), fun _ h => h, h⟩
theorem TL.st2 {cs cs' : Array Value} {R0 R1 : Res} (ho : ops[i]? = some ⟨none, .store t x y, ty, pos, af, gd⟩) (hw : Wd n ops e ⟨none, .store t x y, ty, pos, af, gd⟩ true) (hx : e.ev x = some (.pointer (some ⟨b, o, none⟩))) (hy : e.ev y = some v) (hz : ∀ w, (sizeOf t).run P w = .ok z w) (hvz : Nat.beq v.cells.size z = true) (hf' : Nat.ble (o + v.cells.size) cs.size = true) (ho' : v.cells.toList.all (·.oneCell') = true) (hc : (cs.toList.take o ++ v.cells.toList ++ cs.toList.drop (o + v.cells.size)).toArray = cs') (h : TL P n F0 w0 ops l e (R0 :: R1 :: BlkR b T cs' :: Rs) Q) : TL P n F0 w0 ops (i :: l) e (R0 :: R1 :: BlkR b T cs :: Rs) Q := by
  refine TL.ef ho hw (Ef.st 2 hx hy hz rfl hvz hf' ho' hc) ?_
  rintro _ _ ⟨rfl, rfl⟩
  exact h
theorem TD.st2 {cs cs' : Array Value} {R0 R1 : Res} {l : Sch} (ho : ops[i]? = some ⟨none, .store t x y, ty, pos, af, gd⟩) (hw : Wd n ops e ⟨none, .store t x y, ty, pos, af, gd⟩ true) (hx : e.ev x = some (.pointer (some ⟨b, o, none⟩))) (hy : e.ev y = some v) (hz : ∀ w, (sizeOf t).run P w = .ok z w) (hvz : Nat.beq v.cells.size z = true) (hf' : Nat.ble (o + v.cells.size) cs.size = true) (ho' : v.cells.toList.all (·.oneCell') = true) (hc : (cs.toList.take o ++ v.cells.toList ++ cs.toList.drop (o + v.cells.size)).toArray = cs') (is : List Nat) (hf : Sel (R0 :: R1 :: BlkR b T cs' :: Rs) is Rf) (h : TD P n F0 w0 ops l Rf e (R0 :: R1 :: BlkR b T cs' :: Rs) Q) : TD P n F0 w0 ops (.e i l) Rf e (R0 :: R1 :: BlkR b T cs :: Rs) Q := by
  refine TD.ef ho hw (Ef.st 2 hx hy hz rfl hvz hf' ho' hc) ?_
  rintro _ _ ⟨rfl, rfl⟩
  exact ⟨Rf, fun w hw => hw.sel is (hf), fun _ h => h, h⟩
theorem TL.c2 {R0 R1 : Res} (ho : ops[i]? = some ⟨some d, .call cl, ty, pos, af, gd⟩) (hw : Wd n ops e ⟨some d, .call cl, ty, pos, af, gd⟩ true) (hc : CT P n e ⟨some d, .call cl, ty, pos, af, gd⟩ f vs) (hs : SpecX P f vs.toArray Y A (fun v' A' N => v' = v ∧ A' = B ∧ N = [])) (hr : ∀ w, St F0 w0 (R0 :: R1 :: A :: Rs) w → Src F0 w0 (R0 :: R1 :: A :: Rs) w 2 Y) (hd : Nat.blt d n = true) (h : TL P n F0 w0 ops l ((d, v) :: e) (R0 :: R1 :: B :: Rs) Q) : TL P n F0 w0 ops (i :: l) e (R0 :: R1 :: A :: Rs) Q := by
  refine TL.ef ho hw (Ef.call 2 hc rfl hs hr hd) ?_
  rintro _ _ ⟨_, _, _, ⟨rfl, rfl, rfl⟩, rfl, rfl⟩
  exact h
theorem TD.c2 {R0 R1 : Res} {l : Sch} (ho : ops[i]? = some ⟨some d, .call cl, ty, pos, af, gd⟩) (hw : Wd n ops e ⟨some d, .call cl, ty, pos, af, gd⟩ true) (hc : CT P n e ⟨some d, .call cl, ty, pos, af, gd⟩ f vs) (hs : SpecX P f vs.toArray Y A (fun v' A' N => v' = v ∧ A' = B ∧ N = [])) (hr : ∀ w, St F0 w0 (R0 :: R1 :: A :: Rs) w → Src F0 w0 (R0 :: R1 :: A :: Rs) w 2 Y) (hd : Nat.blt d n = true) (is : List Nat) (hf : Sel (R0 :: R1 :: B :: Rs) is Rf) (h : TD P n F0 w0 ops l Rf ((d, v) :: e) (R0 :: R1 :: B :: Rs) Q) : TD P n F0 w0 ops (.e i l) Rf e (R0 :: R1 :: A :: Rs) Q := by
  refine TD.ef ho hw (Ef.call 2 hc rfl hs hr hd) ?_
  rintro _ _ ⟨_, _, _, ⟨rfl, rfl, rfl⟩, rfl, rfl⟩
  exact ⟨Rf, fun w hw => hw.sel is (hf), fun _ h => h, h⟩
theorem TL.st3 {cs cs' : Array Value} {R0 R1 R2 : Res} (ho : ops[i]? = some ⟨none, .store t x y, ty, pos, af, gd⟩) (hw : Wd n ops e ⟨none, .store t x y, ty, pos, af, gd⟩ true) (hx : e.ev x = some (.pointer (some ⟨b, o, none⟩))) (hy : e.ev y = some v) (hz : ∀ w, (sizeOf t).run P w = .ok z w) (hvz : Nat.beq v.cells.size z = true) (hf' : Nat.ble (o + v.cells.size) cs.size = true) (ho' : v.cells.toList.all (·.oneCell') = true) (hc : (cs.toList.take o ++ v.cells.toList ++ cs.toList.drop (o + v.cells.size)).toArray = cs') (h : TL P n F0 w0 ops l e (R0 :: R1 :: R2 :: BlkR b T cs' :: Rs) Q) : TL P n F0 w0 ops (i :: l) e (R0 :: R1 :: R2 :: BlkR b T cs :: Rs) Q := by
  refine TL.ef ho hw (Ef.st 3 hx hy hz rfl hvz hf' ho' hc) ?_
  rintro _ _ ⟨rfl, rfl⟩
  exact h
theorem TD.st3 {cs cs' : Array Value} {R0 R1 R2 : Res} {l : Sch} (ho : ops[i]? = some ⟨none, .store t x y, ty, pos, af, gd⟩) (hw : Wd n ops e ⟨none, .store t x y, ty, pos, af, gd⟩ true) (hx : e.ev x = some (.pointer (some ⟨b, o, none⟩))) (hy : e.ev y = some v) (hz : ∀ w, (sizeOf t).run P w = .ok z w) (hvz : Nat.beq v.cells.size z = true) (hf' : Nat.ble (o + v.cells.size) cs.size = true) (ho' : v.cells.toList.all (·.oneCell') = true) (hc : (cs.toList.take o ++ v.cells.toList ++ cs.toList.drop (o + v.cells.size)).toArray = cs') (is : List Nat) (hf : Sel (R0 :: R1 :: R2 :: BlkR b T cs' :: Rs) is Rf) (h : TD P n F0 w0 ops l Rf e (R0 :: R1 :: R2 :: BlkR b T cs' :: Rs) Q) : TD P n F0 w0 ops (.e i l) Rf e (R0 :: R1 :: R2 :: BlkR b T cs :: Rs) Q := by
  refine TD.ef ho hw (Ef.st 3 hx hy hz rfl hvz hf' ho' hc) ?_
  rintro _ _ ⟨rfl, rfl⟩
  exact ⟨Rf, fun w hw => hw.sel is (hf), fun _ h => h, h⟩
theorem TL.c3 {R0 R1 R2 : Res} (ho : ops[i]? = some ⟨some d, .call cl, ty, pos, af, gd⟩) (hw : Wd n ops e ⟨some d, .call cl, ty, pos, af, gd⟩ true) (hc : CT P n e ⟨some d, .call cl, ty, pos, af, gd⟩ f vs) (hs : SpecX P f vs.toArray Y A (fun v' A' N => v' = v ∧ A' = B ∧ N = [])) (hr : ∀ w, St F0 w0 (R0 :: R1 :: R2 :: A :: Rs) w → Src F0 w0 (R0 :: R1 :: R2 :: A :: Rs) w 3 Y) (hd : Nat.blt d n = true) (h : TL P n F0 w0 ops l ((d, v) :: e) (R0 :: R1 :: R2 :: B :: Rs) Q) : TL P n F0 w0 ops (i :: l) e (R0 :: R1 :: R2 :: A :: Rs) Q := by
  refine TL.ef ho hw (Ef.call 3 hc rfl hs hr hd) ?_
  rintro _ _ ⟨_, _, _, ⟨rfl, rfl, rfl⟩, rfl, rfl⟩
  exact h
theorem TD.c3 {R0 R1 R2 : Res} {l : Sch} (ho : ops[i]? = some ⟨some d, .call cl, ty, pos, af, gd⟩) (hw : Wd n ops e ⟨some d, .call cl, ty, pos, af, gd⟩ true) (hc : CT P n e ⟨some d, .call cl, ty, pos, af, gd⟩ f vs) (hs : SpecX P f vs.toArray Y A (fun v' A' N => v' = v ∧ A' = B ∧ N = [])) (hr : ∀ w, St F0 w0 (R0 :: R1 :: R2 :: A :: Rs) w → Src F0 w0 (R0 :: R1 :: R2 :: A :: Rs) w 3 Y) (hd : Nat.blt d n = true) (is : List Nat) (hf : Sel (R0 :: R1 :: R2 :: B :: Rs) is Rf) (h : TD P n F0 w0 ops l Rf ((d, v) :: e) (R0 :: R1 :: R2 :: B :: Rs) Q) : TD P n F0 w0 ops (.e i l) Rf e (R0 :: R1 :: R2 :: A :: Rs) Q := by
  refine TD.ef ho hw (Ef.call 3 hc rfl hs hr hd) ?_
  rintro _ _ ⟨_, _, _, ⟨rfl, rfl, rfl⟩, rfl, rfl⟩
  exact ⟨Rf, fun w hw => hw.sel is (hf), fun _ h => h, h⟩
theorem TL.st4 {cs cs' : Array Value} {R0 R1 R2 R3 : Res} (ho : ops[i]? = some ⟨none, .store t x y, ty, pos, af, gd⟩) (hw : Wd n ops e ⟨none, .store t x y, ty, pos, af, gd⟩ true) (hx : e.ev x = some (.pointer (some ⟨b, o, none⟩))) (hy : e.ev y = some v) (hz : ∀ w, (sizeOf t).run P w = .ok z w) (hvz : Nat.beq v.cells.size z = true) (hf' : Nat.ble (o + v.cells.size) cs.size = true) (ho' : v.cells.toList.all (·.oneCell') = true) (hc : (cs.toList.take o ++ v.cells.toList ++ cs.toList.drop (o + v.cells.size)).toArray = cs') (h : TL P n F0 w0 ops l e (R0 :: R1 :: R2 :: R3 :: BlkR b T cs' :: Rs) Q) : TL P n F0 w0 ops (i :: l) e (R0 :: R1 :: R2 :: R3 :: BlkR b T cs :: Rs) Q := by
  refine TL.ef ho hw (Ef.st 4 hx hy hz rfl hvz hf' ho' hc) ?_
  rintro _ _ ⟨rfl, rfl⟩
  exact h
theorem TD.st4 {cs cs' : Array Value} {R0 R1 R2 R3 : Res} {l : Sch} (ho : ops[i]? = some ⟨none, .store t x y, ty, pos, af, gd⟩) (hw : Wd n ops e ⟨none, .store t x y, ty, pos, af, gd⟩ true) (hx : e.ev x = some (.pointer (some ⟨b, o, none⟩))) (hy : e.ev y = some v) (hz : ∀ w, (sizeOf t).run P w = .ok z w) (hvz : Nat.beq v.cells.size z = true) (hf' : Nat.ble (o + v.cells.size) cs.size = true) (ho' : v.cells.toList.all (·.oneCell') = true) (hc : (cs.toList.take o ++ v.cells.toList ++ cs.toList.drop (o + v.cells.size)).toArray = cs') (is : List Nat) (hf : Sel (R0 :: R1 :: R2 :: R3 :: BlkR b T cs' :: Rs) is Rf) (h : TD P n F0 w0 ops l Rf e (R0 :: R1 :: R2 :: R3 :: BlkR b T cs' :: Rs) Q) : TD P n F0 w0 ops (.e i l) Rf e (R0 :: R1 :: R2 :: R3 :: BlkR b T cs :: Rs) Q := by
  refine TD.ef ho hw (Ef.st 4 hx hy hz rfl hvz hf' ho' hc) ?_
  rintro _ _ ⟨rfl, rfl⟩
  exact ⟨Rf, fun w hw => hw.sel is (hf), fun _ h => h, h⟩
theorem TL.c4 {R0 R1 R2 R3 : Res} (ho : ops[i]? = some ⟨some d, .call cl, ty, pos, af, gd⟩) (hw : Wd n ops e ⟨some d, .call cl, ty, pos, af, gd⟩ true) (hc : CT P n e ⟨some d, .call cl, ty, pos, af, gd⟩ f vs) (hs : SpecX P f vs.toArray Y A (fun v' A' N => v' = v ∧ A' = B ∧ N = [])) (hr : ∀ w, St F0 w0 (R0 :: R1 :: R2 :: R3 :: A :: Rs) w → Src F0 w0 (R0 :: R1 :: R2 :: R3 :: A :: Rs) w 4 Y) (hd : Nat.blt d n = true) (h : TL P n F0 w0 ops l ((d, v) :: e) (R0 :: R1 :: R2 :: R3 :: B :: Rs) Q) : TL P n F0 w0 ops (i :: l) e (R0 :: R1 :: R2 :: R3 :: A :: Rs) Q := by
  refine TL.ef ho hw (Ef.call 4 hc rfl hs hr hd) ?_
  rintro _ _ ⟨_, _, _, ⟨rfl, rfl, rfl⟩, rfl, rfl⟩
  exact h
theorem TD.c4 {R0 R1 R2 R3 : Res} {l : Sch} (ho : ops[i]? = some ⟨some d, .call cl, ty, pos, af, gd⟩) (hw : Wd n ops e ⟨some d, .call cl, ty, pos, af, gd⟩ true) (hc : CT P n e ⟨some d, .call cl, ty, pos, af, gd⟩ f vs) (hs : SpecX P f vs.toArray Y A (fun v' A' N => v' = v ∧ A' = B ∧ N = [])) (hr : ∀ w, St F0 w0 (R0 :: R1 :: R2 :: R3 :: A :: Rs) w → Src F0 w0 (R0 :: R1 :: R2 :: R3 :: A :: Rs) w 4 Y) (hd : Nat.blt d n = true) (is : List Nat) (hf : Sel (R0 :: R1 :: R2 :: R3 :: B :: Rs) is Rf) (h : TD P n F0 w0 ops l Rf ((d, v) :: e) (R0 :: R1 :: R2 :: R3 :: B :: Rs) Q) : TD P n F0 w0 ops (.e i l) Rf e (R0 :: R1 :: R2 :: R3 :: A :: Rs) Q := by
  refine TD.ef ho hw (Ef.call 4 hc rfl hs hr hd) ?_
  rintro _ _ ⟨_, _, _, ⟨rfl, rfl, rfl⟩, rfl, rfl⟩
  exact ⟨Rf, fun w hw => hw.sel is (hf), fun _ h => h, h⟩
theorem TL.st5 {cs cs' : Array Value} {R0 R1 R2 R3 R4 : Res} (ho : ops[i]? = some ⟨none, .store t x y, ty, pos, af, gd⟩) (hw : Wd n ops e ⟨none, .store t x y, ty, pos, af, gd⟩ true) (hx : e.ev x = some (.pointer (some ⟨b, o, none⟩))) (hy : e.ev y = some v) (hz : ∀ w, (sizeOf t).run P w = .ok z w) (hvz : Nat.beq v.cells.size z = true) (hf' : Nat.ble (o + v.cells.size) cs.size = true) (ho' : v.cells.toList.all (·.oneCell') = true) (hc : (cs.toList.take o ++ v.cells.toList ++ cs.toList.drop (o + v.cells.size)).toArray = cs') (h : TL P n F0 w0 ops l e (R0 :: R1 :: R2 :: R3 :: R4 :: BlkR b T cs' :: Rs) Q) : TL P n F0 w0 ops (i :: l) e (R0 :: R1 :: R2 :: R3 :: R4 :: BlkR b T cs :: Rs) Q := by
  refine TL.ef ho hw (Ef.st 5 hx hy hz rfl hvz hf' ho' hc) ?_
  rintro _ _ ⟨rfl, rfl⟩
  exact h
theorem TD.st5 {cs cs' : Array Value} {R0 R1 R2 R3 R4 : Res} {l : Sch} (ho : ops[i]? = some ⟨none, .store t x y, ty, pos, af, gd⟩) (hw : Wd n ops e ⟨none, .store t x y, ty, pos, af, gd⟩ true) (hx : e.ev x = some (.pointer (some ⟨b, o, none⟩))) (hy : e.ev y = some v) (hz : ∀ w, (sizeOf t).run P w = .ok z w) (hvz : Nat.beq v.cells.size z = true) (hf' : Nat.ble (o + v.cells.size) cs.size = true) (ho' : v.cells.toList.all (·.oneCell') = true) (hc : (cs.toList.take o ++ v.cells.toList ++ cs.toList.drop (o + v.cells.size)).toArray = cs') (is : List Nat) (hf : Sel (R0 :: R1 :: R2 :: R3 :: R4 :: BlkR b T cs' :: Rs) is Rf) (h : TD P n F0 w0 ops l Rf e (R0 :: R1 :: R2 :: R3 :: R4 :: BlkR b T cs' :: Rs) Q) : TD P n F0 w0 ops (.e i l) Rf e (R0 :: R1 :: R2 :: R3 :: R4 :: BlkR b T cs :: Rs) Q := by
  refine TD.ef ho hw (Ef.st 5 hx hy hz rfl hvz hf' ho' hc) ?_
  rintro _ _ ⟨rfl, rfl⟩
  exact ⟨Rf, fun w hw => hw.sel is (hf), fun _ h => h, h⟩
theorem TL.st6 {cs cs' : Array Value} {R0 R1 R2 R3 R4 R5 : Res} (ho : ops[i]? = some ⟨none, .store t x y, ty, pos, af, gd⟩) (hw : Wd n ops e ⟨none, .store t x y, ty, pos, af, gd⟩ true) (hx : e.ev x = some (.pointer (some ⟨b, o, none⟩))) (hy : e.ev y = some v) (hz : ∀ w, (sizeOf t).run P w = .ok z w) (hvz : Nat.beq v.cells.size z = true) (hf' : Nat.ble (o + v.cells.size) cs.size = true) (ho' : v.cells.toList.all (·.oneCell') = true) (hc : (cs.toList.take o ++ v.cells.toList ++ cs.toList.drop (o + v.cells.size)).toArray = cs') (h : TL P n F0 w0 ops l e (R0 :: R1 :: R2 :: R3 :: R4 :: R5 :: BlkR b T cs' :: Rs) Q) : TL P n F0 w0 ops (i :: l) e (R0 :: R1 :: R2 :: R3 :: R4 :: R5 :: BlkR b T cs :: Rs) Q := by
  refine TL.ef ho hw (Ef.st 6 hx hy hz rfl hvz hf' ho' hc) ?_
  rintro _ _ ⟨rfl, rfl⟩
  exact h
theorem TD.st6 {cs cs' : Array Value} {R0 R1 R2 R3 R4 R5 : Res} {l : Sch} (ho : ops[i]? = some ⟨none, .store t x y, ty, pos, af, gd⟩) (hw : Wd n ops e ⟨none, .store t x y, ty, pos, af, gd⟩ true) (hx : e.ev x = some (.pointer (some ⟨b, o, none⟩))) (hy : e.ev y = some v) (hz : ∀ w, (sizeOf t).run P w = .ok z w) (hvz : Nat.beq v.cells.size z = true) (hf' : Nat.ble (o + v.cells.size) cs.size = true) (ho' : v.cells.toList.all (·.oneCell') = true) (hc : (cs.toList.take o ++ v.cells.toList ++ cs.toList.drop (o + v.cells.size)).toArray = cs') (is : List Nat) (hf : Sel (R0 :: R1 :: R2 :: R3 :: R4 :: R5 :: BlkR b T cs' :: Rs) is Rf) (h : TD P n F0 w0 ops l Rf e (R0 :: R1 :: R2 :: R3 :: R4 :: R5 :: BlkR b T cs' :: Rs) Q) : TD P n F0 w0 ops (.e i l) Rf e (R0 :: R1 :: R2 :: R3 :: R4 :: R5 :: BlkR b T cs :: Rs) Q := by
  refine TD.ef ho hw (Ef.st 6 hx hy hz rfl hvz hf' ho' hc) ?_
  rintro _ _ ⟨rfl, rfl⟩
  exact ⟨Rf, fun w hw => hw.sel is (hf), fun _ h => h, h⟩
theorem TL.st8 {cs cs' : Array Value} {R0 R1 R2 R3 R4 R5 R6 R7 : Res} (ho : ops[i]? = some ⟨none, .store t x y, ty, pos, af, gd⟩) (hw : Wd n ops e ⟨none, .store t x y, ty, pos, af, gd⟩ true) (hx : e.ev x = some (.pointer (some ⟨b, o, none⟩))) (hy : e.ev y = some v) (hz : ∀ w, (sizeOf t).run P w = .ok z w) (hvz : Nat.beq v.cells.size z = true) (hf' : Nat.ble (o + v.cells.size) cs.size = true) (ho' : v.cells.toList.all (·.oneCell') = true) (hc : (cs.toList.take o ++ v.cells.toList ++ cs.toList.drop (o + v.cells.size)).toArray = cs') (h : TL P n F0 w0 ops l e (R0 :: R1 :: R2 :: R3 :: R4 :: R5 :: R6 :: R7 :: BlkR b T cs' :: Rs) Q) : TL P n F0 w0 ops (i :: l) e (R0 :: R1 :: R2 :: R3 :: R4 :: R5 :: R6 :: R7 :: BlkR b T cs :: Rs) Q := by
  refine TL.ef ho hw (Ef.st 8 hx hy hz rfl hvz hf' ho' hc) ?_
  rintro _ _ ⟨rfl, rfl⟩
  exact h
theorem TD.st8 {cs cs' : Array Value} {R0 R1 R2 R3 R4 R5 R6 R7 : Res} {l : Sch} (ho : ops[i]? = some ⟨none, .store t x y, ty, pos, af, gd⟩) (hw : Wd n ops e ⟨none, .store t x y, ty, pos, af, gd⟩ true) (hx : e.ev x = some (.pointer (some ⟨b, o, none⟩))) (hy : e.ev y = some v) (hz : ∀ w, (sizeOf t).run P w = .ok z w) (hvz : Nat.beq v.cells.size z = true) (hf' : Nat.ble (o + v.cells.size) cs.size = true) (ho' : v.cells.toList.all (·.oneCell') = true) (hc : (cs.toList.take o ++ v.cells.toList ++ cs.toList.drop (o + v.cells.size)).toArray = cs') (is : List Nat) (hf : Sel (R0 :: R1 :: R2 :: R3 :: R4 :: R5 :: R6 :: R7 :: BlkR b T cs' :: Rs) is Rf) (h : TD P n F0 w0 ops l Rf e (R0 :: R1 :: R2 :: R3 :: R4 :: R5 :: R6 :: R7 :: BlkR b T cs' :: Rs) Q) : TD P n F0 w0 ops (.e i l) Rf e (R0 :: R1 :: R2 :: R3 :: R4 :: R5 :: R6 :: R7 :: BlkR b T cs :: Rs) Q := by
  refine TD.ef ho hw (Ef.st 8 hx hy hz rfl hvz hf' ho' hc) ?_
  rintro _ _ ⟨rfl, rfl⟩
  exact ⟨Rf, fun w hw => hw.sel is (hf), fun _ h => h, h⟩
theorem TL.c8 {R0 R1 R2 R3 R4 R5 R6 R7 : Res} (ho : ops[i]? = some ⟨some d, .call cl, ty, pos, af, gd⟩) (hw : Wd n ops e ⟨some d, .call cl, ty, pos, af, gd⟩ true) (hc : CT P n e ⟨some d, .call cl, ty, pos, af, gd⟩ f vs) (hs : SpecX P f vs.toArray Y A (fun v' A' N => v' = v ∧ A' = B ∧ N = [])) (hr : ∀ w, St F0 w0 (R0 :: R1 :: R2 :: R3 :: R4 :: R5 :: R6 :: R7 :: A :: Rs) w → Src F0 w0 (R0 :: R1 :: R2 :: R3 :: R4 :: R5 :: R6 :: R7 :: A :: Rs) w 8 Y) (hd : Nat.blt d n = true) (h : TL P n F0 w0 ops l ((d, v) :: e) (R0 :: R1 :: R2 :: R3 :: R4 :: R5 :: R6 :: R7 :: B :: Rs) Q) : TL P n F0 w0 ops (i :: l) e (R0 :: R1 :: R2 :: R3 :: R4 :: R5 :: R6 :: R7 :: A :: Rs) Q := by
  refine TL.ef ho hw (Ef.call 8 hc rfl hs hr hd) ?_
  rintro _ _ ⟨_, _, _, ⟨rfl, rfl, rfl⟩, rfl, rfl⟩
  exact h
theorem TD.c8 {R0 R1 R2 R3 R4 R5 R6 R7 : Res} {l : Sch} (ho : ops[i]? = some ⟨some d, .call cl, ty, pos, af, gd⟩) (hw : Wd n ops e ⟨some d, .call cl, ty, pos, af, gd⟩ true) (hc : CT P n e ⟨some d, .call cl, ty, pos, af, gd⟩ f vs) (hs : SpecX P f vs.toArray Y A (fun v' A' N => v' = v ∧ A' = B ∧ N = [])) (hr : ∀ w, St F0 w0 (R0 :: R1 :: R2 :: R3 :: R4 :: R5 :: R6 :: R7 :: A :: Rs) w → Src F0 w0 (R0 :: R1 :: R2 :: R3 :: R4 :: R5 :: R6 :: R7 :: A :: Rs) w 8 Y) (hd : Nat.blt d n = true) (is : List Nat) (hf : Sel (R0 :: R1 :: R2 :: R3 :: R4 :: R5 :: R6 :: R7 :: B :: Rs) is Rf) (h : TD P n F0 w0 ops l Rf ((d, v) :: e) (R0 :: R1 :: R2 :: R3 :: R4 :: R5 :: R6 :: R7 :: B :: Rs) Q) : TD P n F0 w0 ops (.e i l) Rf e (R0 :: R1 :: R2 :: R3 :: R4 :: R5 :: R6 :: R7 :: A :: Rs) Q := by
  refine TD.ef ho hw (Ef.call 8 hc rfl hs hr hd) ?_
  rintro _ _ ⟨_, _, _, ⟨rfl, rfl, rfl⟩, rfl, rfl⟩
  exact ⟨Rf, fun w hw => hw.sel is (hf), fun _ h => h, h⟩
theorem TL.st11 {cs cs' : Array Value} {R0 R1 R2 R3 R4 R5 R6 R7 R8 R9 R10 : Res} (ho : ops[i]? = some ⟨none, .store t x y, ty, pos, af, gd⟩) (hw : Wd n ops e ⟨none, .store t x y, ty, pos, af, gd⟩ true) (hx : e.ev x = some (.pointer (some ⟨b, o, none⟩))) (hy : e.ev y = some v) (hz : ∀ w, (sizeOf t).run P w = .ok z w) (hvz : Nat.beq v.cells.size z = true) (hf' : Nat.ble (o + v.cells.size) cs.size = true) (ho' : v.cells.toList.all (·.oneCell') = true) (hc : (cs.toList.take o ++ v.cells.toList ++ cs.toList.drop (o + v.cells.size)).toArray = cs') (h : TL P n F0 w0 ops l e (R0 :: R1 :: R2 :: R3 :: R4 :: R5 :: R6 :: R7 :: R8 :: R9 :: R10 :: BlkR b T cs' :: Rs) Q) : TL P n F0 w0 ops (i :: l) e (R0 :: R1 :: R2 :: R3 :: R4 :: R5 :: R6 :: R7 :: R8 :: R9 :: R10 :: BlkR b T cs :: Rs) Q := by
  refine TL.ef ho hw (Ef.st 11 hx hy hz rfl hvz hf' ho' hc) ?_
  rintro _ _ ⟨rfl, rfl⟩
  exact h
theorem TD.st11 {cs cs' : Array Value} {R0 R1 R2 R3 R4 R5 R6 R7 R8 R9 R10 : Res} {l : Sch} (ho : ops[i]? = some ⟨none, .store t x y, ty, pos, af, gd⟩) (hw : Wd n ops e ⟨none, .store t x y, ty, pos, af, gd⟩ true) (hx : e.ev x = some (.pointer (some ⟨b, o, none⟩))) (hy : e.ev y = some v) (hz : ∀ w, (sizeOf t).run P w = .ok z w) (hvz : Nat.beq v.cells.size z = true) (hf' : Nat.ble (o + v.cells.size) cs.size = true) (ho' : v.cells.toList.all (·.oneCell') = true) (hc : (cs.toList.take o ++ v.cells.toList ++ cs.toList.drop (o + v.cells.size)).toArray = cs') (is : List Nat) (hf : Sel (R0 :: R1 :: R2 :: R3 :: R4 :: R5 :: R6 :: R7 :: R8 :: R9 :: R10 :: BlkR b T cs' :: Rs) is Rf) (h : TD P n F0 w0 ops l Rf e (R0 :: R1 :: R2 :: R3 :: R4 :: R5 :: R6 :: R7 :: R8 :: R9 :: R10 :: BlkR b T cs' :: Rs) Q) : TD P n F0 w0 ops (.e i l) Rf e (R0 :: R1 :: R2 :: R3 :: R4 :: R5 :: R6 :: R7 :: R8 :: R9 :: R10 :: BlkR b T cs :: Rs) Q := by
  refine TD.ef ho hw (Ef.st 11 hx hy hz rfl hvz hf' ho' hc) ?_
  rintro _ _ ⟨rfl, rfl⟩
  exact ⟨Rf, fun w hw => hw.sel is (hf), fun _ h => h, h⟩
theorem TL.c13 {R0 R1 R2 R3 R4 R5 R6 R7 R8 R9 R10 R11 R12 : Res} (ho : ops[i]? = some ⟨some d, .call cl, ty, pos, af, gd⟩) (hw : Wd n ops e ⟨some d, .call cl, ty, pos, af, gd⟩ true) (hc : CT P n e ⟨some d, .call cl, ty, pos, af, gd⟩ f vs) (hs : SpecX P f vs.toArray Y A (fun v' A' N => v' = v ∧ A' = B ∧ N = [])) (hr : ∀ w, St F0 w0 (R0 :: R1 :: R2 :: R3 :: R4 :: R5 :: R6 :: R7 :: R8 :: R9 :: R10 :: R11 :: R12 :: A :: Rs) w → Src F0 w0 (R0 :: R1 :: R2 :: R3 :: R4 :: R5 :: R6 :: R7 :: R8 :: R9 :: R10 :: R11 :: R12 :: A :: Rs) w 13 Y) (hd : Nat.blt d n = true) (h : TL P n F0 w0 ops l ((d, v) :: e) (R0 :: R1 :: R2 :: R3 :: R4 :: R5 :: R6 :: R7 :: R8 :: R9 :: R10 :: R11 :: R12 :: B :: Rs) Q) : TL P n F0 w0 ops (i :: l) e (R0 :: R1 :: R2 :: R3 :: R4 :: R5 :: R6 :: R7 :: R8 :: R9 :: R10 :: R11 :: R12 :: A :: Rs) Q := by
  refine TL.ef ho hw (Ef.call 13 hc rfl hs hr hd) ?_
  rintro _ _ ⟨_, _, _, ⟨rfl, rfl, rfl⟩, rfl, rfl⟩
  exact h
theorem TD.c13 {R0 R1 R2 R3 R4 R5 R6 R7 R8 R9 R10 R11 R12 : Res} {l : Sch} (ho : ops[i]? = some ⟨some d, .call cl, ty, pos, af, gd⟩) (hw : Wd n ops e ⟨some d, .call cl, ty, pos, af, gd⟩ true) (hc : CT P n e ⟨some d, .call cl, ty, pos, af, gd⟩ f vs) (hs : SpecX P f vs.toArray Y A (fun v' A' N => v' = v ∧ A' = B ∧ N = [])) (hr : ∀ w, St F0 w0 (R0 :: R1 :: R2 :: R3 :: R4 :: R5 :: R6 :: R7 :: R8 :: R9 :: R10 :: R11 :: R12 :: A :: Rs) w → Src F0 w0 (R0 :: R1 :: R2 :: R3 :: R4 :: R5 :: R6 :: R7 :: R8 :: R9 :: R10 :: R11 :: R12 :: A :: Rs) w 13 Y) (hd : Nat.blt d n = true) (is : List Nat) (hf : Sel (R0 :: R1 :: R2 :: R3 :: R4 :: R5 :: R6 :: R7 :: R8 :: R9 :: R10 :: R11 :: R12 :: B :: Rs) is Rf) (h : TD P n F0 w0 ops l Rf ((d, v) :: e) (R0 :: R1 :: R2 :: R3 :: R4 :: R5 :: R6 :: R7 :: R8 :: R9 :: R10 :: R11 :: R12 :: B :: Rs) Q) : TD P n F0 w0 ops (.e i l) Rf e (R0 :: R1 :: R2 :: R3 :: R4 :: R5 :: R6 :: R7 :: R8 :: R9 :: R10 :: R11 :: R12 :: A :: Rs) Q := by
  refine TD.ef ho hw (Ef.call 13 hc rfl hs hr hd) ?_
  rintro _ _ ⟨_, _, _, ⟨rfl, rfl, rfl⟩, rfl, rfl⟩
  exact ⟨Rf, fun w hw => hw.sel is (hf), fun _ h => h, h⟩
theorem TL.cge  (ho : ops[i]? = some ⟨some d, .call cl, ty, pos, af, gd⟩) (hw : Wd n ops e ⟨some d, .call cl, ty, pos, af, gd⟩ true) (hc : CT P n e ⟨some d, .call cl, ty, pos, af, gd⟩ f vs) (hs : SpecX P f vs.toArray Y EmpR R) (hr : ∀ w, St F0 w0 Rs w → Y.reads w (fun _ => False)) (hd : Nat.blt d n = true) (h : ∀ v A' N, R v A' N → TL P n F0 w0 ops l ((d, v) :: e) (N ++ Rs) Q) : TL P n F0 w0 ops (i :: l) e Rs Q := by
  refine TL.ef ho hw (Ef.callE hc hs hr hd) ?_
  rintro _ _ ⟨v, A', N, hR, rfl, rfl⟩
  exact h v A' N hR
theorem TD.cge  {l : Sch} (ho : ops[i]? = some ⟨some d, .call cl, ty, pos, af, gd⟩) (hw : Wd n ops e ⟨some d, .call cl, ty, pos, af, gd⟩ true) (hc : CT P n e ⟨some d, .call cl, ty, pos, af, gd⟩ f vs) (hs : SpecX P f vs.toArray Y EmpR R) (hr : ∀ w, St F0 w0 Rs w → Y.reads w (fun _ => False)) (hd : Nat.blt d n = true) (is : List Nat) (hf : ∀ v A' N, R v A' N → Sel (N ++ Rs) is Rf) (h : ∀ v A' N, R v A' N → TD P n F0 w0 ops l Rf ((d, v) :: e) (N ++ Rs) Q) : TD P n F0 w0 ops (.e i l) Rf e Rs Q := by
  refine TD.ef ho hw (Ef.callE hc hs hr hd) ?_
  rintro _ _ ⟨v, A', N, hR, rfl, rfl⟩
  exact ⟨Rf, fun w hw => hw.sel is (hf v A' N hR), fun _ h => h, h v A' N hR⟩
end
end Go.Proofs.Ytpiiopppbgpbpaa.Sl
namespace Go.Proofs.Ytpiiopppbgpbpaa.Sl
open Go.RowKit
set_option linter.unusedVariables false
def intE : Rd Int := ⟨fun _ _ cs n => cs = [.int .i64 n], fun h _ => h, fun h _ => h⟩
def boolE : Rd Bool := ⟨fun _ _ cs n => cs = [.bool n], fun h _ => h, fun h _ => h⟩
def strE : Rd (List UInt8) := ⟨fun _ _ cs l => cs = [.string (bsOf l)], fun h _ => h, fun h _ => h⟩
def Bl_rd : Rd Bl := ⟨fun _ _ cs x => cs = [.bool x.null, .string (bsOf x.data)], fun h _ => h, fun h _ => h⟩
end Go.Proofs.Ytpiiopppbgpbpaa.Sl
namespace Go.Proofs.Ytpiiopppbgpbpaa.Sl
open Go.RowKit
set_option linter.unusedVariables false
set_option linter.unusedSimpArgs false
theorem bn_t {b : Bool} (h : b = false) : (!b) = true := by rw [h]; rfl
theorem bn_f {b : Bool} (h : b = true) : (!b) = false := by rw [h]; rfl
theorem ifT {α : Type} {c : Prop} [Decidable c] {x y z : α} (hc : c) (h : (if c then x else y) = z) : x = z := by rwa [if_pos hc] at h
theorem ifF {α : Type} {c : Prop} [Decidable c] {x y z : α} (hc : ¬ c) (h : (if c then x else y) = z) : y = z := by rwa [if_neg hc] at h
section
variable {P : Program} {n : Nat} {F0 : Nat → Prop} {w0 : World} {e : Env} {Rs Rf : List Res} {Q : Exit → Act → World → Prop} {ops : Array Oper} {i d : Nat} {ty t t' el : TypeId} {pos : String} {af : Array Edge} {gd : Option (Nat × Bool)} {v v' : Value} {x y : Operand} {l : List Nat} {lo : Sch} {c : Code} {S : World → Prop}
theorem TL.sel (is : List Nat) {Rs' : List Res} (hr : Sel Rs is Rs') (h : TL P n F0 w0 ops l e Rs' Q) : TL P n F0 w0 ops l e Rs Q := fun a w ha hs => h a w ha (hs.sel is hr)
theorem TD.sel (is : List Nat) {Rs' : List Res} (hr : Sel Rs is Rs') (h : TD P n F0 w0 ops lo Rf e Rs' Q) : TD P n F0 w0 ops lo Rf e Rs Q := fun a w ha hs => h a w ha (hs.sel is hr)
theorem T.sel (is : List Nat) {Rs' : List Res} (hr : Sel Rs is Rs') (h : T P n F0 w0 e Rs' c Q) : T P n F0 w0 e Rs c Q := fun a w ha hs => h a w ha (hs.sel is hr)
theorem X.sel {z : Exit} (is : List Nat) {Rs' : List Res} (hr : Sel Rs is Rs') (h : X n F0 w0 e Rs' z Q) : X n F0 w0 e Rs z Q := fun a w ha hs => h a w ha (hs.sel is hr)
theorem Has.as {a : Act} (ha : Has n e a) (hv : e.get d = some v) (h : v = v') : Has n ((d, v') :: e) a := ha.sub (fun t u hu => by
  simp only [Env.get] at hu
  cases hb : Nat.beq d t with
  | true =>
    rw [hb] at hu
    obtain rfl := Nat.eq_of_beq_eq_true hb
    injection hu with hu
    rw [hv, h, hu]
  | false => rw [hb] at hu; exact hu)
theorem TL.as (hv : e.get d = some v) (h : v = v') (k : TL P n F0 w0 ops l ((d, v') :: e) Rs Q) : TL P n F0 w0 ops l e Rs Q := fun a w ha hs => k a w (ha.as hv h) hs
theorem TD.as (hv : e.get d = some v) (h : v = v') (k : TD P n F0 w0 ops lo Rf ((d, v') :: e) Rs Q) : TD P n F0 w0 ops lo Rf e Rs Q := fun a w ha hs => k a w (ha.as hv h) hs
theorem OutR.of_blk {b : Nat} {w : World} {G : Nat → Prop} (h : (BlkR b 42 #[.slice none 0 0, .int .i64 0]).P w G) : (OutR b ([], 0)).P w G := by
  obtain ⟨h1, h2⟩ := h
  exact ⟨_, h1, World.ownsRow_nil _ _ _ _, fun k => by simp [h2 k, Value.ownBlock]⟩
theorem TL.newout {zv : Value} (ho : ops[i]? = some ⟨some d, .alloc t, ty, pos, af, gd⟩) (hw : Wd n ops e ⟨some d, .alloc t, ty, pos, af, gd⟩ true) (hz : ∀ w, (zeroValue t).run P w = .ok zv w) (hd : Nat.blt d n = true)
    (h : ∀ b, TL P n F0 w0 ops l ((d, .pointer (some ⟨b, 0, none⟩)) :: e) (OutR b ([], 0) :: Rs) Q) (ht : t = 42 := by rfl) (hzv : zv = .agg #[.slice none 0 0, .int .i64 0] := by rfl) : TL P n F0 w0 ops (i :: l) e Rs Q := by
  refine TL.alloc ho hw hz hd (fun b => ?_)
  intro a w ha hs
  subst ht hzv
  exact h b a w ha (hs.weaken 0 rfl (fun G hG => OutR.of_blk hG))
theorem TD.newout {zv : Value} (ho : ops[i]? = some ⟨some d, .alloc t, ty, pos, af, gd⟩) (hw : Wd n ops e ⟨some d, .alloc t, ty, pos, af, gd⟩ true) (hz : ∀ w, (zeroValue t).run P w = .ok zv w) (hd : Nat.blt d n = true) (is : List Nat) (hf : ∀ b, Sel (OutR b ([], 0) :: Rs) is Rf)
    (h : ∀ b, TD P n F0 w0 ops lo Rf ((d, .pointer (some ⟨b, 0, none⟩)) :: e) (OutR b ([], 0) :: Rs) Q) (ht : t = 42 := by rfl) (hzv : zv = .agg #[.slice none 0 0, .int .i64 0] := by rfl) : TD P n F0 w0 ops (.e i lo) Rf e Rs Q := by
  refine TD.ef ho hw (Ef.alloc hz hd) ?_
  rintro _ _ ⟨b, rfl, rfl⟩
  subst ht hzv
  have key : ∀ w, St F0 w0 (BlkR b 42 #[.slice none 0 0, .int .i64 0] :: Rs) w → St F0 w0 (OutR b ([], 0) :: Rs) w := fun w hs => hs.weaken 0 rfl (fun G hG => OutR.of_blk hG)
  exact ⟨Rf, fun w hs => (key w hs).sel is (hf b), fun _ h => h, fun a w ha hs => h b a w ha (key w hs)⟩
section
variable {α : Type} {E : Rd α} {sl : Operand} {T z bytes g ii jj : Nat} {zv : Value} {A : Option Addr} {cp : Nat} {Rs' : List Res} {B : Res}
end
variable (P n F0 w0) in
def RV (e : Env) (Rs : List Res) (r : ResultVar) (v : Value) : Prop := ∀ a w, Has n e a → St F0 w0 Rs w → (resv a.tmps r).run P w = .ok v w
theorem RV.tm {k : Nat} (hv : e.get k = some v) : RV P n F0 w0 e Rs (.tmp k) v := by
  intro a w ha hs
  have h2 := ha.at_ k v hv
  simp [resv, h2]
theorem RV.c1 (i : Nat) {k b T : Nat} {us : Array Value} (hk : e.get k = some (.pointer (some ⟨b, 0, none⟩))) (ha : ∀ w, (isAgg t).run P w = .ok false w) (hi : Rs[i]? = some (BlkR b T us)) (hv : us[0]? = some v) : RV P n F0 w0 e Rs (.cell k t) v := by
  intro a w h hs
  have h2 := h.at_ k _ hk
  have hb := hs.blk i hi
  have h3 := run_loadVar1 (P := P) (t := t) (w := w) (ad := ⟨b, 0, none⟩) ha ((heap_at hb 0).trans hv)
  simp [resv, h2, asAddr, h3]
section
variable {f : Func} {R : Value → Res → List Res → Prop} {A' : Res} {Ns : List Res} {r1 r2 r3 r4 : ResultVar} {v1 v2 v3 v4 : Value} {z : Exit}
theorem X.fin (hR : R v A' Ns) (is : List Nat) (hr : Sel Rs is (A' :: Ns)) (hx : z = .ret ∨ z = .normal) (h : ∀ a w, Has n e a → St F0 w0 Rs w → (results f a.tmps).run P w = .ok v w) : X n F0 w0 e Rs z (bodyPost P f (Post R F0 w0)) := by
  intro a w ha hs
  have h : bodyPost P f (Post R F0 w0) .ret a w := ⟨ha.df, v, h a w ha hs, v, A', Ns, rfl, hR, hs.sel is hr⟩
  rcases hx with rfl | rfl <;> exact h
theorem X.done1 (is : List Nat) (hf : f.results = #[r1]) (h1 : RV P n F0 w0 e Rs r1 v1) (hR : R v1 A' Ns) (hr : Sel Rs is (A' :: Ns)) (hx : z = .ret ∨ z = .normal) : X n F0 w0 e Rs z (bodyPost P f (Post R F0 w0)) :=
  X.fin hR is hr hx (fun a w ha hs => by rw [results_eq, hf]; simp [h1 a w ha hs])
end
theorem BOK.mk {zv : Value} {fs : Array Field} {pl : List (Nat × Nat)} {zs : Array Value} (hz : ∀ w, (zeroValue t).run P w = .ok zv w) (hu : ∀ w, (underlying t).run P w = .ok (.struct fs) w) (hp : ∀ w, (fs.mapM (fun f => do pure (f.offset, ← sizeOf f.type)) : Sem (Array (Nat × Nat))).run P w = .ok pl.toArray w) (hzs : zv.cells = zs := by rfl) : BOK P t zs pl := by
  intro parts cells w h
  subst hzs
  simp only [Instr.build, Sem.run_bind, hz, Result.andThen_ok, hu, hp]
  have h2 : (fun (i : Nat) => (pl.toArray)[i]?) = (fun (i : Nat) => pl[i]?) := by funext i; simp
  simp [h2, h]
theorem SOK.mk {T m z : Nat} {zv : Value} {zs : Array Value} (hu : ∀ w, (underlying t).run P w = .ok (.slice T) w) (hz : ∀ w, (sizeOf T).run P w = .ok z w) (hzv : ∀ w, (zeroValue T).run P w = .ok zv w) (hm : 0 < m * z ∧ m * z ≤ 16777216) (hzs : (Array.range (m * z)).map (fun i => zv.cells[i % zv.cells.size]!) = zs) : SOK P t T m z zs := by
  intro parts cells w h
  have h1 : ¬ (m * z > 2 ^ 24) := by omega
  have h2 : ¬ (m * z = 0) := by omega
  subst hzs
  simp only [Instr.buildSlice, Sem.run_bind, hu, hz, Result.andThen_ok, h1, if_false, h2, hzv, Sem.run_pure]
  simp [h, newRow]
end
end Go.Proofs.Ytpiiopppbgpbpaa.Sl
namespace Go.Proofs.Ytpiiopppbgpbpaa.Sl
open Go.RowKit
set_option linter.unusedVariables false
set_option linter.unusedSimpArgs false
def eqV : Value → Value → Option Bool
  | .int k a, .int k' b => if k = k' then some (decide (a = b)) else none
  | .bool a, .bool b => some (decide (a = b))
  | .string a, .string b => some (decide (a.toList = b.toList))
  | _, _ => none
def eqL : List Value → List Value → Option Bool
  | [], [] => some true
  | x :: xs, y :: ys => match eqV x y with
    | some true => eqL xs ys
    | some false => some false
    | none => none
  | _, _ => none
theorem eqV_b {a b : Bool} (h : a = b) : eqV (.bool a) (.bool b) = some true := by simp [eqV, h]
theorem eqV_bn {a b : Bool} (h : ¬ a = b) : eqV (.bool a) (.bool b) = some false := by simp [eqV, h]
theorem eqV_s {l m : List UInt8} (h : l = m) : eqV (.string (bsOf l)) (.string (bsOf m)) = some true := by simp [eqV, h]
theorem eqV_sn {l m : List UInt8} (h : ¬ l = m) : eqV (.string (bsOf l)) (.string (bsOf m)) = some false := by simp [eqV, bsOf_toList, h]
theorem eqL_t {x y : Value} {xs ys : List Value} {b : Bool} (h : eqV x y = some true) (r : eqL xs ys = some b) : eqL (x :: xs) (y :: ys) = some b := by simp [eqL, h, r]
theorem eqL_f {x y : Value} {xs ys : List Value} (h : eqV x y = some false) : eqL (x :: xs) (y :: ys) = some false := by simp [eqL, h]
theorem eqL_append : ∀ {xs ys xs' ys' : List Value} {b : Bool}, xs.length = ys.length → eqL (xs ++ xs') (ys ++ ys') = some b → ∃ c, eqL xs ys = some c ∧ (if c then eqL xs' ys' else some false) = some b
  | [], [], xs', ys', b, _, h => ⟨true, rfl, by simpa using h⟩
  | x :: xs, y :: ys, xs', ys', b, hl, h => by
    simp only [List.cons_append, eqL] at h ⊢
    cases hv : eqV x y with
    | none => rw [hv] at h; cases h
    | some c =>
      cases c with
      | true =>
        rw [hv] at h
        exact eqL_append (by simpa using hl) h
      | false =>
        rw [hv] at h
        exact ⟨false, rfl, by simpa using h⟩
def okD : TypeDesc → Value → Bool
  | .int _, .int _ _ => true
  | .bool, .bool _ => true
  | .string, .string _ => true
  | _, _ => false
def oksD : List TypeDesc → List Value → Bool
  | [], [] => true
  | d :: ds, v :: vs => okD d v && oksD ds vs
  | _, _ => false
theorem oksD_length : ∀ {ds : List TypeDesc} {vs : List Value}, oksD ds vs = true → vs.length = ds.length
  | [], [], _ => rfl
  | d :: ds, v :: vs, h => by
    simp only [oksD, Bool.and_eq_true] at h
    simp [oksD_length h.2]
theorem oksD_app : ∀ {ds ds' : List TypeDesc} {vs : List Value}, oksD (ds ++ ds') vs = true → oksD ds (vs.take ds.length) = true ∧ oksD ds' (vs.drop ds.length) = true
  | [], ds', vs, h => by simpa [oksD] using h
  | d :: ds, ds', [], h => by simp [oksD] at h
  | d :: ds, ds', v :: vs, h => by
    simp only [List.cons_append, oksD, Bool.and_eq_true] at h
    have := oksD_app h.2
    simp [oksD, h.1, this]
def mkV (agg : Bool) (xs : List Value) : Value := if agg then .agg xs.toArray else xs.headD undef
structure Flat (P : Program) (k : Nat) (t : TypeId) (ds : List TypeDesc) (agg : Bool) : Prop where
  ia : ∀ w, (isAgg t).run P w = .ok agg w
  sz : ∀ w, (sizeOf t).run P w = .ok ds.length w
  one : agg = false → ds.length = 1
  eq : ∀ (d : Nat) (xs ys : List Value) (b : Bool) (w : World), k ≤ d → oksD ds xs = true → oksD ds ys = true → eqL xs ys = some b → (Op.equalIn d t (mkV agg xs) (mkV agg ys)).run P w = .ok b w
section
variable {P : Program} {t : TypeId}
theorem eqL_one {x y : Value} {b : Bool} (h : eqL [x] [y] = some b) : eqV x y = some b := by
  simp only [eqL] at h
  cases hv : eqV x y with
  | none => rw [hv] at h; cases h
  | some c => cases c <;> (rw [hv] at h; exact h)
theorem len1 {xs : List Value} (h : xs.length = 1) : ∃ x, xs = [x] := by
  match xs, h with
  | [x], _ => exact ⟨x, rfl⟩
theorem equal_one {d0 : TypeDesc} (hu : P.underlying t = some d0) (d : Nat) (x y : Value) (b : Bool) (w : World) (hx : okD d0 x = true) (hy : okD d0 y = true) (h : eqV x y = some b) : (Op.equalIn (d + 1) t x y).run P w = .ok b w := by
  cases d0 <;> cases x <;> first | (simp [okD] at hx; done) | skip
  all_goals cases y <;> first | (simp [okD] at hy; done) | skip
  · simp only [eqV, Option.some.injEq] at h
    subst h
    rw [run_equalIn_bool' w d t _ _ hu]
    rfl
  · rename_i q k a k' b'
    simp only [eqV] at h
    split at h
    · rename_i hk
      subst hk
      injection h with h
      subst h
      rw [run_equalIn_int w d t k _ a b' hu]
      rfl
    · cases h
  · simp only [eqV, Option.some.injEq] at h
    subst h
    rw [run_equalIn_string w d t _ _ hu]
    congr 1
    rename_i p q
    by_cases hpq : p.toList = q.toList <;> simp [hpq]
theorem Flat.one_ {d0 : TypeDesc} (ia : ∀ w, (isAgg t).run P w = .ok false w) (sz : ∀ w, (sizeOf t).run P w = .ok 1 w) (hu : P.underlying t = some d0) : Flat P 1 t [d0] false := by
  refine ⟨ia, sz, fun _ => rfl, ?_⟩
  intro d xs ys b w hd hx hy h
  obtain ⟨x, rfl⟩ := len1 (by simpa using oksD_length hx)
  obtain ⟨y, rfl⟩ := len1 (by simpa using oksD_length hy)
  obtain ⟨d, rfl⟩ : ∃ d', d = d' + 1 := ⟨d - 1, by omega⟩
  exact equal_one hu d x y b w (by simpa [oksD] using hx) (by simpa [oksD] using hy) (eqL_one h)
def FlatFs (P : Program) (k : Nat) : Nat → List Field → List TypeDesc → Prop
  | _, [], ds => ds = []
  | off, f :: fs, ds => f.name ≠ "_" ∧ f.offset = off ∧ ∃ d1 d2 agg, ds = d1 ++ d2 ∧ Flat P k f.type d1 agg ∧ FlatFs P k (off + d1.length) fs d2
theorem part_run {ty : TypeId} {ds : List TypeDesc} {agg : Bool} {k : Nat} (hf : Flat P k ty ds agg) (xs : List Value) (off : Nat) (w : World) (hl : off + ds.length ≤ xs.length) : (part ty xs.toArray off).run P w = .ok (mkV agg ((xs.drop off).take ds.length)) w := by
  cases agg with
  | true =>
    have h1 := hf.ia w
    simp only [part, Sem.run_bind, h1, Result.andThen_ok, if_true, hf.sz w, Sem.run_pure, mkV]
    congr 2
    apply Array.ext'
    simp [List.extract_eq_take_drop]
  | false =>
    have h1 := hf.ia w
    have h2 := hf.one rfl
    have h3 : off < xs.length := by omega
    have h4 : ((xs.drop off).take 1).headD undef = xs[off] := by
      rw [List.drop_eq_getElem_cons h3]
      rfl
    simp only [part, Sem.run_bind, h1, Result.andThen_ok, Bool.false_eq_true, if_false, mkV, h2, h4]
    simp [h3]
theorem fields_run {k : Nat} : ∀ {fs : List Field} {ds : List TypeDesc} {off : Nat}, FlatFs P k off fs ds → ∀ (d : Nat) (xs ys : List Value) (b : Bool) (w : World), k ≤ d → xs.length = off + ds.length → ys.length = off + ds.length →
    oksD ds (xs.drop off) = true → oksD ds (ys.drop off) = true → eqL (xs.drop off) (ys.drop off) = some b → (Op.eqFields d xs.toArray ys.toArray fs).run P w = .ok b w
  | [], ds, off, hf, d, xs, ys, b, w, hd, hx, hy, ox, oy, h => by
    obtain rfl : ds = [] := hf
    rw [List.drop_of_length_le (by simp at hx; omega), List.drop_of_length_le (by simp at hy; omega)] at h
    injection h with h
    subst h
    rfl
  | f :: fs, ds, off, hf, d, xs, ys, b, w, hd, hx, hy, ox, oy, h => by
    obtain ⟨hn, ho, d1, d2, agg, rfl, hF, hr⟩ := hf
    rw [List.length_append] at hx hy
    have ox' := oksD_app ox
    have oy' := oksD_app oy
    have e1 : xs.drop off = (xs.drop off).take d1.length ++ xs.drop (off + d1.length) := by rw [← List.drop_drop, List.take_append_drop]
    have e2 : ys.drop off = (ys.drop off).take d1.length ++ ys.drop (off + d1.length) := by rw [← List.drop_drop, List.take_append_drop]
    rw [e1, e2] at h
    obtain ⟨c, h1, h2⟩ := eqL_append (by simp; omega) h
    have p1 := part_run hF xs off w (by omega)
    have p2 := part_run hF ys off w (by omega)
    have q1 := hF.eq d _ _ c w hd ox'.1 oy'.1 h1
    simp only [Op.eqFields, hn, ne_eq, not_false_eq_true, if_true, Sem.run_bind, ho, p1, Result.andThen_ok, p2, q1, Sem.run_ite]
    cases c with
    | false =>
      simp only [Bool.false_eq_true, if_false] at h2
      injection h2 with h2
      subst h2
      rfl
    | true =>
      simp only [if_true] at h2
      have h3 := fields_run hr d xs ys b w hd (by omega) (by omega) (by rw [← List.drop_drop]; exact ox'.2) (by rw [← List.drop_drop]; exact oy'.2) h2
      simpa using h3
theorem Flat.struct {k : Nat} {fs : Array Field} {ds : List TypeDesc} (ia : ∀ w, (isAgg t).run P w = .ok true w) {z : Nat} (sz : ∀ w, (sizeOf t).run P w = .ok z w) (hz : ds.length = z) (hu : P.underlying t = some (.struct fs)) (hp : P.stoodInHeld t = false) (hf : FlatFs P k 0 fs.toList ds) : Flat P (k + 1) t ds true := by
  subst hz
  refine ⟨ia, sz, fun h => (by cases h), ?_⟩
  intro d xs ys b w hd hx hy h
  obtain ⟨d, rfl⟩ : ∃ d', d = d' + 1 := ⟨d - 1, by omega⟩
  have e : P.fieldsOf t = fs := by simp [Program.fieldsOf, hu]
  simp only [mkV, if_true]
  rw [run_equalIn_agg w d t _ _ (by rw [e]; exact hu) hp, e]
  exact fields_run hf d xs ys b w (by omega) (by simpa using oksD_length hx) (by simpa using oksD_length hy) hx hy h
theorem Flat.mono {k k' : Nat} {ds : List TypeDesc} {agg : Bool} (h : Flat P k t ds agg) (hk : k ≤ k') : Flat P k' t ds agg := ⟨h.ia, h.sz, h.one, fun d xs ys b w hd => h.eq d xs ys b w (by omega)⟩
end
section
variable {P : Program} {n : Nat} {F0 : Nat → Prop} {w0 : World} {e : Env} {Rs Rf : List Res} {Q : Exit → Act → World → Prop} {ops : Array Oper} {d : Option Tmp} {i : Nat} {ty t t' el : TypeId} {pos : String} {af : Array Edge} {gd : Option (Nat × Bool)} {v v' : Value} {x y : Operand} {l : List Nat} {lo : Sch} {c : Code} {S : World → Prop}
theorem Ex.aEq {k : Nat} {ds : List TypeDesc} {us vs : List Value} {b : Bool} (hF : Flat P k t ds true) (hk : Nat.ble k 10000 = true) (hG : P.eqGuardType P.depth t = false) (hx : e.ev x = some (.agg us.toArray)) (hy : e.ev y = some (.agg vs.toArray)) (ou : oksD ds us = true) (ov : oksD ds vs = true) (h : eqL us vs = some b) :
    Ex P n e S ⟨d, .binOp .eql t x y t', ty, pos, af, gd⟩ (.bool b) := by
  intro a w ha _
  have h1 := hF.eq 10000 us vs b w (Nat.le_of_ble_eq_true hk) ou ov h
  simp only [mkV, if_true] at h1
  simp only [execOp, ha.ev hx, ha.ev hy, Sem.run_bind]
  rw [run_eqGuard_agg w .eql t x y _ _ hG]
  simp only [Result.andThen_ok]
  rw [run_eql_struct w t _ _, h1]
  rfl
theorem Wd.gu {op : Op} {j k : Nat} {want : Bool} (hj : (ops[j]?).bind (·.dst) = some k) (hv : e.get k = some undef) : Wd n ops e ⟨d, op, ty, pos, af, some (j, want)⟩ false := by
  intro a h
  simp only [Region.wanted, yielded, hj, Option.bind_some, h.at_ k _ hv]
  rfl
end
section
variable {P : Program} {n : Nat} {F0 : Nat → Prop} {w0 w : World} {e : Env} {Rs Rf : List Res} {Q : Exit → Act → World → Prop} {ops : Array Oper} {d : Option Tmp} {i : Nat} {ty t t' el : TypeId} {pos : String} {af : Array Edge} {gd : Option (Nat × Bool)} {v v' : Value} {y z : Operand} {l : List Nat} {lo : Sch} {c : Code} {S : World → Prop}
variable {α : Type} {E : Rd α} {B : Res} {A : Option Addr} {m cp size k : Nat} {xs : List α} {x : α}
theorem Ex.k1 {q g : Nat} {cs : List Value} (i j : Nat) (hy : e.ev y = some (.pointer (some ⟨g, q + j, none⟩))) (ha : ∀ w, (isAgg t).run P w = .ok false w) (hi : Rs[i]? = some B) (hB : ∀ w G, B.P w G → ∀ j, j < cs.length → w.cell? ⟨g, q + j, none⟩ = cs[j]?) (hv : cs[j]? = some v) : Ex P n e (St F0 w0 Rs) ⟨d, .load t y, ty, pos, af, gd⟩ v :=
  Ex.ld1 hy ha (fun w hw => by
    obtain ⟨G, h1, _⟩ := hw.get i hi
    exact (hB w G h1 j (List.getElem?_eq_some_iff.1 hv).1).trans hv)
end
end Go.Proofs.Ytpiiopppbgpbpaa.Sl
namespace Go.Proofs.Ytpiiopppbgpbpaa.Sl
open Go.RowKit
set_option linter.unusedVariables false
set_option linter.unusedSimpArgs false
def RX.blk (b : Nat) (T : TypeId) (cs : Array Value) : RX := ⟨fun w S => w.heap[b]? = some (.cells cs T (0, 0)) ∧ S b, fun h k => ⟨h.1, k _ h.2⟩, fun h k => ⟨(k _ h.2).trans h.1, h.2⟩⟩
theorem blk_reads {b : Nat} {T : TypeId} {cs : Array Value} : ∀ w G, (BlkR b T cs).P w G → (RX.blk b T cs).P w G := fun _ _ h => ⟨h.1, (h.2 _).2 rfl⟩
section
variable {P : Program} {n : Nat} {F0 : Nat → Prop} {w0 w : World} {e : Env} {Rs Rf : List Res} {Q : Exit → Act → World → Prop} {ops : Array Oper} {d : Option Tmp} {i : Nat} {ty t t' el : TypeId} {pos : String} {af : Array Edge} {gd : Option (Nat × Bool)} {v v' : Value} {x y z : Operand} {l : List Nat} {lo : Sch} {c : Code} {S : World → Prop}
theorem xblk_at {b : Nat} {T : TypeId} {cs : Array Value} (hX : (RX.blk b T cs).reads w0 F0) (h : St F0 w0 Rs w) : w.heap[b]? = some (.cells cs T (0, 0)) := by
  obtain ⟨S, ⟨h1, h2⟩, h3⟩ := hX
  exact (h.fr.block b (h3 b h2).2 (h3 b h2).1).trans h1
theorem Ex.xb1 {b o : Nat} {T : TypeId} {cs : Array Value} (hX : (RX.blk b T cs).reads w0 F0) (hx : e.ev x = some (.pointer (some ⟨b, o, none⟩))) (ha : ∀ w, (isAgg t).run P w = .ok false w) (hv : cs[o]? = some v) : Ex P n e (St F0 w0 Rs) ⟨d, .load t x, ty, pos, af, gd⟩ v :=
  Ex.ld1 hx ha (fun w hw => (heap_at (xblk_at hX hw) o).trans hv)
end
end Go.Proofs.Ytpiiopppbgpbpaa.Sl
namespace Go.Proofs.Ytpiiopppbgpbpaa.Sl
open Go.RowKit
set_option linter.unusedVariables false
set_option linter.unusedSimpArgs false
section
variable {P : Program} {n : Nat} {F0 : Nat → Prop} {w0 w : World} {e : Env} {Rs : List Res} {d : Option Tmp} {ty t t' el : TypeId} {pos : String} {af : Array Edge} {gd : Option (Nat × Bool)} {x y : Operand} {S : World → Prop}
theorem Ex.remK {k : IntKind} {p q : Int} (hx : e.ev x = some (.int k p)) (hy : e.ev y = some (.int k q)) (hq : 1 ≤ q) (h : 0 ≤ p) : Ex P n e S ⟨d, .binOp .rem t x y t', ty, pos, af, gd⟩ (.int k (p % q)) := by
  intro a w ha _
  have h0 : ¬ q = 0 := by omega
  simp [execOp, ha.ev hx, ha.ev hy, eqGuard, binOp, Op.intDiv, h0, IntWalk.rem_in _ _ h]
end
end Go.Proofs.Ytpiiopppbgpbpaa.Sl
namespace Go.Proofs.Ytpiiopppbgpbpaa.Sl
open Go.RowKit
set_option linter.unusedVariables false
section
variable {P : Program} {n : Nat} {F0 : Nat → Prop} {w0 : World} {e e' : Env} {Rs Rs' : List Res} {Q : Exit → Act → World → Prop} {c : Code} {d : Nat} {v v' : Value}
def JK (n : Nat) (F0 : Nat → Prop) (w0 : World) (R : Env → List Res → Prop) (a : Act) (w : World) : Prop := ∃ e Rs, R e Rs ∧ Has n e a ∧ St F0 w0 Rs w
theorem T.jq (R : Env → List Res → Prop) (h : T P n F0 w0 e Rs c (Exit.then (JK n F0 w0 R) Q)) (k : ∀ e' Rs', R e' Rs' → X n F0 w0 e' Rs' .normal Q) : T P n F0 w0 e Rs c Q := by
  intro a w ha hs
  refine wp_mono (h a w ha hs) ?_
  intro x a' w' hx
  cases x <;> first | exact hx | skip
  obtain ⟨e', Rs', hR, ha', hs'⟩ := hx
  exact k e' Rs' hR a' w' ha' hs'
theorem X.jq {R : Env → List Res → Prop} (is : List Nat) (hR : R e' Rs') (he : Sub e' e) (hr : Sel Rs is Rs') : X n F0 w0 e Rs .normal (Exit.then (JK n F0 w0 R) Q) := fun a w ha hs => ⟨e', Rs', hR, ha.sub he.get, hs.sel is hr⟩
theorem X.as {z : Exit} (hv : e.get d = some v) (h : v = v') (k : X n F0 w0 ((d, v') :: e) Rs z Q) : X n F0 w0 e Rs z Q := fun a w ha hs => k a w (ha.as hv h) hs
end
end Go.Proofs.Ytpiiopppbgpbpaa.Sl
namespace Go.Proofs.Ytpiiopppbgpbpaa.Sl
open Go.RowKit Go.Deep Go.ChangeShapes
set_option linter.unusedVariables false
set_option linter.unusedSimpArgs false
def oldRd {α : Type} (w0 : World) (S : Nat → Prop) (E : Rd α) : Rd α where
  P := fun w G cs x => ∀ W : World, (∀ k, G k → W.heap[k]? = w.heap[k]?) → (∀ k, S k → W.heap[k]? = w0.heap[k]?) → E.P W (fun k => G k ∨ S k) cs x
  mono := fun h hS W h1 h2 => E.mono (h W (fun k hk => h1 k (hS k hk)) h2) (fun k hk => hk.imp (hS k) id)
  move := fun h hm W h1 h2 => h W (fun k hk => (h1 k hk).trans (hm k hk)) h2
def RX.old (w0 : World) (S : Nat → Prop) (X : RX) : RX where
  P := fun w G => ∀ W : World, (∀ k, G k → W.heap[k]? = w.heap[k]?) → (∀ k, S k → W.heap[k]? = w0.heap[k]?) → X.P W (fun k => G k ∨ S k)
  mono := fun h hS W h1 h2 => X.mono (h W (fun k hk => h1 k (hS k hk)) h2) (fun k hk => hk.imp (hS k) id)
  move := fun h hm W h1 h2 => h W (fun k hk => (h1 k hk).trans (hm k hk)) h2
section
variable {α : Type} {w0 w w1 : World} {S G F : Nat → Prop} {E : Rd α} {cs : List Value} {x : α} {X Y : RX} {size : Nat}
end
structure RO where
  α : Type
  E : Rd α
  cs : List Value
  x : α
def RO.res (w0 : World) (S : Nat → Prop) (o : RO) : Res := RdR (oldRd w0 S o.E) o.cs o.x
section
variable {P : Program} {n : Nat} {F0 : Nat → Prop} {w0 w : World} {S : Nat → Prop} {e : Env} {Rs Rs' Rf Bs : List Res} {L : List RO} {B : Res} {Xr Y : RX}
theorem Sep.split : ∀ {Bs Rs : List Res} {w : World} {F : Nat → Prop}, Sep (Bs ++ Rs) w F → ∃ G, Sep Bs w G ∧ (∀ k, G k → F k) ∧ (∀ k, G k → k < w.heap.size) ∧ Sep Rs w (fun k => F k ∧ ¬ G k)
  | [], Rs, w, F, h => ⟨fun _ => False, trivial, fun _ h => h.elim, fun _ h => h.elim, h.mono (fun k hk => ⟨hk, fun h => h⟩)⟩
  | B :: Bs, Rs, w, F, ⟨G1, h1, h2, h3⟩ => by
    obtain ⟨G, k1, k2, k3, k4⟩ := Sep.split h3
    refine ⟨fun k => G1 k ∨ G k, ⟨G1, h1, fun k hk => .inl hk, k1.mono (fun k hk => ⟨.inr hk, (k2 k hk).2⟩)⟩, fun k hk => hk.elim (h2 k) (fun h => (k2 k h).1), fun k hk => hk.elim (B.lt h1 k) (k3 k), k4.mono (fun k hk => ⟨hk.1.1, fun h => h.elim hk.1.2 hk.2⟩)⟩
theorem Sep.each : ∀ {L : List RO} {w1 : World} {S1 F : Nat → Prop}, Sep (L.map (RO.res w1 S1)) w F → ∀ o, o ∈ L → ∃ G, (RdR (oldRd w1 S1 o.E) o.cs o.x).P w G ∧ ∀ k, G k → F k
  | a :: L, w1, S1, F, ⟨G, h1, h2, h3⟩, o, ho => by
    rcases List.mem_cons.1 ho with rfl | ho
    · exact ⟨G, h1, h2⟩
    · obtain ⟨G', k1, k2⟩ := Sep.each h3 o ho
      exact ⟨G', k1, fun k hk => (k2 k hk).1⟩
variable {d : Option Tmp} {ty : TypeId} {pos : String} {af : Array Edge} {gd : Option (Nat × Bool)} {R : Value → Res → List RO → Prop}
variable {Q : Exit → Act → World → Prop} {ops : Array Oper} {i dd : Nat} {cl : Call} {f : FuncId} {vs : List Value}
variable {α : Type} {E : Rd α} {size : Nat} {T : TypeId} {u : Value} {xs : List α}
end
end Go.Proofs.Ytpiiopppbgpbpaa.Sl
namespace Go.Proofs.Ytpiiopppbgpbpaa.Sl
open Go.RowKit
set_option linter.unusedVariables false
set_option linter.unusedSimpArgs false
section
variable {α : Type} {size : Nat} {E : Rd α} {w : World} {S : Nat → Prop}
theorem elems_set : ∀ {xs : List α} {cs new : List Value} {k : Nat} {x x' : α}, elems size E w S cs xs → xs[k]? = some x → new.length = size → E.P w S new x' → elems size E w S (cs.take (k * size) ++ new ++ cs.drop ((k + 1) * size)) (xs.set k x')
  | [], _, _, k, _, _, _, hk, _, _ => by simp at hk
  | y :: ys, cs, new, 0, x, x', ⟨h0, _, h2⟩, _, hn, hx => by
    rw [Nat.zero_mul, List.take_zero, List.nil_append, Nat.zero_add, Nat.one_mul]
    exact ⟨by rw [List.take_append_of_le_length (by omega), List.take_of_length_le (by omega)]; exact hn, by rw [List.take_append_of_le_length (by omega), List.take_of_length_le (by omega)]; exact hx,
      by rw [List.drop_append_of_le_length (by omega), List.drop_of_length_le (by omega)]; exact h2⟩
  | y :: ys, cs, new, k + 1, x, x', ⟨h0, h1, h2⟩, hk, hn, hx => by
    have hle : size ≤ cs.length := by rw [List.length_take] at h0; omega
    have ih := elems_set (k := k) (x := x) h2 (by simpa using hk) hn hx
    have hc : cs = cs.take size ++ cs.drop size := (List.take_append_drop size cs).symm
    have e0 : (cs.take size).length = size := h0
    have e1 : cs.take ((k + 1) * size) = cs.take size ++ (cs.drop size).take (k * size) := by
      conv => lhs; rw [hc]
      rw [List.take_append, e0, show (k + 1) * size - size = k * size by rw [Nat.add_mul]; omega, List.take_of_length_le (by rw [e0, Nat.add_mul]; omega)]
    have e2 : cs.drop ((k + 1 + 1) * size) = (cs.drop size).drop ((k + 1) * size) := by
      rw [List.drop_drop, show size + (k + 1) * size = (k + 1 + 1) * size by rw [Nat.add_mul (k + 1)]; omega]
    rw [e1, e2, List.append_assoc, List.append_assoc, ← List.append_assoc ((cs.drop size).take (k * size))]
    exact ⟨by rw [List.take_append_of_le_length (by omega), List.take_of_length_le (by omega)]; exact h0, by rw [List.take_append_of_le_length (by omega), List.take_of_length_le (by omega)]; exact h1,
      by rw [List.drop_append_of_le_length (by omega), List.drop_of_length_le (by omega), List.nil_append]; exact ih⟩
theorem OwnR.stored {T m c g o k off q : Nat} {G : Nat → Prop} {xs : List α} {x x' : α} {us : List Value} (h : (OwnR T size E (.slice (some ⟨g, o, none⟩) m c) xs).P w G) (hk : xs[k]? = some x) (hq : q = o + k * size + off) (hl : off + us.length ≤ size)
    (hE : ∀ w S cs, cs.length = size → E.P w S cs x → E.P w S (cs.take off ++ us ++ cs.drop (off + us.length)) x') :
    ∃ cur, w.heap[g]? = some (.cells cur T (0, 0)) ∧ q + us.length ≤ cur.size ∧ (∀ k, k = g → G k) ∧ (OwnR T size E (.slice (some ⟨g, o, none⟩) m c) (xs.set k x')).P (w.setRow g (cur.toList.take q ++ us ++ cur.toList.drop (q + us.length)).toArray) G := by
  obtain ⟨cells, S, ⟨hlen, hown⟩, h2, h3, h4, h5⟩ := h
  rcases hown with ⟨hv, _⟩ | ⟨g', cap, cur, hv, hb0, hg, hnc, hcm, hcs, htk⟩
  · cases hv
  injection hv with hv1 hv2 hv3
  injection hv1 with hv1
  injection hv1 with hv4 hv5
  subst hv4 hv5 hv2 hv3
  have hkl : k < xs.length := (List.getElem?_eq_some_iff.1 hk).1
  have hks : (k + 1) * size ≤ xs.length * size := Nat.mul_le_mul_right _ hkl
  have hcap : xs.length * size ≤ c * size := Nat.mul_le_mul_right _ hnc
  have hk1 : (k + 1) * size = k * size + size := by rw [Nat.add_mul, Nat.one_mul]
  have hfit : q + us.length ≤ cur.size := by rw [hcs]; omega
  refine ⟨cur, hg, hfit, fun k hk => by subst hk; exact (h5 _).2 (.inl rfl), ?_⟩
  obtain ⟨c1, c2⟩ := elems_get h2 hk
  have hgS : ¬ S g := h4 g rfl
  have hnew : ((cells.drop (k * size)).take size).take off ++ us ++ ((cells.drop (k * size)).take size).drop (off + us.length) = ((cells.drop (k * size)).take size).take off ++ us ++ ((cells.drop (k * size)).take size).drop (off + us.length) := rfl
  have hset := elems_set h2 hk (new := ((cells.drop (k * size)).take size).take off ++ us ++ ((cells.drop (k * size)).take size).drop (off + us.length)) (by simp only [List.length_append, List.length_take, List.length_drop] at c1 ⊢; omega) (hE w S _ c1 c2)
  have hset' : elems size E (w.setRow g (cur.toList.take q ++ us ++ cur.toList.drop (q + us.length)).toArray) S _ (xs.set k x') := elems_move hset (fun k hk => setRow_other w g k _ (fun e => hgS (e ▸ hk)))
  refine ⟨_, S, ⟨?_, .inr ⟨g, c, _, by rw [List.length_set], hb0, setRow_heap w g cur _ T (0, 0) hg, by rw [List.length_set]; exact hnc, hcm, ?_, ?_⟩⟩, hset', fun k hk => by rw [size_setRow]; exact h3 k hk, h4, h5⟩
  · have := elems_length hset
    exact this
  · simp only [List.size_toArray, List.length_append, List.length_take, List.length_drop, Array.length_toList]
    omega
  · rw [List.length_set]
    have hcl : cur.toList.length = c * size := by simpa using hcs
    have hcells : cells.length = xs.length * size := hlen
    have d1 : (cells.drop (k * size)).take size = (cells.drop (k * size)).take size := rfl
    have hq2 : q + us.length ≤ xs.length * size := by omega
    have r1 : cells.take (k * size) ++ ((cells.drop (k * size)).take size).take off = cells.take q := by
      rw [List.take_take, Nat.min_eq_left (by omega), ← List.take_add, show k * size + off = q by omega]
    have r2 : ((cells.drop (k * size)).take size).drop (off + us.length) ++ cells.drop ((k + 1) * size) = cells.drop (q + us.length) := by
      have e1 : cells.drop ((k + 1) * size) = (cells.drop (k * size)).drop size := by rw [List.drop_drop, hk1]
      have e2 : cells.drop (q + us.length) = (cells.drop (k * size)).drop (off + us.length) := by rw [List.drop_drop, show k * size + (off + us.length) = q + us.length by omega]
      rw [e1, e2, ← List.drop_append_of_le_length (by omega), List.take_append_drop]
    have r3 : cells.take (k * size) ++ (((cells.drop (k * size)).take size).take off ++ us ++ ((cells.drop (k * size)).take size).drop (off + us.length)) ++ cells.drop ((k + 1) * size) = cells.take q ++ us ++ cells.drop (q + us.length) := by
      rw [← r1, ← r2]
      simp only [List.append_assoc]
    rw [r3, ← htk, List.drop_take, List.take_take, Nat.min_eq_left (by omega)]
    have l1 : (cur.toList.take q ++ us).length = q + us.length := by rw [List.length_append, List.length_take]; omega
    rw [List.toList_toArray, List.take_append, l1, List.take_of_length_le (by omega)]
end
section
variable {P : Program} {n : Nat} {F0 : Nat → Prop} {w0 : World} {e : Env} {Rs Rf : List Res} {Q : Exit → Act → World → Prop} {ops : Array Oper} {d : Option Tmp} {i : Nat} {ty t t' el : TypeId} {pos : String} {af : Array Edge} {gd : Option (Nat × Bool)} {v v' : Value} {x y : Operand} {l : List Nat} {lo : Sch} {c : Code} {S : World → Prop}
section
variable {α : Type} {E : Rd α} {T m cp size g o k off q z : Nat} {xs : List α} {u u' : α}
end
section
variable {α : Type} {E : Rd α} {T bytes k : Nat} {zv : Value} {u : α} {m : Int} {kl : IntKind} {d' : Nat}
end
theorem T.blen {α : Type} {E : Rd α} {A : Option Addr} {m cp size : Nat} {xs : List α} {B : Res} (i : Nat) (hi : Rs[i]? = some B) (hB : ∀ w G, B.P w G → (RX.of (sliceRd size E) [.slice A m cp] xs).P w G) (h : xs.length ≤ 9223372036854775807 → T P n F0 w0 e Rs c Q) : T P n F0 w0 e Rs c Q := by
  intro a w ha hs
  refine h ?_ a w ha hs
  obtain ⟨G, hG, _⟩ := hs.get i hi
  rcases hB w G hG with ⟨_, rfl⟩ | ⟨_, cap, _, h1, h2, _⟩
  · simp
  · have : maxLen = 9223372036854775807 := rfl
    omega
end
end Go.Proofs.Ytpiiopppbgpbpaa.Sl
namespace Go.Proofs.Ytpiiopppbgpbpaa.Sl
open Go.RowKit
set_option linter.unusedVariables false
set_option linter.unusedSimpArgs false
section
variable {P : Program} {n : Nat} {F0 : Nat → Prop} {w0 w : World} {e : Env} {Rs Rf : List Res} {Q : Exit → Act → World → Prop} {ops : Array Oper} {d : Option Tmp} {i : Nat} {ty t t' el : TypeId} {pos : String} {af : Array Edge} {gd : Option (Nat × Bool)} {v v' : Value} {x y ix : Operand} {L : List Nat} {lo : Sch} {c : Code} {S : World → Prop}
variable {T g k : Nat} {l : List Int} {u u' : Int}
end
def LW (P : Program) (c : Code) (Q : Exit → Act → World → Prop) (a : Act) (w : World) : Prop := ∀ b k cs, ∃ x a' w', Q x a' w' ∧ Arrives P (lone (b.at a (.code c :: .inLoop c :: k)) cs w) b k cs x a' w'
def TW (P : Program) (n : Nat) (F0 : Nat → Prop) (w0 : World) (e : Env) (Rs : List Res) (c : Code) (Q : Exit → Act → World → Prop) : Prop := ∀ a w, Has n e a → St F0 w0 Rs w → LW P c Q a w
section
variable {P : Program} {n : Nat} {F0 : Nat → Prop} {w0 : World} {e : Env} {Rs : List Res} {Q : Exit → Act → World → Prop} {c : Code}
theorem TW.step (h : T P n F0 w0 e Rs c (Exit.then (LW P c Q) Q)) : TW P n F0 w0 e Rs c Q := by
  intro a w ha hs b k cs
  obtain ⟨x, a₁, w₁, hq, harr⟩ := h a w ha hs b (.inLoop c :: k) cs
  cases x with
  | normal =>
    obtain ⟨x₂, a₂, w₂, hq₂, harr₂⟩ := hq b k cs
    exact ⟨x₂, a₂, w₂, hq₂, .of_steps (Steps.trans harr (.one step_inLoop)) harr₂⟩
  | exit id => exact ⟨_, a₁, w₁, hq, .pass (x := .inLoop c) rfl (fun _ _ => .inl (by simp)) harr⟩
  | goto l => exact ⟨_, a₁, w₁, hq, .pass (x := .inLoop c) rfl (fun _ _ => .inl (by simp)) harr⟩
  | ret => exact ⟨_, a₁, w₁, hq, .pass (x := .inLoop c) rfl (fun _ _ => .inl (by simp)) harr⟩
  | panic ch => exact ⟨_, a₁, w₁, hq, .pass (x := .inLoop c) rfl (fun _ _ => .inl (by simp)) harr⟩
  | outgrown => exact ⟨_, a₁, w₁, hq, .pass (x := .inLoop c) rfl (fun _ _ => .inl (by simp)) harr⟩
end
end Go.Proofs.Ytpiiopppbgpbpaa.Sl
namespace Go.Proofs.Ytpiiopppbgpbpaa.Sl
open Go.RowKit
set_option linter.unusedVariables false
set_option linter.unusedSimpArgs false
set_option maxRecDepth 100000
def ft_cursitortop : FTab := [(38, 1, 1), (38, 4, 4), (38, 11, 11), (64, 0, 0), (64, 1, 1), (70, 0, 0), (70, 1, 1)]
theorem ft_cursitortop_ok : (ft_cursitortop).OK Try.prog := ⟨FOK.mk Try.runUnderlying38 rfl Try.sizeOf3 rfl, FOK.mk Try.runUnderlying38 rfl Try.sizeOf3 rfl, FOK.mk Try.runUnderlying38 rfl Try.sizeOf3 rfl, FOK.mk Try.runUnderlying64 rfl Try.sizeOf3 rfl, FOK.mk Try.runUnderlying64 rfl Try.sizeOf3 rfl, FOK.mk Try.runUnderlying70 rfl Try.sizeOf4 rfl, FOK.mk Try.runUnderlying70 rfl Try.sizeOf9 rfl, trivial⟩
theorem mix_cursitortop : Try.prog.follows .mixedOrders = true := by kernel_rfl
theorem flat_cursitortop_70 : Flat Try.prog 2 70 [.bool, .string] true := (Flat.struct Try.isAgg70 Try.sizeOf70 rfl Try.underlying70 Try.stoodInHeld70 ⟨by decide, rfl, [.bool], [.string], false, rfl, (Flat.one_ Try.isAgg4 Try.sizeOf4 Try.underlying4), ⟨by decide, rfl, [.string], [], false, rfl, (Flat.one_ Try.isAgg9 Try.sizeOf9 Try.underlying9), rfl⟩⟩)
def f_top_WholeFields1_b_l1 : List Int → Bool → I → Option (Bool × I)
  | [], y9, st11 => some (y9, st11)
  | x16 :: xs, y9, st11 => ((gVLong st11).bind fun (x27, st28) => if x27 = x16 then some (y9, st28) else some (false, st28)).bind fun (y24, st25) => f_top_WholeFields1_b_l1 xs y24 st25
def f_top_WholeFields1_b_l2 : List Bl → Bool → I → Option (Bool × I)
  | [], y75, st77 => some (y75, st77)
  | x82 :: xs, y75, st77 => ((gVaried st77).bind fun (x95, st96) => if x95.null = x82.null then (if x95.data = x82.data then some (y75, st96) else some (false, st96)) else some (false, st96)).bind fun (y92, st93) => ((gFixed st93 2).bind fun (x108, st109) => if x108.null = x82.null then (if x108.data = x82.data then some (y92, st109) else some (false, st109)) else some (false, st109)).bind fun (y105, st106) => f_top_WholeFields1_b_l2 xs y105 st106
def f_top_WholeFields1_b_l3 : List Int → Bool → I → Option (Bool × I)
  | [], y116, st118 => some (y116, st118)
  | x123 :: xs, y116, st118 => ((gVLong st118).bind fun (x134, st135) => if x134 = x123 then some (y116, st135) else some (false, st135)).bind fun (y131, st132) => f_top_WholeFields1_b_l3 xs y131 st132
def f_top_WholeFields1_b_l4 : List Bl → Bool → I → Option (Bool × I)
  | [], y182, st184 => some (y182, st184)
  | x189 :: xs, y182, st184 => ((gVaried st184).bind fun (x202, st203) => if x202.null = x189.null then (if x202.data = x189.data then some (y182, st203) else some (false, st203)) else some (false, st203)).bind fun (y199, st200) => ((gFixed st200 2).bind fun (x215, st216) => if x215.null = x189.null then (if x215.data = x189.data then some (y199, st216) else some (false, st216)) else some (false, st216)).bind fun (y212, st213) => f_top_WholeFields1_b_l4 xs y212 st213
def f_top_WholeFields1_b (st : I) (a1 : List Int) (a2 : List Bl) : Option (Bool × I) := (gVLong st).bind fun (x5, st6) => if x5 = (-1) then ((f_top_WholeFields1_b_l1 a1 true st6).bind fun (y31, st33) => (f_top_WholeFields1_b_l2 a2 y31 st33).bind fun (y72, st74) => some (y72, st74)) else ((f_top_WholeFields1_b_l3 a1 false st6).bind fun (y138, st140) => (f_top_WholeFields1_b_l4 a2 y138 st140).bind fun (y179, st181) => some (y179, st181))
set_option maxRecDepth 100000 in
set_option maxHeartbeats 4000000 in
theorem f_top_WholeFields1_b_spec (g : Nat) (st : I) (a1 : List Int) (A1 : Option Addr) (c2 : Nat) (ba1 : Nat) (a2 : List Bl) (A3 : Option Addr) (c4 : Nat) (ba2 : Nat) (r : Bool × I) (h : f_top_WholeFields1_b st a1 a2 = some r) : SpecX Try.prog 50 #[.pointer (some ⟨g, 0, none⟩), .pointer (some ⟨ba1, 0, none⟩), .pointer (some ⟨ba2, 0, none⟩)] (RX.and (RX.of (sliceRd 1 intE) [.slice A1 a1.length c2] a1) (RX.and (RX.blk ba1 25 #[.slice A1 a1.length c2]) (RX.and (RX.of (sliceRd 2 Bl_rd) [.slice A3 a2.length c4] a2) (RX.blk ba2 68 #[.slice A3 a2.length c4])))) (InR g st) (fun v A' N => v = .bool r.1 ∧ A' = InR g r.2 ∧ N = []) := by
  refine enterA Try.func50 rfl Try.ntmps50 rfl ?_
  intro F w hX
  unfold f_top_WholeFields1_b at h
  refine T.seq (T.region rfl ?_)
  refine TL.run ft_cursitortop_ok [0] rfl rfl ?_
  refine TL.nil (X.seq (T.seq (T.region rfl ?_)))
  obtain ⟨⟨x5, st6⟩, hx7, h⟩ := Option.bind_eq_some_iff.1 h
  try dsimp only at h
  refine TL.run ft_cursitortop_ok [0] rfl rfl ?_
  refine TL.c0 rfl .u (.fn Try.call51 rfl) (gVLong_spec g st _ hx7) (fun _ hs => (Src.triv _)) rfl ?_
  refine TL.run ft_cursitortop_ok [2, 3] rfl rfl ?_
  refine TL.nil (X.seq (T.seq (T.seq (T.region rfl ?_))))
  refine TL.q rfl .u (Ex.xb1 (RX.reads_left (RX.reads_right hX)) rfl Try.isAgg25 rfl) rfl ?_
  refine TL.q rfl .u (Ex.lenS rfl Try.runUnderlying25) rfl ?_
  refine TL.run ft_cursitortop_ok [2] rfl rfl ?_
  by_cases c8 : x5 = (-1)
  · replace h := ifT c8 h
    refine TL.nil (X.seq (T.block ?_))
    refine T.as (d := 5) (v' := .bool true) rfl (congrArg Value.bool (decide_eq_true c8)) ?_
    obtain ⟨E12, hE13, hO14⟩ := Option.bind_eq_some_iff.1 h
    have hk18len := RX.len_le (RX.reads_left hX)
    refine T.lp (fun m e Rs => ∃ (y9 : Bool) (k10 : Nat) (st11 : I), k10 + m = a1.length ∧ e = [(0, .pointer (some ⟨g, 0, none⟩)), (2, .pointer (some ⟨ba2, 0, none⟩)), (4, .bool false), (5, .bool y9), (13, .slice A1 a1.length c2), (14, .int .i64 (a1.length : Int)), (15, .int .i64 (k10 : Int))] ∧ Rs = [InR g st11] ∧ f_top_WholeFields1_b_l1 (a1.drop k10) y9 st11 = some E12) (a1.length) [0] ⟨true, 0, st6, by simp, rfl, rfl, by rw [List.drop_zero]; exact hE13⟩ (by rfl) (by rfl) ?_
    rintro m15 _ _ ⟨y9, k10, st11, hk18, rfl, rfl, hl17⟩
    clear hE13 h
    cases m15 with
    | zero =>
      have h := hl17
      clear hl17
      rw [List.drop_of_length_le (by omega), f_top_WholeFields1_b_l1] at h
      have hk18ge : ¬ ((k10 : Int) < (a1.length : Int)) := by omega
      refine T.seq (T.region rfl ?_)
      refine TL.run ft_cursitortop_ok [0] rfl rfl ?_
      refine TL.nil (X.seq (T.seq ?_))
      refine T.no rfl (decide_eq_false hk18ge) ?_
      obtain rfl := Option.some.inj h
      replace h := hO14
      clear hO14
      try dsimp only at h
      refine T.exit (X.exs (X.exs (X.ex (X.seq (T.seq (T.seq (T.region rfl ?_)))))))
      refine TL.q rfl .u (Ex.xb1 (RX.reads_right (RX.reads_right (RX.reads_right hX))) rfl Try.isAgg68 rfl) rfl ?_
      refine TL.q rfl .u (Ex.lenS rfl Try.runUnderlying68) rfl ?_
      refine TL.run ft_cursitortop_ok [2] rfl rfl ?_
      refine TL.nil (X.seq (T.block ?_))
      obtain ⟨E78, hE79, hO80⟩ := Option.bind_eq_some_iff.1 h
      have hk84len := RX.len_le (RX.reads_left (RX.reads_right (RX.reads_right hX)))
      refine T.lp (fun m e Rs => ∃ (y75 : Bool) (k76 : Nat) (st77 : I), k76 + m = a2.length ∧ e = [(0, .pointer (some ⟨g, 0, none⟩)), (4, .bool false), (5, .bool y75), (27, .slice A3 a2.length c4), (28, .int .i64 (a2.length : Int)), (29, .int .i64 (k76 : Int))] ∧ Rs = [InR g st77] ∧ f_top_WholeFields1_b_l2 (a2.drop k76) y75 st77 = some E78) (a2.length) [0] ⟨y9, 0, st11, by simp, rfl, rfl, by rw [List.drop_zero]; exact hE79⟩ (by rfl) (by rfl) ?_
      rintro m81 _ _ ⟨y75, k76, st77, hk84, rfl, rfl, hl83⟩
      clear hE79 h
      cases m81 with
      | zero =>
        have h := hl83
        clear hl83
        rw [List.drop_of_length_le (by omega), f_top_WholeFields1_b_l2] at h
        have hk84ge : ¬ ((k76 : Int) < (a2.length : Int)) := by omega
        refine T.seq (T.region rfl ?_)
        refine TL.run ft_cursitortop_ok [0] rfl rfl ?_
        refine TL.nil (X.seq (T.seq ?_))
        refine T.no rfl (decide_eq_false hk84ge) ?_
        obtain rfl := Option.some.inj h
        replace h := hO80
        clear hO80
        try dsimp only at h
        refine T.exit (X.exs (X.exs (X.ex (X.seq (T.seq (T.region rfl ?_))))))
        refine TL.run ft_cursitortop_ok [0, 1] rfl rfl ?_
        obtain rfl := Option.some.inj h
        exact TL.nil (X.seq (T.ret (X.done1 [0] Try.results50 (RV.tm rfl) ⟨rfl, rfl, rfl⟩ (by rfl) (.inl rfl))))
      | succ m81 =>
        have h := hl83
        clear hl83
        obtain ⟨x82, hxx82⟩ : ∃ x, a2[k76]? = some x := ⟨_, List.getElem?_eq_getElem (by omega)⟩
        rw [drop_cons hxx82, f_top_WholeFields1_b_l2] at h
        have hk84lt : (k76 : Int) < (a2.length : Int) := by omega
        refine T.seq (T.region rfl ?_)
        refine TL.run ft_cursitortop_ok [0] rfl rfl ?_
        refine TL.nil (X.seq (T.seq ?_))
        refine T.yes rfl (decide_eq_true hk84lt) ?_
        obtain ⟨gz85, oz85, rfl, z85cs, z85cl, z85cc, z85nf, z85r⟩ := RX.elem (by decide) (RX.reads_left (RX.reads_right (RX.reads_right hX))) hxx82
        obtain ⟨z85S, z85r, z85rr⟩ := z85r
        obtain rfl : z85cs = [.bool x82.null, .string (bsOf x82.data)] := z85r
        refine T.skip (X.seq (T.seq (T.block (T.seq (T.region rfl ?_)))))
        refine TL.q rfl .u (Ex.ixS (k := k76) rfl rfl rfl Try.runUnderlying68 Try.sizeOf70 (List.getElem?_eq_some_iff.1 hxx82).1) rfl ?_
        refine TL.q rfl .u (Ex.oS (us := [.bool x82.null, .string (bsOf x82.data)]) 0 rfl Try.isAgg70 Try.sizeOf70 z85nf z85cc rfl rfl rfl) rfl ?_
        refine TL.alloc rfl .u Try.zeroValue70 rfl (fun b86 => ?_)
        refine TL.st0 (cs' := #[.bool x82.null, .string (bsOf x82.data)]) rfl .u rfl rfl Try.sizeOf70 rfl rfl rfl rfl ?_
        refine TL.nil (X.seq (T.seq ?_))
        obtain ⟨⟨y92, st93⟩, h, hk94⟩ := Option.bind_eq_some_iff.1 h
        refine T.jq (fun e Rs => e = [(0, .pointer (some ⟨g, 0, none⟩)), (4, .bool false), (5, .bool y92), (9, .pointer (some ⟨b86, 0, none⟩)), (27, .slice (some ⟨gz85, oz85, none⟩) a2.length c4), (28, .int .i64 (a2.length : Int)), (29, .int .i64 (k76 : Int))] ∧ Rs = [BlkR b86 70 #[.bool x82.null, .string (bsOf x82.data)], InR g st93]) ?_ ?_
        · clear hk94
          refine T.draw (.q 0 (.q 2 (.e 1 (.q 3 (.q 4 (.q 5 (.q 6 (.q 7 .nil)))))))) [0] rfl mix_cursitortop (NoP.seq (NoP.seq (NoP.blk (NoP.seq (NoP.seq (NoP.blk (NoP.seq np_post))))))) (by kernel_rfl) ?_
          refine TD.run ft_cursitortop_ok [0] rfl rfl ?_
          refine TD.q rfl .u (Ex.bS (us := [.bool x82.null, .string (bsOf x82.data)]) 0 rfl Try.isAgg70 Try.sizeOf70 rfl rfl rfl) rfl ?_
          obtain ⟨⟨x95, st96⟩, hx97, h⟩ := Option.bind_eq_some_iff.1 h
          try dsimp only at h
          refine TD.c1 rfl .u (.fn Try.call45 rfl) (gVaried_spec g st77 _ hx97) (fun _ hs => (Src.triv _)) rfl [0] (rfl) ?_
          by_cases c98 : x95.null = x82.null
          · replace h := ifT c98 h
            by_cases c99 : x95.data = x82.data
            · replace h := ifT c99 h
              refine TD.q rfl .u (Ex.aEq (us := [.bool x95.null, .string (bsOf x95.data)]) (vs := [.bool x82.null, .string (bsOf x82.data)]) flat_cursitortop_70 rfl Try.eqGuardType70 rfl rfl rfl rfl (eqL_t (eqV_b c98) (eqL_t (eqV_s (l := x95.data) (m := x82.data) c99) rfl))) rfl ?_
              refine TD.run ft_cursitortop_ok [4] rfl rfl ?_
              refine TD.q rfl (.g rfl rfl rfl) (Ex.ft ft_cursitortop_ok rfl) rfl ?_
              refine TD.q rfl .u (Ex.py rfl rfl rfl) rfl ?_
              refine TD.run ft_cursitortop_ok [7] rfl rfl ?_
              cases h
              exact TD.nil (X.jq [0, 0] ⟨rfl, rfl⟩ (by rfl) (by rfl))
            · replace h := ifF c99 h
              refine TD.q rfl .u (Ex.aEq (us := [.bool x95.null, .string (bsOf x95.data)]) (vs := [.bool x82.null, .string (bsOf x82.data)]) flat_cursitortop_70 rfl Try.eqGuardType70 rfl rfl rfl rfl (eqL_t (eqV_b c98) (eqL_f (eqV_sn (l := x95.data) (m := x82.data) c99)))) rfl ?_
              refine TD.run ft_cursitortop_ok [4] rfl rfl ?_
              refine TD.no rfl (.gn rfl rfl rfl) rfl ?_
              refine TD.q rfl .u (Ex.pn rfl rfl rfl) rfl ?_
              refine TD.run ft_cursitortop_ok [7] rfl rfl ?_
              cases h
              exact TD.nil (X.jq [0, 0] ⟨rfl, rfl⟩ (by rfl) (by rfl))
          · replace h := ifF c98 h
            refine TD.q rfl .u (Ex.aEq (us := [.bool x95.null, .string (bsOf x95.data)]) (vs := [.bool x82.null, .string (bsOf x82.data)]) flat_cursitortop_70 rfl Try.eqGuardType70 rfl rfl rfl rfl (eqL_f (eqV_bn c98))) rfl ?_
            refine TD.run ft_cursitortop_ok [4] rfl rfl ?_
            refine TD.no rfl (.gn rfl rfl rfl) rfl ?_
            refine TD.q rfl .u (Ex.pn rfl rfl rfl) rfl ?_
            refine TD.run ft_cursitortop_ok [7] rfl rfl ?_
            cases h
            exact TD.nil (X.jq [0, 0] ⟨rfl, rfl⟩ (by rfl) (by rfl))
        · rintro _ _ ⟨rfl, rfl⟩
          clear h
          have h := hk94
          clear hk94
          try dsimp only at h
          refine X.seq ?_
          obtain ⟨⟨y105, st106⟩, h, hk107⟩ := Option.bind_eq_some_iff.1 h
          refine T.jq (fun e Rs => e = [(0, .pointer (some ⟨g, 0, none⟩)), (4, .bool false), (5, .bool y105), (27, .slice (some ⟨gz85, oz85, none⟩) a2.length c4), (28, .int .i64 (a2.length : Int)), (29, .int .i64 (k76 : Int))] ∧ Rs = [BlkR b86 70 #[.bool x82.null, .string (bsOf x82.data)], InR g st106]) ?_ ?_
          · clear hk107
            refine T.draw (.q 0 (.q 2 (.e 1 (.q 3 (.q 4 (.q 5 (.q 6 (.q 7 .nil)))))))) [0] rfl mix_cursitortop (NoP.seq (NoP.blk (NoP.seq (NoP.seq (NoP.blk (NoP.seq np_post)))))) (by kernel_rfl) ?_
            refine TD.run ft_cursitortop_ok [0] rfl rfl ?_
            refine TD.q rfl .u (Ex.bS (us := [.bool x82.null, .string (bsOf x82.data)]) 0 rfl Try.isAgg70 Try.sizeOf70 rfl rfl rfl) rfl ?_
            obtain ⟨⟨x108, st109⟩, hx110, h⟩ := Option.bind_eq_some_iff.1 h
            try dsimp only at h
            refine TD.c1 rfl .u (.fn Try.call44 rfl) (gFixed_spec g st93 2 _ hx110) (fun _ hs => (Src.triv _)) rfl [0] (rfl) ?_
            by_cases c111 : x108.null = x82.null
            · replace h := ifT c111 h
              by_cases c112 : x108.data = x82.data
              · replace h := ifT c112 h
                refine TD.q rfl .u (Ex.aEq (us := [.bool x108.null, .string (bsOf x108.data)]) (vs := [.bool x82.null, .string (bsOf x82.data)]) flat_cursitortop_70 rfl Try.eqGuardType70 rfl rfl rfl rfl (eqL_t (eqV_b c111) (eqL_t (eqV_s (l := x108.data) (m := x82.data) c112) rfl))) rfl ?_
                refine TD.run ft_cursitortop_ok [4] rfl rfl ?_
                refine TD.q rfl (.g rfl rfl rfl) (Ex.ft ft_cursitortop_ok rfl) rfl ?_
                refine TD.q rfl .u (Ex.py rfl rfl rfl) rfl ?_
                refine TD.run ft_cursitortop_ok [7] rfl rfl ?_
                cases h
                exact TD.nil (X.jq [0, 0] ⟨rfl, rfl⟩ (by rfl) (by rfl))
              · replace h := ifF c112 h
                refine TD.q rfl .u (Ex.aEq (us := [.bool x108.null, .string (bsOf x108.data)]) (vs := [.bool x82.null, .string (bsOf x82.data)]) flat_cursitortop_70 rfl Try.eqGuardType70 rfl rfl rfl rfl (eqL_t (eqV_b c111) (eqL_f (eqV_sn (l := x108.data) (m := x82.data) c112)))) rfl ?_
                refine TD.run ft_cursitortop_ok [4] rfl rfl ?_
                refine TD.no rfl (.gn rfl rfl rfl) rfl ?_
                refine TD.q rfl .u (Ex.pn rfl rfl rfl) rfl ?_
                refine TD.run ft_cursitortop_ok [7] rfl rfl ?_
                cases h
                exact TD.nil (X.jq [0, 0] ⟨rfl, rfl⟩ (by rfl) (by rfl))
            · replace h := ifF c111 h
              refine TD.q rfl .u (Ex.aEq (us := [.bool x108.null, .string (bsOf x108.data)]) (vs := [.bool x82.null, .string (bsOf x82.data)]) flat_cursitortop_70 rfl Try.eqGuardType70 rfl rfl rfl rfl (eqL_f (eqV_bn c111))) rfl ?_
              refine TD.run ft_cursitortop_ok [4] rfl rfl ?_
              refine TD.no rfl (.gn rfl rfl rfl) rfl ?_
              refine TD.q rfl .u (Ex.pn rfl rfl rfl) rfl ?_
              refine TD.run ft_cursitortop_ok [7] rfl rfl ?_
              cases h
              exact TD.nil (X.jq [0, 0] ⟨rfl, rfl⟩ (by rfl) (by rfl))
          · rintro _ _ ⟨rfl, rfl⟩
            clear h
            have h := hk107
            clear hk107
            try dsimp only at h
            refine X.blk (X.seq (T.region rfl ?_))
            refine TL.q rfl .u (Ex.add rfl rfl (by omega)) rfl ?_
            refine TL.run ft_cursitortop_ok [1] rfl rfl ?_
            exact TL.nil (X.back (m' := m81) [1] (by omega) ⟨y105, k76 + 1, st106, by omega, rfl, rfl, h⟩ (by rfl) (by rfl))
    | succ m15 =>
      have h := hl17
      clear hl17
      obtain ⟨x16, hxx16⟩ : ∃ x, a1[k10]? = some x := ⟨_, List.getElem?_eq_getElem (by omega)⟩
      rw [drop_cons hxx16, f_top_WholeFields1_b_l1] at h
      have hk18lt : (k10 : Int) < (a1.length : Int) := by omega
      refine T.seq (T.region rfl ?_)
      refine TL.run ft_cursitortop_ok [0] rfl rfl ?_
      refine TL.nil (X.seq (T.seq ?_))
      refine T.yes rfl (decide_eq_true hk18lt) ?_
      obtain ⟨gz19, oz19, rfl, z19cs, z19cl, z19cc, z19nf, z19r⟩ := RX.elem (by decide) (RX.reads_left hX) hxx16
      obtain ⟨z19S, z19r, z19rr⟩ := z19r
      obtain rfl : z19cs = [.int .i64 x16] := z19r
      refine T.skip (X.seq (T.seq (T.block (T.seq (T.region rfl ?_)))))
      refine TL.q rfl .u (Ex.ixS (k := k10) rfl rfl rfl Try.runUnderlying25 Try.sizeOf3 (List.getElem?_eq_some_iff.1 hxx16).1) rfl ?_
      refine TL.q rfl .u (Ex.o1 0 rfl Try.isAgg3 z19nf z19cc rfl rfl) rfl ?_
      refine TL.run ft_cursitortop_ok [2] rfl rfl ?_
      refine TL.nil (X.seq ?_)
      obtain ⟨⟨y24, st25⟩, h, hk26⟩ := Option.bind_eq_some_iff.1 h
      refine T.jq (fun e Rs => e = [(0, .pointer (some ⟨g, 0, none⟩)), (2, .pointer (some ⟨ba2, 0, none⟩)), (4, .bool false), (5, .bool y24), (13, .slice (some ⟨gz19, oz19, none⟩) a1.length c2), (14, .int .i64 (a1.length : Int)), (15, .int .i64 (k10 : Int))] ∧ Rs = [InR g st25]) ?_ ?_
      · clear hk26
        refine T.region rfl ?_
        obtain ⟨⟨x27, st28⟩, hx29, h⟩ := Option.bind_eq_some_iff.1 h
        try dsimp only at h
        refine TL.run ft_cursitortop_ok [0] rfl rfl ?_
        refine TL.c0 rfl .u (.fn Try.call51 rfl) (gVLong_spec g st11 _ hx29) (fun _ hs => (Src.triv _)) rfl ?_
        by_cases c30 : x27 = x16
        · replace h := ifT c30 h
          refine TL.run ft_cursitortop_ok [2, 3, 4] rfl rfl ?_
          refine TL.q rfl (.g rfl rfl (decide_eq_true c30)) (Ex.ft ft_cursitortop_ok rfl) rfl ?_
          refine TL.q rfl .u (Ex.py rfl (decide_eq_true c30) rfl) rfl ?_
          refine TL.run ft_cursitortop_ok [7] rfl rfl ?_
          cases h
          exact TL.nil (X.jq [0] ⟨rfl, rfl⟩ (by rfl) (by rfl))
        · replace h := ifF c30 h
          refine TL.run ft_cursitortop_ok [2, 3, 4] rfl rfl ?_
          refine TL.no rfl (.gn rfl rfl (decide_eq_false c30)) rfl ?_
          refine TL.q rfl .u (Ex.pn rfl (decide_eq_false c30) rfl) rfl ?_
          refine TL.run ft_cursitortop_ok [7] rfl rfl ?_
          cases h
          exact TL.nil (X.jq [0] ⟨rfl, rfl⟩ (by rfl) (by rfl))
      · rintro _ _ ⟨rfl, rfl⟩
        clear h
        have h := hk26
        clear hk26
        try dsimp only at h
        refine X.blk (X.seq (T.region rfl ?_))
        refine TL.q rfl .u (Ex.add rfl rfl (by omega)) rfl ?_
        refine TL.run ft_cursitortop_ok [1] rfl rfl ?_
        exact TL.nil (X.back (m' := m15) [0] (by omega) ⟨y24, k10 + 1, st25, by omega, rfl, rfl, h⟩ (by rfl) (by rfl))
  · replace h := ifF c8 h
    refine TL.nil (X.seq (T.block ?_))
    refine T.as (d := 5) (v' := .bool false) rfl (congrArg Value.bool (decide_eq_false c8)) ?_
    obtain ⟨E119, hE120, hO121⟩ := Option.bind_eq_some_iff.1 h
    have hk125len := RX.len_le (RX.reads_left hX)
    refine T.lp (fun m e Rs => ∃ (y116 : Bool) (k117 : Nat) (st118 : I), k117 + m = a1.length ∧ e = [(0, .pointer (some ⟨g, 0, none⟩)), (2, .pointer (some ⟨ba2, 0, none⟩)), (4, .bool false), (5, .bool y116), (13, .slice A1 a1.length c2), (14, .int .i64 (a1.length : Int)), (15, .int .i64 (k117 : Int))] ∧ Rs = [InR g st118] ∧ f_top_WholeFields1_b_l3 (a1.drop k117) y116 st118 = some E119) (a1.length) [0] ⟨false, 0, st6, by simp, rfl, rfl, by rw [List.drop_zero]; exact hE120⟩ (by rfl) (by rfl) ?_
    rintro m122 _ _ ⟨y116, k117, st118, hk125, rfl, rfl, hl124⟩
    clear hE120 h
    cases m122 with
    | zero =>
      have h := hl124
      clear hl124
      rw [List.drop_of_length_le (by omega), f_top_WholeFields1_b_l3] at h
      have hk125ge : ¬ ((k117 : Int) < (a1.length : Int)) := by omega
      refine T.seq (T.region rfl ?_)
      refine TL.run ft_cursitortop_ok [0] rfl rfl ?_
      refine TL.nil (X.seq (T.seq ?_))
      refine T.no rfl (decide_eq_false hk125ge) ?_
      obtain rfl := Option.some.inj h
      replace h := hO121
      clear hO121
      try dsimp only at h
      refine T.exit (X.exs (X.exs (X.ex (X.seq (T.seq (T.seq (T.region rfl ?_)))))))
      refine TL.q rfl .u (Ex.xb1 (RX.reads_right (RX.reads_right (RX.reads_right hX))) rfl Try.isAgg68 rfl) rfl ?_
      refine TL.q rfl .u (Ex.lenS rfl Try.runUnderlying68) rfl ?_
      refine TL.run ft_cursitortop_ok [2] rfl rfl ?_
      refine TL.nil (X.seq (T.block ?_))
      obtain ⟨E185, hE186, hO187⟩ := Option.bind_eq_some_iff.1 h
      have hk191len := RX.len_le (RX.reads_left (RX.reads_right (RX.reads_right hX)))
      refine T.lp (fun m e Rs => ∃ (y182 : Bool) (k183 : Nat) (st184 : I), k183 + m = a2.length ∧ e = [(0, .pointer (some ⟨g, 0, none⟩)), (4, .bool false), (5, .bool y182), (27, .slice A3 a2.length c4), (28, .int .i64 (a2.length : Int)), (29, .int .i64 (k183 : Int))] ∧ Rs = [InR g st184] ∧ f_top_WholeFields1_b_l4 (a2.drop k183) y182 st184 = some E185) (a2.length) [0] ⟨y116, 0, st118, by simp, rfl, rfl, by rw [List.drop_zero]; exact hE186⟩ (by rfl) (by rfl) ?_
      rintro m188 _ _ ⟨y182, k183, st184, hk191, rfl, rfl, hl190⟩
      clear hE186 h
      cases m188 with
      | zero =>
        have h := hl190
        clear hl190
        rw [List.drop_of_length_le (by omega), f_top_WholeFields1_b_l4] at h
        have hk191ge : ¬ ((k183 : Int) < (a2.length : Int)) := by omega
        refine T.seq (T.region rfl ?_)
        refine TL.run ft_cursitortop_ok [0] rfl rfl ?_
        refine TL.nil (X.seq (T.seq ?_))
        refine T.no rfl (decide_eq_false hk191ge) ?_
        obtain rfl := Option.some.inj h
        replace h := hO187
        clear hO187
        try dsimp only at h
        refine T.exit (X.exs (X.exs (X.ex (X.seq (T.seq (T.region rfl ?_))))))
        refine TL.run ft_cursitortop_ok [0, 1] rfl rfl ?_
        obtain rfl := Option.some.inj h
        exact TL.nil (X.seq (T.ret (X.done1 [0] Try.results50 (RV.tm rfl) ⟨rfl, rfl, rfl⟩ (by rfl) (.inl rfl))))
      | succ m188 =>
        have h := hl190
        clear hl190
        obtain ⟨x189, hxx189⟩ : ∃ x, a2[k183]? = some x := ⟨_, List.getElem?_eq_getElem (by omega)⟩
        rw [drop_cons hxx189, f_top_WholeFields1_b_l4] at h
        have hk191lt : (k183 : Int) < (a2.length : Int) := by omega
        refine T.seq (T.region rfl ?_)
        refine TL.run ft_cursitortop_ok [0] rfl rfl ?_
        refine TL.nil (X.seq (T.seq ?_))
        refine T.yes rfl (decide_eq_true hk191lt) ?_
        obtain ⟨gz192, oz192, rfl, z192cs, z192cl, z192cc, z192nf, z192r⟩ := RX.elem (by decide) (RX.reads_left (RX.reads_right (RX.reads_right hX))) hxx189
        obtain ⟨z192S, z192r, z192rr⟩ := z192r
        obtain rfl : z192cs = [.bool x189.null, .string (bsOf x189.data)] := z192r
        refine T.skip (X.seq (T.seq (T.block (T.seq (T.region rfl ?_)))))
        refine TL.q rfl .u (Ex.ixS (k := k183) rfl rfl rfl Try.runUnderlying68 Try.sizeOf70 (List.getElem?_eq_some_iff.1 hxx189).1) rfl ?_
        refine TL.q rfl .u (Ex.oS (us := [.bool x189.null, .string (bsOf x189.data)]) 0 rfl Try.isAgg70 Try.sizeOf70 z192nf z192cc rfl rfl rfl) rfl ?_
        refine TL.alloc rfl .u Try.zeroValue70 rfl (fun b193 => ?_)
        refine TL.st0 (cs' := #[.bool x189.null, .string (bsOf x189.data)]) rfl .u rfl rfl Try.sizeOf70 rfl rfl rfl rfl ?_
        refine TL.nil (X.seq (T.seq ?_))
        obtain ⟨⟨y199, st200⟩, h, hk201⟩ := Option.bind_eq_some_iff.1 h
        refine T.jq (fun e Rs => e = [(0, .pointer (some ⟨g, 0, none⟩)), (4, .bool false), (5, .bool y199), (9, .pointer (some ⟨b193, 0, none⟩)), (27, .slice (some ⟨gz192, oz192, none⟩) a2.length c4), (28, .int .i64 (a2.length : Int)), (29, .int .i64 (k183 : Int))] ∧ Rs = [BlkR b193 70 #[.bool x189.null, .string (bsOf x189.data)], InR g st200]) ?_ ?_
        · clear hk201
          refine T.draw (.q 0 (.q 2 (.e 1 (.q 3 (.q 4 (.q 5 (.q 6 (.q 7 .nil)))))))) [0] rfl mix_cursitortop (NoP.seq (NoP.seq (NoP.blk (NoP.seq (NoP.seq (NoP.blk (NoP.seq np_post))))))) (by kernel_rfl) ?_
          refine TD.run ft_cursitortop_ok [0] rfl rfl ?_
          refine TD.q rfl .u (Ex.bS (us := [.bool x189.null, .string (bsOf x189.data)]) 0 rfl Try.isAgg70 Try.sizeOf70 rfl rfl rfl) rfl ?_
          obtain ⟨⟨x202, st203⟩, hx204, h⟩ := Option.bind_eq_some_iff.1 h
          try dsimp only at h
          refine TD.c1 rfl .u (.fn Try.call45 rfl) (gVaried_spec g st184 _ hx204) (fun _ hs => (Src.triv _)) rfl [0] (rfl) ?_
          by_cases c205 : x202.null = x189.null
          · replace h := ifT c205 h
            by_cases c206 : x202.data = x189.data
            · replace h := ifT c206 h
              refine TD.q rfl .u (Ex.aEq (us := [.bool x202.null, .string (bsOf x202.data)]) (vs := [.bool x189.null, .string (bsOf x189.data)]) flat_cursitortop_70 rfl Try.eqGuardType70 rfl rfl rfl rfl (eqL_t (eqV_b c205) (eqL_t (eqV_s (l := x202.data) (m := x189.data) c206) rfl))) rfl ?_
              refine TD.run ft_cursitortop_ok [4] rfl rfl ?_
              refine TD.q rfl (.g rfl rfl rfl) (Ex.ft ft_cursitortop_ok rfl) rfl ?_
              refine TD.q rfl .u (Ex.py rfl rfl rfl) rfl ?_
              refine TD.run ft_cursitortop_ok [7] rfl rfl ?_
              cases h
              exact TD.nil (X.jq [0, 0] ⟨rfl, rfl⟩ (by rfl) (by rfl))
            · replace h := ifF c206 h
              refine TD.q rfl .u (Ex.aEq (us := [.bool x202.null, .string (bsOf x202.data)]) (vs := [.bool x189.null, .string (bsOf x189.data)]) flat_cursitortop_70 rfl Try.eqGuardType70 rfl rfl rfl rfl (eqL_t (eqV_b c205) (eqL_f (eqV_sn (l := x202.data) (m := x189.data) c206)))) rfl ?_
              refine TD.run ft_cursitortop_ok [4] rfl rfl ?_
              refine TD.no rfl (.gn rfl rfl rfl) rfl ?_
              refine TD.q rfl .u (Ex.pn rfl rfl rfl) rfl ?_
              refine TD.run ft_cursitortop_ok [7] rfl rfl ?_
              cases h
              exact TD.nil (X.jq [0, 0] ⟨rfl, rfl⟩ (by rfl) (by rfl))
          · replace h := ifF c205 h
            refine TD.q rfl .u (Ex.aEq (us := [.bool x202.null, .string (bsOf x202.data)]) (vs := [.bool x189.null, .string (bsOf x189.data)]) flat_cursitortop_70 rfl Try.eqGuardType70 rfl rfl rfl rfl (eqL_f (eqV_bn c205))) rfl ?_
            refine TD.run ft_cursitortop_ok [4] rfl rfl ?_
            refine TD.no rfl (.gn rfl rfl rfl) rfl ?_
            refine TD.q rfl .u (Ex.pn rfl rfl rfl) rfl ?_
            refine TD.run ft_cursitortop_ok [7] rfl rfl ?_
            cases h
            exact TD.nil (X.jq [0, 0] ⟨rfl, rfl⟩ (by rfl) (by rfl))
        · rintro _ _ ⟨rfl, rfl⟩
          clear h
          have h := hk201
          clear hk201
          try dsimp only at h
          refine X.seq ?_
          obtain ⟨⟨y212, st213⟩, h, hk214⟩ := Option.bind_eq_some_iff.1 h
          refine T.jq (fun e Rs => e = [(0, .pointer (some ⟨g, 0, none⟩)), (4, .bool false), (5, .bool y212), (27, .slice (some ⟨gz192, oz192, none⟩) a2.length c4), (28, .int .i64 (a2.length : Int)), (29, .int .i64 (k183 : Int))] ∧ Rs = [BlkR b193 70 #[.bool x189.null, .string (bsOf x189.data)], InR g st213]) ?_ ?_
          · clear hk214
            refine T.draw (.q 0 (.q 2 (.e 1 (.q 3 (.q 4 (.q 5 (.q 6 (.q 7 .nil)))))))) [0] rfl mix_cursitortop (NoP.seq (NoP.blk (NoP.seq (NoP.seq (NoP.blk (NoP.seq np_post)))))) (by kernel_rfl) ?_
            refine TD.run ft_cursitortop_ok [0] rfl rfl ?_
            refine TD.q rfl .u (Ex.bS (us := [.bool x189.null, .string (bsOf x189.data)]) 0 rfl Try.isAgg70 Try.sizeOf70 rfl rfl rfl) rfl ?_
            obtain ⟨⟨x215, st216⟩, hx217, h⟩ := Option.bind_eq_some_iff.1 h
            try dsimp only at h
            refine TD.c1 rfl .u (.fn Try.call44 rfl) (gFixed_spec g st200 2 _ hx217) (fun _ hs => (Src.triv _)) rfl [0] (rfl) ?_
            by_cases c218 : x215.null = x189.null
            · replace h := ifT c218 h
              by_cases c219 : x215.data = x189.data
              · replace h := ifT c219 h
                refine TD.q rfl .u (Ex.aEq (us := [.bool x215.null, .string (bsOf x215.data)]) (vs := [.bool x189.null, .string (bsOf x189.data)]) flat_cursitortop_70 rfl Try.eqGuardType70 rfl rfl rfl rfl (eqL_t (eqV_b c218) (eqL_t (eqV_s (l := x215.data) (m := x189.data) c219) rfl))) rfl ?_
                refine TD.run ft_cursitortop_ok [4] rfl rfl ?_
                refine TD.q rfl (.g rfl rfl rfl) (Ex.ft ft_cursitortop_ok rfl) rfl ?_
                refine TD.q rfl .u (Ex.py rfl rfl rfl) rfl ?_
                refine TD.run ft_cursitortop_ok [7] rfl rfl ?_
                cases h
                exact TD.nil (X.jq [0, 0] ⟨rfl, rfl⟩ (by rfl) (by rfl))
              · replace h := ifF c219 h
                refine TD.q rfl .u (Ex.aEq (us := [.bool x215.null, .string (bsOf x215.data)]) (vs := [.bool x189.null, .string (bsOf x189.data)]) flat_cursitortop_70 rfl Try.eqGuardType70 rfl rfl rfl rfl (eqL_t (eqV_b c218) (eqL_f (eqV_sn (l := x215.data) (m := x189.data) c219)))) rfl ?_
                refine TD.run ft_cursitortop_ok [4] rfl rfl ?_
                refine TD.no rfl (.gn rfl rfl rfl) rfl ?_
                refine TD.q rfl .u (Ex.pn rfl rfl rfl) rfl ?_
                refine TD.run ft_cursitortop_ok [7] rfl rfl ?_
                cases h
                exact TD.nil (X.jq [0, 0] ⟨rfl, rfl⟩ (by rfl) (by rfl))
            · replace h := ifF c218 h
              refine TD.q rfl .u (Ex.aEq (us := [.bool x215.null, .string (bsOf x215.data)]) (vs := [.bool x189.null, .string (bsOf x189.data)]) flat_cursitortop_70 rfl Try.eqGuardType70 rfl rfl rfl rfl (eqL_f (eqV_bn c218))) rfl ?_
              refine TD.run ft_cursitortop_ok [4] rfl rfl ?_
              refine TD.no rfl (.gn rfl rfl rfl) rfl ?_
              refine TD.q rfl .u (Ex.pn rfl rfl rfl) rfl ?_
              refine TD.run ft_cursitortop_ok [7] rfl rfl ?_
              cases h
              exact TD.nil (X.jq [0, 0] ⟨rfl, rfl⟩ (by rfl) (by rfl))
          · rintro _ _ ⟨rfl, rfl⟩
            clear h
            have h := hk214
            clear hk214
            try dsimp only at h
            refine X.blk (X.seq (T.region rfl ?_))
            refine TL.q rfl .u (Ex.add rfl rfl (by omega)) rfl ?_
            refine TL.run ft_cursitortop_ok [1] rfl rfl ?_
            exact TL.nil (X.back (m' := m188) [1] (by omega) ⟨y212, k183 + 1, st213, by omega, rfl, rfl, h⟩ (by rfl) (by rfl))
    | succ m122 =>
      have h := hl124
      clear hl124
      obtain ⟨x123, hxx123⟩ : ∃ x, a1[k117]? = some x := ⟨_, List.getElem?_eq_getElem (by omega)⟩
      rw [drop_cons hxx123, f_top_WholeFields1_b_l3] at h
      have hk125lt : (k117 : Int) < (a1.length : Int) := by omega
      refine T.seq (T.region rfl ?_)
      refine TL.run ft_cursitortop_ok [0] rfl rfl ?_
      refine TL.nil (X.seq (T.seq ?_))
      refine T.yes rfl (decide_eq_true hk125lt) ?_
      obtain ⟨gz126, oz126, rfl, z126cs, z126cl, z126cc, z126nf, z126r⟩ := RX.elem (by decide) (RX.reads_left hX) hxx123
      obtain ⟨z126S, z126r, z126rr⟩ := z126r
      obtain rfl : z126cs = [.int .i64 x123] := z126r
      refine T.skip (X.seq (T.seq (T.block (T.seq (T.region rfl ?_)))))
      refine TL.q rfl .u (Ex.ixS (k := k117) rfl rfl rfl Try.runUnderlying25 Try.sizeOf3 (List.getElem?_eq_some_iff.1 hxx123).1) rfl ?_
      refine TL.q rfl .u (Ex.o1 0 rfl Try.isAgg3 z126nf z126cc rfl rfl) rfl ?_
      refine TL.run ft_cursitortop_ok [2] rfl rfl ?_
      refine TL.nil (X.seq ?_)
      obtain ⟨⟨y131, st132⟩, h, hk133⟩ := Option.bind_eq_some_iff.1 h
      refine T.jq (fun e Rs => e = [(0, .pointer (some ⟨g, 0, none⟩)), (2, .pointer (some ⟨ba2, 0, none⟩)), (4, .bool false), (5, .bool y131), (13, .slice (some ⟨gz126, oz126, none⟩) a1.length c2), (14, .int .i64 (a1.length : Int)), (15, .int .i64 (k117 : Int))] ∧ Rs = [InR g st132]) ?_ ?_
      · clear hk133
        refine T.region rfl ?_
        obtain ⟨⟨x134, st135⟩, hx136, h⟩ := Option.bind_eq_some_iff.1 h
        try dsimp only at h
        refine TL.run ft_cursitortop_ok [0] rfl rfl ?_
        refine TL.c0 rfl .u (.fn Try.call51 rfl) (gVLong_spec g st118 _ hx136) (fun _ hs => (Src.triv _)) rfl ?_
        by_cases c137 : x134 = x123
        · replace h := ifT c137 h
          refine TL.run ft_cursitortop_ok [2, 3, 4] rfl rfl ?_
          refine TL.q rfl (.g rfl rfl (decide_eq_true c137)) (Ex.ft ft_cursitortop_ok rfl) rfl ?_
          refine TL.q rfl .u (Ex.py rfl (decide_eq_true c137) rfl) rfl ?_
          refine TL.run ft_cursitortop_ok [7] rfl rfl ?_
          cases h
          exact TL.nil (X.jq [0] ⟨rfl, rfl⟩ (by rfl) (by rfl))
        · replace h := ifF c137 h
          refine TL.run ft_cursitortop_ok [2, 3, 4] rfl rfl ?_
          refine TL.no rfl (.gn rfl rfl (decide_eq_false c137)) rfl ?_
          refine TL.q rfl .u (Ex.pn rfl (decide_eq_false c137) rfl) rfl ?_
          refine TL.run ft_cursitortop_ok [7] rfl rfl ?_
          cases h
          exact TL.nil (X.jq [0] ⟨rfl, rfl⟩ (by rfl) (by rfl))
      · rintro _ _ ⟨rfl, rfl⟩
        clear h
        have h := hk133
        clear hk133
        try dsimp only at h
        refine X.blk (X.seq (T.region rfl ?_))
        refine TL.q rfl .u (Ex.add rfl rfl (by omega)) rfl ?_
        refine TL.run ft_cursitortop_ok [1] rfl rfl ?_
        exact TL.nil (X.back (m' := m122) [0] (by omega) ⟨y131, k117 + 1, st132, by omega, rfl, rfl, h⟩ (by rfl) (by rfl))
def f_top_WholeFields_l1 : List Int → (List UInt8 × Int) → Option (List UInt8 × Int)
  | [], st21 => some st21
  | x26 :: xs, st21 => (gPutLong st21 x26).bind fun st30 => f_top_WholeFields_l1 xs st30
def f_top_WholeFields_l2 : List Bl → Bool → (List UInt8 × Int) → Option (Lp Bool (Bool × (List UInt8 × Int)))
  | [], y153, st155 => some (Lp.go (y153, st155))
  | x160 :: xs, y153, st155 => (if (x160.data.length : Int) > 200 then some true else (if x160.null = true then (if x160.data = [] then some false else some true) else some false)).bind fun y167 => if y167 = true then some (Lp.ret true) else ((gPutVaried st155 x160).bind fun st173 => (gPutFixed st173 x160 2).bind fun st175 => f_top_WholeFields_l2 xs y153 st175)
def f_top_WholeFields (a0 : List Int) (a1 : List Bl) (a2 : Int) : Option (Bool) := (gPutLong ([], 0) (-1)).bind fun st8 => (gOLen st8).bind fun (x10, st11) => if x10 = 1 then ((if (a0.length : Int) > 40 then some true else (if (a1.length : Int) > 40 then some true else some false)).bind fun y15 => if y15 = true then some true else ((f_top_WholeFields_l1 a0 st11).bind fun st33 => (f_top_WholeFields_l2 a1 false st33).bind fun e => match e with | .ret r => some r | .go (y58, st60) => ((gOText st60).bind fun (x61, x62, st63) => (if x62 = 0 then (if x61 = [] then some true else some false) else some true).bind fun y66 => if y66 = true then none else (if -9223372036854775808 ≤ a2 ∧ a2 ≤ 9223372036854775807 then (if 1 ≤ (x61.length : Int) ∧ 0 ≤ a2 then (if 0 ≤ (a2 % (x61.length : Int)) ∧ (a2 % (x61.length : Int)).toNat ≤ x61.length then ((gNew x61).bind fun st74 => (gNew (x61.take ((a2 % (x61.length : Int)).toNat))).bind fun st77 => (f_top_WholeFields1_b st74 a0 a1).bind fun (x80, st81) => (f_top_WholeFields1_b st77 a0 a1).bind fun (x83, st84) => (if x80 = true then ((gClose st81).bind fun (x99, st100) => if x99 = 0 then ((gClose st84).bind fun (x103, st104) => if x103 = 1 then some (true, st104, st100) else some (false, st104, st100)) else some (false, st84, st100)) else some (false, st84, st81)).bind fun (y94, st95, st96) => some y94) else none) else none) else none)))) else none
set_option maxRecDepth 100000 in
set_option maxHeartbeats 4000000 in
theorem f_top_WholeFields_spec (a0 : List Int) (A1 : Option Addr) (c2 : Nat) (a1 : List Bl) (A3 : Option Addr) (c4 : Nat) (a2 : Int) (r : Bool) (h : f_top_WholeFields a0 a1 a2 = some r) : SpecX Try.prog 8 #[.slice A1 a0.length c2, .slice A3 a1.length c4, .int .u16 a2] (RX.and (RX.of (sliceRd 1 intE) [.slice A1 a0.length c2] a0) (RX.of (sliceRd 2 Bl_rd) [.slice A3 a1.length c4] a1)) (EmpR) (fun v A' N => v = .bool r ∧ A' = EmpR ∧ N = []) := by
  refine enterA Try.func8 rfl Try.ntmps8 rfl ?_
  intro F w hX
  unfold f_top_WholeFields at h
  refine T.seq (T.region rfl ?_)
  refine TL.box rfl .u rfl rfl (fun b5 => ?_)
  refine TL.box rfl .u rfl rfl (fun b6 => ?_)
  refine TL.run ft_cursitortop_ok [2] rfl rfl ?_
  refine TL.nil (X.seq (T.seq (T.region rfl ?_)))
  refine TL.newout rfl .u Try.zeroValue42 rfl (fun b7 => ?_)
  obtain ⟨st8, hx9, h⟩ := Option.bind_eq_some_iff.1 h
  refine TL.nil (X.seq (T.seq (T.seq (T.region rfl ?_))))
  refine TL.c0 rfl .u (.fn Try.call49 rfl) (gPutLong_spec b7 ([], 0) (-1) _ hx9) (fun _ hs => (Src.triv _)) rfl ?_
  obtain ⟨⟨x10, st11⟩, hx12, h⟩ := Option.bind_eq_some_iff.1 h
  try dsimp only at h
  refine TL.nil (X.seq (T.seq (T.region rfl ?_)))
  refine TL.c0 rfl .u (.fn Try.call35 rfl) (gOLen_spec b7 st8 _ hx12) (fun _ hs => (Src.triv _)) rfl ?_
  refine TL.run ft_cursitortop_ok [1] rfl rfl ?_
  by_cases c13 : x10 = 1
  · replace h := ifT c13 h
    refine TL.nil (X.seq ?_)
    refine T.no rfl (bn_f (decide_eq_true c13)) ?_
    refine T.skip (X.seq (T.seq (T.seq ?_)))
    obtain ⟨y15, h, hk16⟩ := Option.bind_eq_some_iff.1 h
    refine T.jq (fun e Rs => e = [(2, .int .u16 a2), (3, .pointer (some ⟨b5, 0, none⟩)), (4, .pointer (some ⟨b6, 0, none⟩)), (6, .bool false), (7, .pointer (some ⟨b7, 0, none⟩)), (28, .bool y15)] ∧ Rs = [OutR b7 st11, BlkR b6 68 #[.slice A3 a1.length c4], BlkR b5 25 #[.slice A1 a0.length c2], EmpR]) ?_ ?_
    · clear hk16
      refine T.region rfl ?_
      refine TL.q rfl .u (Ex.b1 2 rfl Try.isAgg25 rfl rfl) rfl ?_
      refine TL.q rfl .u (Ex.lenS rfl Try.runUnderlying25) rfl ?_
      by_cases c17 : (a0.length : Int) > 40
      · replace h := ifT c17 h
        refine TL.run ft_cursitortop_ok [2, 3] rfl rfl ?_
        refine TL.no rfl (.gn rfl rfl (decide_eq_true c17)) rfl ?_
        refine TL.no rfl (.gn rfl rfl (decide_eq_true c17)) rfl ?_
        refine TL.no rfl (.gn rfl rfl (decide_eq_true c17)) rfl ?_
        refine TL.q rfl .u (Ex.py rfl (decide_eq_true c17) rfl) rfl ?_
        cases h
        exact TL.nil (X.jq [0, 0, 0, 0] ⟨rfl, rfl⟩ (by rfl) (by rfl))
      · replace h := ifF c17 h
        refine TL.run ft_cursitortop_ok [2, 3] rfl rfl ?_
        refine TL.q rfl (.g rfl rfl (decide_eq_false c17)) (Ex.b1 1 rfl Try.isAgg68 rfl rfl) rfl ?_
        refine TL.q rfl (.g rfl rfl (decide_eq_false c17)) (Ex.lenS rfl Try.runUnderlying68) rfl ?_
        refine TL.q rfl (.g rfl rfl (decide_eq_false c17)) (Ex.ft ft_cursitortop_ok rfl) rfl ?_
        refine TL.q rfl .u (Ex.pn rfl (decide_eq_false c17) rfl) rfl ?_
        by_cases c18 : (a1.length : Int) > 40
        · replace h := ifT c18 h
          cases h
          exact TL.nil (X.as (d := 28) (v' := .bool true) rfl (congrArg Value.bool (decide_eq_true c18)) (X.jq [0, 0, 0, 0] ⟨rfl, rfl⟩ (by rfl) (by rfl)))
        · replace h := ifF c18 h
          cases h
          exact TL.nil (X.as (d := 28) (v' := .bool false) rfl (congrArg Value.bool (decide_eq_false c18)) (X.jq [0, 0, 0, 0] ⟨rfl, rfl⟩ (by rfl) (by rfl)))
    · rintro _ _ ⟨rfl, rfl⟩
      clear h
      have h := hk16
      clear hk16
      try dsimp only at h
      by_cases c19 : y15 = true
      · replace h := ifT c19 h
        refine X.seq ?_
        refine T.yes rfl c19 ?_
        refine T.seq (T.region rfl ?_)
        refine TL.run ft_cursitortop_ok [0] rfl rfl ?_
        obtain rfl := Option.some.inj h
        exact TL.nil (X.seq (T.ret (X.rs (X.done1 [3] Try.results8 (RV.tm rfl) ⟨rfl, rfl, rfl⟩ (by rfl) (.inl rfl)))))
      · replace h := ifF c19 h
        replace c19 := eq_false_of_ne_true c19
        refine X.seq ?_
        refine T.no rfl c19 ?_
        refine T.skip (X.seq (T.seq (T.seq (T.region rfl ?_))))
        refine TL.q rfl .u (Ex.b1 2 rfl Try.isAgg25 rfl rfl) rfl ?_
        refine TL.q rfl .u (Ex.lenS rfl Try.runUnderlying25) rfl ?_
        refine TL.run ft_cursitortop_ok [2] rfl rfl ?_
        refine TL.nil (X.seq (T.block ?_))
        obtain ⟨E22, hE23, hO24⟩ := Option.bind_eq_some_iff.1 h
        have hk28len := RX.len_le (RX.reads_left hX)
        refine T.lp (fun m e Rs => ∃ (k20 : Nat) (st21 : List UInt8 × Int), k20 + m = a0.length ∧ e = [(2, .int .u16 a2), (3, .pointer (some ⟨b5, 0, none⟩)), (4, .pointer (some ⟨b6, 0, none⟩)), (6, .bool false), (7, .pointer (some ⟨b7, 0, none⟩)), (29, .slice A1 a0.length c2), (30, .int .i64 (a0.length : Int)), (31, .int .i64 (k20 : Int))] ∧ Rs = [OutR b7 st21, BlkR b6 68 #[.slice A3 a1.length c4], BlkR b5 25 #[.slice A1 a0.length c2], EmpR] ∧ f_top_WholeFields_l1 (a0.drop k20) st21 = some E22) (a0.length) [0, 0, 0, 0] ⟨0, st11, by simp, rfl, rfl, by rw [List.drop_zero]; exact hE23⟩ (by rfl) (by rfl) ?_
        rintro m25 _ _ ⟨k20, st21, hk28, rfl, rfl, hl27⟩
        clear hE23 h
        cases m25 with
        | zero =>
          have h := hl27
          clear hl27
          rw [List.drop_of_length_le (by omega), f_top_WholeFields_l1] at h
          have hk28ge : ¬ ((k20 : Int) < (a0.length : Int)) := by omega
          refine T.seq (T.region rfl ?_)
          refine TL.run ft_cursitortop_ok [0] rfl rfl ?_
          refine TL.nil (X.seq (T.seq ?_))
          refine T.no rfl (decide_eq_false hk28ge) ?_
          obtain rfl := Option.some.inj h
          replace h := hO24
          clear hO24
          try dsimp only at h
          refine T.exit (X.exs (X.exs (X.ex (X.seq (T.seq (T.seq (T.region rfl ?_)))))))
          refine TL.q rfl .u (Ex.b1 1 rfl Try.isAgg68 rfl rfl) rfl ?_
          refine TL.q rfl .u (Ex.lenS rfl Try.runUnderlying68) rfl ?_
          refine TL.run ft_cursitortop_ok [2] rfl rfl ?_
          refine TL.nil (X.seq (T.block ?_))
          obtain ⟨E156, hE157, hO158⟩ := Option.bind_eq_some_iff.1 h
          have hk162len := RX.len_le (RX.reads_right hX)
          refine T.lp (fun m e Rs => ∃ (y153 : Bool) (k154 : Nat) (st155 : List UInt8 × Int), k154 + m = a1.length ∧ e = [(2, .int .u16 a2), (3, .pointer (some ⟨b5, 0, none⟩)), (4, .pointer (some ⟨b6, 0, none⟩)), (6, .bool y153), (7, .pointer (some ⟨b7, 0, none⟩)), (38, .slice A3 a1.length c4), (39, .int .i64 (a1.length : Int)), (40, .int .i64 (k154 : Int))] ∧ Rs = [OutR b7 st155, BlkR b6 68 #[.slice A3 a1.length c4], BlkR b5 25 #[.slice A1 a0.length c2], EmpR] ∧ f_top_WholeFields_l2 (a1.drop k154) y153 st155 = some E156) (a1.length) [0, 0, 0, 0] ⟨false, 0, st21, by simp, rfl, rfl, by rw [List.drop_zero]; exact hE157⟩ (by rfl) (by rfl) ?_
          rintro m159 _ _ ⟨y153, k154, st155, hk162, rfl, rfl, hl161⟩
          clear hE157 h
          cases m159 with
          | zero =>
            have h := hl161
            clear hl161
            rw [List.drop_of_length_le (by omega), f_top_WholeFields_l2] at h
            have hk162ge : ¬ ((k154 : Int) < (a1.length : Int)) := by omega
            refine T.seq (T.region rfl ?_)
            refine TL.run ft_cursitortop_ok [0] rfl rfl ?_
            refine TL.nil (X.seq (T.seq ?_))
            refine T.no rfl (decide_eq_false hk162ge) ?_
            obtain rfl := Option.some.inj h
            replace h := hO158
            clear hO158
            try dsimp only at h
            obtain ⟨⟨x226, x227, st228⟩, hx229, h⟩ := Option.bind_eq_some_iff.1 h
            try dsimp only at h
            refine T.exit (X.exs (X.exs (X.ex (X.seq (T.seq (T.region rfl ?_))))))
            refine TL.c0 rfl .u (.fn Try.call24 rfl) (gOText_spec b7 st155 _ hx229) (fun _ hs => (Src.triv _)) rfl ?_
            refine TL.run ft_cursitortop_ok [1, 2, 3, 4, 5] rfl rfl ?_
            refine TL.nil (X.seq (T.seq (T.seq ?_)))
            obtain ⟨y231, h, hk232⟩ := Option.bind_eq_some_iff.1 h
            refine T.jq (fun e Rs => e = [(2, .int .u16 a2), (3, .pointer (some ⟨b5, 0, none⟩)), (4, .pointer (some ⟨b6, 0, none⟩)), (6, .bool y153), (12, .string (bsOf x226)), (71, .bool y231)] ∧ Rs = [OutR b7 st228, BlkR b6 68 #[.slice A3 a1.length c4], BlkR b5 25 #[.slice A1 a0.length c2], EmpR]) ?_ ?_
            · clear hk232
              refine T.region rfl ?_
              by_cases c233 : x227 = 0
              · replace h := ifT c233 h
                refine TL.run ft_cursitortop_ok [0, 1, 2] rfl rfl ?_
                refine TL.q rfl (.g rfl rfl (bn_f (decide_eq_true c233))) (Ex.ft ft_cursitortop_ok rfl) rfl ?_
                refine TL.q rfl (.g rfl rfl (bn_f (decide_eq_true c233))) (Ex.sEq rfl (m := []) rfl) rfl ?_
                refine TL.q rfl .u (Ex.pn rfl (bn_f (decide_eq_true c233)) rfl) rfl ?_
                by_cases c234 : x226 = []
                · replace h := ifT c234 h
                  cases h
                  exact TL.nil (X.as (d := 71) (v' := .bool true) rfl (congrArg Value.bool (decide_eq_true c234)) (X.jq [0, 0, 0, 0] ⟨rfl, rfl⟩ (by rfl) (by rfl)))
                · replace h := ifF c234 h
                  cases h
                  exact TL.nil (X.as (d := 71) (v' := .bool false) rfl (congrArg Value.bool (decide_eq_false c234)) (X.jq [0, 0, 0, 0] ⟨rfl, rfl⟩ (by rfl) (by rfl)))
              · replace h := ifF c233 h
                refine TL.run ft_cursitortop_ok [0, 1, 2] rfl rfl ?_
                refine TL.no rfl (.gn rfl rfl (bn_t (decide_eq_false c233))) rfl ?_
                refine TL.no rfl (.gn rfl rfl (bn_t (decide_eq_false c233))) rfl ?_
                refine TL.q rfl .u (Ex.py rfl (bn_t (decide_eq_false c233)) rfl) rfl ?_
                cases h
                exact TL.nil (X.jq [0, 0, 0, 0] ⟨rfl, rfl⟩ (by rfl) (by rfl))
            · rintro _ _ ⟨rfl, rfl⟩
              clear h
              have h := hk232
              clear hk232
              try dsimp only at h
              by_cases c235 : y231 = true
              · replace h := ifT c235 h
                refine X.seq ?_
                refine T.yes rfl c235 ?_
                exact nomatch h
              · replace h := ifF c235 h
                replace c235 := eq_false_of_ne_true c235
                refine X.seq ?_
                refine T.no rfl c235 ?_
                refine T.skip (X.seq (T.seq (T.region rfl ?_)))
                refine TL.q rfl .u (Ex.mkF rfl rfl (fun _ => rfl)) rfl ?_
                refine TL.run ft_cursitortop_ok [1] rfl rfl ?_
                refine TL.nil (X.seq (T.seq (T.draw (.q 0 (.q 2 (.q 3 (.q 4 (.q 5 (.q 6 (.q 7 (.q 8 (.e 1 (.e 9 (.q 10 (.q 11 .nil)))))))))))) [0, 0, 0, 0] rfl mix_cursitortop (NoP.seq np_post) (by kernel_rfl) ?_)))
                replace h := guard_some h
                obtain ⟨c236, h⟩ := h
                refine TD.run ft_cursitortop_ok [0, 2, 3] rfl rfl ?_
                refine TD.q rfl .u (Ex.conv64 rfl Try.runUnderlying79 Try.runUnderlying3 c236) rfl ?_
                refine TD.run ft_cursitortop_ok [5] rfl rfl ?_
                refine TD.q rfl .u (Ex.lenB rfl Try.runUnderlying9) rfl ?_
                replace h := guard_some h
                obtain ⟨c237, h⟩ := h
                refine TD.q rfl .u (Ex.remK rfl rfl c237.1 c237.2) rfl ?_
                replace h := guard_some h
                obtain ⟨c238, h⟩ := h
                replace c238 : 0 ≤ (a2 % (x226.length : Int)) ∧ (a2 % (x226.length : Int)).toNat ≤ x226.length := c238
                refine TD.q rfl .u (Ex.sSl (p := 0) (q := (a2 % (x226.length : Int)).toNat) (m := (x226.take ((a2 % (x226.length : Int)).toNat))) rfl Try.runUnderlying9 .none (.some rfl ((Int.toNat_of_nonneg c238.1).symm)) (by first | omega | (dsimp only; omega)) (by simp)) rfl ?_
                obtain ⟨st239, hx240, h⟩ := Option.bind_eq_some_iff.1 h
                refine TD.cge rfl .u (.fn Try.call27 rfl) (gNew_spec x226 _ hx240) (fun _ hs => (RX.reads_triv _ _)) rfl [1, 1, 1, 1] ?_ ?_
                · rintro _ _ _ ⟨b241, rfl, rfl, rfl⟩
                  rfl
                rintro _ _ _ ⟨b241, rfl, rfl, rfl⟩
                refine TD.sel [0, 0, 0, 0, 0] rfl ?_
                obtain ⟨st242, hx243, h⟩ := Option.bind_eq_some_iff.1 h
                refine TD.cge rfl .u (.fn Try.call27 rfl) (gNew_spec (x226.take ((a2 % (x226.length : Int)).toNat)) _ hx243) (fun _ hs => (RX.reads_triv _ _)) rfl [2, 2, 2, 2] ?_ ?_
                · rintro _ _ _ ⟨b244, rfl, rfl, rfl⟩
                  rfl
                rintro _ _ _ ⟨b244, rfl, rfl, rfl⟩
                refine TD.sel [0, 0, 0, 0, 0, 0] rfl ?_
                refine TD.run ft_cursitortop_ok [10, 11] rfl rfl ?_
                refine TD.nil (X.seq (T.seq (T.region rfl ?_)))
                obtain ⟨⟨x245, st246⟩, hx247, h⟩ := Option.bind_eq_some_iff.1 h
                try dsimp only at h
                refine TL.run ft_cursitortop_ok [0, 1] rfl rfl ?_
                refine TL.c1 rfl .u (.val rfl Try.call50 rfl rfl) (f_top_WholeFields1_b_spec b241 st239 a0 _ _ b5 a1 _ _ b6 _ hx247) (fun _ hs => (Src.and (Src.old hs (RX.reads_left hX)) (Src.and (Src.res 3 rfl blk_reads) (Src.and (Src.old hs (RX.reads_right hX)) (Src.res 2 rfl blk_reads))))) rfl ?_
                refine TL.run ft_cursitortop_ok [3] rfl rfl ?_
                refine TL.nil (X.seq (T.seq (T.region rfl ?_)))
                obtain ⟨⟨x248, st249⟩, hx250, h⟩ := Option.bind_eq_some_iff.1 h
                try dsimp only at h
                refine TL.run ft_cursitortop_ok [0, 1] rfl rfl ?_
                refine TL.c0 rfl .u (.val rfl Try.call50 rfl rfl) (f_top_WholeFields1_b_spec b244 st242 a0 _ _ b5 a1 _ _ b6 _ hx250) (fun _ hs => (Src.and (Src.old hs (RX.reads_left hX)) (Src.and (Src.res 3 rfl blk_reads) (Src.and (Src.old hs (RX.reads_right hX)) (Src.res 2 rfl blk_reads))))) rfl ?_
                refine TL.nil (X.seq (T.seq ?_))
                obtain ⟨⟨y259, st260, st261⟩, h, hk262⟩ := Option.bind_eq_some_iff.1 h
                refine T.jq (fun e Rs => e = [(6, .bool y259)] ∧ Rs = [InR b244 st260, InR b241 st261, OutR b7 st228, BlkR b6 68 #[.slice A3 a1.length c4], BlkR b5 25 #[.slice A1 a0.length c2], EmpR]) ?_ ?_
                · clear hk262
                  refine T.region rfl ?_
                  by_cases c263 : x245 = true
                  · replace h := ifT c263 h
                    refine TL.run ft_cursitortop_ok [0, 1] rfl rfl ?_
                    refine TL.q rfl (.g rfl rfl c263) (Ex.ft ft_cursitortop_ok rfl) rfl ?_
                    obtain ⟨⟨x264, st265⟩, hx266, h⟩ := Option.bind_eq_some_iff.1 h
                    try dsimp only at h
                    refine TL.c1 rfl (.g rfl rfl c263) (.fn Try.call30 rfl) (gClose_spec b241 st246 _ hx266) (fun _ hs => (Src.triv _)) rfl ?_
                    refine TL.q rfl (.g rfl rfl c263) (Ex.ft ft_cursitortop_ok rfl) rfl ?_
                    refine TL.q rfl .u (Ex.py rfl c263 rfl) rfl ?_
                    by_cases c267 : x264 = 0
                    · replace h := ifT c267 h
                      refine TL.run ft_cursitortop_ok [6] rfl rfl ?_
                      refine TL.q rfl (.g rfl rfl (decide_eq_true c267)) (Ex.ft ft_cursitortop_ok rfl) rfl ?_
                      obtain ⟨⟨x268, st269⟩, hx270, h⟩ := Option.bind_eq_some_iff.1 h
                      try dsimp only at h
                      refine TL.c0 rfl (.g rfl rfl (decide_eq_true c267)) (.fn Try.call30 rfl) (gClose_spec b244 st249 _ hx270) (fun _ hs => (Src.triv _)) rfl ?_
                      refine TL.q rfl (.g rfl rfl (decide_eq_true c267)) (Ex.ft ft_cursitortop_ok rfl) rfl ?_
                      refine TL.q rfl .u (Ex.py rfl (decide_eq_true c267) rfl) rfl ?_
                      refine TL.run ft_cursitortop_ok [11] rfl rfl ?_
                      by_cases c271 : x268 = 1
                      · replace h := ifT c271 h
                        cases h
                        exact TL.nil (X.as (d := 6) (v' := .bool true) rfl (congrArg Value.bool (decide_eq_true c271)) (X.jq [0, 0, 0, 0, 0, 0] ⟨rfl, rfl⟩ (by rfl) (by rfl)))
                      · replace h := ifF c271 h
                        cases h
                        exact TL.nil (X.as (d := 6) (v' := .bool false) rfl (congrArg Value.bool (decide_eq_false c271)) (X.jq [0, 0, 0, 0, 0, 0] ⟨rfl, rfl⟩ (by rfl) (by rfl)))
                    · replace h := ifF c267 h
                      refine TL.run ft_cursitortop_ok [6] rfl rfl ?_
                      refine TL.no rfl (.gn rfl rfl (decide_eq_false c267)) rfl ?_
                      refine TL.no rfl (.gn rfl rfl (decide_eq_false c267)) rfl ?_
                      refine TL.no rfl (.gn rfl rfl (decide_eq_false c267)) rfl ?_
                      refine TL.q rfl .u (Ex.pn rfl (decide_eq_false c267) rfl) rfl ?_
                      refine TL.run ft_cursitortop_ok [11] rfl rfl ?_
                      cases h
                      exact TL.nil (X.jq [0, 0, 0, 0, 0, 0] ⟨rfl, rfl⟩ (by rfl) (by rfl))
                  · replace h := ifF c263 h
                    replace c263 := eq_false_of_ne_true c263
                    refine TL.run ft_cursitortop_ok [0, 1] rfl rfl ?_
                    refine TL.no rfl (.gn rfl rfl c263) rfl ?_
                    refine TL.no rfl (.gn rfl rfl c263) rfl ?_
                    refine TL.no rfl (.gn rfl rfl c263) rfl ?_
                    refine TL.q rfl .u (Ex.pn rfl c263 rfl) rfl ?_
                    refine TL.run ft_cursitortop_ok [6] rfl rfl ?_
                    refine TL.no rfl (.gn rfl rfl rfl) rfl ?_
                    refine TL.no rfl (.gn rfl rfl rfl) rfl ?_
                    refine TL.no rfl (.gn rfl rfl rfl) rfl ?_
                    refine TL.q rfl .u (Ex.pn rfl rfl rfl) rfl ?_
                    refine TL.run ft_cursitortop_ok [11] rfl rfl ?_
                    cases h
                    exact TL.nil (X.jq [0, 0, 0, 0, 0, 0] ⟨rfl, rfl⟩ (by rfl) (by rfl))
                · rintro _ _ ⟨rfl, rfl⟩
                  clear h
                  have h := hk262
                  clear hk262
                  try dsimp only at h
                  obtain rfl := Option.some.inj h
                  exact X.seq (T.ret (X.done1 [5] Try.results8 (RV.tm rfl) ⟨rfl, rfl, rfl⟩ (by rfl) (.inl rfl)))
          | succ m159 =>
            have h := hl161
            clear hl161
            obtain ⟨x160, hxx160⟩ : ∃ x, a1[k154]? = some x := ⟨_, List.getElem?_eq_getElem (by omega)⟩
            rw [drop_cons hxx160, f_top_WholeFields_l2] at h
            have hk162lt : (k154 : Int) < (a1.length : Int) := by omega
            refine T.seq (T.region rfl ?_)
            refine TL.run ft_cursitortop_ok [0] rfl rfl ?_
            refine TL.nil (X.seq (T.seq ?_))
            refine T.yes rfl (decide_eq_true hk162lt) ?_
            obtain ⟨gz163, oz163, rfl, z163cs, z163cl, z163cc, z163nf, z163r⟩ := RX.elem (by decide) (RX.reads_right hX) hxx160
            obtain ⟨z163S, z163r, z163rr⟩ := z163r
            obtain rfl : z163cs = [.bool x160.null, .string (bsOf x160.data)] := z163r
            refine T.skip (X.seq (T.seq (T.block (T.seq (T.region rfl ?_)))))
            refine TL.q rfl .u (Ex.ixS (k := k154) rfl rfl rfl Try.runUnderlying68 Try.sizeOf70 (List.getElem?_eq_some_iff.1 hxx160).1) rfl ?_
            refine TL.q rfl .u (Ex.oS (us := [.bool x160.null, .string (bsOf x160.data)]) 0 rfl Try.isAgg70 Try.sizeOf70 z163nf z163cc rfl rfl rfl) rfl ?_
            refine TL.alloc rfl .u Try.zeroValue70 rfl (fun b164 => ?_)
            refine TL.st0 (cs' := #[.bool x160.null, .string (bsOf x160.data)]) rfl .u rfl rfl Try.sizeOf70 rfl rfl rfl rfl ?_
            refine TL.nil (X.seq (T.seq (T.seq ?_)))
            obtain ⟨y167, h, hk168⟩ := Option.bind_eq_some_iff.1 h
            refine T.jq (fun e Rs => e = [(2, .int .u16 a2), (3, .pointer (some ⟨b5, 0, none⟩)), (4, .pointer (some ⟨b6, 0, none⟩)), (6, .bool y153), (7, .pointer (some ⟨b7, 0, none⟩)), (11, .pointer (some ⟨b164, 0, none⟩)), (38, .slice (some ⟨gz163, oz163, none⟩) a1.length c4), (39, .int .i64 (a1.length : Int)), (40, .int .i64 (k154 : Int)), (56, .bool y167)] ∧ Rs = [BlkR b164 70 #[.bool x160.null, .string (bsOf x160.data)], OutR b7 st155, BlkR b6 68 #[.slice (some ⟨gz163, oz163, none⟩) a1.length c4], BlkR b5 25 #[.slice A1 a0.length c2], EmpR]) ?_ ?_
            · clear hk168
              refine T.region rfl ?_
              refine TL.run ft_cursitortop_ok [0] rfl rfl ?_
              refine TL.q rfl .u (Ex.b1 0 rfl Try.isAgg9 rfl rfl) rfl ?_
              refine TL.q rfl .u (Ex.lenB rfl Try.runUnderlying9) rfl ?_
              by_cases c169 : (x160.data.length : Int) > 200
              · replace h := ifT c169 h
                refine TL.run ft_cursitortop_ok [3, 4] rfl rfl ?_
                refine TL.no rfl (.gn rfl rfl (decide_eq_true c169)) rfl ?_
                refine TL.no rfl (.gn rfl rfl (decide_eq_true c169)) rfl ?_
                refine TL.no rfl (.gn rfl rfl (decide_eq_true c169)) rfl ?_
                refine TL.no rfl (.gu rfl rfl) rfl ?_
                refine TL.no rfl (.gu rfl rfl) rfl ?_
                refine TL.no rfl (.gu rfl rfl) rfl ?_
                refine TL.no rfl (.gn rfl rfl (decide_eq_true c169)) rfl ?_
                refine TL.q rfl .u (Ex.py rfl (decide_eq_true c169) rfl) rfl ?_
                cases h
                exact TL.nil (X.jq [0, 0, 0, 0, 0] ⟨rfl, rfl⟩ (by rfl) (by rfl))
              · replace h := ifF c169 h
                refine TL.run ft_cursitortop_ok [3, 4] rfl rfl ?_
                refine TL.q rfl (.g rfl rfl (decide_eq_false c169)) (Ex.ft ft_cursitortop_ok rfl) rfl ?_
                refine TL.q rfl (.g rfl rfl (decide_eq_false c169)) (Ex.b1 0 rfl Try.isAgg4 rfl rfl) rfl ?_
                refine TL.q rfl (.g rfl rfl (decide_eq_false c169)) (Ex.ft ft_cursitortop_ok rfl) rfl ?_
                by_cases c170 : x160.null = true
                · replace h := ifT c170 h
                  refine TL.q rfl (.g rfl rfl c170) (Ex.ft ft_cursitortop_ok rfl) rfl ?_
                  refine TL.q rfl (.g rfl rfl c170) (Ex.b1 0 rfl Try.isAgg9 rfl rfl) rfl ?_
                  refine TL.q rfl (.g rfl rfl c170) (Ex.sNe rfl (m := []) rfl) rfl ?_
                  refine TL.q rfl (.g rfl rfl (decide_eq_false c169)) (Ex.py rfl c170 rfl) rfl ?_
                  refine TL.q rfl .u (Ex.pn rfl (decide_eq_false c169) rfl) rfl ?_
                  by_cases c171 : x160.data = []
                  · replace h := ifT c171 h
                    cases h
                    exact TL.nil (X.as (d := 56) (v' := .bool false) rfl (congrArg Value.bool (bn_f (decide_eq_true c171))) (X.jq [0, 0, 0, 0, 0] ⟨rfl, rfl⟩ (by rfl) (by rfl)))
                  · replace h := ifF c171 h
                    cases h
                    exact TL.nil (X.as (d := 56) (v' := .bool true) rfl (congrArg Value.bool (bn_t (decide_eq_false c171))) (X.jq [0, 0, 0, 0, 0] ⟨rfl, rfl⟩ (by rfl) (by rfl)))
                · replace h := ifF c170 h
                  replace c170 := eq_false_of_ne_true c170
                  refine TL.no rfl (.gn rfl rfl c170) rfl ?_
                  refine TL.no rfl (.gn rfl rfl c170) rfl ?_
                  refine TL.no rfl (.gn rfl rfl c170) rfl ?_
                  refine TL.q rfl (.g rfl rfl (decide_eq_false c169)) (Ex.pn rfl c170 rfl) rfl ?_
                  refine TL.q rfl .u (Ex.pn rfl (decide_eq_false c169) rfl) rfl ?_
                  cases h
                  exact TL.nil (X.jq [0, 0, 0, 0, 0] ⟨rfl, rfl⟩ (by rfl) (by rfl))
            · rintro _ _ ⟨rfl, rfl⟩
              clear h
              have h := hk168
              clear hk168
              try dsimp only at h
              by_cases c172 : y167 = true
              · replace h := ifT c172 h
                refine X.seq ?_
                refine T.yes rfl c172 ?_
                refine T.seq (T.region rfl ?_)
                refine TL.run ft_cursitortop_ok [0] rfl rfl ?_
                obtain rfl := Option.some.inj h
                replace h := hO158
                clear hO158
                try dsimp only at h
                obtain rfl := Option.some.inj h
                exact TL.nil (X.seq (T.ret (X.rs (X.rb (X.rs (X.rs (X.rb (X.rs (X.done1 [4] Try.results8 (RV.tm rfl) ⟨rfl, rfl, rfl⟩ (by rfl) (.inl rfl))))))))))
              · replace h := ifF c172 h
                replace c172 := eq_false_of_ne_true c172
                refine X.seq ?_
                refine T.no rfl c172 ?_
                refine T.skip (X.seq (T.seq (T.region rfl ?_)))
                refine TL.q rfl .u (Ex.bS (us := [.bool x160.null, .string (bsOf x160.data)]) 0 rfl Try.isAgg70 Try.sizeOf70 rfl rfl rfl) rfl ?_
                obtain ⟨st173, hx174, h⟩ := Option.bind_eq_some_iff.1 h
                refine TL.c1 rfl .u (.fn Try.call41 rfl) (gPutVaried_spec b7 st155 x160 _ hx174) (fun _ hs => (Src.triv _)) rfl ?_
                refine TL.nil (X.seq (T.region rfl ?_))
                refine TL.q rfl .u (Ex.bS (us := [.bool x160.null, .string (bsOf x160.data)]) 0 rfl Try.isAgg70 Try.sizeOf70 rfl rfl rfl) rfl ?_
                obtain ⟨st175, hx176, h⟩ := Option.bind_eq_some_iff.1 h
                refine TL.c1 rfl .u (.fn Try.call40 rfl) (gPutFixed_spec b7 st173 x160 2 _ hx176) (fun _ hs => (Src.triv _)) rfl ?_
                refine TL.nil (X.blk (X.seq (T.region rfl ?_)))
                refine TL.q rfl .u (Ex.add rfl rfl (by omega)) rfl ?_
                refine TL.run ft_cursitortop_ok [1] rfl rfl ?_
                exact TL.nil (X.back (m' := m159) [1, 1, 1, 1] (by omega) ⟨y153, k154 + 1, st175, by omega, rfl, rfl, h⟩ (by rfl) (by rfl))
        | succ m25 =>
          have h := hl27
          clear hl27
          obtain ⟨x26, hxx26⟩ : ∃ x, a0[k20]? = some x := ⟨_, List.getElem?_eq_getElem (by omega)⟩
          rw [drop_cons hxx26, f_top_WholeFields_l1] at h
          have hk28lt : (k20 : Int) < (a0.length : Int) := by omega
          refine T.seq (T.region rfl ?_)
          refine TL.run ft_cursitortop_ok [0] rfl rfl ?_
          refine TL.nil (X.seq (T.seq ?_))
          refine T.yes rfl (decide_eq_true hk28lt) ?_
          obtain ⟨gz29, oz29, rfl, z29cs, z29cl, z29cc, z29nf, z29r⟩ := RX.elem (by decide) (RX.reads_left hX) hxx26
          obtain ⟨z29S, z29r, z29rr⟩ := z29r
          obtain rfl : z29cs = [.int .i64 x26] := z29r
          refine T.skip (X.seq (T.seq (T.block (T.seq (T.region rfl ?_)))))
          refine TL.q rfl .u (Ex.ixS (k := k20) rfl rfl rfl Try.runUnderlying25 Try.sizeOf3 (List.getElem?_eq_some_iff.1 hxx26).1) rfl ?_
          refine TL.q rfl .u (Ex.o1 0 rfl Try.isAgg3 z29nf z29cc rfl rfl) rfl ?_
          refine TL.run ft_cursitortop_ok [2] rfl rfl ?_
          refine TL.nil (X.seq (T.region rfl ?_))
          obtain ⟨st30, hx31, h⟩ := Option.bind_eq_some_iff.1 h
          refine TL.run ft_cursitortop_ok [0] rfl rfl ?_
          refine TL.c0 rfl .u (.fn Try.call49 rfl) (gPutLong_spec b7 st21 x26 _ hx31) (fun _ hs => (Src.triv _)) rfl ?_
          refine TL.nil (X.blk (X.seq (T.region rfl ?_)))
          refine TL.q rfl .u (Ex.add rfl rfl (by omega)) rfl ?_
          refine TL.run ft_cursitortop_ok [1] rfl rfl ?_
          exact TL.nil (X.back (m' := m25) [0, 0, 0, 0] (by omega) ⟨k20 + 1, st30, by omega, rfl, rfl, h⟩ (by rfl) (by rfl))
  · replace h := ifF c13 h
    refine TL.nil (X.seq ?_)
    refine T.yes rfl (bn_t (decide_eq_false c13)) ?_
    exact nomatch h
end Go.Proofs.Ytpiiopppbgpbpaa.Sl
namespace Go.Proofs.Ytpiiopppbgpbpaa.Sl
open Go.RowKit Go.Deep Go.ChangeShapes
set_option linter.unusedVariables false
def andRd {α : Type} (E : Rd α) (W : α → Prop) : Rd α := ⟨fun w S cs a => E.P w S cs a ∧ W a, fun h k => ⟨E.mono h.1 k, h.2⟩, fun h k => ⟨E.move h.1 k, h.2⟩⟩
section
variable {H : Type} (enc : TypeId × Value → H) (P : Program) {α β : Type}
def OpensW (t : TypeId) (E : Rd α) : Prop :=
  ∀ (w : World) (fuel : Nat) (cs : List Value) (x : DataW H × List MemPlace), DataW.trod enc P w 0 (fun _ => true) true fuel t cs = some x → (∀ m, m ∈ x.1.weights P t → m ≤ reachBytes) → ∃ a, E.P w (fun k => k < w.heap.size) cs a
def OpensWFs (off : Nat) (fs : List Field) (n : Nat) (E : Rd α) : Prop :=
  ∀ (w : World) (fuel : Nat) (cs : List Value) (xs : List (DataW H × List MemPlace)), cs.length = off + n → xs.length = fs.length →
    (∀ (i : Nat) (f : Field), fs[i]? = some f → DataW.trod enc P w 0 (fun _ => true) true fuel f.type ((cs.drop f.offset).take (P.cellsOf f.type)) = xs[i]?) →
    (∀ m, m ∈ DataW.weightsEach P (fs.map (·.type)) (xs.map (·.1)) → m ≤ reachBytes) → ∃ a, E.P w (fun k => k < w.heap.size) (cs.drop off) a
variable {enc P}
theorem opensW_weak {t : TypeId} {E : Rd α} {E' : Rd β} (f : α → β) (h : OpensW enc P t E) (hf : ∀ w S cs a, E.P w S cs a → E'.P w S cs (f a)) : OpensW enc P t E' := by
  intro w fuel cs x hx hw
  obtain ⟨a, ha⟩ := h w fuel cs x hx hw
  exact ⟨f a, hf _ _ _ _ ha⟩
theorem opensW_of {t : TypeId} {E : Rd α} {E' : Rd β} (f : α → β) (h : Opens enc P t E) (hf : ∀ w S cs a, E.P w S cs a → E'.P w S cs (f a)) : OpensW enc P t E' := by
  intro w fuel cs x hx hw
  obtain ⟨a, ha⟩ := h w fuel cs x hx
  exact ⟨f a, hf _ _ _ _ ha⟩
def wI (n : Int) : Prop := -9223372036854775808 ≤ n ∧ n ≤ 9223372036854775807
def wB (_ : Bool) : Prop := True
def wS (l : List UInt8) : Prop := l.length ≤ 140737488351232
def wL (W : α → Prop) (l : List α) : Prop := l.length ≤ 140737488351232 ∧ ∀ x, x ∈ l → W x
theorem op_i64 {t : TypeId} (ht : P.underlying t = some (.int .i64)) : OpensW enc P t (andRd intE wI) := opensW_of id (opens_int ht) (fun w S cs a h => ⟨h.1, Go.bounds_i64 h.2⟩)
theorem op_bool {t : TypeId} (ht : P.underlying t = some .bool) : OpensW enc P t (andRd boolE wB) := opensW_of id (opens_bool ht) (fun w S cs a h => ⟨h, trivial⟩)
theorem op_str {t : TypeId} (ht : P.underlying t = some .string) : OpensW enc P t (andRd strE wS) := by
  intro w fuel cs x h hw
  obtain ⟨s, rfl, rfl, hs⟩ := DataW.trod_string ht h
  have := hw s.data.toList.length (by simp [DataW.weights])
  exact ⟨s.data.toList, by cases s; simp [strE, bsOf], this⟩
theorem slice_and {size : Nat} {E : Rd α} {W : α → Prop} {w : World} {S : Nat → Prop} {cs : List Value} {l : List α} (h : (sliceRd size (andRd E W)).P w S cs l) : (sliceRd size E).P w S cs l ∧ ∀ x, x ∈ l → W x := by
  rcases h with ⟨h, rfl⟩ | ⟨a, cap, h1, h2, h3, h4, h5⟩
  · exact ⟨.inl ⟨h, rfl⟩, fun x hx => by simp at hx⟩
  · refine ⟨.inr ⟨a, cap, h1, h2, h3, h4, fun i x hx => ?_⟩, fun x hx => ?_⟩
    · obtain ⟨cs, k1, k2, k3⟩ := h5 i x hx
      exact ⟨cs, k1, k2, k3.1⟩
    · obtain ⟨i, hi⟩ := List.getElem?_of_mem hx
      obtain ⟨cs, k1, k2, k3⟩ := h5 i x hi
      exact k3.2
theorem weightsAll_mem {e : TypeId} {l : List (DataW H)} {d : DataW H} {m : Nat} (hd : d ∈ l) (hm : m ∈ d.weights P e) : m ∈ DataW.weightsAll P e l := by
  induction l with
  | nil => simp at hd
  | cons x l ih =>
    simp only [DataW.weightsAll, List.mem_append]
    rcases List.mem_cons.1 hd with rfl | h
    · exact .inl hm
    · exact .inr (ih h)
theorem op_slice {t e : TypeId} {E : Rd α} {W : α → Prop} (size bytes : Nat) (ht : P.underlying t = some (.slice e)) (hc : P.cellsOf e = size) (hb : P.bytesOf e = bytes) (hp : 0 < size) (hpb : 0 < bytes) (he : OpensW enc P e (andRd E W)) : OpensW enc P t (andRd (sliceRd size E) (wL W)) := by
  intro w fuel cs x h hw
  rcases open_slice ht h with ⟨rfl, _⟩ | ⟨a, len, cap, m, n, D, Pl, rfl, _, hl, hm, hmm, rfl, hx⟩
  · exact ⟨[], .inl ⟨rfl, rfl⟩, by simp, fun x hx => by simp at hx⟩
  have hlm : len ≤ m := by rw [hmm]; split <;> omega
  have hlen : len ≤ 140737488351232 := by
    have h1 := hw ((((List.range len).map D).length + ((List.range (m - len)).map fun j => D (len + j)).length) * P.bytesOf e) (by simp only [DataW.weights, ht]; exact List.mem_cons_self)
    rw [hb] at h1
    simp only [List.length_map, List.length_range] at h1
    have h2 : (len + (m - len)) * 1 ≤ (len + (m - len)) * bytes := Nat.mul_le_mul_left _ hpb
    have h3 : reachBytes = 140737488351232 := rfl
    omega
  have hwe : ∀ i, i < len → ∀ z, z ∈ (D i).weights P e → z ≤ reachBytes := by
    intro i hi z hz
    apply hw
    simp only [DataW.weights, ht]
    exact List.mem_cons_of_mem _ (List.mem_append.2 (.inl (weightsAll_mem (d := D i) (List.mem_map.2 ⟨i, List.mem_range.2 hi, rfl⟩) hz)))
  rw [hc] at hx
  have each : ∀ i : Fin len, ∃ y : α, ∃ cs, cs.length = size ∧ (∀ j, j < size → w.cell? (a.add (i.val * size + j)) = cs[j]?) ∧ (andRd E W).P w (fun k => k < w.heap.size) cs y := by
    intro i
    obtain ⟨cs', h1, h2⟩ := hx i.val (by have := i.isLt; omega)
    obtain ⟨_, h3, h4⟩ := World.cells?_some h1
    obtain ⟨y, hy⟩ := he _ _ _ _ h2 (hwe i.val i.isLt)
    refine ⟨y, cs', h3, fun j hj => ?_, hy⟩
    rw [← h4 j hj, add_add]
  obtain ⟨f, hf⟩ := Classical.axiomOfChoice each
  have hs : (sliceRd size (andRd E W)).P w (fun k => k < w.heap.size) [.slice (some a) len cap] ((List.finRange len).map f) := by
    refine .inr ⟨a, cap, by simp, by simpa using hl, hm, fun hz => ?_, ?_⟩
    · simp at hz
      obtain ⟨cs', k1, k2, k3⟩ := hf ⟨0, by omega⟩
      have := k2 0 hp
      rw [List.getElem?_eq_getElem (by omega)] at this
      simp only [World.cell?] at this
      rw [block_add] at this
      rcases Nat.lt_or_ge a.block w.heap.size with h | h
      · exact h
      · rw [Array.getElem?_eq_none h] at this
        simp at this
    · intro i x hx
      rw [List.getElem?_map, Option.map_eq_some_iff] at hx
      obtain ⟨j, hj, rfl⟩ := hx
      have e : j.val = i := by
        obtain ⟨h1, h2⟩ := List.getElem?_eq_some_iff.1 hj
        rw [← h2]
        simp
      rw [← e]
      exact hf j
  obtain ⟨k1, k2⟩ := slice_and hs
  exact ⟨_, k1, by simpa using hlen, k2⟩
theorem opensWFs_nil (off : Nat) : OpensWFs enc P off [] 0 unitRd := by
  intro w fuel cs xs hl _ _ _
  exact ⟨(), List.drop_of_length_le (by omega)⟩
theorem opensWFs_cons {off n : Nat} (m : Nat) {f : Field} {fs : List Field} {A : Rd α} {B : Rd β} (ho : f.offset = off) (hc : P.cellsOf f.type = m) (hA : OpensW enc P f.type A) (hB : OpensWFs enc P (off + m) fs n B) :
    OpensWFs enc P off (f :: fs) (m + n) (pairRd A B) := by
  intro w fuel cs xs hl hx h hw
  cases xs with
  | nil => simp at hx
  | cons x xs =>
    have h0 := h 0 f rfl
    rw [ho, hc] at h0
    simp only [List.map_cons, DataW.weightsEach, List.mem_append] at hw
    obtain ⟨a, ha⟩ := hA _ _ _ _ h0 (fun m hm => hw m (.inl hm))
    obtain ⟨b, hb⟩ := hB w fuel cs xs (by omega) (by simpa using hx) (fun i f' hf => by simpa using h (i + 1) f' (by simpa using hf)) (fun m hm => hw m (.inr hm))
    refine ⟨(a, b), (cs.drop off).take m, cs.drop (off + m), ?_, ha, hb⟩
    rw [← List.drop_drop, List.take_append_drop]
theorem opensW_struct {t : TypeId} {fs : Array Field} {n : Nat} {E : Rd α} (ht : P.underlying t = some (.struct fs)) (hc : P.cellsOf t = n) (h : OpensWFs enc P 0 fs.toList n E) : OpensW enc P t E := by
  intro w fuel cs x hx hw
  obtain ⟨xs, k, rfl, rfl, hl, hxl, hf⟩ := DataW.trod_struct ht hx
  simp only [DataW.weights, ht] at hw
  obtain ⟨a, ha⟩ := h w k cs xs (by omega) (by simpa using hxl) (fun i f hi => hf i f (by simpa using hi)) hw
  exact ⟨a, by simpa using ha⟩
theorem weights_in : ∀ {ts : List TypeId} {ds : List (DataW H)} (j : Nat) {t : TypeId} {d : DataW H} {m : Nat}, ts[j]? = some t → ds[j]? = some d → m ∈ d.weights P t → m ∈ DataW.weightsEach P ts ds
  | [], _, j, _, _, _, ht, _, _ => by simp at ht
  | _ :: _, [], j, _, _, _, _, hd, _ => by simp at hd
  | t :: ts, d :: ds, 0, _, _, _, ht, hd, hm => by
    obtain rfl : t = _ := by simpa using ht
    obtain rfl : d = _ := by simpa using hd
    simp only [DataW.weightsEach, List.mem_append]
    exact .inl hm
  | t :: ts, d :: ds, j + 1, _, _, _, ht, hd, hm => by
    simp only [DataW.weightsEach, List.mem_append]
    exact .inr (weights_in j (by simpa using ht) (by simpa using hd) hm)
theorem slice_cells {size : Nat} {E : Rd α} {w : World} {S : Nat → Prop} {cs : List Value} {l : List α} (h : (sliceRd size E).P w S cs l) : ∃ A c, cs = [.slice A l.length c] := by
  rcases h with ⟨h, rfl⟩ | ⟨a, cap, h, _⟩
  · exact ⟨none, 0, h⟩
  · exact ⟨_, _, h⟩
theorem opens_arg1 {t e : TypeId} {E : Rd α} {r : Reach} {b0 : Nat} {w : World} {v : Value} {d : DataW H} {p : List MemPlace} (ht : P.underlying t = some (.slice e)) (hval : Value.okWide P w r b0 t v) (h : OpensW enc P t E)
    (hv : DataW.Trod enc P w 0 (fun _ => true) true t v d p) (hw : ∀ m, m ∈ d.weights P t → m ≤ reachBytes) : ∃ a, E.P w (fun k => k < w.heap.size) [v] a := by
  obtain ⟨a0, len, cap, rfl⟩ := Go.WideShapes.okWide_slice ht hval
  obtain ⟨fuel, hf⟩ := hv
  exact h _ _ _ _ hf hw
theorem RX.reads_all {E : Rd α} {w : World} {cs : List Value} {a : α} (h : E.P w (fun k => k < w.heap.size) cs a) : (RX.of E cs a).reads w (fun _ => False) := ⟨_, h, fun k hk => ⟨fun h => h, hk⟩⟩
end
end Go.Proofs.Ytpiiopppbgpbpaa.Sl
namespace Go.Proofs.Ytpiiopppbgpbpaa.Sl
open Go.RowKit
set_option linter.unusedVariables false
def wf_Bl (x : Bl) : Prop := wB x.null ∧ wS x.data
end Go.Proofs.Ytpiiopppbgpbpaa.Sl
namespace Go.Proofs.Ytpiiopppbgpbpaa.Sl
open Go.RowKit
set_option linter.unusedVariables false
set_option linter.unusedSimpArgs false
def cutAt (T : List UInt8) (q : Nat) (st : I) : Prop := (st = ⟨T.drop q, q, 0⟩ ∧ q ≤ T.length) ∨ st.err = 1
end Go.Proofs.Ytpiiopppbgpbpaa.Sl
namespace Go.Proofs.Ytpiiopppbgpbpaa.Sl
open Go.RowKit
set_option linter.unusedVariables false
set_option linter.unusedSimpArgs false
structure Tr {α : Type} (p : Pr α) : Prop where
  mono : ∀ (S : List UInt8) (q : Nat) (a : α) (r : Nat), p S q = .ok (a, r) → q ≤ r
  cut : ∀ (S : List UInt8) (e q : Nat) (a : α) (r : Nat), q ≤ e → e ≤ S.length → p S q = .ok (a, r) → (r ≤ e → p (S.take e) q = .ok (a, r)) ∧ (e < r → p (S.take e) q = .error 1)
theorem Tr.ret {α : Type} (a : α) : Tr (Pr.ret a) := by
  refine ⟨fun S q b r h => ?_, fun S e q b r hq he h => ?_⟩
  · injection h with h
    obtain ⟨rfl, rfl⟩ := Prod.mk.inj h
    exact Nat.le_refl _
  · injection h with h
    obtain ⟨rfl, rfl⟩ := Prod.mk.inj h
    exact ⟨fun _ => rfl, fun h => by omega⟩
theorem Tr.bind {α β : Type} {p : Pr α} {f : α → Pr β} (hp : Tr p) (hf : ∀ a, Tr (f a)) : Tr (p.bind f) := by
  refine ⟨fun S q b r h => ?_, fun S e q b r hq he h => ?_⟩
  · obtain ⟨a, m, h1, h2⟩ := Pr.bind_ok h
    exact Nat.le_trans (hp.mono S q a m h1) ((hf a).mono S m b r h2)
  · obtain ⟨a, m, h1, h2⟩ := Pr.bind_ok h
    obtain ⟨c1, c2⟩ := hp.cut S e q a m hq he h1
    have hm := (hf a).mono S m b r h2
    by_cases c : m ≤ e
    · obtain ⟨d1, d2⟩ := (hf a).cut S e m b r c he h2
      exact ⟨fun h => by rw [Pr.bind_of (c1 c)]; exact d1 h, fun h => by rw [Pr.bind_of (c1 c)]; exact d2 h⟩
    · exact ⟨fun h => by omega, fun h => Pr.bind_err (c2 (by omega))⟩
theorem Tr_int (k : Nat) : Tr (pInt k) := by
  refine ⟨fun S q a r h => ?_, fun S e q a r hq he h => ?_⟩
  · unfold pInt at h
    split at h
    · exact nomatch h
    · injection h with h
      obtain ⟨rfl, rfl⟩ := Prod.mk.inj h
      omega
  · unfold pInt at h
    split at h
    · exact nomatch h
    · injection h with h
      obtain ⟨rfl, rfl⟩ := Prod.mk.inj h
      have hl : (S.take e).length = e := by rw [List.length_take]; omega
      refine ⟨fun h => ?_, fun h => ?_⟩
      · unfold pInt
        rw [if_neg (by omega), List.drop_take, List.take_take, Nat.min_eq_left (by omega)]
      · unfold pInt
        rw [if_pos (by omega)]
theorem Tr_got (n : Int) : Tr (pGot n) := by
  refine ⟨fun S q a r h => ?_, fun S e q a r hq he h => ?_⟩
  · unfold pGot at h
    split at h
    · injection h with h
      obtain ⟨rfl, rfl⟩ := Prod.mk.inj h
      exact Nat.le_refl _
    · split at h
      · exact nomatch h
      · split at h
        · exact nomatch h
        · injection h with h
          obtain ⟨rfl, rfl⟩ := Prod.mk.inj h
          omega
  · unfold pGot at h
    have hl : (S.take e).length = e := by rw [List.length_take]; omega
    by_cases c1 : n = -1
    · rw [if_pos c1] at h
      injection h with h
      obtain ⟨rfl, rfl⟩ := Prod.mk.inj h
      exact ⟨fun h => by unfold pGot; rw [if_pos c1], fun h => by omega⟩
    · rw [if_neg c1] at h
      by_cases c2 : n < 0
      · rw [if_pos c2] at h; exact nomatch h
      · rw [if_neg c2] at h
        by_cases c3 : (S.length : Int) < q + n
        · rw [if_pos c3] at h; exact nomatch h
        · rw [if_neg c3] at h
          injection h with h
          obtain ⟨rfl, rfl⟩ := Prod.mk.inj h
          refine ⟨fun h => ?_, fun h => ?_⟩
          · unfold pGot
            rw [if_neg c1, if_neg c2, if_neg (by omega), List.drop_take, List.take_take, Nat.min_eq_left (by omega)]
          · unfold pGot
            rw [if_neg c1, if_neg c2, if_pos (by omega)]
theorem vgo_tr (bs : Int) : ∀ (l : List UInt8) (pos acc i m : Nat), (vgo bs l pos acc i).2.err = 0 → pos < (vgo bs l pos acc i).2.pos ∧
    ((vgo bs l pos acc i).2.pos ≤ pos + m → (vgo bs (l.take m) pos acc i).1 = (vgo bs l pos acc i).1 ∧ (vgo bs (l.take m) pos acc i).2.pos = (vgo bs l pos acc i).2.pos ∧ (vgo bs (l.take m) pos acc i).2.err = 0) ∧
    (pos + m < (vgo bs l pos acc i).2.pos → (vgo bs (l.take m) pos acc i).2.err = 1)
  | [], pos, acc, i, m, h => by rw [vgo] at h; exact nomatch h
  | c :: l, pos, acc, i, m, h => by
    have key : pos < (vgo bs (c :: l) pos acc i).2.pos ∧ ∀ m', m = m' + 1 → ((vgo bs (c :: l) pos acc i).2.pos ≤ pos + m → (vgo bs ((c :: l).take m) pos acc i).1 = (vgo bs (c :: l) pos acc i).1 ∧ (vgo bs ((c :: l).take m) pos acc i).2.pos = (vgo bs (c :: l) pos acc i).2.pos ∧ (vgo bs ((c :: l).take m) pos acc i).2.err = 0) ∧ (pos + m < (vgo bs (c :: l) pos acc i).2.pos → (vgo bs ((c :: l).take m) pos acc i).2.err = 1) := by
      rw [vgo] at h ⊢
      by_cases c1 : bs - 7 * i ≤ 0 ∨ (bs - 7 * i < 7 ∧ c.toNat % 128 / 2 ^ (bs - 7 * i).toNat ≠ 0)
      · rw [if_pos c1] at h; exact nomatch h
      · rw [if_neg c1] at h ⊢
        by_cases c2 : 128 ≤ c.toNat
        · rw [if_pos c2] at h ⊢
          refine ⟨by have := (vgo_tr bs l (pos + 1) _ (i + 1) 0 h).1; omega, fun m' hm => ?_⟩
          obtain ⟨_, d1, d2⟩ := vgo_tr bs l (pos + 1) _ (i + 1) m' h
          subst hm
          rw [List.take_succ_cons, vgo, if_neg c1, if_pos c2]
          exact ⟨fun h => d1 (by omega), fun h => d2 (by omega)⟩
        · rw [if_neg c2] at h ⊢
          by_cases c3 : c.toNat = 0 ∧ 0 < i
          · rw [if_pos c3] at h; exact nomatch h
          · rw [if_neg c3]
            refine ⟨by dsimp only; omega, fun m' hm => ?_⟩
            subst hm
            rw [List.take_succ_cons, vgo, if_neg c1, if_neg c2, if_neg c3]
            exact ⟨fun _ => ⟨rfl, rfl, rfl⟩, fun h => by dsimp only at h; omega⟩
    refine ⟨key.1, ?_⟩
    match m with
    | 0 =>
      rw [List.take_zero]
      exact ⟨fun h => by have := key.1; omega, fun _ => by rw [vgo]⟩
    | m' + 1 => exact key.2 m' rfl
theorem Tr_vnat (bs : Int) : Tr (pVnat bs) := by
  refine ⟨fun S q a r h => ?_, fun S e q a r hq he h => ?_⟩
  · unfold pVnat at h
    split at h
    · injection h with h
      obtain ⟨rfl, rfl⟩ := Prod.mk.inj h
      omega
    · exact nomatch h
  · unfold pVnat at h
    split at h
    · rename_i h0
      injection h with h
      obtain ⟨rfl, rfl⟩ := Prod.mk.inj h
      obtain ⟨_, d1, d2⟩ := vgo_tr bs (S.drop q) 0 0 0 (e - q) h0
      refine ⟨fun h => ?_, fun h => ?_⟩
      · obtain ⟨g1, g2, g3⟩ := d1 (by omega)
        unfold pVnat
        rw [List.drop_take, if_pos g3, g1, g2]
      · have g := d2 (by omega)
        unfold pVnat
        rw [List.drop_take, if_neg (by rw [g]; decide), g]
    · exact nomatch h
theorem Tr_vint (bs : Int) : Tr (pVint bs) := (Tr_vnat bs).bind fun n => Tr.ret _
theorem Tr_varied : Tr pVaried := (Tr_vint 32).bind Tr_got
theorem Tr_fixed (k : Nat) : Tr (pFixed k) := (Tr_int k).bind Tr_got
theorem Q_vlong : CQ gVLong (pVint 64) 0 := (CR_vint 64 (.inr rfl)).cq (Sp_vint 64 (.inr rfl))
theorem cut_op {α : Type} {op : I → Option (α × I)} {p : Pr α} {z : α} (h : CQ op p z) (ht : Tr p) {S : List UInt8} {e q r : Nat} {a : α} (he : e ≤ S.length) (hp : p S q = .ok (a, r)) {st : I} (hc : cutAt (S.take e) q st) : ∃ x st', op st = some (x, st') ∧ cutAt (S.take e) r st' := by
  have hl : (S.take e).length = e := by rw [List.length_take]; omega
  rcases hc with ⟨rfl, hq⟩ | hc
  · rw [hl] at hq
    obtain ⟨c1, c2⟩ := ht.cut S e q a r hq he hp
    rcases h.run (S.take e) q (by omega) with ⟨e', st, p1, g1, x1, y1⟩ | ⟨b, r', p1, g1, n1, l1⟩
    · by_cases c : r ≤ e
      · rw [c1 c] at p1; exact nomatch p1
      · rw [c2 (by omega)] at p1
        injection p1 with p1
        exact ⟨z, st, g1, .inr (by rw [x1, p1])⟩
    · by_cases c : r ≤ e
      · rw [c1 c] at p1
        injection p1 with p1
        obtain ⟨rfl, rfl⟩ := Prod.mk.inj p1
        exact ⟨a, _, g1, .inl ⟨rfl, by omega⟩⟩
      · rw [c2 (by omega)] at p1; exact nomatch p1
  · exact ⟨z, st, h.dead st (by rw [hc]; decide), .inr hc⟩
theorem at_op {α : Type} {op : I → Option (α × I)} {p : Pr α} {z : α} {enc : α → List UInt8} {ok : α → Prop} (h : CQ op p z) (hs : Sp p enc ok) {S t : List UInt8} {q : Nat} {a : α} (hl : S.length ≤ 1000000) (hq : q ≤ S.length) (ha : ok a) (hd : S.drop q = enc a ++ t) :
    p S q = .ok (a, q + (enc a).length) ∧ op ⟨S.drop q, q, 0⟩ = some (a, ⟨S.drop (q + (enc a).length), q + (enc a).length, 0⟩) ∧ q + (enc a).length ≤ S.length ∧ S.drop (q + (enc a).length) = t := by
  obtain ⟨h1, h2, h3⟩ := CB.at h.cb hs hl hq ha hd
  exact ⟨hs.back S t q a hq ha hd, h1, h2, h3⟩
def encL (l : List Int) : List UInt8 := l.flatMap fun n => vput (vfold n)
def enc2 (b : Bl) : List UInt8 := (vput (vfold (blen b)) ++ b.data) ++ (be (blen b) 2 ++ b.data)
def encB2 (l : List Bl) : List UInt8 := l.flatMap enc2
def okb (b : Bl) : Prop := bright b = true ∧ b.data.length ≤ 200
theorem okb_len {b : Bl} (h : okb b) : -1 ≤ blen b ∧ blen b ≤ 200 := by
  have := h.2
  unfold blen
  split <;> omega
theorem okb_v {b : Bl} (h : okb b) : vfold (blen b) < 2 ^ (32 : Int).toNat ∧ bright b = true := by
  have := okb_len h
  refine ⟨?_, h.1⟩
  rw [show 2 ^ (32 : Int).toNat = 4294967296 by decide]
  unfold vfold
  split <;> omega
theorem okb_f {b : Bl} (h : okb b) : fits (blen b) (2 : Nat) = true ∧ bright b = true := ⟨fits_small (.inl rfl) (by have := okb_len h; omega) (by have := okb_len h; omega), h.1⟩
section
variable (S : List UInt8) (e : Nat) (hS : S.length ≤ 1000000) (he : e ≤ S.length)
include hS he
theorem wf_ints (n : Int) (hn : -9223372036854775808 ≤ n ∧ n ≤ 9223372036854775807) {t : List UInt8} {q : Nat} {st : I} (hq : q ≤ S.length) (hd : S.drop q = vput (vfold n) ++ t) (hc : cutAt (S.take e) q st) :
    gVLong ⟨S.drop q, q, 0⟩ = some (n, ⟨S.drop (q + (vput (vfold n)).length), q + (vput (vfold n)).length, 0⟩) ∧ q + (vput (vfold n)).length ≤ S.length ∧ S.drop (q + (vput (vfold n)).length) = t ∧ ∃ x st', gVLong st = some (x, st') ∧ cutAt (S.take e) (q + (vput (vfold n)).length) st' := by
  obtain ⟨h1, h2, h3, h4⟩ := at_op Q_vlong (Sp_vint 64 (.inr rfl)) hS hq (vfold_lt n hn.1 hn.2) hd
  exact ⟨h2, h3, h4, cut_op Q_vlong (Tr_vint 64) he h1 hc⟩
theorem wf_l1 : ∀ (l : List Int) (y y2 y3 : Bool) (q : Nat) (t : List UInt8) (st : I), (∀ n, n ∈ l → -9223372036854775808 ≤ n ∧ n ≤ 9223372036854775807) → q ≤ S.length → S.drop q = encL l ++ t → cutAt (S.take e) q st →
    f_top_WholeFields1_b_l1 l y ⟨S.drop q, q, 0⟩ = some (y, ⟨S.drop (q + (encL l).length), q + (encL l).length, 0⟩) ∧ q + (encL l).length ≤ S.length ∧ S.drop (q + (encL l).length) = t ∧
    (∃ z st', f_top_WholeFields1_b_l1 l y2 st = some (z, st') ∧ cutAt (S.take e) (q + (encL l).length) st') ∧ (∃ z st', f_top_WholeFields1_b_l3 l y3 st = some (z, st') ∧ cutAt (S.take e) (q + (encL l).length) st')
  | [], y, y2, y3, q, t, st, _, hq, hd, hc => by
    rw [show encL [] = [] from rfl, List.length_nil, Nat.add_zero]
    exact ⟨by rw [f_top_WholeFields1_b_l1], hq, hd, ⟨y2, st, by rw [f_top_WholeFields1_b_l1], hc⟩, ⟨y3, st, by rw [f_top_WholeFields1_b_l3], hc⟩⟩
  | n :: l, y, y2, y3, q, t, st, hn, hq, hd, hc => by
    have ee : encL (n :: l) = vput (vfold n) ++ encL l := by simp [encL]
    rw [ee, List.append_assoc] at hd
    obtain ⟨h1, h2, h3, x, st1, h4, h5⟩ := wf_ints S e hS he n (hn n (List.mem_cons_self ..)) hq hd hc
    have ih := fun y2 y3 => wf_l1 l y y2 y3 (q + (vput (vfold n)).length) t st1 (fun m hm => hn m (List.mem_cons_of_mem _ hm)) h2 h3 h5
    rw [ee, List.length_append, ← Nat.add_assoc]
    refine ⟨?_, (ih y y).2.1, (ih y y).2.2.1, ?_, ?_⟩
    · rw [f_top_WholeFields1_b_l1, h1, Option.bind_some]
      dsimp only
      rw [if_pos rfl, Option.bind_some]
      exact (ih y y).1
    · rw [f_top_WholeFields1_b_l1, h4, Option.bind_some]
      dsimp only
      by_cases c : x = n
      · rw [if_pos c, Option.bind_some]; exact (ih y2 y3).2.2.2.1
      · rw [if_neg c, Option.bind_some]; exact (ih false y3).2.2.2.1
    · rw [f_top_WholeFields1_b_l3, h4, Option.bind_some]
      dsimp only
      by_cases c : x = n
      · rw [if_pos c, Option.bind_some]; exact (ih y2 y3).2.2.2.2
      · rw [if_neg c, Option.bind_some]; exact (ih y2 false).2.2.2.2
theorem wf_l2 : ∀ (l : List Bl) (y y2 y3 : Bool) (q : Nat) (t : List UInt8) (st : I), (∀ b, b ∈ l → okb b) → q ≤ S.length → S.drop q = encB2 l ++ t → cutAt (S.take e) q st →
    f_top_WholeFields1_b_l2 l y ⟨S.drop q, q, 0⟩ = some (y, ⟨S.drop (q + (encB2 l).length), q + (encB2 l).length, 0⟩) ∧ q + (encB2 l).length ≤ S.length ∧ S.drop (q + (encB2 l).length) = t ∧
    (∃ z st', f_top_WholeFields1_b_l2 l y2 st = some (z, st') ∧ cutAt (S.take e) (q + (encB2 l).length) st') ∧ (∃ z st', f_top_WholeFields1_b_l4 l y3 st = some (z, st') ∧ cutAt (S.take e) (q + (encB2 l).length) st')
  | [], y, y2, y3, q, t, st, _, hq, hd, hc => by
    rw [show encB2 [] = [] from rfl, List.length_nil, Nat.add_zero]
    exact ⟨by rw [f_top_WholeFields1_b_l2], hq, hd, ⟨y2, st, by rw [f_top_WholeFields1_b_l2], hc⟩, ⟨y3, st, by rw [f_top_WholeFields1_b_l4], hc⟩⟩
  | b :: l, y, y2, y3, q, t, st, hb, hq, hd, hc => by
    have hb1 := hb b (List.mem_cons_self ..)
    have ee : encB2 (b :: l) = (vput (vfold (blen b)) ++ b.data) ++ ((be (blen b) 2 ++ b.data) ++ encB2 l) := by simp [encB2, enc2]
    have hd : S.drop q = (vput (vfold (blen b)) ++ b.data) ++ ((be (blen b) 2 ++ b.data) ++ (encB2 l ++ t)) := by rw [hd, ee]; simp only [List.append_assoc]
    obtain ⟨p1, h1, h2, h3⟩ := at_op QV Sp_varied hS hq (okb_v hb1) hd
    obtain ⟨x, st1, h4, h5⟩ := cut_op QV Tr_varied he p1 hc
    obtain ⟨p2, k1, k2, k3⟩ := at_op QF2 (Sp_fixed 2 (by decide) (by decide)) hS h2 (okb_f hb1) h3
    obtain ⟨x2, st2, k4, k5⟩ := cut_op QF2 (Tr_fixed 2) he p2 h5
    have ih := fun y2 y3 => wf_l2 l y y2 y3 _ t st2 (fun c hc => hb c (List.mem_cons_of_mem _ hc)) k2 k3 k5
    have el : q + (encB2 (b :: l)).length = q + (vput (vfold (blen b)) ++ b.data).length + (be (blen b) 2 ++ b.data).length + (encB2 l).length := by
      rw [ee]
      simp only [List.length_append]
      omega
    rw [el]
    refine ⟨?_, (ih y y).2.1, (ih y y).2.2.1, ?_, ?_⟩
    · rw [f_top_WholeFields1_b_l2, h1, Option.bind_some]
      dsimp only
      rw [if_pos rfl, if_pos rfl, Option.bind_some]
      dsimp only
      rw [k1, Option.bind_some]
      dsimp only
      rw [if_pos rfl, if_pos rfl, Option.bind_some]
      exact (ih y y).1
    · rw [f_top_WholeFields1_b_l2, h4, Option.bind_some]
      dsimp only
      have g1 : ∃ y', (if x.null = b.null then (if x.data = b.data then some (y2, st1) else some (false, st1)) else some (false, st1)) = some (y', st1) := by
        by_cases c1 : x.null = b.null
        · by_cases c2 : x.data = b.data
          · exact ⟨y2, by rw [if_pos c1, if_pos c2]⟩
          · exact ⟨false, by rw [if_pos c1, if_neg c2]⟩
        · exact ⟨false, by rw [if_neg c1]⟩
      obtain ⟨y', g1⟩ := g1
      rw [g1, Option.bind_some]
      dsimp only
      rw [k4, Option.bind_some]
      dsimp only
      have g2 : ∃ y'', (if x2.null = b.null then (if x2.data = b.data then some (y', st2) else some (false, st2)) else some (false, st2)) = some (y'', st2) := by
        by_cases c1 : x2.null = b.null
        · by_cases c2 : x2.data = b.data
          · exact ⟨y', by rw [if_pos c1, if_pos c2]⟩
          · exact ⟨false, by rw [if_pos c1, if_neg c2]⟩
        · exact ⟨false, by rw [if_neg c1]⟩
      obtain ⟨y'', g2⟩ := g2
      rw [g2, Option.bind_some]
      exact (ih y'' y3).2.2.2.1
    · rw [f_top_WholeFields1_b_l4, h4, Option.bind_some]
      dsimp only
      have g1 : ∃ y', (if x.null = b.null then (if x.data = b.data then some (y3, st1) else some (false, st1)) else some (false, st1)) = some (y', st1) := by
        by_cases c1 : x.null = b.null
        · by_cases c2 : x.data = b.data
          · exact ⟨y3, by rw [if_pos c1, if_pos c2]⟩
          · exact ⟨false, by rw [if_pos c1, if_neg c2]⟩
        · exact ⟨false, by rw [if_neg c1]⟩
      obtain ⟨y', g1⟩ := g1
      rw [g1, Option.bind_some]
      dsimp only
      rw [k4, Option.bind_some]
      dsimp only
      have g2 : ∃ y'', (if x2.null = b.null then (if x2.data = b.data then some (y', st2) else some (false, st2)) else some (false, st2)) = some (y'', st2) := by
        by_cases c1 : x2.null = b.null
        · by_cases c2 : x2.data = b.data
          · exact ⟨y', by rw [if_pos c1, if_pos c2]⟩
          · exact ⟨false, by rw [if_pos c1, if_neg c2]⟩
        · exact ⟨false, by rw [if_neg c1]⟩
      obtain ⟨y'', g2⟩ := g2
      rw [g2, Option.bind_some]
      exact (ih y2 y'').2.2.2.2
end
theorem wf_w1 : ∀ (l : List Int) (t : List UInt8), (∀ n, n ∈ l → -9223372036854775808 ≤ n ∧ n ≤ 9223372036854775807) → t.length + 10 * l.length ≤ 1000000 → f_top_WholeFields_l1 l (t, 0) = some (t ++ encL l, 0) ∧ (encL l).length ≤ 10 * l.length
  | [], t, _, _ => by rw [f_top_WholeFields_l1, show encL [] = [] from rfl, List.append_nil]; exact ⟨rfl, by simp⟩
  | n :: l, t, hn, hl => by
    have h1 := hn n (List.mem_cons_self ..)
    have hv := vput_ten _ (vfold_lt n h1.1 h1.2)
    rw [List.length_cons] at hl
    have ih := wf_w1 l (t ++ vput (vfold n)) (fun m hm => hn m (List.mem_cons_of_mem _ hm)) (by rw [List.length_append]; omega)
    have ee : encL (n :: l) = vput (vfold n) ++ encL l := by simp [encL]
    rw [f_top_WholeFields_l1, gPutLong_eq _ _ ⟨h1, by dsimp only; omega⟩, oput_z, Option.bind_some, ih.1, ee, List.append_assoc, List.length_append, List.length_cons]
    exact ⟨rfl, by omega⟩
theorem wf_w2 (y : Bool) : ∀ (l : List Bl) (t : List UInt8), (∀ b, b ∈ l → wf_Bl b) → t.length + 500 * l.length ≤ 1000000 → f_top_WholeFields_l2 l y (t, 0) = some (.ret true) ∨ (f_top_WholeFields_l2 l y (t, 0) = some (.go (y, (t ++ encB2 l, 0))) ∧ (∀ b, b ∈ l → okb b) ∧ (encB2 l).length ≤ 500 * l.length)
  | [], t, _, _ => .inr ⟨by rw [f_top_WholeFields_l2, show encB2 [] = [] from rfl, List.append_nil], (fun b hb => nomatch hb), by simp [encB2]⟩
  | b :: l, t, hb, hl => by
    rw [List.length_cons] at hl
    rw [f_top_WholeFields_l2]
    by_cases c1 : (b.data.length : Int) > 200
    · rw [if_pos c1, Option.bind_some, if_pos rfl]; exact .inl rfl
    rw [if_neg c1]
    by_cases c2 : bright b = true
    · have hk : okb b := ⟨c2, by omega⟩
      have e1 : (if b.null = true then (if b.data = [] then some false else some true) else some false) = some false := by
        by_cases c3 : b.null = true
        · have : b.data = [] := by
            unfold bright at c2
            rw [c3] at c2
            simpa using c2
          rw [if_pos c3, if_pos this]
        · rw [if_neg c3]
      have hv := okb_len hk
      have hv10 := vput_ten _ (vfold_lt (blen b) (by omega) (by omega))
      have ee : encB2 (b :: l) = enc2 b ++ encB2 l := by simp [encB2]
      have hl2 : (enc2 b).length ≤ 500 := by
        unfold enc2
        simp only [List.length_append, be_length]
        have := hk.2
        omega
      have ih := wf_w2 y l (t ++ enc2 b) (fun c hc => hb c (List.mem_cons_of_mem _ hc)) (by rw [List.length_append]; omega)
      have ha : t ++ (vput (vfold (blen b)) ++ b.data) ++ (be (blen b) (2 : Int).toNat ++ b.data) = t ++ enc2 b := by
        unfold enc2
        simp only [List.append_assoc]
        rfl
      have hk2 := hk.2
      have hf2 : fits (blen b) (2 : Int) = true := (okb_f hk).1
      have hlx : (t ++ (vput (vfold (blen b)) ++ b.data)).length + b.data.length ≤ 140737488355320 := by simp only [List.length_append]; omega
      rw [e1, Option.bind_some, if_neg (by decide), gPutVaried_z c2 (by omega) (by omega), Option.bind_some, gPutFixed_z hf2 c2 hlx, Option.bind_some, ha]
      rcases ih with h | ⟨h1, h2, h3⟩
      · exact .inl h
      · refine .inr ⟨by rw [h1, ee, List.append_assoc], fun c hc => ?_, by rw [ee, List.length_append, List.length_cons]; omega⟩
        rcases List.mem_cons.1 hc with rfl | hc
        · exact hk
        · exact h2 c hc
    · have e1 : (if b.null = true then (if b.data = [] then some false else some true) else some false) = some true := by
        by_cases c3 : b.null = true
        · by_cases c4 : b.data = []
          · exact absurd (by unfold bright; rw [c4]; simp) c2
          · rw [if_pos c3, if_neg c4]
        · exact absurd (by unfold bright; simp [c3]) c2
      rw [e1, Option.bind_some, if_pos rfl]; exact .inl rfl
theorem pure_WholeFields (a0 : List Int) (a1 : List Bl) (a2 : Int) (w0 : (wL wI) a0) (w1 : (wL wf_Bl) a1) (w2 : 0 ≤ a2 ∧ a2 ≤ 65535) : f_top_WholeFields a0 a1 a2 = some true := by
  unfold f_top_WholeFields
  have hm1 : vput (vfold (-1)) = [1] := by decide +kernel
  rw [gPutLong_eq _ _ ⟨by decide, by decide⟩, oput_z, List.nil_append, hm1, Option.bind_some, gOLen_eq, Option.bind_some]
  dsimp only
  rw [if_pos (by rfl)]
  by_cases c1 : (a0.length : Int) > 40
  · rw [if_pos c1, Option.bind_some, if_pos rfl]
  rw [if_neg c1]
  by_cases c2 : (a1.length : Int) > 40
  · rw [if_pos c2, Option.bind_some, if_pos rfl]
  obtain ⟨k1, k2⟩ := wf_w1 a0 [1] w0.2 (by show 1 + _ ≤ _; omega)
  rw [if_neg c2, Option.bind_some, if_neg (by decide), k1, Option.bind_some]
  rcases wf_w2 false a1 ([1] ++ encL a0) w1.2 (by rw [List.length_append]; show 1 + _ + _ ≤ _; omega) with h | ⟨h1, hok, h3⟩
  · rw [h, Option.bind_some]
  rw [h1, Option.bind_some]
  dsimp only
  rw [gOText_eq, Option.bind_some]
  dsimp only
  rw [otx_z]
  dsimp only
  have hl : ([1] ++ encL a0 ++ encB2 a1).length = 1 + (encL a0).length + (encB2 a1).length := by simp only [List.length_append, List.length_singleton]
  have hd0 : [1] ++ encL a0 ++ encB2 a1 = vput (vfold (-1)) ++ (encL a0 ++ (encB2 a1 ++ [])) := by rw [hm1]; simp only [List.append_assoc, List.append_nil]
  have hne : [1] ++ encL a0 ++ encB2 a1 ≠ [] := by simp
  generalize [1] ++ encL a0 ++ encB2 a1 = S at hl hd0 hne
  have hS : S.length ≤ 1000000 := by omega
  rw [if_pos rfl, if_neg hne, Option.bind_some, if_neg (by decide), if_pos (by omega), if_pos (by omega)]
  have c3 : ¬ (S.length : Int) = 0 := by omega
  have hr : 0 ≤ a2 % (S.length : Int) ∧ a2 % (S.length : Int) < (S.length : Int) := ⟨Int.emod_nonneg _ c3, Int.emod_lt_of_pos _ (by omega)⟩
  obtain ⟨e, he⟩ : ∃ e : Nat, a2 % (S.length : Int) = (e : Int) := ⟨(a2 % (S.length : Int)).toNat, by omega⟩
  have hel : e < S.length := by omega
  rw [he, Int.toNat_natCast, if_pos (by omega), gNew_eq _ (by omega), Option.bind_some, gNew_eq _ (by rw [List.length_take]; omega), Option.bind_some]
  obtain ⟨r1, r2, r3, x, st1, r4, r5⟩ := wf_ints S e hS (Nat.le_of_lt hel) (-1) (by decide) (q := 0) (st := ⟨S.take e, 0, 0⟩) (Nat.zero_le _) (by rw [List.drop_zero]; exact hd0) (.inl ⟨by rw [List.drop_zero], Nat.zero_le _⟩)
  rw [List.drop_zero] at r1
  have A := fun y2 y3 => wf_l1 S e hS (Nat.le_of_lt hel) a0 true y2 y3 _ _ st1 w0.2 r2 r3 r5
  obtain ⟨z1, st2, p1, p2⟩ := (A true false).2.2.2.1
  obtain ⟨z2, st3, p3, p4⟩ := (A true false).2.2.2.2
  have hA := A true false
  have hB1 := wf_l2 S e hS (Nat.le_of_lt hel) a1 true z1 false _ _ st2 hok hA.2.1 hA.2.2.1 p2
  have hB2 := wf_l2 S e hS (Nat.le_of_lt hel) a1 true true z2 _ _ st3 hok hA.2.1 hA.2.2.1 p4
  obtain ⟨z4, st4, p5, p6⟩ := hB1.2.2.2.1
  obtain ⟨z5, st5, p7, p8⟩ := hB2.2.2.2.2
  have good : f_top_WholeFields1_b ⟨S, 0, 0⟩ a0 a1 = some (true, ⟨[], 0 + (vput (vfold (-1))).length + (encL a0).length + (encB2 a1).length, 0⟩) := by
    unfold f_top_WholeFields1_b
    rw [r1, Option.bind_some]
    dsimp only
    rw [if_pos rfl, hA.1, Option.bind_some]
    dsimp only
    rw [hB1.1, Option.bind_some, hB1.2.2.1]
  have fin : ∀ st : I, cutAt (S.take e) (0 + (vput (vfold (-1))).length + (encL a0).length + (encB2 a1).length) st → (iclose st).err = 1 := by
    intro st hc
    have : st.err = 1 := by
      rcases hc with ⟨_, h⟩ | h
      · rw [List.length_take, hm1] at h
        have : ([1] : List UInt8).length = 1 := rfl
        omega
      · exact h
    unfold iclose ifail
    split
    · exact this
    · rw [if_neg (by rw [this]; decide)]; exact this
  have bad : ∃ z st, f_top_WholeFields1_b ⟨S.take e, 0, 0⟩ a0 a1 = some (z, st) ∧ (iclose st).err = 1 := by
    unfold f_top_WholeFields1_b
    rw [r4, Option.bind_some]
    dsimp only
    by_cases c : x = -1
    · rw [if_pos c, p1, Option.bind_some]
      dsimp only
      rw [p5, Option.bind_some]
      exact ⟨z4, st4, rfl, fin st4 p6⟩
    · rw [if_neg c, p3, Option.bind_some]
      dsimp only
      rw [p7, Option.bind_some]
      exact ⟨z5, st5, rfl, fin st5 p8⟩
  obtain ⟨z, st, b1, b2⟩ := bad
  rw [good, Option.bind_some]
  dsimp only
  rw [b1, Option.bind_some]
  dsimp only
  rw [if_pos rfl, gClose_z, Option.bind_some]
  dsimp only
  rw [if_pos rfl, gClose_eq, Option.bind_some]
  dsimp only
  rw [if_pos b2]
  rfl
end Go.Proofs.Ytpiiopppbgpbpaa.Sl
namespace Go.Proofs.Ytpiiopppbgpbpaa.Sl
open Go.RowKit Go.Deep Go.ChangeShapes
set_option linter.unusedVariables false
theorem op_Bl {H : Type} {enc : TypeId × Value → H} : OpensW enc Try.prog 70 (andRd Bl_rd wf_Bl) :=
  opensW_weak (fun x => ⟨x.1, x.2.1⟩) (opensW_struct Try.underlying70 (by kernel_rfl) (opensWFs_cons 1 (by kernel_rfl) (by kernel_rfl) (op_bool Try.underlying4) (opensWFs_cons 1 (by kernel_rfl) (by kernel_rfl) (op_str Try.underlying9) (opensWFs_nil _)))) (by
    rintro w S cs ⟨x0, x1, _⟩ ⟨_, _, rfl, ⟨p0, q0⟩, _, _, rfl, ⟨p1, q1⟩, rfl⟩
    obtain rfl := p0
    obtain rfl := p1
    exact ⟨rfl, q0, q1⟩)
end Go.Proofs.Ytpiiopppbgpbpaa.Sl
namespace Go.Proofs.Ytpiiopppbgpbpaa.wholeFields
open Go.ChangeShapes Go.WideShapes Go.ChangeAt Go.RowKit
open Go.ChangeMaps (open_string shut_string)
set_option linter.unusedVariables false
theorem own : ownKnob Try.prog.godebug = none := by kernel_rfl
theorem laidOut : laidOutB Try.prog = true := by kernel_rfl
set_option maxRecDepth 100000 in
set_option maxHeartbeats 1000000 in
theorem lifted (os : Os) (started : os.Started) (H : Type) (enc : TypeId × Value → H) :
    ReturnsInHanded {} Try.checked os 8 .any (Rows.wholeFieldsSpec.pre6 enc Try.prog Try.f8 Rows.wholeFieldsRow.domain false) (Rows.wholeFieldsSpec.post enc Try.prog Try.f8 false true false false) := by
  refine returnsInHanded_of_change_sized (C := Try.checked) own started (by kernel_rfl) Try.func8
    (ChangeSpec.witness6 (enc := enc) (C := Try.checked) false ⟨#[], #[.slice none 0 0, .slice none 0 0, .int .u16 0], []⟩ 8 (by kernel_rfl) (by kernel_rfl) (by kernel_rfl) (by kernel_rfl)) ?_
  intro W base args ds gs before hval0 hW hcnd hsz0 _
  have hsz : (DataW.weightsEach Try.prog (Try.f8.params.toList ++ Rows.wholeFieldsSpec.plain.varTypes Try.prog) (ds ++ gs)).all (· ≤ reachBytes) = true := hsz0
  have hval : ∀ (j : Nat) t v, Try.f8.params[j]? = some t → args[j]? = some v → Value.okWide Try.prog W .any base t v := hval0
  have hW' := hW
  obtain ⟨p, q, hA0, hV, rfl, hfz, hnd⟩ := hW
  have hA : DataW.TrodAll enc Try.prog W 0 (fun _ => true) true Try.f8.params.toList args.toList ds p := hA0
  rw [Try.params8] at hA hval hsz
  obtain ⟨v0, vs0, d0, ds0, p0, q0, hargs, rfl, rfl, h0, r0⟩ := trodAll_cons hA
  obtain ⟨v1, vs1, d1, ds1, p1, q1, rfl, rfl, rfl, h1, r1⟩ := trodAll_cons r0
  obtain ⟨v2, vs2, d2, ds2, p2, q2, rfl, rfl, rfl, h2, r2⟩ := trodAll_cons r1
  obtain ⟨rfl, rfl, rfl⟩ := trodAll_nil r2
  obtain rfl : args = #[v0, v1, v2] := by cases args; simp_all
  obtain ⟨rfl, rfl⟩ := trodVars_none hV
  have k0 := h0
  have lt0 : ∀ x ∈ p0, x.block < W.heap.size := by obtain ⟨m, hm⟩ := k0; exact DataW.trod_lt m _ _ _ hm
  obtain ⟨a0, r_0, w0⟩ := Sl.opens_arg1 Try.underlying25 (hval 0 25 v0 rfl rfl) (Sl.op_slice 1 8 Try.underlying25 (by kernel_rfl) (by kernel_rfl) (by decide) (by decide) (Sl.op_i64 Try.underlying3)) h0 (fun x hx => of_decide_eq_true (List.all_eq_true.1 hsz x (Sl.weights_in 0 rfl rfl hx)))
  obtain ⟨A0, c0, e0⟩ := Sl.slice_cells r_0
  injection e0 with e0
  subst e0
  have k1 := h1
  have lt1 : ∀ x ∈ p1, x.block < W.heap.size := by obtain ⟨m, hm⟩ := k1; exact DataW.trod_lt m _ _ _ hm
  obtain ⟨a1, r_1, w1⟩ := Sl.opens_arg1 Try.underlying68 (hval 1 68 v1 rfl rfl) (Sl.op_slice 2 24 Try.underlying68 (by kernel_rfl) (by kernel_rfl) (by decide) (by decide) Sl.op_Bl) h1 (fun x hx => of_decide_eq_true (List.all_eq_true.1 hsz x (Sl.weights_in 1 rfl rfl hx)))
  obtain ⟨A1, c1, e1⟩ := Sl.slice_cells r_1
  injection e1 with e1
  subst e1
  obtain ⟨a2, rfl, rfl, rfl, u2⟩ := open_int Try.underlying79 (hval 2 79 v2 rfl rfl) h2
  have w2 := Go.bounds_u16 u2
  clear hA0 hval0 hsz0 hsz
  refine (Sl.f_top_WholeFields_spec a0 A0 c0 a1 A1 c1 a2 true (Sl.pure_WholeFields a0 a1 a2 w0 w1 w2) (fun _ => False) W (fun _ h => h) (Sl.RX.reads_and (Sl.RX.reads_all r_0) (Sl.RX.reads_all r_1))).mono fun e W' hP => ?_
  obtain ⟨v, A', Ns, rfl, ⟨rfl, rfl, rfl⟩, hst⟩ := hP
  have bel := Sl.St.below hst
  exact ⟨_, rfl, _, _, _, [], _, [], hW', trodAll_mk1 (shut_bool Try.underlying4 _), (trodAll_cons_mk (Below.trod laidOut (by kernel_rfl) (of_decide_eq_true (by kernel_rfl)) k0 bel lt0) (trodAll_cons_mk (Below.trod laidOut (by kernel_rfl) (of_decide_eq_true (by kernel_rfl)) k1 bel lt1) (trodAll_cons_mk (shut_int Try.underlying79 u2) trodAll_mk0))), rfl, bel.frame _, fun h => by cases h⟩
theorem over : Rows.wholeFieldsRow.holds Try.pinned (OpenSpec.ofChange Rows.wholeFieldsSpec) :=
  OpenClaim.holds_of_wide 8 Try.f8 rfl rfl rfl rfl rfl rfl rfl ⟨rfl, rfl, rfl, rfl, rfl⟩ rfl rfl rfl rfl rfl (by kernel_rfl) Try.func8 (by kernel_rfl)
    (of_decide_eq_true (by kernel_rfl)) (by unfold Func.isWrapper; first | (rw [if_pos (by decide +kernel)]; kernel_rfl) | (rw [if_neg (by decide +kernel)]; exact ⟨rfl, rfl⟩))
    (fun os started H enc _ => lifted os started H enc)
theorem proved : Rows.WholeFieldsSaid := over
end Go.Proofs.Ytpiiopppbgpbpaa.wholeFields
namespace Go.Proofs.Ytpiiopppbgpbpaa
theorem wholeFields_holds : Rows.WholeFieldsSaid := wholeFields.proved
end Go.Proofs.Ytpiiopppbgpbpaa
