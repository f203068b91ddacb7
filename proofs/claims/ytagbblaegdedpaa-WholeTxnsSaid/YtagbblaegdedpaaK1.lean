/- wholeTxns_holds: part 1. -/
import Derived.Test.YtagbblaegdedpaaK0
namespace Go.Proofs.Ytagbblaegdedpaa.Sl
open Go.RowKit
set_option linter.unusedVariables false
set_option linter.unusedSimpArgs false
def envput : Option Nat → Value → Env → Env
  | none, _, e => e
  | some d, v, e => (d, v) :: e
def okd : Option Nat → Nat → Bool
  | none, _ => true
  | some d, n => Nat.blt d n
section
variable {P : Program} {n : Nat} {F0 : Nat → Prop} {w0 : World} {e : Env} {Rs : List Res} {d : Option Tmp} {ty : TypeId} {pos : String} {af : Array Edge} {gd : Option (Nat × Bool)} {v : Value} {x y : Operand} {t t' el : TypeId}
theorem Has.putd {a : Act} (h : Has n e a) (hd : okd d n = true) : Has n (envput d v e) (a.put d v) := by
  cases d with
  | none => exact h
  | some d => exact h.put hd
theorem St.setRowS {b : Nat} {T : TypeId} {cs cs' : Array Value} {w : World} (i : Nat) (h : St F0 w0 Rs w) (hi : Rs[i]? = some (BlkR b T cs)) : St F0 w0 (Rs.set i (BlkR b T cs')) (w.setRow b cs') := by
  refine h.step i hi (Ns := []) (fun G hG => ⟨⟨rfl, rfl, rfl, by simp [World.setRow], fun k hk hn => setRow_other w b k cs' (fun e => hn (e ▸ (hG.2 b).2 rfl))⟩, G, ⟨setRow_heap w b cs cs' T (0, 0) hG.1, hG.2⟩, fun k hk => .inl hk, trivial⟩)
theorem Ef.alloc {zv : Value} (hz : ∀ w, (zeroValue t).run P w = .ok zv w) (hd : okd d n = true) : Ef P n F0 w0 e Rs ⟨d, .alloc t, ty, pos, af, gd⟩ (fun e' Rs' => ∃ b, e' = envput d (.pointer (some ⟨b, 0, none⟩)) e ∧ Rs' = BlkR b t zv.cells :: Rs) := by
  intro a w K Q ha hs hk
  have h1 : (execOp a.eval ⟨d, .alloc t, ty, pos, af, gd⟩).run P w = .ok (.value (.pointer (some ⟨w.heap.size, 0, none⟩))) (w.alloc (.cells zv.cells t)) := by
    simp [execOp, Instr.alloc, hz, newVar, newRow, newObj]
    rfl
  unfold Oper.wp
  rw [h1]
  exact hk _ _ ⟨_, rfl, rfl⟩ _ _ (ha.putd hd) (hs.alloc _ _)
theorem Ef.box (hx : e.ev x = some v) (hd : okd d n = true) : Ef P n F0 w0 e Rs ⟨d, .box t x, ty, pos, af, gd⟩ (fun e' Rs' => ∃ b, e' = envput d (.pointer (some ⟨b, 0, none⟩)) e ∧ Rs' = BlkR b t v.cells :: Rs) := by
  intro a w K Q ha hs hk
  have h1 : (execOp a.eval ⟨d, .box t x, ty, pos, af, gd⟩).run P w = .ok (.value (.pointer (some ⟨w.heap.size, 0, none⟩))) (w.alloc (.cells v.cells t)) := by
    simp [execOp, ha.ev hx, Instr.box, newVar, newRow, newObj]
    rfl
  unfold Oper.wp
  rw [h1]
  exact hk _ _ ⟨_, rfl, rfl⟩ _ _ (ha.putd hd) (hs.alloc _ _)
theorem Ef.st (i : Nat) {b o z : Nat} {T : TypeId} {cs cs' : Array Value} (hx : e.ev x = some (.pointer (some ⟨b, o, none⟩))) (hy : e.ev y = some v) (hz : ∀ w, (sizeOf t).run P w = .ok z w) (hi : Rs[i]? = some (BlkR b T cs))
    (hvz : Nat.beq v.cells.size z = true) (hf : Nat.ble (o + v.cells.size) cs.size = true) (ho : v.cells.toList.all (·.oneCell') = true) (hc : (cs.toList.take o ++ v.cells.toList ++ cs.toList.drop (o + v.cells.size)).toArray = cs') :
    Ef P n F0 w0 e Rs ⟨none, .store t x y, ty, pos, af, gd⟩ (fun e' Rs' => e' = e ∧ Rs' = Rs.set i (BlkR b T cs')) := by
  intro a w K Q ha hs hk
  have hb := hs.blk i hi
  have hvz' := Nat.eq_of_beq_eq_true hvz
  have hf' := Nat.le_of_ble_eq_true hf
  have h2 := run_storeCells_at (P := P) b o T v.cells.toList 0 cs w hb (by simpa using hf') (List.all_eq_true.1 ho)
  have h1 : (execOp a.eval ⟨none, .store t x y, ty, pos, af, gd⟩).run P w = .ok .skip (w.setRow b cs') := by
    simp only [Nat.add_zero, Array.length_toList] at h2
    rw [hc] at h2
    simp [execOp, ha.ev hx, ha.ev hy, Instr.storeAt, Instr.sureAddr, storeVar, hz, hvz', h2]
  unfold Oper.wp
  rw [h1]
  exact hk _ _ ⟨rfl, rfl⟩ _ _ (ha.put0) (hs.setRowS i hi)
def CT (P : Program) (n : Nat) (e : Env) (o : Oper) (f : FuncId) (us : List Value) : Prop := ∀ a w, Has n e a → (execOp a.eval o).run P w = .ok (.enter f us.toArray) w
theorem CT.fn {f : FuncId} {xs : List Operand} {vs : List Value} {ts : Array TypeId} (hc : ∀ args w, (callFunc f args).run P w = .ok (.enter f args) w) (hv : e.evs xs = some vs) : CT P n e ⟨d, .call ⟨.value (.func f), xs.toArray, ts⟩, ty, pos, af, gd⟩ f vs := by
  intro a w ha
  simp [execOp, resolve, Act.eval, Deferred.ofValue, invoke, List.map_toArray, ha.evs hv, hc]
theorem CT.val {f : FuncId} {x : Operand} {xs : List Operand} {vs us fs cs : List Value} {ts : Array TypeId} (hx : e.ev x = some (.func (.func f) fs.toArray cs.toArray)) (hc : ∀ args w, (callFunc f args).run P w = .ok (.enter f args) w) (hv : e.evs xs = some vs) (hu : fs ++ vs ++ cs = us) : CT P n e ⟨d, .call ⟨.value x, xs.toArray, ts⟩, ty, pos, af, gd⟩ f us := by
  intro a w ha
  subst hu
  simp [execOp, resolve, ha.ev hx, Deferred.ofValue, invoke, List.map_toArray, ha.evs hv, hc]
theorem CT.inv {f : FuncId} {x : Operand} {nm : String} {xs : List Operand} {u u' : Value} {vs : List Value} {ts : Array TypeId} (hx : e.ev x = some (.iface t u)) (hm : ∀ w, (method (P.types.size + Made.depth) t u nm).run P w = .ok (f, u') w) (hc : ∀ args w, (callFunc f args).run P w = .ok (.enter f args) w) (hv : e.evs xs = some vs) : CT P n e ⟨d, .call ⟨.invoke x nm, xs.toArray, ts⟩, ty, pos, af, gd⟩ f (u' :: vs) := by
  intro a w ha
  simp [execOp, resolve, ha.ev hx, invoke, callMethod, List.map_toArray, ha.evs hv, hm, hc]
theorem Ef.call (i : Nat) {op : Op} {f : FuncId} {vs : List Value} {A : Res} {Y : RX} {R : Value → Res → List Res → Prop} (hc : CT P n e ⟨d, op, ty, pos, af, gd⟩ f vs) (hi : Rs[i]? = some A)
    (hs : SpecX P f vs.toArray Y A R) (hr : ∀ w, St F0 w0 Rs w → Src F0 w0 Rs w i Y) (hd : okd d n = true) :
    Ef P n F0 w0 e Rs ⟨d, op, ty, pos, af, gd⟩ (fun e' Rs' => ∃ v A' N, R v A' N ∧ e' = envput d v e ∧ Rs' = N ++ Rs.set i A') := by
  intro a w K Q ha hst hk
  unfold Oper.wp
  rw [hc a w ha]
  refine (hst.callX i hi hs (hr w hst)).mono ?_
  rintro x w' ⟨v, A', N, rfl, hq, hst'⟩
  exact hk _ _ ⟨v, A', N, hq, rfl, rfl⟩ _ _ (ha.putd hd) hst'
theorem Ef.callE {op : Op} {f : FuncId} {vs : List Value} {Y : RX} {R : Value → Res → List Res → Prop} (hc : CT P n e ⟨d, op, ty, pos, af, gd⟩ f vs)
    (hs : SpecX P f vs.toArray Y EmpR R) (hr : ∀ w, St F0 w0 Rs w → Y.reads w (fun _ => False)) (hd : okd d n = true) :
    Ef P n F0 w0 e Rs ⟨d, op, ty, pos, af, gd⟩ (fun e' Rs' => ∃ v A' N, R v A' N ∧ e' = envput d v e ∧ Rs' = N ++ Rs) := by
  intro a w K Q ha hst hk
  unfold Oper.wp
  rw [hc a w ha]
  refine (hst.callE hs (hr w hst)).mono ?_
  rintro x w' ⟨v, A', N, rfl, hq, hst'⟩
  exact hk _ _ ⟨v, A', N, hq, rfl, rfl⟩ _ _ (ha.putd hd) hst'
def SOK (P : Program) (t T : TypeId) (m z : Nat) (zs : Array Value) : Prop := ∀ (parts : Array (Nat × Value)) (cells : Array Value) (w : World), Instr.fill (fun i => some (i * z, z)) zs parts.toList = some cells → (Instr.buildSlice t m parts).run P w = .ok (.slice (some ⟨w.heap.size, 0, none⟩) m m) (w.alloc (.cells cells T))
end
section
variable {P : Program} {n : Nat} {F0 : Nat → Prop} {w0 : World} {e : Env} {Rs Rf : List Res} {Q : Exit → Act → World → Prop} {ops : Array Oper} {i d b o z f T : Nat} {ty t el : TypeId} {pos : String} {af : Array Edge} {gd : Option (Nat × Bool)} {v zv : Value} {x y : Operand} {l : List Nat} {xs : List Operand} {vs : List Value} {ts : Array TypeId} {Y : RX} {A B : Res} {R : Value → Res → List Res → Prop} {c : Code} {cl : Call}
theorem TL.alloc  (ho : ops[i]? = some ⟨some d, .alloc t, ty, pos, af, gd⟩) (hw : Wd n ops e ⟨some d, .alloc t, ty, pos, af, gd⟩ true) (hz : ∀ w, (zeroValue t).run P w = .ok zv w) (hd : Nat.blt d n = true) (h : ∀ b, TL P n F0 w0 ops l ((d, .pointer (some ⟨b, 0, none⟩)) :: e) (BlkR b t zv.cells :: Rs) Q) : TL P n F0 w0 ops (i :: l) e Rs Q := by
  refine TL.ef ho hw (Ef.alloc hz hd) ?_
  rintro _ _ ⟨b, rfl, rfl⟩
  exact h b
theorem TD.alloc  {l : Sch} (ho : ops[i]? = some ⟨some d, .alloc t, ty, pos, af, gd⟩) (hw : Wd n ops e ⟨some d, .alloc t, ty, pos, af, gd⟩ true) (hz : ∀ w, (zeroValue t).run P w = .ok zv w) (hd : Nat.blt d n = true) (is : List Nat) (hf : ∀ b, Sel (BlkR b t zv.cells :: Rs) is Rf) (h : ∀ b, TD P n F0 w0 ops l Rf ((d, .pointer (some ⟨b, 0, none⟩)) :: e) (BlkR b t zv.cells :: Rs) Q) : TD P n F0 w0 ops (.e i l) Rf e Rs Q := by
  refine TD.ef ho hw (Ef.alloc hz hd) ?_
  rintro _ _ ⟨b, rfl, rfl⟩
  exact ⟨Rf, fun w hw => hw.sel is (hf b), fun _ h => h, h b⟩
theorem TL.box  (ho : ops[i]? = some ⟨some d, .box t x, ty, pos, af, gd⟩) (hw : Wd n ops e ⟨some d, .box t x, ty, pos, af, gd⟩ true) (hx : e.ev x = some v) (hd : Nat.blt d n = true) (h : ∀ b, TL P n F0 w0 ops l ((d, .pointer (some ⟨b, 0, none⟩)) :: e) (BlkR b t v.cells :: Rs) Q) : TL P n F0 w0 ops (i :: l) e Rs Q := by
  refine TL.ef ho hw (Ef.box hx hd) ?_
  rintro _ _ ⟨b, rfl, rfl⟩
  exact h b
theorem TD.box  {l : Sch} (ho : ops[i]? = some ⟨some d, .box t x, ty, pos, af, gd⟩) (hw : Wd n ops e ⟨some d, .box t x, ty, pos, af, gd⟩ true) (hx : e.ev x = some v) (hd : Nat.blt d n = true) (is : List Nat) (hf : ∀ b, Sel (BlkR b t v.cells :: Rs) is Rf) (h : ∀ b, TD P n F0 w0 ops l Rf ((d, .pointer (some ⟨b, 0, none⟩)) :: e) (BlkR b t v.cells :: Rs) Q) : TD P n F0 w0 ops (.e i l) Rf e Rs Q := by
  refine TD.ef ho hw (Ef.box hx hd) ?_
  rintro _ _ ⟨b, rfl, rfl⟩
  exact ⟨Rf, fun w hw => hw.sel is (hf b), fun _ h => h, h b⟩
theorem TL.st0 {cs cs' : Array Value}  (ho : ops[i]? = some ⟨none, .store t x y, ty, pos, af, gd⟩) (hw : Wd n ops e ⟨none, .store t x y, ty, pos, af, gd⟩ true) (hx : e.ev x = some (.pointer (some ⟨b, o, none⟩))) (hy : e.ev y = some v) (hz : ∀ w, (sizeOf t).run P w = .ok z w) (hvz : Nat.beq v.cells.size z = true) (hf' : Nat.ble (o + v.cells.size) cs.size = true) (ho' : v.cells.toList.all (·.oneCell') = true) (hc : (cs.toList.take o ++ v.cells.toList ++ cs.toList.drop (o + v.cells.size)).toArray = cs') (h : TL P n F0 w0 ops l e (BlkR b T cs' :: Rs) Q) : TL P n F0 w0 ops (i :: l) e (BlkR b T cs :: Rs) Q := by
  refine TL.ef ho hw (Ef.st 0 hx hy hz rfl hvz hf' ho' hc) ?_
  rintro _ _ ⟨rfl, rfl⟩
  exact h
theorem TD.st0 {cs cs' : Array Value}  {l : Sch} (ho : ops[i]? = some ⟨none, .store t x y, ty, pos, af, gd⟩) (hw : Wd n ops e ⟨none, .store t x y, ty, pos, af, gd⟩ true) (hx : e.ev x = some (.pointer (some ⟨b, o, none⟩))) (hy : e.ev y = some v) (hz : ∀ w, (sizeOf t).run P w = .ok z w) (hvz : Nat.beq v.cells.size z = true) (hf' : Nat.ble (o + v.cells.size) cs.size = true) (ho' : v.cells.toList.all (·.oneCell') = true) (hc : (cs.toList.take o ++ v.cells.toList ++ cs.toList.drop (o + v.cells.size)).toArray = cs') (is : List Nat) (hf : Sel (BlkR b T cs' :: Rs) is Rf) (h : TD P n F0 w0 ops l Rf e (BlkR b T cs' :: Rs) Q) : TD P n F0 w0 ops (.e i l) Rf e (BlkR b T cs :: Rs) Q := by
  refine TD.ef ho hw (Ef.st 0 hx hy hz rfl hvz hf' ho' hc) ?_
  rintro _ _ ⟨rfl, rfl⟩
  exact ⟨Rf, fun w hw => hw.sel is (hf), fun _ h => h, h⟩
theorem TL.c0  (ho : ops[i]? = some ⟨some d, .call cl, ty, pos, af, gd⟩) (hw : Wd n ops e ⟨some d, .call cl, ty, pos, af, gd⟩ true) (hc : CT P n e ⟨some d, .call cl, ty, pos, af, gd⟩ f vs) (hs : SpecX P f vs.toArray Y A (fun v' A' N => v' = v ∧ A' = B ∧ N = [])) (hr : ∀ w, St F0 w0 (A :: Rs) w → Src F0 w0 (A :: Rs) w 0 Y) (hd : Nat.blt d n = true) (h : TL P n F0 w0 ops l ((d, v) :: e) (B :: Rs) Q) : TL P n F0 w0 ops (i :: l) e (A :: Rs) Q := by
  refine TL.ef ho hw (Ef.call 0 hc rfl hs hr hd) ?_
  rintro _ _ ⟨_, _, _, ⟨rfl, rfl, rfl⟩, rfl, rfl⟩
  exact h
theorem TD.c0  {l : Sch} (ho : ops[i]? = some ⟨some d, .call cl, ty, pos, af, gd⟩) (hw : Wd n ops e ⟨some d, .call cl, ty, pos, af, gd⟩ true) (hc : CT P n e ⟨some d, .call cl, ty, pos, af, gd⟩ f vs) (hs : SpecX P f vs.toArray Y A (fun v' A' N => v' = v ∧ A' = B ∧ N = [])) (hr : ∀ w, St F0 w0 (A :: Rs) w → Src F0 w0 (A :: Rs) w 0 Y) (hd : Nat.blt d n = true) (is : List Nat) (hf : Sel (B :: Rs) is Rf) (h : TD P n F0 w0 ops l Rf ((d, v) :: e) (B :: Rs) Q) : TD P n F0 w0 ops (.e i l) Rf e (A :: Rs) Q := by
  refine TD.ef ho hw (Ef.call 0 hc rfl hs hr hd) ?_
  rintro _ _ ⟨_, _, _, ⟨rfl, rfl, rfl⟩, rfl, rfl⟩
  exact ⟨Rf, fun w hw => hw.sel is (hf), fun _ h => h, h⟩
theorem TL.st1 {cs cs' : Array Value} {R0 : Res} (ho : ops[i]? = some ⟨none, .store t x y, ty, pos, af, gd⟩) (hw : Wd n ops e ⟨none, .store t x y, ty, pos, af, gd⟩ true) (hx : e.ev x = some (.pointer (some ⟨b, o, none⟩))) (hy : e.ev y = some v) (hz : ∀ w, (sizeOf t).run P w = .ok z w) (hvz : Nat.beq v.cells.size z = true) (hf' : Nat.ble (o + v.cells.size) cs.size = true) (ho' : v.cells.toList.all (·.oneCell') = true) (hc : (cs.toList.take o ++ v.cells.toList ++ cs.toList.drop (o + v.cells.size)).toArray = cs') (h : TL P n F0 w0 ops l e (R0 :: BlkR b T cs' :: Rs) Q) : TL P n F0 w0 ops (i :: l) e (R0 :: BlkR b T cs :: Rs) Q := by
  refine TL.ef ho hw (Ef.st 1 hx hy hz rfl hvz hf' ho' hc) ?_
  rintro _ _ ⟨rfl, rfl⟩
  exact h
theorem TD.st1 {cs cs' : Array Value} {R0 : Res} {l : Sch} (ho : ops[i]? = some ⟨none, .store t x y, ty, pos, af, gd⟩) (hw : Wd n ops e ⟨none, .store t x y, ty, pos, af, gd⟩ true) (hx : e.ev x = some (.pointer (some ⟨b, o, none⟩))) (hy : e.ev y = some v) (hz : ∀ w, (sizeOf t).run P w = .ok z w) (hvz : Nat.beq v.cells.size z = true) (hf' : Nat.ble (o + v.cells.size) cs.size = true) (ho' : v.cells.toList.all (·.oneCell') = true) (hc : (cs.toList.take o ++ v.cells.toList ++ cs.toList.drop (o + v.cells.size)).toArray = cs') (is : List Nat) (hf : Sel (R0 :: BlkR b T cs' :: Rs) is Rf) (h : TD P n F0 w0 ops l Rf e (R0 :: BlkR b T cs' :: Rs) Q) : TD P n F0 w0 ops (.e i l) Rf e (R0 :: BlkR b T cs :: Rs) Q := by
  refine TD.ef ho hw (Ef.st 1 hx hy hz rfl hvz hf' ho' hc) ?_
  rintro _ _ ⟨rfl, rfl⟩
  exact ⟨Rf, fun w hw => hw.sel is (hf), fun _ h => h, h⟩
theorem TL.c1 {R0 : Res} (ho : ops[i]? = some ⟨some d, .call cl, ty, pos, af, gd⟩) (hw : Wd n ops e ⟨some d, .call cl, ty, pos, af, gd⟩ true) (hc : CT P n e ⟨some d, .call cl, ty, pos, af, gd⟩ f vs) (hs : SpecX P f vs.toArray Y A (fun v' A' N => v' = v ∧ A' = B ∧ N = [])) (hr : ∀ w, St F0 w0 (R0 :: A :: Rs) w → Src F0 w0 (R0 :: A :: Rs) w 1 Y) (hd : Nat.blt d n = true) (h : TL P n F0 w0 ops l ((d, v) :: e) (R0 :: B :: Rs) Q) : TL P n F0 w0 ops (i :: l) e (R0 :: A :: Rs) Q := by
  refine TL.ef ho hw (Ef.call 1 hc rfl hs hr hd) ?_
  rintro _ _ ⟨_, _, _, ⟨rfl, rfl, rfl⟩, rfl, rfl⟩
  exact h
theorem TD.c1 {R0 : Res} {l : Sch} (ho : ops[i]? = some ⟨some d, .call cl, ty, pos, af, gd⟩) (hw : Wd n ops e ⟨some d, .call cl, ty, pos, af, gd⟩ true) (hc : CT P n e ⟨some d, .call cl, ty, pos, af, gd⟩ f vs) (hs : SpecX P f vs.toArray Y A (fun v' A' N => v' = v ∧ A' = B ∧ N = [])) (hr : ∀ w, St F0 w0 (R0 :: A :: Rs) w → Src F0 w0 (R0 :: A :: Rs) w 1 Y) (hd : Nat.blt d n = true) (is : List Nat) (hf : Sel (R0 :: B :: Rs) is Rf) (h : TD P n F0 w0 ops l Rf ((d, v) :: e) (R0 :: B :: Rs) Q) : TD P n F0 w0 ops (.e i l) Rf e (R0 :: A :: Rs) Q := by
  refine TD.ef ho hw (Ef.call 1 hc rfl hs hr hd) ?_
  rintro _ _ ⟨_, _, _, ⟨rfl, rfl, rfl⟩, rfl, rfl⟩
  exact ⟨Rf, fun w hw => hw.sel is (hf), fun _ h => h, h⟩
theorem TL.st2 {cs cs' : Array Value} {R0 R1 : Res} (ho : ops[i]? = some ⟨none, .store t x y, ty, pos, af, gd⟩) (hw : Wd n ops e ⟨none, .store t x y, ty, pos, af, gd⟩ true) (hx : e.ev x = some (.pointer (some ⟨b, o, none⟩))) (hy : e.ev y = some v) (hz : ∀ w, (sizeOf t).run P w = .ok z w) (hvz : Nat.beq v.cells.size z = true) (hf' : Nat.ble (o + v.cells.size) cs.size = true) (ho' : v.cells.toList.all (·.oneCell') = true) (hc : (cs.toList.take o ++ v.cells.toList ++ cs.toList.drop (o + v.cells.size)).toArray = cs') (h : TL P n F0 w0 ops l e (R0 :: R1 :: BlkR b T cs' :: Rs) Q) : TL P n F0 w0 ops (i :: l) e (R0 :: R1 :: BlkR b T cs :: Rs) Q := by
  refine TL.ef ho hw (Ef.st 2 hx hy hz rfl hvz hf' ho' hc) ?_
  rintro _ _ ⟨rfl, rfl⟩
  exact h
theorem TD.st2 {cs cs' : Array Value} {R0 R1 : Res} {l : Sch} (ho : ops[i]? = some ⟨none, .store t x y, ty, pos, af, gd⟩) (hw : Wd n ops e ⟨none, .store t x y, ty, pos, af, gd⟩ true) (hx : e.ev x = some (.pointer (some ⟨b, o, none⟩))) (hy : e.ev y = some v) (hz : ∀ w, (sizeOf t).run P w = .ok z w) (hvz : Nat.beq v.cells.size z = true) (hf' : Nat.ble (o + v.cells.size) cs.size = true) (ho' : v.cells.toList.all (·.oneCell') = true) (hc : (cs.toList.take o ++ v.cells.toList ++ cs.toList.drop (o + v.cells.size)).toArray = cs') (is : List Nat) (hf : Sel (R0 :: R1 :: BlkR b T cs' :: Rs) is Rf) (h : TD P n F0 w0 ops l Rf e (R0 :: R1 :: BlkR b T cs' :: Rs) Q) : TD P n F0 w0 ops (.e i l) Rf e (R0 :: R1 :: BlkR b T cs :: Rs) Q := by
  refine TD.ef ho hw (Ef.st 2 hx hy hz rfl hvz hf' ho' hc) ?_
  rintro _ _ ⟨rfl, rfl⟩
  exact ⟨Rf, fun w hw => hw.sel is (hf), fun _ h => h, h⟩
theorem TL.c2 {R0 R1 : Res} (ho : ops[i]? = some ⟨some d, .call cl, ty, pos, af, gd⟩) (hw : Wd n ops e ⟨some d, .call cl, ty, pos, af, gd⟩ true) (hc : CT P n e ⟨some d, .call cl, ty, pos, af, gd⟩ f vs) (hs : SpecX P f vs.toArray Y A (fun v' A' N => v' = v ∧ A' = B ∧ N = [])) (hr : ∀ w, St F0 w0 (R0 :: R1 :: A :: Rs) w → Src F0 w0 (R0 :: R1 :: A :: Rs) w 2 Y) (hd : Nat.blt d n = true) (h : TL P n F0 w0 ops l ((d, v) :: e) (R0 :: R1 :: B :: Rs) Q) : TL P n F0 w0 ops (i :: l) e (R0 :: R1 :: A :: Rs) Q := by
  refine TL.ef ho hw (Ef.call 2 hc rfl hs hr hd) ?_
  rintro _ _ ⟨_, _, _, ⟨rfl, rfl, rfl⟩, rfl, rfl⟩
  exact h
theorem TD.c2 {R0 R1 : Res} {l : Sch} (ho : ops[i]? = some ⟨some d, .call cl, ty, pos, af, gd⟩) (hw : Wd n ops e ⟨some d, .call cl, ty, pos, af, gd⟩ true) (hc : CT P n e ⟨some d, .call cl, ty, pos, af, gd⟩ f vs) (hs : SpecX P f vs.toArray Y A (fun v' A' N => v' = v ∧ A' = B ∧ N = [])) (hr : ∀ w, St F0 w0 (R0 :: R1 :: A :: Rs) w → Src F0 w0 (R0 :: R1 :: A :: Rs) w 2 Y) (hd : Nat.blt d n = true) (is : List Nat) (hf : Sel (R0 :: R1 :: B :: Rs) is Rf) (h : TD P n F0 w0 ops l Rf ((d, v) :: e) (R0 :: R1 :: B :: Rs) Q) : TD P n F0 w0 ops (.e i l) Rf e (R0 :: R1 :: A :: Rs) Q := by
  refine TD.ef ho hw (Ef.call 2 hc rfl hs hr hd) ?_
  rintro _ _ ⟨_, _, _, ⟨rfl, rfl, rfl⟩, rfl, rfl⟩
  exact ⟨Rf, fun w hw => hw.sel is (hf), fun _ h => h, h⟩
theorem TL.st3 {cs cs' : Array Value} {R0 R1 R2 : Res} (ho : ops[i]? = some ⟨none, .store t x y, ty, pos, af, gd⟩) (hw : Wd n ops e ⟨none, .store t x y, ty, pos, af, gd⟩ true) (hx : e.ev x = some (.pointer (some ⟨b, o, none⟩))) (hy : e.ev y = some v) (hz : ∀ w, (sizeOf t).run P w = .ok z w) (hvz : Nat.beq v.cells.size z = true) (hf' : Nat.ble (o + v.cells.size) cs.size = true) (ho' : v.cells.toList.all (·.oneCell') = true) (hc : (cs.toList.take o ++ v.cells.toList ++ cs.toList.drop (o + v.cells.size)).toArray = cs') (h : TL P n F0 w0 ops l e (R0 :: R1 :: R2 :: BlkR b T cs' :: Rs) Q) : TL P n F0 w0 ops (i :: l) e (R0 :: R1 :: R2 :: BlkR b T cs :: Rs) Q := by
  refine TL.ef ho hw (Ef.st 3 hx hy hz rfl hvz hf' ho' hc) ?_
  rintro _ _ ⟨rfl, rfl⟩
  exact h
theorem TD.st3 {cs cs' : Array Value} {R0 R1 R2 : Res} {l : Sch} (ho : ops[i]? = some ⟨none, .store t x y, ty, pos, af, gd⟩) (hw : Wd n ops e ⟨none, .store t x y, ty, pos, af, gd⟩ true) (hx : e.ev x = some (.pointer (some ⟨b, o, none⟩))) (hy : e.ev y = some v) (hz : ∀ w, (sizeOf t).run P w = .ok z w) (hvz : Nat.beq v.cells.size z = true) (hf' : Nat.ble (o + v.cells.size) cs.size = true) (ho' : v.cells.toList.all (·.oneCell') = true) (hc : (cs.toList.take o ++ v.cells.toList ++ cs.toList.drop (o + v.cells.size)).toArray = cs') (is : List Nat) (hf : Sel (R0 :: R1 :: R2 :: BlkR b T cs' :: Rs) is Rf) (h : TD P n F0 w0 ops l Rf e (R0 :: R1 :: R2 :: BlkR b T cs' :: Rs) Q) : TD P n F0 w0 ops (.e i l) Rf e (R0 :: R1 :: R2 :: BlkR b T cs :: Rs) Q := by
  refine TD.ef ho hw (Ef.st 3 hx hy hz rfl hvz hf' ho' hc) ?_
  rintro _ _ ⟨rfl, rfl⟩
  exact ⟨Rf, fun w hw => hw.sel is (hf), fun _ h => h, h⟩
theorem TL.c3 {R0 R1 R2 : Res} (ho : ops[i]? = some ⟨some d, .call cl, ty, pos, af, gd⟩) (hw : Wd n ops e ⟨some d, .call cl, ty, pos, af, gd⟩ true) (hc : CT P n e ⟨some d, .call cl, ty, pos, af, gd⟩ f vs) (hs : SpecX P f vs.toArray Y A (fun v' A' N => v' = v ∧ A' = B ∧ N = [])) (hr : ∀ w, St F0 w0 (R0 :: R1 :: R2 :: A :: Rs) w → Src F0 w0 (R0 :: R1 :: R2 :: A :: Rs) w 3 Y) (hd : Nat.blt d n = true) (h : TL P n F0 w0 ops l ((d, v) :: e) (R0 :: R1 :: R2 :: B :: Rs) Q) : TL P n F0 w0 ops (i :: l) e (R0 :: R1 :: R2 :: A :: Rs) Q := by
  refine TL.ef ho hw (Ef.call 3 hc rfl hs hr hd) ?_
  rintro _ _ ⟨_, _, _, ⟨rfl, rfl, rfl⟩, rfl, rfl⟩
  exact h
theorem TD.c3 {R0 R1 R2 : Res} {l : Sch} (ho : ops[i]? = some ⟨some d, .call cl, ty, pos, af, gd⟩) (hw : Wd n ops e ⟨some d, .call cl, ty, pos, af, gd⟩ true) (hc : CT P n e ⟨some d, .call cl, ty, pos, af, gd⟩ f vs) (hs : SpecX P f vs.toArray Y A (fun v' A' N => v' = v ∧ A' = B ∧ N = [])) (hr : ∀ w, St F0 w0 (R0 :: R1 :: R2 :: A :: Rs) w → Src F0 w0 (R0 :: R1 :: R2 :: A :: Rs) w 3 Y) (hd : Nat.blt d n = true) (is : List Nat) (hf : Sel (R0 :: R1 :: R2 :: B :: Rs) is Rf) (h : TD P n F0 w0 ops l Rf ((d, v) :: e) (R0 :: R1 :: R2 :: B :: Rs) Q) : TD P n F0 w0 ops (.e i l) Rf e (R0 :: R1 :: R2 :: A :: Rs) Q := by
  refine TD.ef ho hw (Ef.call 3 hc rfl hs hr hd) ?_
  rintro _ _ ⟨_, _, _, ⟨rfl, rfl, rfl⟩, rfl, rfl⟩
  exact ⟨Rf, fun w hw => hw.sel is (hf), fun _ h => h, h⟩
theorem TL.st4 {cs cs' : Array Value} {R0 R1 R2 R3 : Res} (ho : ops[i]? = some ⟨none, .store t x y, ty, pos, af, gd⟩) (hw : Wd n ops e ⟨none, .store t x y, ty, pos, af, gd⟩ true) (hx : e.ev x = some (.pointer (some ⟨b, o, none⟩))) (hy : e.ev y = some v) (hz : ∀ w, (sizeOf t).run P w = .ok z w) (hvz : Nat.beq v.cells.size z = true) (hf' : Nat.ble (o + v.cells.size) cs.size = true) (ho' : v.cells.toList.all (·.oneCell') = true) (hc : (cs.toList.take o ++ v.cells.toList ++ cs.toList.drop (o + v.cells.size)).toArray = cs') (h : TL P n F0 w0 ops l e (R0 :: R1 :: R2 :: R3 :: BlkR b T cs' :: Rs) Q) : TL P n F0 w0 ops (i :: l) e (R0 :: R1 :: R2 :: R3 :: BlkR b T cs :: Rs) Q := by
  refine TL.ef ho hw (Ef.st 4 hx hy hz rfl hvz hf' ho' hc) ?_
  rintro _ _ ⟨rfl, rfl⟩
  exact h
theorem TD.st4 {cs cs' : Array Value} {R0 R1 R2 R3 : Res} {l : Sch} (ho : ops[i]? = some ⟨none, .store t x y, ty, pos, af, gd⟩) (hw : Wd n ops e ⟨none, .store t x y, ty, pos, af, gd⟩ true) (hx : e.ev x = some (.pointer (some ⟨b, o, none⟩))) (hy : e.ev y = some v) (hz : ∀ w, (sizeOf t).run P w = .ok z w) (hvz : Nat.beq v.cells.size z = true) (hf' : Nat.ble (o + v.cells.size) cs.size = true) (ho' : v.cells.toList.all (·.oneCell') = true) (hc : (cs.toList.take o ++ v.cells.toList ++ cs.toList.drop (o + v.cells.size)).toArray = cs') (is : List Nat) (hf : Sel (R0 :: R1 :: R2 :: R3 :: BlkR b T cs' :: Rs) is Rf) (h : TD P n F0 w0 ops l Rf e (R0 :: R1 :: R2 :: R3 :: BlkR b T cs' :: Rs) Q) : TD P n F0 w0 ops (.e i l) Rf e (R0 :: R1 :: R2 :: R3 :: BlkR b T cs :: Rs) Q := by
  refine TD.ef ho hw (Ef.st 4 hx hy hz rfl hvz hf' ho' hc) ?_
  rintro _ _ ⟨rfl, rfl⟩
  exact ⟨Rf, fun w hw => hw.sel is (hf), fun _ h => h, h⟩
theorem TL.c4 {R0 R1 R2 R3 : Res} (ho : ops[i]? = some ⟨some d, .call cl, ty, pos, af, gd⟩) (hw : Wd n ops e ⟨some d, .call cl, ty, pos, af, gd⟩ true) (hc : CT P n e ⟨some d, .call cl, ty, pos, af, gd⟩ f vs) (hs : SpecX P f vs.toArray Y A (fun v' A' N => v' = v ∧ A' = B ∧ N = [])) (hr : ∀ w, St F0 w0 (R0 :: R1 :: R2 :: R3 :: A :: Rs) w → Src F0 w0 (R0 :: R1 :: R2 :: R3 :: A :: Rs) w 4 Y) (hd : Nat.blt d n = true) (h : TL P n F0 w0 ops l ((d, v) :: e) (R0 :: R1 :: R2 :: R3 :: B :: Rs) Q) : TL P n F0 w0 ops (i :: l) e (R0 :: R1 :: R2 :: R3 :: A :: Rs) Q := by
  refine TL.ef ho hw (Ef.call 4 hc rfl hs hr hd) ?_
  rintro _ _ ⟨_, _, _, ⟨rfl, rfl, rfl⟩, rfl, rfl⟩
  exact h
theorem TD.c4 {R0 R1 R2 R3 : Res} {l : Sch} (ho : ops[i]? = some ⟨some d, .call cl, ty, pos, af, gd⟩) (hw : Wd n ops e ⟨some d, .call cl, ty, pos, af, gd⟩ true) (hc : CT P n e ⟨some d, .call cl, ty, pos, af, gd⟩ f vs) (hs : SpecX P f vs.toArray Y A (fun v' A' N => v' = v ∧ A' = B ∧ N = [])) (hr : ∀ w, St F0 w0 (R0 :: R1 :: R2 :: R3 :: A :: Rs) w → Src F0 w0 (R0 :: R1 :: R2 :: R3 :: A :: Rs) w 4 Y) (hd : Nat.blt d n = true) (is : List Nat) (hf : Sel (R0 :: R1 :: R2 :: R3 :: B :: Rs) is Rf) (h : TD P n F0 w0 ops l Rf ((d, v) :: e) (R0 :: R1 :: R2 :: R3 :: B :: Rs) Q) : TD P n F0 w0 ops (.e i l) Rf e (R0 :: R1 :: R2 :: R3 :: A :: Rs) Q := by
  refine TD.ef ho hw (Ef.call 4 hc rfl hs hr hd) ?_
  rintro _ _ ⟨_, _, _, ⟨rfl, rfl, rfl⟩, rfl, rfl⟩
  exact ⟨Rf, fun w hw => hw.sel is (hf), fun _ h => h, h⟩
theorem TL.st5 {cs cs' : Array Value} {R0 R1 R2 R3 R4 : Res} (ho : ops[i]? = some ⟨none, .store t x y, ty, pos, af, gd⟩) (hw : Wd n ops e ⟨none, .store t x y, ty, pos, af, gd⟩ true) (hx : e.ev x = some (.pointer (some ⟨b, o, none⟩))) (hy : e.ev y = some v) (hz : ∀ w, (sizeOf t).run P w = .ok z w) (hvz : Nat.beq v.cells.size z = true) (hf' : Nat.ble (o + v.cells.size) cs.size = true) (ho' : v.cells.toList.all (·.oneCell') = true) (hc : (cs.toList.take o ++ v.cells.toList ++ cs.toList.drop (o + v.cells.size)).toArray = cs') (h : TL P n F0 w0 ops l e (R0 :: R1 :: R2 :: R3 :: R4 :: BlkR b T cs' :: Rs) Q) : TL P n F0 w0 ops (i :: l) e (R0 :: R1 :: R2 :: R3 :: R4 :: BlkR b T cs :: Rs) Q := by
  refine TL.ef ho hw (Ef.st 5 hx hy hz rfl hvz hf' ho' hc) ?_
  rintro _ _ ⟨rfl, rfl⟩
  exact h
theorem TD.st5 {cs cs' : Array Value} {R0 R1 R2 R3 R4 : Res} {l : Sch} (ho : ops[i]? = some ⟨none, .store t x y, ty, pos, af, gd⟩) (hw : Wd n ops e ⟨none, .store t x y, ty, pos, af, gd⟩ true) (hx : e.ev x = some (.pointer (some ⟨b, o, none⟩))) (hy : e.ev y = some v) (hz : ∀ w, (sizeOf t).run P w = .ok z w) (hvz : Nat.beq v.cells.size z = true) (hf' : Nat.ble (o + v.cells.size) cs.size = true) (ho' : v.cells.toList.all (·.oneCell') = true) (hc : (cs.toList.take o ++ v.cells.toList ++ cs.toList.drop (o + v.cells.size)).toArray = cs') (is : List Nat) (hf : Sel (R0 :: R1 :: R2 :: R3 :: R4 :: BlkR b T cs' :: Rs) is Rf) (h : TD P n F0 w0 ops l Rf e (R0 :: R1 :: R2 :: R3 :: R4 :: BlkR b T cs' :: Rs) Q) : TD P n F0 w0 ops (.e i l) Rf e (R0 :: R1 :: R2 :: R3 :: R4 :: BlkR b T cs :: Rs) Q := by
  refine TD.ef ho hw (Ef.st 5 hx hy hz rfl hvz hf' ho' hc) ?_
  rintro _ _ ⟨rfl, rfl⟩
  exact ⟨Rf, fun w hw => hw.sel is (hf), fun _ h => h, h⟩
theorem TL.c5 {R0 R1 R2 R3 R4 : Res} (ho : ops[i]? = some ⟨some d, .call cl, ty, pos, af, gd⟩) (hw : Wd n ops e ⟨some d, .call cl, ty, pos, af, gd⟩ true) (hc : CT P n e ⟨some d, .call cl, ty, pos, af, gd⟩ f vs) (hs : SpecX P f vs.toArray Y A (fun v' A' N => v' = v ∧ A' = B ∧ N = [])) (hr : ∀ w, St F0 w0 (R0 :: R1 :: R2 :: R3 :: R4 :: A :: Rs) w → Src F0 w0 (R0 :: R1 :: R2 :: R3 :: R4 :: A :: Rs) w 5 Y) (hd : Nat.blt d n = true) (h : TL P n F0 w0 ops l ((d, v) :: e) (R0 :: R1 :: R2 :: R3 :: R4 :: B :: Rs) Q) : TL P n F0 w0 ops (i :: l) e (R0 :: R1 :: R2 :: R3 :: R4 :: A :: Rs) Q := by
  refine TL.ef ho hw (Ef.call 5 hc rfl hs hr hd) ?_
  rintro _ _ ⟨_, _, _, ⟨rfl, rfl, rfl⟩, rfl, rfl⟩
  exact h
theorem TD.c5 {R0 R1 R2 R3 R4 : Res} {l : Sch} (ho : ops[i]? = some ⟨some d, .call cl, ty, pos, af, gd⟩) (hw : Wd n ops e ⟨some d, .call cl, ty, pos, af, gd⟩ true) (hc : CT P n e ⟨some d, .call cl, ty, pos, af, gd⟩ f vs) (hs : SpecX P f vs.toArray Y A (fun v' A' N => v' = v ∧ A' = B ∧ N = [])) (hr : ∀ w, St F0 w0 (R0 :: R1 :: R2 :: R3 :: R4 :: A :: Rs) w → Src F0 w0 (R0 :: R1 :: R2 :: R3 :: R4 :: A :: Rs) w 5 Y) (hd : Nat.blt d n = true) (is : List Nat) (hf : Sel (R0 :: R1 :: R2 :: R3 :: R4 :: B :: Rs) is Rf) (h : TD P n F0 w0 ops l Rf ((d, v) :: e) (R0 :: R1 :: R2 :: R3 :: R4 :: B :: Rs) Q) : TD P n F0 w0 ops (.e i l) Rf e (R0 :: R1 :: R2 :: R3 :: R4 :: A :: Rs) Q := by
  refine TD.ef ho hw (Ef.call 5 hc rfl hs hr hd) ?_
  rintro _ _ ⟨_, _, _, ⟨rfl, rfl, rfl⟩, rfl, rfl⟩
  exact ⟨Rf, fun w hw => hw.sel is (hf), fun _ h => h, h⟩
theorem TL.st6 {cs cs' : Array Value} {R0 R1 R2 R3 R4 R5 : Res} (ho : ops[i]? = some ⟨none, .store t x y, ty, pos, af, gd⟩) (hw : Wd n ops e ⟨none, .store t x y, ty, pos, af, gd⟩ true) (hx : e.ev x = some (.pointer (some ⟨b, o, none⟩))) (hy : e.ev y = some v) (hz : ∀ w, (sizeOf t).run P w = .ok z w) (hvz : Nat.beq v.cells.size z = true) (hf' : Nat.ble (o + v.cells.size) cs.size = true) (ho' : v.cells.toList.all (·.oneCell') = true) (hc : (cs.toList.take o ++ v.cells.toList ++ cs.toList.drop (o + v.cells.size)).toArray = cs') (h : TL P n F0 w0 ops l e (R0 :: R1 :: R2 :: R3 :: R4 :: R5 :: BlkR b T cs' :: Rs) Q) : TL P n F0 w0 ops (i :: l) e (R0 :: R1 :: R2 :: R3 :: R4 :: R5 :: BlkR b T cs :: Rs) Q := by
  refine TL.ef ho hw (Ef.st 6 hx hy hz rfl hvz hf' ho' hc) ?_
  rintro _ _ ⟨rfl, rfl⟩
  exact h
theorem TD.st6 {cs cs' : Array Value} {R0 R1 R2 R3 R4 R5 : Res} {l : Sch} (ho : ops[i]? = some ⟨none, .store t x y, ty, pos, af, gd⟩) (hw : Wd n ops e ⟨none, .store t x y, ty, pos, af, gd⟩ true) (hx : e.ev x = some (.pointer (some ⟨b, o, none⟩))) (hy : e.ev y = some v) (hz : ∀ w, (sizeOf t).run P w = .ok z w) (hvz : Nat.beq v.cells.size z = true) (hf' : Nat.ble (o + v.cells.size) cs.size = true) (ho' : v.cells.toList.all (·.oneCell') = true) (hc : (cs.toList.take o ++ v.cells.toList ++ cs.toList.drop (o + v.cells.size)).toArray = cs') (is : List Nat) (hf : Sel (R0 :: R1 :: R2 :: R3 :: R4 :: R5 :: BlkR b T cs' :: Rs) is Rf) (h : TD P n F0 w0 ops l Rf e (R0 :: R1 :: R2 :: R3 :: R4 :: R5 :: BlkR b T cs' :: Rs) Q) : TD P n F0 w0 ops (.e i l) Rf e (R0 :: R1 :: R2 :: R3 :: R4 :: R5 :: BlkR b T cs :: Rs) Q := by
  refine TD.ef ho hw (Ef.st 6 hx hy hz rfl hvz hf' ho' hc) ?_
  rintro _ _ ⟨rfl, rfl⟩
  exact ⟨Rf, fun w hw => hw.sel is (hf), fun _ h => h, h⟩
theorem TL.c6 {R0 R1 R2 R3 R4 R5 : Res} (ho : ops[i]? = some ⟨some d, .call cl, ty, pos, af, gd⟩) (hw : Wd n ops e ⟨some d, .call cl, ty, pos, af, gd⟩ true) (hc : CT P n e ⟨some d, .call cl, ty, pos, af, gd⟩ f vs) (hs : SpecX P f vs.toArray Y A (fun v' A' N => v' = v ∧ A' = B ∧ N = [])) (hr : ∀ w, St F0 w0 (R0 :: R1 :: R2 :: R3 :: R4 :: R5 :: A :: Rs) w → Src F0 w0 (R0 :: R1 :: R2 :: R3 :: R4 :: R5 :: A :: Rs) w 6 Y) (hd : Nat.blt d n = true) (h : TL P n F0 w0 ops l ((d, v) :: e) (R0 :: R1 :: R2 :: R3 :: R4 :: R5 :: B :: Rs) Q) : TL P n F0 w0 ops (i :: l) e (R0 :: R1 :: R2 :: R3 :: R4 :: R5 :: A :: Rs) Q := by
  refine TL.ef ho hw (Ef.call 6 hc rfl hs hr hd) ?_
  rintro _ _ ⟨_, _, _, ⟨rfl, rfl, rfl⟩, rfl, rfl⟩
  exact h
theorem TD.c6 {R0 R1 R2 R3 R4 R5 : Res} {l : Sch} (ho : ops[i]? = some ⟨some d, .call cl, ty, pos, af, gd⟩) (hw : Wd n ops e ⟨some d, .call cl, ty, pos, af, gd⟩ true) (hc : CT P n e ⟨some d, .call cl, ty, pos, af, gd⟩ f vs) (hs : SpecX P f vs.toArray Y A (fun v' A' N => v' = v ∧ A' = B ∧ N = [])) (hr : ∀ w, St F0 w0 (R0 :: R1 :: R2 :: R3 :: R4 :: R5 :: A :: Rs) w → Src F0 w0 (R0 :: R1 :: R2 :: R3 :: R4 :: R5 :: A :: Rs) w 6 Y) (hd : Nat.blt d n = true) (is : List Nat) (hf : Sel (R0 :: R1 :: R2 :: R3 :: R4 :: R5 :: B :: Rs) is Rf) (h : TD P n F0 w0 ops l Rf ((d, v) :: e) (R0 :: R1 :: R2 :: R3 :: R4 :: R5 :: B :: Rs) Q) : TD P n F0 w0 ops (.e i l) Rf e (R0 :: R1 :: R2 :: R3 :: R4 :: R5 :: A :: Rs) Q := by
  refine TD.ef ho hw (Ef.call 6 hc rfl hs hr hd) ?_
  rintro _ _ ⟨_, _, _, ⟨rfl, rfl, rfl⟩, rfl, rfl⟩
  exact ⟨Rf, fun w hw => hw.sel is (hf), fun _ h => h, h⟩
theorem TL.st7 {cs cs' : Array Value} {R0 R1 R2 R3 R4 R5 R6 : Res} (ho : ops[i]? = some ⟨none, .store t x y, ty, pos, af, gd⟩) (hw : Wd n ops e ⟨none, .store t x y, ty, pos, af, gd⟩ true) (hx : e.ev x = some (.pointer (some ⟨b, o, none⟩))) (hy : e.ev y = some v) (hz : ∀ w, (sizeOf t).run P w = .ok z w) (hvz : Nat.beq v.cells.size z = true) (hf' : Nat.ble (o + v.cells.size) cs.size = true) (ho' : v.cells.toList.all (·.oneCell') = true) (hc : (cs.toList.take o ++ v.cells.toList ++ cs.toList.drop (o + v.cells.size)).toArray = cs') (h : TL P n F0 w0 ops l e (R0 :: R1 :: R2 :: R3 :: R4 :: R5 :: R6 :: BlkR b T cs' :: Rs) Q) : TL P n F0 w0 ops (i :: l) e (R0 :: R1 :: R2 :: R3 :: R4 :: R5 :: R6 :: BlkR b T cs :: Rs) Q := by
  refine TL.ef ho hw (Ef.st 7 hx hy hz rfl hvz hf' ho' hc) ?_
  rintro _ _ ⟨rfl, rfl⟩
  exact h
theorem TD.st7 {cs cs' : Array Value} {R0 R1 R2 R3 R4 R5 R6 : Res} {l : Sch} (ho : ops[i]? = some ⟨none, .store t x y, ty, pos, af, gd⟩) (hw : Wd n ops e ⟨none, .store t x y, ty, pos, af, gd⟩ true) (hx : e.ev x = some (.pointer (some ⟨b, o, none⟩))) (hy : e.ev y = some v) (hz : ∀ w, (sizeOf t).run P w = .ok z w) (hvz : Nat.beq v.cells.size z = true) (hf' : Nat.ble (o + v.cells.size) cs.size = true) (ho' : v.cells.toList.all (·.oneCell') = true) (hc : (cs.toList.take o ++ v.cells.toList ++ cs.toList.drop (o + v.cells.size)).toArray = cs') (is : List Nat) (hf : Sel (R0 :: R1 :: R2 :: R3 :: R4 :: R5 :: R6 :: BlkR b T cs' :: Rs) is Rf) (h : TD P n F0 w0 ops l Rf e (R0 :: R1 :: R2 :: R3 :: R4 :: R5 :: R6 :: BlkR b T cs' :: Rs) Q) : TD P n F0 w0 ops (.e i l) Rf e (R0 :: R1 :: R2 :: R3 :: R4 :: R5 :: R6 :: BlkR b T cs :: Rs) Q := by
  refine TD.ef ho hw (Ef.st 7 hx hy hz rfl hvz hf' ho' hc) ?_
  rintro _ _ ⟨rfl, rfl⟩
  exact ⟨Rf, fun w hw => hw.sel is (hf), fun _ h => h, h⟩
theorem TL.c7 {R0 R1 R2 R3 R4 R5 R6 : Res} (ho : ops[i]? = some ⟨some d, .call cl, ty, pos, af, gd⟩) (hw : Wd n ops e ⟨some d, .call cl, ty, pos, af, gd⟩ true) (hc : CT P n e ⟨some d, .call cl, ty, pos, af, gd⟩ f vs) (hs : SpecX P f vs.toArray Y A (fun v' A' N => v' = v ∧ A' = B ∧ N = [])) (hr : ∀ w, St F0 w0 (R0 :: R1 :: R2 :: R3 :: R4 :: R5 :: R6 :: A :: Rs) w → Src F0 w0 (R0 :: R1 :: R2 :: R3 :: R4 :: R5 :: R6 :: A :: Rs) w 7 Y) (hd : Nat.blt d n = true) (h : TL P n F0 w0 ops l ((d, v) :: e) (R0 :: R1 :: R2 :: R3 :: R4 :: R5 :: R6 :: B :: Rs) Q) : TL P n F0 w0 ops (i :: l) e (R0 :: R1 :: R2 :: R3 :: R4 :: R5 :: R6 :: A :: Rs) Q := by
  refine TL.ef ho hw (Ef.call 7 hc rfl hs hr hd) ?_
  rintro _ _ ⟨_, _, _, ⟨rfl, rfl, rfl⟩, rfl, rfl⟩
  exact h
theorem TD.c7 {R0 R1 R2 R3 R4 R5 R6 : Res} {l : Sch} (ho : ops[i]? = some ⟨some d, .call cl, ty, pos, af, gd⟩) (hw : Wd n ops e ⟨some d, .call cl, ty, pos, af, gd⟩ true) (hc : CT P n e ⟨some d, .call cl, ty, pos, af, gd⟩ f vs) (hs : SpecX P f vs.toArray Y A (fun v' A' N => v' = v ∧ A' = B ∧ N = [])) (hr : ∀ w, St F0 w0 (R0 :: R1 :: R2 :: R3 :: R4 :: R5 :: R6 :: A :: Rs) w → Src F0 w0 (R0 :: R1 :: R2 :: R3 :: R4 :: R5 :: R6 :: A :: Rs) w 7 Y) (hd : Nat.blt d n = true) (is : List Nat) (hf : Sel (R0 :: R1 :: R2 :: R3 :: R4 :: R5 :: R6 :: B :: Rs) is Rf) (h : TD P n F0 w0 ops l Rf ((d, v) :: e) (R0 :: R1 :: R2 :: R3 :: R4 :: R5 :: R6 :: B :: Rs) Q) : TD P n F0 w0 ops (.e i l) Rf e (R0 :: R1 :: R2 :: R3 :: R4 :: R5 :: R6 :: A :: Rs) Q := by
  refine TD.ef ho hw (Ef.call 7 hc rfl hs hr hd) ?_
  rintro _ _ ⟨_, _, _, ⟨rfl, rfl, rfl⟩, rfl, rfl⟩
  exact ⟨Rf, fun w hw => hw.sel is (hf), fun _ h => h, h⟩
theorem TL.st8 {cs cs' : Array Value} {R0 R1 R2 R3 R4 R5 R6 R7 : Res} (ho : ops[i]? = some ⟨none, .store t x y, ty, pos, af, gd⟩) (hw : Wd n ops e ⟨none, .store t x y, ty, pos, af, gd⟩ true) (hx : e.ev x = some (.pointer (some ⟨b, o, none⟩))) (hy : e.ev y = some v) (hz : ∀ w, (sizeOf t).run P w = .ok z w) (hvz : Nat.beq v.cells.size z = true) (hf' : Nat.ble (o + v.cells.size) cs.size = true) (ho' : v.cells.toList.all (·.oneCell') = true) (hc : (cs.toList.take o ++ v.cells.toList ++ cs.toList.drop (o + v.cells.size)).toArray = cs') (h : TL P n F0 w0 ops l e (R0 :: R1 :: R2 :: R3 :: R4 :: R5 :: R6 :: R7 :: BlkR b T cs' :: Rs) Q) : TL P n F0 w0 ops (i :: l) e (R0 :: R1 :: R2 :: R3 :: R4 :: R5 :: R6 :: R7 :: BlkR b T cs :: Rs) Q := by
  refine TL.ef ho hw (Ef.st 8 hx hy hz rfl hvz hf' ho' hc) ?_
  rintro _ _ ⟨rfl, rfl⟩
  exact h
theorem TD.st8 {cs cs' : Array Value} {R0 R1 R2 R3 R4 R5 R6 R7 : Res} {l : Sch} (ho : ops[i]? = some ⟨none, .store t x y, ty, pos, af, gd⟩) (hw : Wd n ops e ⟨none, .store t x y, ty, pos, af, gd⟩ true) (hx : e.ev x = some (.pointer (some ⟨b, o, none⟩))) (hy : e.ev y = some v) (hz : ∀ w, (sizeOf t).run P w = .ok z w) (hvz : Nat.beq v.cells.size z = true) (hf' : Nat.ble (o + v.cells.size) cs.size = true) (ho' : v.cells.toList.all (·.oneCell') = true) (hc : (cs.toList.take o ++ v.cells.toList ++ cs.toList.drop (o + v.cells.size)).toArray = cs') (is : List Nat) (hf : Sel (R0 :: R1 :: R2 :: R3 :: R4 :: R5 :: R6 :: R7 :: BlkR b T cs' :: Rs) is Rf) (h : TD P n F0 w0 ops l Rf e (R0 :: R1 :: R2 :: R3 :: R4 :: R5 :: R6 :: R7 :: BlkR b T cs' :: Rs) Q) : TD P n F0 w0 ops (.e i l) Rf e (R0 :: R1 :: R2 :: R3 :: R4 :: R5 :: R6 :: R7 :: BlkR b T cs :: Rs) Q := by
  refine TD.ef ho hw (Ef.st 8 hx hy hz rfl hvz hf' ho' hc) ?_
  rintro _ _ ⟨rfl, rfl⟩
  exact ⟨Rf, fun w hw => hw.sel is (hf), fun _ h => h, h⟩
theorem TL.c8 {R0 R1 R2 R3 R4 R5 R6 R7 : Res} (ho : ops[i]? = some ⟨some d, .call cl, ty, pos, af, gd⟩) (hw : Wd n ops e ⟨some d, .call cl, ty, pos, af, gd⟩ true) (hc : CT P n e ⟨some d, .call cl, ty, pos, af, gd⟩ f vs) (hs : SpecX P f vs.toArray Y A (fun v' A' N => v' = v ∧ A' = B ∧ N = [])) (hr : ∀ w, St F0 w0 (R0 :: R1 :: R2 :: R3 :: R4 :: R5 :: R6 :: R7 :: A :: Rs) w → Src F0 w0 (R0 :: R1 :: R2 :: R3 :: R4 :: R5 :: R6 :: R7 :: A :: Rs) w 8 Y) (hd : Nat.blt d n = true) (h : TL P n F0 w0 ops l ((d, v) :: e) (R0 :: R1 :: R2 :: R3 :: R4 :: R5 :: R6 :: R7 :: B :: Rs) Q) : TL P n F0 w0 ops (i :: l) e (R0 :: R1 :: R2 :: R3 :: R4 :: R5 :: R6 :: R7 :: A :: Rs) Q := by
  refine TL.ef ho hw (Ef.call 8 hc rfl hs hr hd) ?_
  rintro _ _ ⟨_, _, _, ⟨rfl, rfl, rfl⟩, rfl, rfl⟩
  exact h
theorem TD.c8 {R0 R1 R2 R3 R4 R5 R6 R7 : Res} {l : Sch} (ho : ops[i]? = some ⟨some d, .call cl, ty, pos, af, gd⟩) (hw : Wd n ops e ⟨some d, .call cl, ty, pos, af, gd⟩ true) (hc : CT P n e ⟨some d, .call cl, ty, pos, af, gd⟩ f vs) (hs : SpecX P f vs.toArray Y A (fun v' A' N => v' = v ∧ A' = B ∧ N = [])) (hr : ∀ w, St F0 w0 (R0 :: R1 :: R2 :: R3 :: R4 :: R5 :: R6 :: R7 :: A :: Rs) w → Src F0 w0 (R0 :: R1 :: R2 :: R3 :: R4 :: R5 :: R6 :: R7 :: A :: Rs) w 8 Y) (hd : Nat.blt d n = true) (is : List Nat) (hf : Sel (R0 :: R1 :: R2 :: R3 :: R4 :: R5 :: R6 :: R7 :: B :: Rs) is Rf) (h : TD P n F0 w0 ops l Rf ((d, v) :: e) (R0 :: R1 :: R2 :: R3 :: R4 :: R5 :: R6 :: R7 :: B :: Rs) Q) : TD P n F0 w0 ops (.e i l) Rf e (R0 :: R1 :: R2 :: R3 :: R4 :: R5 :: R6 :: R7 :: A :: Rs) Q := by
  refine TD.ef ho hw (Ef.call 8 hc rfl hs hr hd) ?_
  rintro _ _ ⟨_, _, _, ⟨rfl, rfl, rfl⟩, rfl, rfl⟩
  exact ⟨Rf, fun w hw => hw.sel is (hf), fun _ h => h, h⟩
theorem TL.st9 {cs cs' : Array Value} {R0 R1 R2 R3 R4 R5 R6 R7 R8 : Res} (ho : ops[i]? = some ⟨none, .store t x y, ty, pos, af, gd⟩) (hw : Wd n ops e ⟨none, .store t x y, ty, pos, af, gd⟩ true) (hx : e.ev x = some (.pointer (some ⟨b, o, none⟩))) (hy : e.ev y = some v) (hz : ∀ w, (sizeOf t).run P w = .ok z w) (hvz : Nat.beq v.cells.size z = true) (hf' : Nat.ble (o + v.cells.size) cs.size = true) (ho' : v.cells.toList.all (·.oneCell') = true) (hc : (cs.toList.take o ++ v.cells.toList ++ cs.toList.drop (o + v.cells.size)).toArray = cs') (h : TL P n F0 w0 ops l e (R0 :: R1 :: R2 :: R3 :: R4 :: R5 :: R6 :: R7 :: R8 :: BlkR b T cs' :: Rs) Q) : TL P n F0 w0 ops (i :: l) e (R0 :: R1 :: R2 :: R3 :: R4 :: R5 :: R6 :: R7 :: R8 :: BlkR b T cs :: Rs) Q := by
  refine TL.ef ho hw (Ef.st 9 hx hy hz rfl hvz hf' ho' hc) ?_
  rintro _ _ ⟨rfl, rfl⟩
  exact h
theorem TD.st9 {cs cs' : Array Value} {R0 R1 R2 R3 R4 R5 R6 R7 R8 : Res} {l : Sch} (ho : ops[i]? = some ⟨none, .store t x y, ty, pos, af, gd⟩) (hw : Wd n ops e ⟨none, .store t x y, ty, pos, af, gd⟩ true) (hx : e.ev x = some (.pointer (some ⟨b, o, none⟩))) (hy : e.ev y = some v) (hz : ∀ w, (sizeOf t).run P w = .ok z w) (hvz : Nat.beq v.cells.size z = true) (hf' : Nat.ble (o + v.cells.size) cs.size = true) (ho' : v.cells.toList.all (·.oneCell') = true) (hc : (cs.toList.take o ++ v.cells.toList ++ cs.toList.drop (o + v.cells.size)).toArray = cs') (is : List Nat) (hf : Sel (R0 :: R1 :: R2 :: R3 :: R4 :: R5 :: R6 :: R7 :: R8 :: BlkR b T cs' :: Rs) is Rf) (h : TD P n F0 w0 ops l Rf e (R0 :: R1 :: R2 :: R3 :: R4 :: R5 :: R6 :: R7 :: R8 :: BlkR b T cs' :: Rs) Q) : TD P n F0 w0 ops (.e i l) Rf e (R0 :: R1 :: R2 :: R3 :: R4 :: R5 :: R6 :: R7 :: R8 :: BlkR b T cs :: Rs) Q := by
  refine TD.ef ho hw (Ef.st 9 hx hy hz rfl hvz hf' ho' hc) ?_
  rintro _ _ ⟨rfl, rfl⟩
  exact ⟨Rf, fun w hw => hw.sel is (hf), fun _ h => h, h⟩
theorem TL.c9 {R0 R1 R2 R3 R4 R5 R6 R7 R8 : Res} (ho : ops[i]? = some ⟨some d, .call cl, ty, pos, af, gd⟩) (hw : Wd n ops e ⟨some d, .call cl, ty, pos, af, gd⟩ true) (hc : CT P n e ⟨some d, .call cl, ty, pos, af, gd⟩ f vs) (hs : SpecX P f vs.toArray Y A (fun v' A' N => v' = v ∧ A' = B ∧ N = [])) (hr : ∀ w, St F0 w0 (R0 :: R1 :: R2 :: R3 :: R4 :: R5 :: R6 :: R7 :: R8 :: A :: Rs) w → Src F0 w0 (R0 :: R1 :: R2 :: R3 :: R4 :: R5 :: R6 :: R7 :: R8 :: A :: Rs) w 9 Y) (hd : Nat.blt d n = true) (h : TL P n F0 w0 ops l ((d, v) :: e) (R0 :: R1 :: R2 :: R3 :: R4 :: R5 :: R6 :: R7 :: R8 :: B :: Rs) Q) : TL P n F0 w0 ops (i :: l) e (R0 :: R1 :: R2 :: R3 :: R4 :: R5 :: R6 :: R7 :: R8 :: A :: Rs) Q := by
  refine TL.ef ho hw (Ef.call 9 hc rfl hs hr hd) ?_
  rintro _ _ ⟨_, _, _, ⟨rfl, rfl, rfl⟩, rfl, rfl⟩
  exact h
theorem TD.c9 {R0 R1 R2 R3 R4 R5 R6 R7 R8 : Res} {l : Sch} (ho : ops[i]? = some ⟨some d, .call cl, ty, pos, af, gd⟩) (hw : Wd n ops e ⟨some d, .call cl, ty, pos, af, gd⟩ true) (hc : CT P n e ⟨some d, .call cl, ty, pos, af, gd⟩ f vs) (hs : SpecX P f vs.toArray Y A (fun v' A' N => v' = v ∧ A' = B ∧ N = [])) (hr : ∀ w, St F0 w0 (R0 :: R1 :: R2 :: R3 :: R4 :: R5 :: R6 :: R7 :: R8 :: A :: Rs) w → Src F0 w0 (R0 :: R1 :: R2 :: R3 :: R4 :: R5 :: R6 :: R7 :: R8 :: A :: Rs) w 9 Y) (hd : Nat.blt d n = true) (is : List Nat) (hf : Sel (R0 :: R1 :: R2 :: R3 :: R4 :: R5 :: R6 :: R7 :: R8 :: B :: Rs) is Rf) (h : TD P n F0 w0 ops l Rf ((d, v) :: e) (R0 :: R1 :: R2 :: R3 :: R4 :: R5 :: R6 :: R7 :: R8 :: B :: Rs) Q) : TD P n F0 w0 ops (.e i l) Rf e (R0 :: R1 :: R2 :: R3 :: R4 :: R5 :: R6 :: R7 :: R8 :: A :: Rs) Q := by
  refine TD.ef ho hw (Ef.call 9 hc rfl hs hr hd) ?_
  rintro _ _ ⟨_, _, _, ⟨rfl, rfl, rfl⟩, rfl, rfl⟩
  exact ⟨Rf, fun w hw => hw.sel is (hf), fun _ h => h, h⟩
theorem TL.st10 {cs cs' : Array Value} {R0 R1 R2 R3 R4 R5 R6 R7 R8 R9 : Res} (ho : ops[i]? = some ⟨none, .store t x y, ty, pos, af, gd⟩) (hw : Wd n ops e ⟨none, .store t x y, ty, pos, af, gd⟩ true) (hx : e.ev x = some (.pointer (some ⟨b, o, none⟩))) (hy : e.ev y = some v) (hz : ∀ w, (sizeOf t).run P w = .ok z w) (hvz : Nat.beq v.cells.size z = true) (hf' : Nat.ble (o + v.cells.size) cs.size = true) (ho' : v.cells.toList.all (·.oneCell') = true) (hc : (cs.toList.take o ++ v.cells.toList ++ cs.toList.drop (o + v.cells.size)).toArray = cs') (h : TL P n F0 w0 ops l e (R0 :: R1 :: R2 :: R3 :: R4 :: R5 :: R6 :: R7 :: R8 :: R9 :: BlkR b T cs' :: Rs) Q) : TL P n F0 w0 ops (i :: l) e (R0 :: R1 :: R2 :: R3 :: R4 :: R5 :: R6 :: R7 :: R8 :: R9 :: BlkR b T cs :: Rs) Q := by
  refine TL.ef ho hw (Ef.st 10 hx hy hz rfl hvz hf' ho' hc) ?_
  rintro _ _ ⟨rfl, rfl⟩
  exact h
theorem TD.st10 {cs cs' : Array Value} {R0 R1 R2 R3 R4 R5 R6 R7 R8 R9 : Res} {l : Sch} (ho : ops[i]? = some ⟨none, .store t x y, ty, pos, af, gd⟩) (hw : Wd n ops e ⟨none, .store t x y, ty, pos, af, gd⟩ true) (hx : e.ev x = some (.pointer (some ⟨b, o, none⟩))) (hy : e.ev y = some v) (hz : ∀ w, (sizeOf t).run P w = .ok z w) (hvz : Nat.beq v.cells.size z = true) (hf' : Nat.ble (o + v.cells.size) cs.size = true) (ho' : v.cells.toList.all (·.oneCell') = true) (hc : (cs.toList.take o ++ v.cells.toList ++ cs.toList.drop (o + v.cells.size)).toArray = cs') (is : List Nat) (hf : Sel (R0 :: R1 :: R2 :: R3 :: R4 :: R5 :: R6 :: R7 :: R8 :: R9 :: BlkR b T cs' :: Rs) is Rf) (h : TD P n F0 w0 ops l Rf e (R0 :: R1 :: R2 :: R3 :: R4 :: R5 :: R6 :: R7 :: R8 :: R9 :: BlkR b T cs' :: Rs) Q) : TD P n F0 w0 ops (.e i l) Rf e (R0 :: R1 :: R2 :: R3 :: R4 :: R5 :: R6 :: R7 :: R8 :: R9 :: BlkR b T cs :: Rs) Q := by
  refine TD.ef ho hw (Ef.st 10 hx hy hz rfl hvz hf' ho' hc) ?_
  rintro _ _ ⟨rfl, rfl⟩
  exact ⟨Rf, fun w hw => hw.sel is (hf), fun _ h => h, h⟩
theorem TL.c10 {R0 R1 R2 R3 R4 R5 R6 R7 R8 R9 : Res} (ho : ops[i]? = some ⟨some d, .call cl, ty, pos, af, gd⟩) (hw : Wd n ops e ⟨some d, .call cl, ty, pos, af, gd⟩ true) (hc : CT P n e ⟨some d, .call cl, ty, pos, af, gd⟩ f vs) (hs : SpecX P f vs.toArray Y A (fun v' A' N => v' = v ∧ A' = B ∧ N = [])) (hr : ∀ w, St F0 w0 (R0 :: R1 :: R2 :: R3 :: R4 :: R5 :: R6 :: R7 :: R8 :: R9 :: A :: Rs) w → Src F0 w0 (R0 :: R1 :: R2 :: R3 :: R4 :: R5 :: R6 :: R7 :: R8 :: R9 :: A :: Rs) w 10 Y) (hd : Nat.blt d n = true) (h : TL P n F0 w0 ops l ((d, v) :: e) (R0 :: R1 :: R2 :: R3 :: R4 :: R5 :: R6 :: R7 :: R8 :: R9 :: B :: Rs) Q) : TL P n F0 w0 ops (i :: l) e (R0 :: R1 :: R2 :: R3 :: R4 :: R5 :: R6 :: R7 :: R8 :: R9 :: A :: Rs) Q := by
  refine TL.ef ho hw (Ef.call 10 hc rfl hs hr hd) ?_
  rintro _ _ ⟨_, _, _, ⟨rfl, rfl, rfl⟩, rfl, rfl⟩
  exact h
theorem TD.c10 {R0 R1 R2 R3 R4 R5 R6 R7 R8 R9 : Res} {l : Sch} (ho : ops[i]? = some ⟨some d, .call cl, ty, pos, af, gd⟩) (hw : Wd n ops e ⟨some d, .call cl, ty, pos, af, gd⟩ true) (hc : CT P n e ⟨some d, .call cl, ty, pos, af, gd⟩ f vs) (hs : SpecX P f vs.toArray Y A (fun v' A' N => v' = v ∧ A' = B ∧ N = [])) (hr : ∀ w, St F0 w0 (R0 :: R1 :: R2 :: R3 :: R4 :: R5 :: R6 :: R7 :: R8 :: R9 :: A :: Rs) w → Src F0 w0 (R0 :: R1 :: R2 :: R3 :: R4 :: R5 :: R6 :: R7 :: R8 :: R9 :: A :: Rs) w 10 Y) (hd : Nat.blt d n = true) (is : List Nat) (hf : Sel (R0 :: R1 :: R2 :: R3 :: R4 :: R5 :: R6 :: R7 :: R8 :: R9 :: B :: Rs) is Rf) (h : TD P n F0 w0 ops l Rf ((d, v) :: e) (R0 :: R1 :: R2 :: R3 :: R4 :: R5 :: R6 :: R7 :: R8 :: R9 :: B :: Rs) Q) : TD P n F0 w0 ops (.e i l) Rf e (R0 :: R1 :: R2 :: R3 :: R4 :: R5 :: R6 :: R7 :: R8 :: R9 :: A :: Rs) Q := by
  refine TD.ef ho hw (Ef.call 10 hc rfl hs hr hd) ?_
  rintro _ _ ⟨_, _, _, ⟨rfl, rfl, rfl⟩, rfl, rfl⟩
  exact ⟨Rf, fun w hw => hw.sel is (hf), fun _ h => h, h⟩
theorem TL.st11 {cs cs' : Array Value} {R0 R1 R2 R3 R4 R5 R6 R7 R8 R9 R10 : Res} (ho : ops[i]? = some ⟨none, .store t x y, ty, pos, af, gd⟩) (hw : Wd n ops e ⟨none, .store t x y, ty, pos, af, gd⟩ true) (hx : e.ev x = some (.pointer (some ⟨b, o, none⟩))) (hy : e.ev y = some v) (hz : ∀ w, (sizeOf t).run P w = .ok z w) (hvz : Nat.beq v.cells.size z = true) (hf' : Nat.ble (o + v.cells.size) cs.size = true) (ho' : v.cells.toList.all (·.oneCell') = true) (hc : (cs.toList.take o ++ v.cells.toList ++ cs.toList.drop (o + v.cells.size)).toArray = cs') (h : TL P n F0 w0 ops l e (R0 :: R1 :: R2 :: R3 :: R4 :: R5 :: R6 :: R7 :: R8 :: R9 :: R10 :: BlkR b T cs' :: Rs) Q) : TL P n F0 w0 ops (i :: l) e (R0 :: R1 :: R2 :: R3 :: R4 :: R5 :: R6 :: R7 :: R8 :: R9 :: R10 :: BlkR b T cs :: Rs) Q := by
  refine TL.ef ho hw (Ef.st 11 hx hy hz rfl hvz hf' ho' hc) ?_
  rintro _ _ ⟨rfl, rfl⟩
  exact h
theorem TD.st11 {cs cs' : Array Value} {R0 R1 R2 R3 R4 R5 R6 R7 R8 R9 R10 : Res} {l : Sch} (ho : ops[i]? = some ⟨none, .store t x y, ty, pos, af, gd⟩) (hw : Wd n ops e ⟨none, .store t x y, ty, pos, af, gd⟩ true) (hx : e.ev x = some (.pointer (some ⟨b, o, none⟩))) (hy : e.ev y = some v) (hz : ∀ w, (sizeOf t).run P w = .ok z w) (hvz : Nat.beq v.cells.size z = true) (hf' : Nat.ble (o + v.cells.size) cs.size = true) (ho' : v.cells.toList.all (·.oneCell') = true) (hc : (cs.toList.take o ++ v.cells.toList ++ cs.toList.drop (o + v.cells.size)).toArray = cs') (is : List Nat) (hf : Sel (R0 :: R1 :: R2 :: R3 :: R4 :: R5 :: R6 :: R7 :: R8 :: R9 :: R10 :: BlkR b T cs' :: Rs) is Rf) (h : TD P n F0 w0 ops l Rf e (R0 :: R1 :: R2 :: R3 :: R4 :: R5 :: R6 :: R7 :: R8 :: R9 :: R10 :: BlkR b T cs' :: Rs) Q) : TD P n F0 w0 ops (.e i l) Rf e (R0 :: R1 :: R2 :: R3 :: R4 :: R5 :: R6 :: R7 :: R8 :: R9 :: R10 :: BlkR b T cs :: Rs) Q := by
  refine TD.ef ho hw (Ef.st 11 hx hy hz rfl hvz hf' ho' hc) ?_
  rintro _ _ ⟨rfl, rfl⟩
  exact ⟨Rf, fun w hw => hw.sel is (hf), fun _ h => h, h⟩
theorem TL.c11 {R0 R1 R2 R3 R4 R5 R6 R7 R8 R9 R10 : Res} (ho : ops[i]? = some ⟨some d, .call cl, ty, pos, af, gd⟩) (hw : Wd n ops e ⟨some d, .call cl, ty, pos, af, gd⟩ true) (hc : CT P n e ⟨some d, .call cl, ty, pos, af, gd⟩ f vs) (hs : SpecX P f vs.toArray Y A (fun v' A' N => v' = v ∧ A' = B ∧ N = [])) (hr : ∀ w, St F0 w0 (R0 :: R1 :: R2 :: R3 :: R4 :: R5 :: R6 :: R7 :: R8 :: R9 :: R10 :: A :: Rs) w → Src F0 w0 (R0 :: R1 :: R2 :: R3 :: R4 :: R5 :: R6 :: R7 :: R8 :: R9 :: R10 :: A :: Rs) w 11 Y) (hd : Nat.blt d n = true) (h : TL P n F0 w0 ops l ((d, v) :: e) (R0 :: R1 :: R2 :: R3 :: R4 :: R5 :: R6 :: R7 :: R8 :: R9 :: R10 :: B :: Rs) Q) : TL P n F0 w0 ops (i :: l) e (R0 :: R1 :: R2 :: R3 :: R4 :: R5 :: R6 :: R7 :: R8 :: R9 :: R10 :: A :: Rs) Q := by
  refine TL.ef ho hw (Ef.call 11 hc rfl hs hr hd) ?_
  rintro _ _ ⟨_, _, _, ⟨rfl, rfl, rfl⟩, rfl, rfl⟩
  exact h
theorem TD.c11 {R0 R1 R2 R3 R4 R5 R6 R7 R8 R9 R10 : Res} {l : Sch} (ho : ops[i]? = some ⟨some d, .call cl, ty, pos, af, gd⟩) (hw : Wd n ops e ⟨some d, .call cl, ty, pos, af, gd⟩ true) (hc : CT P n e ⟨some d, .call cl, ty, pos, af, gd⟩ f vs) (hs : SpecX P f vs.toArray Y A (fun v' A' N => v' = v ∧ A' = B ∧ N = [])) (hr : ∀ w, St F0 w0 (R0 :: R1 :: R2 :: R3 :: R4 :: R5 :: R6 :: R7 :: R8 :: R9 :: R10 :: A :: Rs) w → Src F0 w0 (R0 :: R1 :: R2 :: R3 :: R4 :: R5 :: R6 :: R7 :: R8 :: R9 :: R10 :: A :: Rs) w 11 Y) (hd : Nat.blt d n = true) (is : List Nat) (hf : Sel (R0 :: R1 :: R2 :: R3 :: R4 :: R5 :: R6 :: R7 :: R8 :: R9 :: R10 :: B :: Rs) is Rf) (h : TD P n F0 w0 ops l Rf ((d, v) :: e) (R0 :: R1 :: R2 :: R3 :: R4 :: R5 :: R6 :: R7 :: R8 :: R9 :: R10 :: B :: Rs) Q) : TD P n F0 w0 ops (.e i l) Rf e (R0 :: R1 :: R2 :: R3 :: R4 :: R5 :: R6 :: R7 :: R8 :: R9 :: R10 :: A :: Rs) Q := by
  refine TD.ef ho hw (Ef.call 11 hc rfl hs hr hd) ?_
  rintro _ _ ⟨_, _, _, ⟨rfl, rfl, rfl⟩, rfl, rfl⟩
  exact ⟨Rf, fun w hw => hw.sel is (hf), fun _ h => h, h⟩
theorem TL.st12 {cs cs' : Array Value} {R0 R1 R2 R3 R4 R5 R6 R7 R8 R9 R10 R11 : Res} (ho : ops[i]? = some ⟨none, .store t x y, ty, pos, af, gd⟩) (hw : Wd n ops e ⟨none, .store t x y, ty, pos, af, gd⟩ true) (hx : e.ev x = some (.pointer (some ⟨b, o, none⟩))) (hy : e.ev y = some v) (hz : ∀ w, (sizeOf t).run P w = .ok z w) (hvz : Nat.beq v.cells.size z = true) (hf' : Nat.ble (o + v.cells.size) cs.size = true) (ho' : v.cells.toList.all (·.oneCell') = true) (hc : (cs.toList.take o ++ v.cells.toList ++ cs.toList.drop (o + v.cells.size)).toArray = cs') (h : TL P n F0 w0 ops l e (R0 :: R1 :: R2 :: R3 :: R4 :: R5 :: R6 :: R7 :: R8 :: R9 :: R10 :: R11 :: BlkR b T cs' :: Rs) Q) : TL P n F0 w0 ops (i :: l) e (R0 :: R1 :: R2 :: R3 :: R4 :: R5 :: R6 :: R7 :: R8 :: R9 :: R10 :: R11 :: BlkR b T cs :: Rs) Q := by
  refine TL.ef ho hw (Ef.st 12 hx hy hz rfl hvz hf' ho' hc) ?_
  rintro _ _ ⟨rfl, rfl⟩
  exact h
theorem TD.st12 {cs cs' : Array Value} {R0 R1 R2 R3 R4 R5 R6 R7 R8 R9 R10 R11 : Res} {l : Sch} (ho : ops[i]? = some ⟨none, .store t x y, ty, pos, af, gd⟩) (hw : Wd n ops e ⟨none, .store t x y, ty, pos, af, gd⟩ true) (hx : e.ev x = some (.pointer (some ⟨b, o, none⟩))) (hy : e.ev y = some v) (hz : ∀ w, (sizeOf t).run P w = .ok z w) (hvz : Nat.beq v.cells.size z = true) (hf' : Nat.ble (o + v.cells.size) cs.size = true) (ho' : v.cells.toList.all (·.oneCell') = true) (hc : (cs.toList.take o ++ v.cells.toList ++ cs.toList.drop (o + v.cells.size)).toArray = cs') (is : List Nat) (hf : Sel (R0 :: R1 :: R2 :: R3 :: R4 :: R5 :: R6 :: R7 :: R8 :: R9 :: R10 :: R11 :: BlkR b T cs' :: Rs) is Rf) (h : TD P n F0 w0 ops l Rf e (R0 :: R1 :: R2 :: R3 :: R4 :: R5 :: R6 :: R7 :: R8 :: R9 :: R10 :: R11 :: BlkR b T cs' :: Rs) Q) : TD P n F0 w0 ops (.e i l) Rf e (R0 :: R1 :: R2 :: R3 :: R4 :: R5 :: R6 :: R7 :: R8 :: R9 :: R10 :: R11 :: BlkR b T cs :: Rs) Q := by
  refine TD.ef ho hw (Ef.st 12 hx hy hz rfl hvz hf' ho' hc) ?_
  rintro _ _ ⟨rfl, rfl⟩
  exact ⟨Rf, fun w hw => hw.sel is (hf), fun _ h => h, h⟩
theorem TL.c12 {R0 R1 R2 R3 R4 R5 R6 R7 R8 R9 R10 R11 : Res} (ho : ops[i]? = some ⟨some d, .call cl, ty, pos, af, gd⟩) (hw : Wd n ops e ⟨some d, .call cl, ty, pos, af, gd⟩ true) (hc : CT P n e ⟨some d, .call cl, ty, pos, af, gd⟩ f vs) (hs : SpecX P f vs.toArray Y A (fun v' A' N => v' = v ∧ A' = B ∧ N = [])) (hr : ∀ w, St F0 w0 (R0 :: R1 :: R2 :: R3 :: R4 :: R5 :: R6 :: R7 :: R8 :: R9 :: R10 :: R11 :: A :: Rs) w → Src F0 w0 (R0 :: R1 :: R2 :: R3 :: R4 :: R5 :: R6 :: R7 :: R8 :: R9 :: R10 :: R11 :: A :: Rs) w 12 Y) (hd : Nat.blt d n = true) (h : TL P n F0 w0 ops l ((d, v) :: e) (R0 :: R1 :: R2 :: R3 :: R4 :: R5 :: R6 :: R7 :: R8 :: R9 :: R10 :: R11 :: B :: Rs) Q) : TL P n F0 w0 ops (i :: l) e (R0 :: R1 :: R2 :: R3 :: R4 :: R5 :: R6 :: R7 :: R8 :: R9 :: R10 :: R11 :: A :: Rs) Q := by
  refine TL.ef ho hw (Ef.call 12 hc rfl hs hr hd) ?_
  rintro _ _ ⟨_, _, _, ⟨rfl, rfl, rfl⟩, rfl, rfl⟩
  exact h
theorem TD.c12 {R0 R1 R2 R3 R4 R5 R6 R7 R8 R9 R10 R11 : Res} {l : Sch} (ho : ops[i]? = some ⟨some d, .call cl, ty, pos, af, gd⟩) (hw : Wd n ops e ⟨some d, .call cl, ty, pos, af, gd⟩ true) (hc : CT P n e ⟨some d, .call cl, ty, pos, af, gd⟩ f vs) (hs : SpecX P f vs.toArray Y A (fun v' A' N => v' = v ∧ A' = B ∧ N = [])) (hr : ∀ w, St F0 w0 (R0 :: R1 :: R2 :: R3 :: R4 :: R5 :: R6 :: R7 :: R8 :: R9 :: R10 :: R11 :: A :: Rs) w → Src F0 w0 (R0 :: R1 :: R2 :: R3 :: R4 :: R5 :: R6 :: R7 :: R8 :: R9 :: R10 :: R11 :: A :: Rs) w 12 Y) (hd : Nat.blt d n = true) (is : List Nat) (hf : Sel (R0 :: R1 :: R2 :: R3 :: R4 :: R5 :: R6 :: R7 :: R8 :: R9 :: R10 :: R11 :: B :: Rs) is Rf) (h : TD P n F0 w0 ops l Rf ((d, v) :: e) (R0 :: R1 :: R2 :: R3 :: R4 :: R5 :: R6 :: R7 :: R8 :: R9 :: R10 :: R11 :: B :: Rs) Q) : TD P n F0 w0 ops (.e i l) Rf e (R0 :: R1 :: R2 :: R3 :: R4 :: R5 :: R6 :: R7 :: R8 :: R9 :: R10 :: R11 :: A :: Rs) Q := by
  refine TD.ef ho hw (Ef.call 12 hc rfl hs hr hd) ?_
  rintro _ _ ⟨_, _, _, ⟨rfl, rfl, rfl⟩, rfl, rfl⟩
  exact ⟨Rf, fun w hw => hw.sel is (hf), fun _ h => h, h⟩
theorem TL.st13 {cs cs' : Array Value} {R0 R1 R2 R3 R4 R5 R6 R7 R8 R9 R10 R11 R12 : Res} (ho : ops[i]? = some ⟨none, .store t x y, ty, pos, af, gd⟩) (hw : Wd n ops e ⟨none, .store t x y, ty, pos, af, gd⟩ true) (hx : e.ev x = some (.pointer (some ⟨b, o, none⟩))) (hy : e.ev y = some v) (hz : ∀ w, (sizeOf t).run P w = .ok z w) (hvz : Nat.beq v.cells.size z = true) (hf' : Nat.ble (o + v.cells.size) cs.size = true) (ho' : v.cells.toList.all (·.oneCell') = true) (hc : (cs.toList.take o ++ v.cells.toList ++ cs.toList.drop (o + v.cells.size)).toArray = cs') (h : TL P n F0 w0 ops l e (R0 :: R1 :: R2 :: R3 :: R4 :: R5 :: R6 :: R7 :: R8 :: R9 :: R10 :: R11 :: R12 :: BlkR b T cs' :: Rs) Q) : TL P n F0 w0 ops (i :: l) e (R0 :: R1 :: R2 :: R3 :: R4 :: R5 :: R6 :: R7 :: R8 :: R9 :: R10 :: R11 :: R12 :: BlkR b T cs :: Rs) Q := by
  refine TL.ef ho hw (Ef.st 13 hx hy hz rfl hvz hf' ho' hc) ?_
  rintro _ _ ⟨rfl, rfl⟩
  exact h
theorem TD.st13 {cs cs' : Array Value} {R0 R1 R2 R3 R4 R5 R6 R7 R8 R9 R10 R11 R12 : Res} {l : Sch} (ho : ops[i]? = some ⟨none, .store t x y, ty, pos, af, gd⟩) (hw : Wd n ops e ⟨none, .store t x y, ty, pos, af, gd⟩ true) (hx : e.ev x = some (.pointer (some ⟨b, o, none⟩))) (hy : e.ev y = some v) (hz : ∀ w, (sizeOf t).run P w = .ok z w) (hvz : Nat.beq v.cells.size z = true) (hf' : Nat.ble (o + v.cells.size) cs.size = true) (ho' : v.cells.toList.all (·.oneCell') = true) (hc : (cs.toList.take o ++ v.cells.toList ++ cs.toList.drop (o + v.cells.size)).toArray = cs') (is : List Nat) (hf : Sel (R0 :: R1 :: R2 :: R3 :: R4 :: R5 :: R6 :: R7 :: R8 :: R9 :: R10 :: R11 :: R12 :: BlkR b T cs' :: Rs) is Rf) (h : TD P n F0 w0 ops l Rf e (R0 :: R1 :: R2 :: R3 :: R4 :: R5 :: R6 :: R7 :: R8 :: R9 :: R10 :: R11 :: R12 :: BlkR b T cs' :: Rs) Q) : TD P n F0 w0 ops (.e i l) Rf e (R0 :: R1 :: R2 :: R3 :: R4 :: R5 :: R6 :: R7 :: R8 :: R9 :: R10 :: R11 :: R12 :: BlkR b T cs :: Rs) Q := by
  refine TD.ef ho hw (Ef.st 13 hx hy hz rfl hvz hf' ho' hc) ?_
  rintro _ _ ⟨rfl, rfl⟩
  exact ⟨Rf, fun w hw => hw.sel is (hf), fun _ h => h, h⟩
theorem TL.c13 {R0 R1 R2 R3 R4 R5 R6 R7 R8 R9 R10 R11 R12 : Res} (ho : ops[i]? = some ⟨some d, .call cl, ty, pos, af, gd⟩) (hw : Wd n ops e ⟨some d, .call cl, ty, pos, af, gd⟩ true) (hc : CT P n e ⟨some d, .call cl, ty, pos, af, gd⟩ f vs) (hs : SpecX P f vs.toArray Y A (fun v' A' N => v' = v ∧ A' = B ∧ N = [])) (hr : ∀ w, St F0 w0 (R0 :: R1 :: R2 :: R3 :: R4 :: R5 :: R6 :: R7 :: R8 :: R9 :: R10 :: R11 :: R12 :: A :: Rs) w → Src F0 w0 (R0 :: R1 :: R2 :: R3 :: R4 :: R5 :: R6 :: R7 :: R8 :: R9 :: R10 :: R11 :: R12 :: A :: Rs) w 13 Y) (hd : Nat.blt d n = true) (h : TL P n F0 w0 ops l ((d, v) :: e) (R0 :: R1 :: R2 :: R3 :: R4 :: R5 :: R6 :: R7 :: R8 :: R9 :: R10 :: R11 :: R12 :: B :: Rs) Q) : TL P n F0 w0 ops (i :: l) e (R0 :: R1 :: R2 :: R3 :: R4 :: R5 :: R6 :: R7 :: R8 :: R9 :: R10 :: R11 :: R12 :: A :: Rs) Q := by
  refine TL.ef ho hw (Ef.call 13 hc rfl hs hr hd) ?_
  rintro _ _ ⟨_, _, _, ⟨rfl, rfl, rfl⟩, rfl, rfl⟩
  exact h
theorem TD.c13 {R0 R1 R2 R3 R4 R5 R6 R7 R8 R9 R10 R11 R12 : Res} {l : Sch} (ho : ops[i]? = some ⟨some d, .call cl, ty, pos, af, gd⟩) (hw : Wd n ops e ⟨some d, .call cl, ty, pos, af, gd⟩ true) (hc : CT P n e ⟨some d, .call cl, ty, pos, af, gd⟩ f vs) (hs : SpecX P f vs.toArray Y A (fun v' A' N => v' = v ∧ A' = B ∧ N = [])) (hr : ∀ w, St F0 w0 (R0 :: R1 :: R2 :: R3 :: R4 :: R5 :: R6 :: R7 :: R8 :: R9 :: R10 :: R11 :: R12 :: A :: Rs) w → Src F0 w0 (R0 :: R1 :: R2 :: R3 :: R4 :: R5 :: R6 :: R7 :: R8 :: R9 :: R10 :: R11 :: R12 :: A :: Rs) w 13 Y) (hd : Nat.blt d n = true) (is : List Nat) (hf : Sel (R0 :: R1 :: R2 :: R3 :: R4 :: R5 :: R6 :: R7 :: R8 :: R9 :: R10 :: R11 :: R12 :: B :: Rs) is Rf) (h : TD P n F0 w0 ops l Rf ((d, v) :: e) (R0 :: R1 :: R2 :: R3 :: R4 :: R5 :: R6 :: R7 :: R8 :: R9 :: R10 :: R11 :: R12 :: B :: Rs) Q) : TD P n F0 w0 ops (.e i l) Rf e (R0 :: R1 :: R2 :: R3 :: R4 :: R5 :: R6 :: R7 :: R8 :: R9 :: R10 :: R11 :: R12 :: A :: Rs) Q := by
  refine TD.ef ho hw (Ef.call 13 hc rfl hs hr hd) ?_
  rintro _ _ ⟨_, _, _, ⟨rfl, rfl, rfl⟩, rfl, rfl⟩
  exact ⟨Rf, fun w hw => hw.sel is (hf), fun _ h => h, h⟩
theorem TL.cge  (ho : ops[i]? = some ⟨some d, .call cl, ty, pos, af, gd⟩) (hw : Wd n ops e ⟨some d, .call cl, ty, pos, af, gd⟩ true) (hc : CT P n e ⟨some d, .call cl, ty, pos, af, gd⟩ f vs) (hs : SpecX P f vs.toArray Y EmpR R) (hr : ∀ w, St F0 w0 Rs w → Y.reads w (fun _ => False)) (hd : Nat.blt d n = true) (h : ∀ v A' N, R v A' N → TL P n F0 w0 ops l ((d, v) :: e) (N ++ Rs) Q) : TL P n F0 w0 ops (i :: l) e Rs Q := by
  refine TL.ef ho hw (Ef.callE hc hs hr hd) ?_
  rintro _ _ ⟨v, A', N, hR, rfl, rfl⟩
  exact h v A' N hR
theorem TD.cge  {l : Sch} (ho : ops[i]? = some ⟨some d, .call cl, ty, pos, af, gd⟩) (hw : Wd n ops e ⟨some d, .call cl, ty, pos, af, gd⟩ true) (hc : CT P n e ⟨some d, .call cl, ty, pos, af, gd⟩ f vs) (hs : SpecX P f vs.toArray Y EmpR R) (hr : ∀ w, St F0 w0 Rs w → Y.reads w (fun _ => False)) (hd : Nat.blt d n = true) (is : List Nat) (hf : ∀ v A' N, R v A' N → Sel (N ++ Rs) is Rf) (h : ∀ v A' N, R v A' N → TD P n F0 w0 ops l Rf ((d, v) :: e) (N ++ Rs) Q) : TD P n F0 w0 ops (.e i l) Rf e Rs Q := by
  refine TD.ef ho hw (Ef.callE hc hs hr hd) ?_
  rintro _ _ ⟨v, A', N, hR, rfl, rfl⟩
  exact ⟨Rf, fun w hw => hw.sel is (hf v A' N hR), fun _ h => h, h v A' N hR⟩
theorem TL.ce  (ho : ops[i]? = some ⟨some d, .call cl, ty, pos, af, gd⟩) (hw : Wd n ops e ⟨some d, .call cl, ty, pos, af, gd⟩ true) (hc : CT P n e ⟨some d, .call cl, ty, pos, af, gd⟩ f vs) (hs : SpecX P f vs.toArray Y EmpR (fun v' A' N => v' = v ∧ A' = EmpR ∧ N = [])) (hr : ∀ w, St F0 w0 Rs w → Y.reads w (fun _ => False)) (hd : Nat.blt d n = true) (h : TL P n F0 w0 ops l ((d, v) :: e) Rs Q) : TL P n F0 w0 ops (i :: l) e Rs Q := by
  refine TL.ef ho hw (Ef.callE hc hs hr hd) ?_
  rintro _ _ ⟨_, _, _, ⟨rfl, rfl, rfl⟩, rfl, rfl⟩
  exact h
theorem TD.ce  {l : Sch} (ho : ops[i]? = some ⟨some d, .call cl, ty, pos, af, gd⟩) (hw : Wd n ops e ⟨some d, .call cl, ty, pos, af, gd⟩ true) (hc : CT P n e ⟨some d, .call cl, ty, pos, af, gd⟩ f vs) (hs : SpecX P f vs.toArray Y EmpR (fun v' A' N => v' = v ∧ A' = EmpR ∧ N = [])) (hr : ∀ w, St F0 w0 Rs w → Y.reads w (fun _ => False)) (hd : Nat.blt d n = true) (is : List Nat) (hf : Sel Rs is Rf) (h : TD P n F0 w0 ops l Rf ((d, v) :: e) Rs Q) : TD P n F0 w0 ops (.e i l) Rf e Rs Q := by
  refine TD.ef ho hw (Ef.callE hc hs hr hd) ?_
  rintro _ _ ⟨_, _, _, ⟨rfl, rfl, rfl⟩, rfl, rfl⟩
  exact ⟨Rf, fun w hw => hw.sel is (hf), fun _ h => h, h⟩
end
end Go.Proofs.Ytagbblaegdedpaa.Sl
namespace Go.Proofs.Ytagbblaegdedpaa.Sl
open Go.RowKit
set_option linter.unusedVariables false
set_option linter.unusedSimpArgs false
theorem bn_t {b : Bool} (h : b = false) : (!b) = true := by rw [h]; rfl
theorem bn_f {b : Bool} (h : b = true) : (!b) = false := by rw [h]; rfl
theorem ifT {α : Type} {c : Prop} [Decidable c] {x y z : α} (hc : c) (h : (if c then x else y) = z) : x = z := by rwa [if_pos hc] at h
theorem ifF {α : Type} {c : Prop} [Decidable c] {x y z : α} (hc : ¬ c) (h : (if c then x else y) = z) : y = z := by rwa [if_neg hc] at h
section
variable {P : Program} {n : Nat} {F0 : Nat → Prop} {w0 : World} {e : Env} {Rs Rf : List Res} {Q : Exit → Act → World → Prop} {ops : Array Oper} {i d : Nat} {ty t t' el : TypeId} {pos : String} {af : Array Edge} {gd : Option (Nat × Bool)} {v v' : Value} {x y : Operand} {l : List Nat} {lo : Sch} {c : Code} {S : World → Prop}
theorem TL.sel (is : List Nat) {Rs' : List Res} (hr : Sel Rs is Rs') (h : TL P n F0 w0 ops l e Rs' Q) : TL P n F0 w0 ops l e Rs Q := fun a w ha hs => h a w ha (hs.sel is hr)
theorem TD.sel (is : List Nat) {Rs' : List Res} (hr : Sel Rs is Rs') (h : TD P n F0 w0 ops lo Rf e Rs' Q) : TD P n F0 w0 ops lo Rf e Rs Q := fun a w ha hs => h a w ha (hs.sel is hr)
theorem T.sel (is : List Nat) {Rs' : List Res} (hr : Sel Rs is Rs') (h : T P n F0 w0 e Rs' c Q) : T P n F0 w0 e Rs c Q := fun a w ha hs => h a w ha (hs.sel is hr)
theorem X.sel {z : Exit} (is : List Nat) {Rs' : List Res} (hr : Sel Rs is Rs') (h : X n F0 w0 e Rs' z Q) : X n F0 w0 e Rs z Q := fun a w ha hs => h a w ha (hs.sel is hr)
theorem Has.as {a : Act} (ha : Has n e a) (hv : e.get d = some v) (h : v = v') : Has n ((d, v') :: e) a := ha.sub (fun t u hu => by
  simp only [Env.get] at hu
  cases hb : Nat.beq d t with
  | true =>
    rw [hb] at hu
    obtain rfl := Nat.eq_of_beq_eq_true hb
    injection hu with hu
    rw [hv, h, hu]
  | false => rw [hb] at hu; exact hu)
theorem TL.as (hv : e.get d = some v) (h : v = v') (k : TL P n F0 w0 ops l ((d, v') :: e) Rs Q) : TL P n F0 w0 ops l e Rs Q := fun a w ha hs => k a w (ha.as hv h) hs
theorem TD.as (hv : e.get d = some v) (h : v = v') (k : TD P n F0 w0 ops lo Rf ((d, v') :: e) Rs Q) : TD P n F0 w0 ops lo Rf e Rs Q := fun a w ha hs => k a w (ha.as hv h) hs
theorem OutR.of_blk {b : Nat} {w : World} {G : Nat → Prop} (h : (BlkR b 50 #[.slice none 0 0, .int .i64 0]).P w G) : (OutR b ([], 0)).P w G := by
  obtain ⟨h1, h2⟩ := h
  exact ⟨_, h1, World.ownsRow_nil _ _ _ _, fun k => by simp [h2 k, Value.ownBlock]⟩
theorem TL.newout {zv : Value} (ho : ops[i]? = some ⟨some d, .alloc t, ty, pos, af, gd⟩) (hw : Wd n ops e ⟨some d, .alloc t, ty, pos, af, gd⟩ true) (hz : ∀ w, (zeroValue t).run P w = .ok zv w) (hd : Nat.blt d n = true)
    (h : ∀ b, TL P n F0 w0 ops l ((d, .pointer (some ⟨b, 0, none⟩)) :: e) (OutR b ([], 0) :: Rs) Q) (ht : t = 50 := by rfl) (hzv : zv = .agg #[.slice none 0 0, .int .i64 0] := by rfl) : TL P n F0 w0 ops (i :: l) e Rs Q := by
  refine TL.alloc ho hw hz hd (fun b => ?_)
  intro a w ha hs
  subst ht hzv
  exact h b a w ha (hs.weaken 0 rfl (fun G hG => OutR.of_blk hG))
theorem TD.newout {zv : Value} (ho : ops[i]? = some ⟨some d, .alloc t, ty, pos, af, gd⟩) (hw : Wd n ops e ⟨some d, .alloc t, ty, pos, af, gd⟩ true) (hz : ∀ w, (zeroValue t).run P w = .ok zv w) (hd : Nat.blt d n = true) (is : List Nat) (hf : ∀ b, Sel (OutR b ([], 0) :: Rs) is Rf)
    (h : ∀ b, TD P n F0 w0 ops lo Rf ((d, .pointer (some ⟨b, 0, none⟩)) :: e) (OutR b ([], 0) :: Rs) Q) (ht : t = 50 := by rfl) (hzv : zv = .agg #[.slice none 0 0, .int .i64 0] := by rfl) : TD P n F0 w0 ops (.e i lo) Rf e Rs Q := by
  refine TD.ef ho hw (Ef.alloc hz hd) ?_
  rintro _ _ ⟨b, rfl, rfl⟩
  subst ht hzv
  have key : ∀ w, St F0 w0 (BlkR b 50 #[.slice none 0 0, .int .i64 0] :: Rs) w → St F0 w0 (OutR b ([], 0) :: Rs) w := fun w hs => hs.weaken 0 rfl (fun G hG => OutR.of_blk hG)
  exact ⟨Rf, fun w hs => (key w hs).sel is (hf b), fun _ h => h, fun a w ha hs => h b a w ha (key w hs)⟩
section
variable {α : Type} {E : Rd α} {sl : Operand} {T z bytes g ii jj : Nat} {zv : Value} {A : Option Addr} {cp : Nat} {Rs' : List Res} {B : Res}
end
variable (P n F0 w0) in
def RV (e : Env) (Rs : List Res) (r : ResultVar) (v : Value) : Prop := ∀ a w, Has n e a → St F0 w0 Rs w → (resv a.tmps r).run P w = .ok v w
theorem RV.tm {k : Nat} (hv : e.get k = some v) : RV P n F0 w0 e Rs (.tmp k) v := by
  intro a w ha hs
  have h2 := ha.at_ k v hv
  simp [resv, h2]
theorem RV.cS (i : Nat) {k b T : Nat} {us : Array Value} {z : Nat} (hk : e.get k = some (.pointer (some ⟨b, 0, none⟩))) (ha : ∀ w, (isAgg t).run P w = .ok true w) (hz : ∀ w, (sizeOf t).run P w = .ok z w) (hi : Rs[i]? = some (BlkR b T us)) (hl : us.size = z) : RV P n F0 w0 e Rs (.cell k t) (.agg us) := by
  intro a w h hs
  have h2 := h.at_ k _ hk
  have hb := hs.blk i hi
  have h3 := run_loadVarS (P := P) (t := t) (w := w) (ad := ⟨b, 0, none⟩) (cs := us.toList) ha (by intro w; rw [hz]; simp [hl]) (fun j u hj => by
    have e1 : (⟨b, 0, none⟩ : Addr).add j = ⟨b, j, none⟩ := by unfold Addr.add; split <;> simp_all
    rw [e1, heap_at hb]
    simpa using hj)
  simp [resv, h2, asAddr, h3]
theorem RV.c1 (i : Nat) {k b T : Nat} {us : Array Value} (hk : e.get k = some (.pointer (some ⟨b, 0, none⟩))) (ha : ∀ w, (isAgg t).run P w = .ok false w) (hi : Rs[i]? = some (BlkR b T us)) (hv : us[0]? = some v) : RV P n F0 w0 e Rs (.cell k t) v := by
  intro a w h hs
  have h2 := h.at_ k _ hk
  have hb := hs.blk i hi
  have h3 := run_loadVar1 (P := P) (t := t) (w := w) (ad := ⟨b, 0, none⟩) ha ((heap_at hb 0).trans hv)
  simp [resv, h2, asAddr, h3]
section
variable {f : Func} {R : Value → Res → List Res → Prop} {A' : Res} {Ns : List Res} {r1 r2 r3 r4 : ResultVar} {v1 v2 v3 v4 : Value} {z : Exit}
theorem X.fin (hR : R v A' Ns) (is : List Nat) (hr : Sel Rs is (A' :: Ns)) (hx : z = .ret ∨ z = .normal) (h : ∀ a w, Has n e a → St F0 w0 Rs w → (results f a.tmps).run P w = .ok v w) : X n F0 w0 e Rs z (bodyPost P f (Post R F0 w0)) := by
  intro a w ha hs
  have h : bodyPost P f (Post R F0 w0) .ret a w := ⟨ha.df, v, h a w ha hs, v, A', Ns, rfl, hR, hs.sel is hr⟩
  rcases hx with rfl | rfl <;> exact h
theorem X.done1 (is : List Nat) (hf : f.results = #[r1]) (h1 : RV P n F0 w0 e Rs r1 v1) (hR : R v1 A' Ns) (hr : Sel Rs is (A' :: Ns)) (hx : z = .ret ∨ z = .normal) : X n F0 w0 e Rs z (bodyPost P f (Post R F0 w0)) :=
  X.fin hR is hr hx (fun a w ha hs => by rw [results_eq, hf]; simp [h1 a w ha hs])
end
theorem BOK.mk {zv : Value} {fs : Array Field} {pl : List (Nat × Nat)} {zs : Array Value} (hz : ∀ w, (zeroValue t).run P w = .ok zv w) (hu : ∀ w, (underlying t).run P w = .ok (.struct fs) w) (hp : ∀ w, (fs.mapM (fun f => do pure (f.offset, ← sizeOf f.type)) : Sem (Array (Nat × Nat))).run P w = .ok pl.toArray w) (hzs : zv.cells = zs := by rfl) : BOK P t zs pl := by
  intro parts cells w h
  subst hzs
  simp only [Instr.build, Sem.run_bind, hz, Result.andThen_ok, hu, hp]
  have h2 : (fun (i : Nat) => (pl.toArray)[i]?) = (fun (i : Nat) => pl[i]?) := by funext i; simp
  simp [h2, h]
theorem SOK.mk {T m z : Nat} {zv : Value} {zs : Array Value} (hu : ∀ w, (underlying t).run P w = .ok (.slice T) w) (hz : ∀ w, (sizeOf T).run P w = .ok z w) (hzv : ∀ w, (zeroValue T).run P w = .ok zv w) (hm : 0 < m * z ∧ m * z ≤ 16777216) (hzs : (Array.range (m * z)).map (fun i => zv.cells[i % zv.cells.size]!) = zs) : SOK P t T m z zs := by
  intro parts cells w h
  have h1 : ¬ (m * z > 2 ^ 24) := by omega
  have h2 : ¬ (m * z = 0) := by omega
  subst hzs
  simp only [Instr.buildSlice, Sem.run_bind, hu, hz, Result.andThen_ok, h1, if_false, h2, hzv, Sem.run_pure]
  simp [h, newRow]
end
end Go.Proofs.Ytagbblaegdedpaa.Sl
namespace Go.Proofs.Ytagbblaegdedpaa.Sl
open Go.RowKit
set_option linter.unusedVariables false
set_option linter.unusedSimpArgs false
def eqV : Value → Value → Option Bool
  | .int k a, .int k' b => if k = k' then some (decide (a = b)) else none
  | .bool a, .bool b => some (decide (a = b))
  | .string a, .string b => some (decide (a.toList = b.toList))
  | _, _ => none
def eqL : List Value → List Value → Option Bool
  | [], [] => some true
  | x :: xs, y :: ys => match eqV x y with
    | some true => eqL xs ys
    | some false => some false
    | none => none
  | _, _ => none
theorem eqV_i {k : IntKind} {a b : Int} (h : a = b) : eqV (.int k a) (.int k b) = some true := by simp [eqV, h]
theorem eqV_in {k : IntKind} {a b : Int} (h : ¬ a = b) : eqV (.int k a) (.int k b) = some false := by simp [eqV, h]
theorem eqV_b {a b : Bool} (h : a = b) : eqV (.bool a) (.bool b) = some true := by simp [eqV, h]
theorem eqV_bn {a b : Bool} (h : ¬ a = b) : eqV (.bool a) (.bool b) = some false := by simp [eqV, h]
theorem eqV_s {l m : List UInt8} (h : l = m) : eqV (.string (bsOf l)) (.string (bsOf m)) = some true := by simp [eqV, h]
theorem eqV_sn {l m : List UInt8} (h : ¬ l = m) : eqV (.string (bsOf l)) (.string (bsOf m)) = some false := by simp [eqV, bsOf_toList, h]
theorem eqL_t {x y : Value} {xs ys : List Value} {b : Bool} (h : eqV x y = some true) (r : eqL xs ys = some b) : eqL (x :: xs) (y :: ys) = some b := by simp [eqL, h, r]
theorem eqL_f {x y : Value} {xs ys : List Value} (h : eqV x y = some false) : eqL (x :: xs) (y :: ys) = some false := by simp [eqL, h]
theorem eqL_append : ∀ {xs ys xs' ys' : List Value} {b : Bool}, xs.length = ys.length → eqL (xs ++ xs') (ys ++ ys') = some b → ∃ c, eqL xs ys = some c ∧ (if c then eqL xs' ys' else some false) = some b
  | [], [], xs', ys', b, _, h => ⟨true, rfl, by simpa using h⟩
  | x :: xs, y :: ys, xs', ys', b, hl, h => by
    simp only [List.cons_append, eqL] at h ⊢
    cases hv : eqV x y with
    | none => rw [hv] at h; cases h
    | some c =>
      cases c with
      | true =>
        rw [hv] at h
        exact eqL_append (by simpa using hl) h
      | false =>
        rw [hv] at h
        exact ⟨false, rfl, by simpa using h⟩
def okD : TypeDesc → Value → Bool
  | .int _, .int _ _ => true
  | .bool, .bool _ => true
  | .string, .string _ => true
  | _, _ => false
def oksD : List TypeDesc → List Value → Bool
  | [], [] => true
  | d :: ds, v :: vs => okD d v && oksD ds vs
  | _, _ => false
theorem oksD_length : ∀ {ds : List TypeDesc} {vs : List Value}, oksD ds vs = true → vs.length = ds.length
  | [], [], _ => rfl
  | d :: ds, v :: vs, h => by
    simp only [oksD, Bool.and_eq_true] at h
    simp [oksD_length h.2]
theorem oksD_app : ∀ {ds ds' : List TypeDesc} {vs : List Value}, oksD (ds ++ ds') vs = true → oksD ds (vs.take ds.length) = true ∧ oksD ds' (vs.drop ds.length) = true
  | [], ds', vs, h => by simpa [oksD] using h
  | d :: ds, ds', [], h => by simp [oksD] at h
  | d :: ds, ds', v :: vs, h => by
    simp only [List.cons_append, oksD, Bool.and_eq_true] at h
    have := oksD_app h.2
    simp [oksD, h.1, this]
def mkV (agg : Bool) (xs : List Value) : Value := if agg then .agg xs.toArray else xs.headD undef
structure Flat (P : Program) (k : Nat) (t : TypeId) (ds : List TypeDesc) (agg : Bool) : Prop where
  ia : ∀ w, (isAgg t).run P w = .ok agg w
  sz : ∀ w, (sizeOf t).run P w = .ok ds.length w
  one : agg = false → ds.length = 1
  eq : ∀ (d : Nat) (xs ys : List Value) (b : Bool) (w : World), k ≤ d → oksD ds xs = true → oksD ds ys = true → eqL xs ys = some b → (Op.equalIn d t (mkV agg xs) (mkV agg ys)).run P w = .ok b w
section
variable {P : Program} {t : TypeId}
theorem eqL_one {x y : Value} {b : Bool} (h : eqL [x] [y] = some b) : eqV x y = some b := by
  simp only [eqL] at h
  cases hv : eqV x y with
  | none => rw [hv] at h; cases h
  | some c => cases c <;> (rw [hv] at h; exact h)
theorem len1 {xs : List Value} (h : xs.length = 1) : ∃ x, xs = [x] := by
  match xs, h with
  | [x], _ => exact ⟨x, rfl⟩
theorem equal_one {d0 : TypeDesc} (hu : P.underlying t = some d0) (d : Nat) (x y : Value) (b : Bool) (w : World) (hx : okD d0 x = true) (hy : okD d0 y = true) (h : eqV x y = some b) : (Op.equalIn (d + 1) t x y).run P w = .ok b w := by
  cases d0 <;> cases x <;> first | (simp [okD] at hx; done) | skip
  all_goals cases y <;> first | (simp [okD] at hy; done) | skip
  · simp only [eqV, Option.some.injEq] at h
    subst h
    rw [run_equalIn_bool' w d t _ _ hu]
    rfl
  · rename_i q k a k' b'
    simp only [eqV] at h
    split at h
    · rename_i hk
      subst hk
      injection h with h
      subst h
      rw [run_equalIn_int w d t k _ a b' hu]
      rfl
    · cases h
  · simp only [eqV, Option.some.injEq] at h
    subst h
    rw [run_equalIn_string w d t _ _ hu]
    congr 1
    rename_i p q
    by_cases hpq : p.toList = q.toList <;> simp [hpq]
theorem Flat.one_ {d0 : TypeDesc} (ia : ∀ w, (isAgg t).run P w = .ok false w) (sz : ∀ w, (sizeOf t).run P w = .ok 1 w) (hu : P.underlying t = some d0) : Flat P 1 t [d0] false := by
  refine ⟨ia, sz, fun _ => rfl, ?_⟩
  intro d xs ys b w hd hx hy h
  obtain ⟨x, rfl⟩ := len1 (by simpa using oksD_length hx)
  obtain ⟨y, rfl⟩ := len1 (by simpa using oksD_length hy)
  obtain ⟨d, rfl⟩ : ∃ d', d = d' + 1 := ⟨d - 1, by omega⟩
  exact equal_one hu d x y b w (by simpa [oksD] using hx) (by simpa [oksD] using hy) (eqL_one h)
def FlatFs (P : Program) (k : Nat) : Nat → List Field → List TypeDesc → Prop
  | _, [], ds => ds = []
  | off, f :: fs, ds => f.name ≠ "_" ∧ f.offset = off ∧ ∃ d1 d2 agg, ds = d1 ++ d2 ∧ Flat P k f.type d1 agg ∧ FlatFs P k (off + d1.length) fs d2
theorem part_run {ty : TypeId} {ds : List TypeDesc} {agg : Bool} {k : Nat} (hf : Flat P k ty ds agg) (xs : List Value) (off : Nat) (w : World) (hl : off + ds.length ≤ xs.length) : (part ty xs.toArray off).run P w = .ok (mkV agg ((xs.drop off).take ds.length)) w := by
  cases agg with
  | true =>
    have h1 := hf.ia w
    simp only [part, Sem.run_bind, h1, Result.andThen_ok, if_true, hf.sz w, Sem.run_pure, mkV]
    congr 2
    apply Array.ext'
    simp [List.extract_eq_take_drop]
  | false =>
    have h1 := hf.ia w
    have h2 := hf.one rfl
    have h3 : off < xs.length := by omega
    have h4 : ((xs.drop off).take 1).headD undef = xs[off] := by
      rw [List.drop_eq_getElem_cons h3]
      rfl
    simp only [part, Sem.run_bind, h1, Result.andThen_ok, Bool.false_eq_true, if_false, mkV, h2, h4]
    simp [h3]
theorem fields_run {k : Nat} : ∀ {fs : List Field} {ds : List TypeDesc} {off : Nat}, FlatFs P k off fs ds → ∀ (d : Nat) (xs ys : List Value) (b : Bool) (w : World), k ≤ d → xs.length = off + ds.length → ys.length = off + ds.length →
    oksD ds (xs.drop off) = true → oksD ds (ys.drop off) = true → eqL (xs.drop off) (ys.drop off) = some b → (Op.eqFields d xs.toArray ys.toArray fs).run P w = .ok b w
  | [], ds, off, hf, d, xs, ys, b, w, hd, hx, hy, ox, oy, h => by
    obtain rfl : ds = [] := hf
    rw [List.drop_of_length_le (by simp at hx; omega), List.drop_of_length_le (by simp at hy; omega)] at h
    injection h with h
    subst h
    rfl
  | f :: fs, ds, off, hf, d, xs, ys, b, w, hd, hx, hy, ox, oy, h => by
    obtain ⟨hn, ho, d1, d2, agg, rfl, hF, hr⟩ := hf
    rw [List.length_append] at hx hy
    have ox' := oksD_app ox
    have oy' := oksD_app oy
    have e1 : xs.drop off = (xs.drop off).take d1.length ++ xs.drop (off + d1.length) := by rw [← List.drop_drop, List.take_append_drop]
    have e2 : ys.drop off = (ys.drop off).take d1.length ++ ys.drop (off + d1.length) := by rw [← List.drop_drop, List.take_append_drop]
    rw [e1, e2] at h
    obtain ⟨c, h1, h2⟩ := eqL_append (by simp; omega) h
    have p1 := part_run hF xs off w (by omega)
    have p2 := part_run hF ys off w (by omega)
    have q1 := hF.eq d _ _ c w hd ox'.1 oy'.1 h1
    simp only [Op.eqFields, hn, ne_eq, not_false_eq_true, if_true, Sem.run_bind, ho, p1, Result.andThen_ok, p2, q1, Sem.run_ite]
    cases c with
    | false =>
      simp only [Bool.false_eq_true, if_false] at h2
      injection h2 with h2
      subst h2
      rfl
    | true =>
      simp only [if_true] at h2
      have h3 := fields_run hr d xs ys b w hd (by omega) (by omega) (by rw [← List.drop_drop]; exact ox'.2) (by rw [← List.drop_drop]; exact oy'.2) h2
      simpa using h3
theorem Flat.struct {k : Nat} {fs : Array Field} {ds : List TypeDesc} (ia : ∀ w, (isAgg t).run P w = .ok true w) {z : Nat} (sz : ∀ w, (sizeOf t).run P w = .ok z w) (hz : ds.length = z) (hu : P.underlying t = some (.struct fs)) (hp : P.stoodInHeld t = false) (hf : FlatFs P k 0 fs.toList ds) : Flat P (k + 1) t ds true := by
  subst hz
  refine ⟨ia, sz, fun h => (by cases h), ?_⟩
  intro d xs ys b w hd hx hy h
  obtain ⟨d, rfl⟩ : ∃ d', d = d' + 1 := ⟨d - 1, by omega⟩
  have e : P.fieldsOf t = fs := by simp [Program.fieldsOf, hu]
  simp only [mkV, if_true]
  rw [run_equalIn_agg w d t _ _ (by rw [e]; exact hu) hp, e]
  exact fields_run hf d xs ys b w (by omega) (by simpa using oksD_length hx) (by simpa using oksD_length hy) hx hy h
theorem Flat.mono {k k' : Nat} {ds : List TypeDesc} {agg : Bool} (h : Flat P k t ds agg) (hk : k ≤ k') : Flat P k' t ds agg := ⟨h.ia, h.sz, h.one, fun d xs ys b w hd => h.eq d xs ys b w (by omega)⟩
end
section
variable {P : Program} {n : Nat} {F0 : Nat → Prop} {w0 : World} {e : Env} {Rs Rf : List Res} {Q : Exit → Act → World → Prop} {ops : Array Oper} {d : Option Tmp} {i : Nat} {ty t t' el : TypeId} {pos : String} {af : Array Edge} {gd : Option (Nat × Bool)} {v v' : Value} {x y : Operand} {l : List Nat} {lo : Sch} {c : Code} {S : World → Prop}
theorem Ex.aEq {k : Nat} {ds : List TypeDesc} {us vs : List Value} {b : Bool} (hF : Flat P k t ds true) (hk : Nat.ble k 10000 = true) (hG : P.eqGuardType P.depth t = false) (hx : e.ev x = some (.agg us.toArray)) (hy : e.ev y = some (.agg vs.toArray)) (ou : oksD ds us = true) (ov : oksD ds vs = true) (h : eqL us vs = some b) :
    Ex P n e S ⟨d, .binOp .eql t x y t', ty, pos, af, gd⟩ (.bool b) := by
  intro a w ha _
  have h1 := hF.eq 10000 us vs b w (Nat.le_of_ble_eq_true hk) ou ov h
  simp only [mkV, if_true] at h1
  simp only [execOp, ha.ev hx, ha.ev hy, Sem.run_bind]
  rw [run_eqGuard_agg w .eql t x y _ _ hG]
  simp only [Result.andThen_ok]
  rw [run_eql_struct w t _ _, h1]
  rfl
theorem Ex.aNe {k : Nat} {ds : List TypeDesc} {us vs : List Value} {b : Bool} (hF : Flat P k t ds true) (hk : Nat.ble k 10000 = true) (hG : P.eqGuardType P.depth t = false) (hx : e.ev x = some (.agg us.toArray)) (hy : e.ev y = some (.agg vs.toArray)) (ou : oksD ds us = true) (ov : oksD ds vs = true) (h : eqL us vs = some b) :
    Ex P n e S ⟨d, .binOp .neq t x y t', ty, pos, af, gd⟩ (.bool (!b)) := by
  intro a w ha _
  have h1 := hF.eq 10000 us vs b w (Nat.le_of_ble_eq_true hk) ou ov h
  simp only [mkV, if_true] at h1
  simp only [execOp, ha.ev hx, ha.ev hy, Sem.run_bind]
  rw [run_eqGuard_agg w .neq t x y _ _ hG]
  simp only [Result.andThen_ok]
  rw [run_neq_struct w t _ _, h1]
  rfl
theorem Wd.gu {op : Op} {j k : Nat} {want : Bool} (hj : (ops[j]?).bind (·.dst) = some k) (hv : e.get k = some undef) : Wd n ops e ⟨d, op, ty, pos, af, some (j, want)⟩ false := by
  intro a h
  simp only [Region.wanted, yielded, hj, Option.bind_some, h.at_ k _ hv]
  rfl
end
section
variable {P : Program} {n : Nat} {F0 : Nat → Prop} {w0 w : World} {e : Env} {Rs Rf : List Res} {Q : Exit → Act → World → Prop} {ops : Array Oper} {d : Option Tmp} {i : Nat} {ty t t' el : TypeId} {pos : String} {af : Array Edge} {gd : Option (Nat × Bool)} {v v' : Value} {y z : Operand} {l : List Nat} {lo : Sch} {c : Code} {S : World → Prop}
variable {α : Type} {E : Rd α} {B : Res} {A : Option Addr} {m cp size k : Nat} {xs : List α} {x : α}
theorem Ex.k1 {q g : Nat} {cs : List Value} (i j : Nat) (hy : e.ev y = some (.pointer (some ⟨g, q + j, none⟩))) (ha : ∀ w, (isAgg t).run P w = .ok false w) (hi : Rs[i]? = some B) (hB : ∀ w G, B.P w G → ∀ j, j < cs.length → w.cell? ⟨g, q + j, none⟩ = cs[j]?) (hv : cs[j]? = some v) : Ex P n e (St F0 w0 Rs) ⟨d, .load t y, ty, pos, af, gd⟩ v :=
  Ex.ld1 hy ha (fun w hw => by
    obtain ⟨G, h1, _⟩ := hw.get i hi
    exact (hB w G h1 j (List.getElem?_eq_some_iff.1 hv).1).trans hv)
end
end Go.Proofs.Ytagbblaegdedpaa.Sl
namespace Go.Proofs.Ytagbblaegdedpaa.Sl
open Go.RowKit
set_option linter.unusedVariables false
set_option linter.unusedSimpArgs false
def RX.blk (b : Nat) (T : TypeId) (cs : Array Value) : RX := ⟨fun w S => w.heap[b]? = some (.cells cs T (0, 0)) ∧ S b, fun h k => ⟨h.1, k _ h.2⟩, fun h k => ⟨(k _ h.2).trans h.1, h.2⟩⟩
theorem blk_reads {b : Nat} {T : TypeId} {cs : Array Value} : ∀ w G, (BlkR b T cs).P w G → (RX.blk b T cs).P w G := fun _ _ h => ⟨h.1, (h.2 _).2 rfl⟩
section
variable {P : Program} {n : Nat} {F0 : Nat → Prop} {w0 w : World} {e : Env} {Rs Rf : List Res} {Q : Exit → Act → World → Prop} {ops : Array Oper} {d : Option Tmp} {i : Nat} {ty t t' el : TypeId} {pos : String} {af : Array Edge} {gd : Option (Nat × Bool)} {v v' : Value} {x y z : Operand} {l : List Nat} {lo : Sch} {c : Code} {S : World → Prop}
theorem xblk_at {b : Nat} {T : TypeId} {cs : Array Value} (hX : (RX.blk b T cs).reads w0 F0) (h : St F0 w0 Rs w) : w.heap[b]? = some (.cells cs T (0, 0)) := by
  obtain ⟨S, ⟨h1, h2⟩, h3⟩ := hX
  exact (h.fr.block b (h3 b h2).2 (h3 b h2).1).trans h1
theorem Ex.xb1 {b o : Nat} {T : TypeId} {cs : Array Value} (hX : (RX.blk b T cs).reads w0 F0) (hx : e.ev x = some (.pointer (some ⟨b, o, none⟩))) (ha : ∀ w, (isAgg t).run P w = .ok false w) (hv : cs[o]? = some v) : Ex P n e (St F0 w0 Rs) ⟨d, .load t x, ty, pos, af, gd⟩ v :=
  Ex.ld1 hx ha (fun w hw => (heap_at (xblk_at hX hw) o).trans hv)
theorem Ex.xbS {b o z : Nat} {T : TypeId} {cs : Array Value} {us : List Value} (hX : (RX.blk b T cs).reads w0 F0) (hx : e.ev x = some (.pointer (some ⟨b, o, none⟩))) (ha : ∀ w, (isAgg t).run P w = .ok true w) (hz : ∀ w, (sizeOf t).run P w = .ok z w)
    (hv : (cs.toList.drop o).take z = us) (hl : Nat.beq us.length z = true) : Ex P n e (St F0 w0 Rs) ⟨d, .load t x, ty, pos, af, gd⟩ (.agg us.toArray) := by
  refine Ex.ldS hx ha hz (Nat.eq_of_beq_eq_true hl) (fun w hw j u hj => ?_)
  have h2 : (⟨b, o, none⟩ : Addr).add j = ⟨b, o + j, none⟩ := by unfold Addr.add; split <;> simp_all
  rw [h2, heap_at (xblk_at hX hw)]
  subst hv
  rw [List.getElem?_take] at hj
  split at hj
  · rw [List.getElem?_drop] at hj
    simpa using hj
  · cases hj
theorem Ex.mkI {fs : Array Field} (hx : e.ev x = some v) (hu : ∀ w, (underlying t).run P w = .ok (.struct fs) w) : Ex P n e S ⟨d, .makeInterface t x, ty, pos, af, gd⟩ (.iface t v) := by
  intro a w ha _
  simp [execOp, ha.ev hx, Instr.makeInterface, hu]
theorem method_val {nm : String} {f : FuncId} {fs : Array Field} {k : Nat} (hn : P.types.size + Made.depth = k + 1) (hm : ((P.info? t).bind fun i => i.methods.find? (·.name == nm)).map (fun m => (m.path.isEmpty, m.func)) = some (true, some (f, false))) (hu : ∀ w, (underlying t).run P w = .ok (.struct fs) w) (u : Value) (w : World) :
    (method (P.types.size + Made.depth) t u nm).run P w = .ok (f, u) w := by
  obtain ⟨m, h1, h2⟩ := Option.map_eq_some_iff.1 hm
  obtain ⟨ti, h3, h4⟩ := Option.bind_eq_some_iff.1 h1
  simp only [Prod.mk.injEq] at h2
  obtain ⟨h5, h6⟩ := h2
  have h7 : m.path.toList = [] := by
    have : m.path = #[] := by simpa using h5
    simp [this]
  rw [hn]
  simp only [method, Sem.run_bind, typeInfo]
  simp [h3, h4, h7, follow, h6, receiverAt, hu, Place.get]
end
end Go.Proofs.Ytagbblaegdedpaa.Sl
namespace Go.Proofs.Ytagbblaegdedpaa.Sl
open Go.RowKit
set_option linter.unusedVariables false
section
variable {P : Program} {n : Nat} {F0 : Nat → Prop} {w0 : World} {e e' : Env} {Rs Rs' : List Res} {Q : Exit → Act → World → Prop} {c : Code} {d : Nat} {v v' : Value}
def JK (n : Nat) (F0 : Nat → Prop) (w0 : World) (R : Env → List Res → Prop) (a : Act) (w : World) : Prop := ∃ e Rs, R e Rs ∧ Has n e a ∧ St F0 w0 Rs w
theorem T.jq (R : Env → List Res → Prop) (h : T P n F0 w0 e Rs c (Exit.then (JK n F0 w0 R) Q)) (k : ∀ e' Rs', R e' Rs' → X n F0 w0 e' Rs' .normal Q) : T P n F0 w0 e Rs c Q := by
  intro a w ha hs
  refine wp_mono (h a w ha hs) ?_
  intro x a' w' hx
  cases x <;> first | exact hx | skip
  obtain ⟨e', Rs', hR, ha', hs'⟩ := hx
  exact k e' Rs' hR a' w' ha' hs'
theorem X.jq {R : Env → List Res → Prop} (is : List Nat) (hR : R e' Rs') (he : Sub e' e) (hr : Sel Rs is Rs') : X n F0 w0 e Rs .normal (Exit.then (JK n F0 w0 R) Q) := fun a w ha hs => ⟨e', Rs', hR, ha.sub he.get, hs.sel is hr⟩
theorem X.as {z : Exit} (hv : e.get d = some v) (h : v = v') (k : X n F0 w0 ((d, v') :: e) Rs z Q) : X n F0 w0 e Rs z Q := fun a w ha hs => k a w (ha.as hv h) hs
end
end Go.Proofs.Ytagbblaegdedpaa.Sl
namespace Go.Proofs.Ytagbblaegdedpaa.Sl
open Go.RowKit
set_option linter.unusedVariables false
set_option linter.unusedSimpArgs false
theorem gPutText_z {t d : List UInt8} (hf : d.length ≤ 32767) (ht : t.length ≤ 1000000000) : gPutText (t, 0) d = some (t ++ (be (d.length : Int) 2 ++ d), 0) := by
  rw [gPutText_eq _ _ (by simp only; omega)]
  have := gPutFixed_z (t := t) (b := ⟨false, d⟩) (k := 2) (fits_small (.inl rfl) (show -32768 ≤ (d.length : Int) by omega) (show (d.length : Int) ≤ 32767 by omega)) rfl (by simp only; omega)
  rw [gPutFixed_eq _ _ _ ⟨by decide, by simp only; omega⟩] at this
  exact this
end Go.Proofs.Ytagbblaegdedpaa.Sl
namespace Go.Proofs.Ytagbblaegdedpaa.Sl
open Go.RowKit
set_option linter.unusedVariables false
set_option linter.unusedSimpArgs false
theorem fits_2 (n : Int) : fits n 2 = decide (-32768 ≤ n ∧ n ≤ 32767) := by
  rw [Bool.eq_iff_iff]
  unfold fits
  simp only [Bool.and_eq_true, decide_eq_true_eq]
  have : (2 : Int) ^ (8 * (2 : Int).toNat - 1) = 32768 := by decide
  omega
theorem fits_8 (n : Int) : fits n 8 = decide (-9223372036854775808 ≤ n ∧ n ≤ 9223372036854775807) := by
  rw [Bool.eq_iff_iff]
  unfold fits
  simp only [Bool.and_eq_true, decide_eq_true_eq]
  have : (2 : Int) ^ (8 * (8 : Int).toNat - 1) = 9223372036854775808 := by decide
  omega
open Classical in
open Classical in
end Go.Proofs.Ytagbblaegdedpaa.Sl
namespace Go.Proofs.Ytagbblaegdedpaa.Sl
open Go.RowKit
set_option linter.unusedVariables false
set_option linter.unusedSimpArgs false
set_option maxRecDepth 100000
def ft_txn : FTab := [(26, 0, 0), (26, 1, 1), (107, 0, 0), (107, 1, 2), (107, 2, 3), (107, 3, 4), (109, 0, 0), (109, 1, 1), (109, 2, 2), (109, 3, 3), (180, 0, 0), (180, 1, 1), (180, 2, 2), (180, 3, 3)]
theorem ft_txn_ok : (ft_txn).OK Try.prog := ⟨FOK.mk Try.runUnderlying26 rfl Try.sizeOf4 rfl, FOK.mk Try.runUnderlying26 rfl Try.sizeOf9 rfl, FOK.mk Try.runUnderlying107 rfl Try.sizeOf26 rfl, FOK.mk Try.runUnderlying107 rfl Try.sizeOf3 rfl, FOK.mk Try.runUnderlying107 rfl Try.sizeOf3 rfl, FOK.mk Try.runUnderlying107 rfl Try.sizeOf3 rfl, FOK.mk Try.runUnderlying109 rfl Try.sizeOf9 rfl, FOK.mk Try.runUnderlying109 rfl Try.sizeOf3 rfl, FOK.mk Try.runUnderlying109 rfl Try.sizeOf3 rfl, FOK.mk Try.runUnderlying109 rfl Try.sizeOf4 rfl, FOK.mk Try.runUnderlying180 rfl Try.sizeOf9 rfl, FOK.mk Try.runUnderlying180 rfl Try.sizeOf3 rfl, FOK.mk Try.runUnderlying180 rfl Try.sizeOf3 rfl, FOK.mk Try.runUnderlying180 rfl Try.sizeOf68 rfl, trivial⟩
theorem meth_txn_109_Check (v : Value) (w : World) : (method (Try.prog.types.size + Made.depth) 109 v "Check").run Try.prog w = .ok (63, v) w := method_val (k := Try.prog.types.size + Made.depth - 1) (by kernel_rfl) (by kernel_rfl) Try.runUnderlying109 v w
theorem bok_txn_107 : BOK Try.prog 107 #[.bool false, .string ⟨#[]⟩, .int .i64 0, .int .i64 0, .int .i64 0] [(0, 2), (2, 1), (3, 1), (4, 1)] := BOK.mk Try.zeroValue107 Try.runUnderlying107 (by intro w; simp)
theorem bok_txn_109 : BOK Try.prog 109 #[.string ⟨#[]⟩, .int .i64 0, .int .i64 0, .bool false] [(0, 1), (1, 1), (2, 1), (3, 1)] := BOK.mk Try.zeroValue109 Try.runUnderlying109 (by intro w; simp)
def f_txn_Who (a0 : Int) (a1 : Int) : Option (Bool) := (if a0 ≥ 0 then (if a1 ≥ 0 then ((gFits a1 2).bind fun x9 => some x9) else some false) else some false).bind fun y5 => some y5
set_option maxRecDepth 100000 in
set_option maxHeartbeats 4000000 in
theorem f_txn_Who_spec (a0 : Int) (a1 : Int) (r : Bool) (h : f_txn_Who a0 a1 = some r) : SpecX Try.prog 117 #[.int .i64 a0, .int .i64 a1] .triv (EmpR) (fun v A' N => v = .bool r ∧ A' = EmpR ∧ N = []) := by
  refine enterA Try.func117 rfl Try.ntmps117 rfl ?_
  intro F w hX
  unfold f_txn_Who at h
  refine T.seq (T.region rfl ?_)
  refine TL.run ft_txn_ok [0] rfl rfl ?_
  refine TL.nil (X.seq (T.seq ?_))
  obtain ⟨y5, h, hk6⟩ := Option.bind_eq_some_iff.1 h
  refine T.jq (fun e Rs => e = [(4, .bool y5)] ∧ Rs = [EmpR]) ?_ ?_
  · clear hk6
    refine T.region rfl ?_
    by_cases c7 : a0 ≥ 0
    · replace h := ifT c7 h
      refine TL.run ft_txn_ok [0, 1, 2] rfl rfl ?_
      refine TL.q rfl (.g rfl rfl (decide_eq_true c7)) (Ex.ft ft_txn_ok rfl) rfl ?_
      refine TL.q rfl (.g rfl rfl (decide_eq_true c7)) (Ex.ft ft_txn_ok rfl) rfl ?_
      refine TL.q rfl .u (Ex.py rfl (decide_eq_true c7) rfl) rfl ?_
      by_cases c8 : a1 ≥ 0
      · replace h := ifT c8 h
        refine TL.run ft_txn_ok [6] rfl rfl ?_
        refine TL.q rfl (.g rfl rfl (decide_eq_true c8)) (Ex.ft ft_txn_ok rfl) rfl ?_
        obtain ⟨x9, hx10, h⟩ := Option.bind_eq_some_iff.1 h
        refine TL.ce rfl (.g rfl rfl (decide_eq_true c8)) (.fn Try.call96 rfl) (SpecX.pure (fun w => gFits_spec a1 2 _ hx10 w)) (fun _ _ => RX.reads_triv _ _) rfl ?_
        refine TL.q rfl .u (Ex.py rfl (decide_eq_true c8) rfl) rfl ?_
        refine TL.run ft_txn_ok [10] rfl rfl ?_
        cases h
        exact TL.nil (X.jq [0] ⟨rfl, rfl⟩ (by rfl) (by rfl))
      · replace h := ifF c8 h
        refine TL.run ft_txn_ok [6] rfl rfl ?_
        refine TL.no rfl (.gn rfl rfl (decide_eq_false c8)) rfl ?_
        refine TL.no rfl (.gn rfl rfl (decide_eq_false c8)) rfl ?_
        refine TL.q rfl .u (Ex.pn rfl (decide_eq_false c8) rfl) rfl ?_
        refine TL.run ft_txn_ok [10] rfl rfl ?_
        cases h
        exact TL.nil (X.jq [0] ⟨rfl, rfl⟩ (by rfl) (by rfl))
    · replace h := ifF c7 h
      refine TL.run ft_txn_ok [0, 1, 2] rfl rfl ?_
      refine TL.no rfl (.gn rfl rfl (decide_eq_false c7)) rfl ?_
      refine TL.no rfl (.gn rfl rfl (decide_eq_false c7)) rfl ?_
      refine TL.q rfl .u (Ex.pn rfl (decide_eq_false c7) rfl) rfl ?_
      refine TL.run ft_txn_ok [6] rfl rfl ?_
      refine TL.no rfl (.gn rfl rfl rfl) rfl ?_
      refine TL.no rfl (.gn rfl rfl rfl) rfl ?_
      refine TL.q rfl .u (Ex.pn rfl rfl rfl) rfl ?_
      refine TL.run ft_txn_ok [10] rfl rfl ?_
      cases h
      exact TL.nil (X.jq [0] ⟨rfl, rfl⟩ (by rfl) (by rfl))
  · rintro _ _ ⟨rfl, rfl⟩
    clear h
    have h := hk6
    clear hk6
    try dsimp only at h
    obtain rfl := Option.some.inj h
    exact X.seq (T.ret (X.done1 [0] Try.results117 (RV.tm rfl) ⟨rfl, rfl, rfl⟩ (by rfl) (.inl rfl)))
def f_txn_PutBool (st : List UInt8 × Int) (a1 : Bool) : Option (List UInt8 × Int) := (if a1 = true then ((gOByte st 1).bind fun st9 => some st9) else ((gOByte st 0).bind fun st11 => some st11)).bind fun st6 => some st6
set_option maxRecDepth 100000 in
set_option maxHeartbeats 4000000 in
theorem f_txn_PutBool_spec (g : Nat) (st : List UInt8 × Int) (a1 : Bool) (r : List UInt8 × Int) (h : f_txn_PutBool st a1 = some r) : SpecX Try.prog 114 #[.pointer (some ⟨g, 0, none⟩), .bool a1] .triv (OutR g st) (fun v A' N => v = .tuple #[] ∧ A' = OutR g r ∧ N = []) := by
  refine enterA Try.func114 rfl Try.ntmps114 rfl ?_
  intro F w hX
  unfold f_txn_PutBool at h
  refine T.seq (T.region rfl ?_)
  refine TL.run ft_txn_ok [0] rfl rfl ?_
  refine TL.nil (X.seq ?_)
  obtain ⟨st6, h, hk7⟩ := Option.bind_eq_some_iff.1 h
  refine T.jq (fun e Rs => e = [] ∧ Rs = [OutR g st6]) ?_ ?_
  · clear hk7
    by_cases c8 : a1 = true
    · replace h := ifT c8 h
      refine T.yes rfl c8 ?_
      refine T.region rfl ?_
      obtain ⟨st9, hx10, h⟩ := Option.bind_eq_some_iff.1 h
      refine TL.run ft_txn_ok [0] rfl rfl ?_
      refine TL.c0 rfl .u (.fn Try.call174 rfl) (gOByte_spec g st 1 _ hx10) (fun _ hs => (Src.triv _)) rfl ?_
      cases h
      exact TL.nil (X.jq [0] ⟨rfl, rfl⟩ (by rfl) (by rfl))
    · replace h := ifF c8 h
      replace c8 := eq_false_of_ne_true c8
      refine T.no rfl c8 ?_
      refine T.region rfl ?_
      obtain ⟨st11, hx12, h⟩ := Option.bind_eq_some_iff.1 h
      refine TL.run ft_txn_ok [0] rfl rfl ?_
      refine TL.c0 rfl .u (.fn Try.call174 rfl) (gOByte_spec g st 0 _ hx12) (fun _ hs => (Src.triv _)) rfl ?_
      cases h
      exact TL.nil (X.jq [0] ⟨rfl, rfl⟩ (by rfl) (by rfl))
  · rintro _ _ ⟨rfl, rfl⟩
    clear h
    have h := hk7
    clear hk7
    try dsimp only at h
    obtain rfl := Option.some.inj h
    exact X.done0 [0] Try.results114 ⟨rfl, rfl, rfl⟩ (by rfl) (.inr rfl)
def f_txn_Bool (st : I)  : Option (Bool × I) := (gInt st 1).bind fun (x1, st2) => (if x1 = 0 then some false else (if x1 = 1 then some false else some true)).bind fun y5 => (if y5 = true then ((gIFail st2 11).bind fun st15 => some st15) else some st2).bind fun st12 => if x1 = 1 then some (true, st12) else some (false, st12)
set_option maxRecDepth 100000 in
set_option maxHeartbeats 4000000 in
theorem f_txn_Bool_spec (g : Nat) (st : I)  (r : Bool × I) (h : f_txn_Bool st  = some r) : SpecX Try.prog 106 #[.pointer (some ⟨g, 0, none⟩)] .triv (InR g st) (fun v A' N => v = .bool r.1 ∧ A' = InR g r.2 ∧ N = []) := by
  refine enterA Try.func106 rfl Try.ntmps106 rfl ?_
  intro F w hX
  unfold f_txn_Bool at h
  refine T.seq (T.region rfl ?_)
  refine TL.run ft_txn_ok [0] rfl rfl ?_
  refine TL.nil (X.seq (T.seq (T.region rfl ?_)))
  obtain ⟨⟨x1, st2⟩, hx3, h⟩ := Option.bind_eq_some_iff.1 h
  try dsimp only at h
  refine TL.run ft_txn_ok [0] rfl rfl ?_
  refine TL.c0 rfl .u (.fn Try.call83 rfl) (gInt_spec g st 1 _ hx3) (fun _ hs => (Src.triv _)) rfl ?_
  refine TL.run ft_txn_ok [2] rfl rfl ?_
  refine TL.nil (X.seq (T.seq (T.seq ?_)))
  obtain ⟨y5, h, hk6⟩ := Option.bind_eq_some_iff.1 h
  refine T.jq (fun e Rs => e = [(0, .pointer (some ⟨g, 0, none⟩)), (2, .bool false), (3, .int .i64 x1), (11, .bool y5)] ∧ Rs = [InR g st2]) ?_ ?_
  · clear hk6
    refine T.region rfl ?_
    by_cases c7 : x1 = 0
    · replace h := ifT c7 h
      refine TL.run ft_txn_ok [0, 1, 2] rfl rfl ?_
      refine TL.no rfl (.gn rfl rfl (bn_f (decide_eq_true c7))) rfl ?_
      refine TL.no rfl (.gn rfl rfl (bn_f (decide_eq_true c7))) rfl ?_
      refine TL.q rfl .u (Ex.pn rfl (bn_f (decide_eq_true c7)) rfl) rfl ?_
      cases h
      exact TL.nil (X.jq [0] ⟨rfl, rfl⟩ (by rfl) (by rfl))
    · replace h := ifF c7 h
      refine TL.run ft_txn_ok [0, 1, 2] rfl rfl ?_
      refine TL.q rfl (.g rfl rfl (bn_t (decide_eq_false c7))) (Ex.ft ft_txn_ok rfl) rfl ?_
      refine TL.q rfl (.g rfl rfl (bn_t (decide_eq_false c7))) (Ex.ft ft_txn_ok rfl) rfl ?_
      refine TL.q rfl .u (Ex.py rfl (bn_t (decide_eq_false c7)) rfl) rfl ?_
      by_cases c8 : x1 = 1
      · replace h := ifT c8 h
        cases h
        exact TL.nil (X.as (d := 11) (v' := .bool false) rfl (congrArg Value.bool (bn_f (decide_eq_true c8))) (X.jq [0] ⟨rfl, rfl⟩ (by rfl) (by rfl)))
      · replace h := ifF c8 h
        cases h
        exact TL.nil (X.as (d := 11) (v' := .bool true) rfl (congrArg Value.bool (bn_t (decide_eq_false c8))) (X.jq [0] ⟨rfl, rfl⟩ (by rfl) (by rfl)))
  · rintro _ _ ⟨rfl, rfl⟩
    clear h
    have h := hk6
    clear hk6
    try dsimp only at h
    refine X.seq ?_
    obtain ⟨st12, h, hk13⟩ := Option.bind_eq_some_iff.1 h
    refine T.jq (fun e Rs => e = [(2, .bool false), (3, .int .i64 x1)] ∧ Rs = [InR g st12]) ?_ ?_
    · clear hk13
      by_cases c14 : y5 = true
      · replace h := ifT c14 h
        refine T.yes rfl c14 ?_
        refine T.region rfl ?_
        obtain ⟨st15, hx16, h⟩ := Option.bind_eq_some_iff.1 h
        refine TL.run ft_txn_ok [0] rfl rfl ?_
        refine TL.c0 rfl .u (.fn Try.call84 rfl) (gIFail_spec g st2 11 _ hx16) (fun _ hs => (Src.triv _)) rfl ?_
        cases h
        exact TL.nil (X.jq [0] ⟨rfl, rfl⟩ (by rfl) (by rfl))
      · replace h := ifF c14 h
        replace c14 := eq_false_of_ne_true c14
        refine T.no rfl c14 ?_
        cases h
        exact T.skip (X.jq [0] ⟨rfl, rfl⟩ (by rfl) (by rfl))
    · rintro _ _ ⟨rfl, rfl⟩
      clear h
      have h := hk13
      clear hk13
      try dsimp only at h
      refine X.seq (T.seq (T.region rfl ?_))
      refine TL.run ft_txn_ok [0, 1, 2] rfl rfl ?_
      by_cases c17 : x1 = 1
      · replace h := ifT c17 h
        obtain rfl := Option.some.inj h
        exact TL.nil (X.seq (T.ret (X.done1 [0] Try.results106 (RV.tm (v := .bool true) (congrArg (fun b => some (Value.bool b)) (decide_eq_true c17))) ⟨rfl, rfl, rfl⟩ (by rfl) (.inl rfl))))
      · replace h := ifF c17 h
        obtain rfl := Option.some.inj h
        exact TL.nil (X.seq (T.ret (X.done1 [0] Try.results106 (RV.tm (v := .bool false) (congrArg (fun b => some (Value.bool b)) (decide_eq_false c17))) ⟨rfl, rfl, rfl⟩ (by rfl) (.inl rfl))))
def f_txn_EndCheck (a0 : TxnEnd) : Option (Int) := (gKRight a0.fID).bind fun x2 => if x2 = true then ((f_txn_Who a0.fProducer a0.fEpoch).bind fun x5 => if x5 = true then some 0 else some 11) else some 4
set_option maxRecDepth 100000 in
set_option maxHeartbeats 4000000 in
theorem f_txn_EndCheck_spec (a0 : TxnEnd) (r : Int) (h : f_txn_EndCheck a0 = some r) : SpecX Try.prog 63 #[.agg #[.string (bsOf a0.fID), .int .i64 a0.fProducer, .int .i64 a0.fEpoch, .bool a0.fCommit]] .triv (EmpR) (fun v A' N => v = .int .i64 r ∧ A' = EmpR ∧ N = []) := by
  refine enterA Try.func63 rfl Try.ntmps63 rfl ?_
  intro F w hX
  unfold f_txn_EndCheck at h
  refine T.seq (T.region rfl ?_)
  refine TL.box rfl .u rfl rfl (fun b1 => ?_)
  refine TL.run ft_txn_ok [1] rfl rfl ?_
  refine TL.nil (X.seq (T.seq (T.block (T.seq (T.region rfl ?_)))))
  refine TL.run ft_txn_ok [0] rfl rfl ?_
  refine TL.q rfl .u (Ex.b1 0 rfl Try.isAgg9 rfl rfl) rfl ?_
  obtain ⟨x2, hx3, h⟩ := Option.bind_eq_some_iff.1 h
  refine TL.ce rfl .u (.fn Try.call133 rfl) (SpecX.pure (fun w => gKRight_spec a0.fID _ hx3 w)) (fun _ _ => RX.reads_triv _ _) rfl ?_
  refine TL.run ft_txn_ok [3, 4] rfl rfl ?_
  by_cases c4 : x2 = true
  · replace h := ifT c4 h
    refine TL.nil (X.seq ?_)
    refine T.no rfl (bn_f c4) ?_
    refine T.seq (T.region rfl ?_)
    refine TL.run ft_txn_ok [0] rfl rfl ?_
    refine TL.q rfl .u (Ex.b1 0 rfl Try.isAgg3 rfl rfl) rfl ?_
    refine TL.run ft_txn_ok [2] rfl rfl ?_
    refine TL.q rfl .u (Ex.b1 0 rfl Try.isAgg3 rfl rfl) rfl ?_
    obtain ⟨x5, hx6, h⟩ := Option.bind_eq_some_iff.1 h
    refine TL.ce rfl .u (.fn Try.call117 rfl) (f_txn_Who_spec a0.fProducer a0.fEpoch _ hx6) (fun _ hs => (RX.reads_triv _ _)) rfl ?_
    refine TL.run ft_txn_ok [5, 6] rfl rfl ?_
    by_cases c7 : x5 = true
    · replace h := ifT c7 h
      refine TL.nil (X.seq ?_)
      refine T.no rfl (bn_f c7) ?_
      refine T.skip (X.blk (X.seq (T.seq (T.region rfl ?_))))
      refine TL.run ft_txn_ok [0] rfl rfl ?_
      obtain rfl := Option.some.inj h
      exact TL.nil (X.seq (T.ret (X.done1 [1] Try.results63 (RV.tm rfl) ⟨rfl, rfl, rfl⟩ (by rfl) (.inl rfl))))
    · replace h := ifF c7 h
      replace c7 := eq_false_of_ne_true c7
      refine TL.nil (X.seq ?_)
      refine T.yes rfl (bn_t c7) ?_
      refine T.seq (T.region rfl ?_)
      refine TL.run ft_txn_ok [0] rfl rfl ?_
      obtain rfl := Option.some.inj h
      exact TL.nil (X.seq (T.ret (X.rb (X.rs (X.done1 [1] Try.results63 (RV.tm rfl) ⟨rfl, rfl, rfl⟩ (by rfl) (.inl rfl))))))
  · replace h := ifF c4 h
    replace c4 := eq_false_of_ne_true c4
    refine TL.nil (X.seq ?_)
    refine T.yes rfl (bn_t c4) ?_
    refine T.seq (T.region rfl ?_)
    refine TL.run ft_txn_ok [0] rfl rfl ?_
    obtain rfl := Option.some.inj h
    exact TL.nil (X.seq (T.ret (X.rb (X.rs (X.done1 [1] Try.results63 (RV.tm rfl) ⟨rfl, rfl, rfl⟩ (by rfl) (.inl rfl))))))
def f_txn_fail (st : List UInt8 × Int) (a1 : Int) : Option (Bool × (List UInt8 × Int)) := (if a1 = 0 then some st else ((gOFail st a1).bind fun st7 => some st7)).bind fun st4 => if a1 = 0 then some (false, st4) else some (true, st4)
set_option maxRecDepth 100000 in
set_option maxHeartbeats 4000000 in
theorem f_txn_fail_spec (g : Nat) (st : List UInt8 × Int) (a1 : Int) (r : Bool × (List UInt8 × Int)) (h : f_txn_fail st a1 = some r) : SpecX Try.prog 140 #[.pointer (some ⟨g, 0, none⟩), .int .i64 a1] .triv (OutR g st) (fun v A' N => v = .bool r.1 ∧ A' = OutR g r.2 ∧ N = []) := by
  refine enterA Try.func140 rfl Try.ntmps140 rfl ?_
  intro F w hX
  unfold f_txn_fail at h
  refine T.seq (T.region rfl ?_)
  refine TL.run ft_txn_ok [0] rfl rfl ?_
  refine TL.nil (X.seq (T.seq (T.seq (T.region rfl ?_))))
  refine TL.run ft_txn_ok [0, 1] rfl rfl ?_
  refine TL.nil (X.seq ?_)
  obtain ⟨st4, h, hk5⟩ := Option.bind_eq_some_iff.1 h
  refine T.jq (fun e Rs => e = [(1, .int .i64 a1), (4, .bool false)] ∧ Rs = [OutR g st4]) ?_ ?_
  · clear hk5
    by_cases c6 : a1 = 0
    · replace h := ifT c6 h
      refine T.no rfl (bn_f (decide_eq_true c6)) ?_
      cases h
      exact T.skip (X.jq [0] ⟨rfl, rfl⟩ (by rfl) (by rfl))
    · replace h := ifF c6 h
      refine T.yes rfl (bn_t (decide_eq_false c6)) ?_
      refine T.region rfl ?_
      obtain ⟨st7, hx8, h⟩ := Option.bind_eq_some_iff.1 h
      refine TL.run ft_txn_ok [0, 1] rfl rfl ?_
      refine TL.c0 rfl .u (.fn Try.call101 rfl) (gOFail_spec g st a1 _ hx8) (fun _ hs => (Src.triv _)) rfl ?_
      cases h
      exact TL.nil (X.jq [0] ⟨rfl, rfl⟩ (by rfl) (by rfl))
  · rintro _ _ ⟨rfl, rfl⟩
    clear h
    have h := hk5
    clear hk5
    try dsimp only at h
    refine X.seq (T.seq (T.region rfl ?_))
    refine TL.run ft_txn_ok [0, 1, 2] rfl rfl ?_
    by_cases c9 : a1 = 0
    · replace h := ifT c9 h
      obtain rfl := Option.some.inj h
      exact TL.nil (X.seq (T.ret (X.done1 [0] Try.results140 (RV.tm (v := .bool false) (congrArg (fun b => some (Value.bool b)) (bn_f (decide_eq_true c9)))) ⟨rfl, rfl, rfl⟩ (by rfl) (.inl rfl))))
    · replace h := ifF c9 h
      obtain rfl := Option.some.inj h
      exact TL.nil (X.seq (T.ret (X.done1 [0] Try.results140 (RV.tm (v := .bool true) (congrArg (fun b => some (Value.bool b)) (bn_t (decide_eq_false c9)))) ⟨rfl, rfl, rfl⟩ (by rfl) (.inl rfl))))
def f_txn_wrong_TxnEnd (st : List UInt8 × Int) (a1 : TxnEnd) : Option (Bool × (List UInt8 × Int)) := (f_txn_EndCheck a1).bind fun x1 => (f_txn_fail st x1).bind fun (x3, st4) => some (x3, st4)
set_option maxRecDepth 100000 in
set_option maxHeartbeats 4000000 in
theorem f_txn_wrong_TxnEnd_spec (g : Nat) (st : List UInt8 × Int) (a1 : TxnEnd) (r : Bool × (List UInt8 × Int)) (h : f_txn_wrong_TxnEnd st a1 = some r) : SpecX Try.prog 141 #[.pointer (some ⟨g, 0, none⟩), .iface 109 (.agg #[.string (bsOf a1.fID), .int .i64 a1.fProducer, .int .i64 a1.fEpoch, .bool a1.fCommit])] .triv (OutR g st) (fun v A' N => v = .bool r.1 ∧ A' = OutR g r.2 ∧ N = []) := by
  refine enterA Try.func141 rfl Try.ntmps141 rfl ?_
  intro F w hX
  unfold f_txn_wrong_TxnEnd at h
  refine T.seq (T.region rfl ?_)
  refine TL.run ft_txn_ok [0] rfl rfl ?_
  refine TL.nil (X.seq (T.seq (T.region rfl ?_)))
  obtain ⟨x1, hx2, h⟩ := Option.bind_eq_some_iff.1 h
  refine TL.run ft_txn_ok [0, 1] rfl rfl ?_
  refine TL.ce rfl .u (.inv rfl (meth_txn_109_Check _) Try.call63 rfl) (f_txn_EndCheck_spec a1 _ hx2) (fun _ hs => (RX.reads_triv _ _)) rfl ?_
  obtain ⟨⟨x3, st4⟩, hx5, h⟩ := Option.bind_eq_some_iff.1 h
  try dsimp only at h
  refine TL.c0 rfl .u (.fn Try.call140 rfl) (f_txn_fail_spec g st x1 _ hx5) (fun _ hs => (Src.triv _)) rfl ?_
  refine TL.run ft_txn_ok [4] rfl rfl ?_
  obtain rfl := Option.some.inj h
  exact TL.nil (X.seq (T.ret (X.done1 [0] Try.results141 (RV.tm rfl) ⟨rfl, rfl, rfl⟩ (by rfl) (.inl rfl))))
def f_txn_EndWrite (st : List UInt8 × Int) (a0 : TxnEnd) : Option (List UInt8 × Int) := (f_txn_wrong_TxnEnd st a0).bind fun (x2, st3) => if x2 = true then some st3 else ((gPutText st3 a0.fID).bind fun st6 => (gOInt st6 a0.fProducer 8).bind fun st8 => (gOInt st8 a0.fEpoch 2).bind fun st10 => (f_txn_PutBool st10 a0.fCommit).bind fun st12 => some st12)
set_option maxRecDepth 100000 in
set_option maxHeartbeats 4000000 in
theorem f_txn_EndWrite_spec (g : Nat) (st : List UInt8 × Int) (a0 : TxnEnd) (r : List UInt8 × Int) (h : f_txn_EndWrite st a0 = some r) : SpecX Try.prog 66 #[.agg #[.string (bsOf a0.fID), .int .i64 a0.fProducer, .int .i64 a0.fEpoch, .bool a0.fCommit], .pointer (some ⟨g, 0, none⟩)] .triv (OutR g st) (fun v A' N => v = .tuple #[] ∧ A' = OutR g r ∧ N = []) := by
  refine enterA Try.func66 rfl Try.ntmps66 rfl ?_
  intro F w hX
  unfold f_txn_EndWrite at h
  refine T.seq (T.region rfl ?_)
  refine TL.box rfl .u rfl rfl (fun b1 => ?_)
  refine TL.nil (X.seq (T.seq (T.seq (T.region rfl ?_))))
  refine TL.run ft_txn_ok [0] rfl rfl ?_
  refine TL.q rfl .u (Ex.bS (us := [.string (bsOf a0.fID), .int .i64 a0.fProducer, .int .i64 a0.fEpoch, .bool a0.fCommit]) 0 rfl Try.isAgg109 Try.sizeOf109 rfl rfl rfl) rfl ?_
  refine TL.q rfl .u (Ex.mkI rfl Try.runUnderlying109) rfl ?_
  obtain ⟨⟨x2, st3⟩, hx4, h⟩ := Option.bind_eq_some_iff.1 h
  try dsimp only at h
  refine TL.c1 rfl .u (.fn Try.call141 rfl) (f_txn_wrong_TxnEnd_spec g st a0 _ hx4) (fun _ hs => (Src.triv _)) rfl ?_
  by_cases c5 : x2 = true
  · replace h := ifT c5 h
    refine TL.nil (X.seq ?_)
    refine T.yes rfl c5 ?_
    obtain rfl := Option.some.inj h
    exact T.ret (X.rs (X.done0 [1] Try.results66 ⟨rfl, rfl, rfl⟩ (by rfl) (.inl rfl)))
  · replace h := ifF c5 h
    replace c5 := eq_false_of_ne_true c5
    refine TL.nil (X.seq ?_)
    refine T.no rfl c5 ?_
    refine T.skip (X.seq (T.seq (T.region rfl ?_)))
    refine TL.run ft_txn_ok [0, 1] rfl rfl ?_
    refine TL.q rfl .u (Ex.b1 0 rfl Try.isAgg9 rfl rfl) rfl ?_
    obtain ⟨st6, hx7, h⟩ := Option.bind_eq_some_iff.1 h
    refine TL.c1 rfl .u (.fn Try.call134 rfl) (gPutText_spec g st3 a0.fID _ hx7) (fun _ hs => (Src.triv _)) rfl ?_
    refine TL.nil (X.seq (T.seq (T.region rfl ?_)))
    refine TL.run ft_txn_ok [0, 1] rfl rfl ?_
    refine TL.q rfl .u (Ex.b1 0 rfl Try.isAgg3 rfl rfl) rfl ?_
    obtain ⟨st8, hx9, h⟩ := Option.bind_eq_some_iff.1 h
    refine TL.c1 rfl .u (.fn Try.call113 rfl) (gOInt_spec g st6 a0.fProducer 8 _ hx9) (fun _ hs => (Src.triv _)) rfl ?_
    refine TL.nil (X.seq (T.seq (T.region rfl ?_)))
    refine TL.run ft_txn_ok [0, 1] rfl rfl ?_
    refine TL.q rfl .u (Ex.b1 0 rfl Try.isAgg3 rfl rfl) rfl ?_
    obtain ⟨st10, hx11, h⟩ := Option.bind_eq_some_iff.1 h
    refine TL.c1 rfl .u (.fn Try.call113 rfl) (gOInt_spec g st8 a0.fEpoch 2 _ hx11) (fun _ hs => (Src.triv _)) rfl ?_
    refine TL.nil (X.seq (T.region rfl ?_))
    refine TL.run ft_txn_ok [0, 1] rfl rfl ?_
    refine TL.q rfl .u (Ex.b1 0 rfl Try.isAgg4 rfl rfl) rfl ?_
    obtain ⟨st12, hx13, h⟩ := Option.bind_eq_some_iff.1 h
    refine TL.c1 rfl .u (.fn Try.call114 rfl) (f_txn_PutBool_spec g st10 a0.fCommit _ hx13) (fun _ hs => (Src.triv _)) rfl ?_
    obtain rfl := Option.some.inj h
    exact TL.nil (X.done0 [1] Try.results66 ⟨rfl, rfl, rfl⟩ (by rfl) (.inr rfl))
def f_txn_closed_txn_EndCheck (st : I) (a1_0 : TxnEnd) : Option (Bool × I) := (gErr st).bind fun (x1, st2) => if x1 = 0 then ((f_txn_EndCheck a1_0).bind fun x5 => if x5 = 0 then some (true, st2) else ((gIFail st2 x5).bind fun st8 => some (false, st8))) else some (false, st2)
set_option maxRecDepth 100000 in
set_option maxHeartbeats 4000000 in
theorem f_txn_closed_txn_EndCheck_spec (g : Nat) (st : I) (a1_0 : TxnEnd) (r : Bool × I) (h : f_txn_closed_txn_EndCheck st a1_0 = some r) : SpecX Try.prog 143 #[.pointer (some ⟨g, 0, none⟩), .func (.func 63) #[.agg #[.string (bsOf a1_0.fID), .int .i64 a1_0.fProducer, .int .i64 a1_0.fEpoch, .bool a1_0.fCommit]] #[]] .triv (InR g st) (fun v A' N => v = .bool r.1 ∧ A' = InR g r.2 ∧ N = []) := by
  refine enterA Try.func143 rfl Try.ntmps143 rfl ?_
  intro F w hX
  unfold f_txn_closed_txn_EndCheck at h
  refine T.seq (T.region rfl ?_)
  refine TL.run ft_txn_ok [0] rfl rfl ?_
  refine TL.nil (X.seq (T.seq (T.seq (T.region rfl ?_))))
  obtain ⟨⟨x1, st2⟩, hx3, h⟩ := Option.bind_eq_some_iff.1 h
  try dsimp only at h
  refine TL.run ft_txn_ok [0] rfl rfl ?_
  refine TL.c0 rfl .u (.fn Try.call19 rfl) (gErr_spec g st _ hx3) (fun _ hs => (Src.triv _)) rfl ?_
  refine TL.run ft_txn_ok [2] rfl rfl ?_
  by_cases c4 : x1 = 0
  · replace h := ifT c4 h
    refine TL.nil (X.seq ?_)
    refine T.no rfl (bn_f (decide_eq_true c4)) ?_
    refine T.skip (X.seq (T.seq (T.seq (T.region rfl ?_))))
    obtain ⟨x5, hx6, h⟩ := Option.bind_eq_some_iff.1 h
    refine TL.run ft_txn_ok [0] rfl rfl ?_
    refine TL.ce rfl .u (.val rfl Try.call63 rfl rfl) (f_txn_EndCheck_spec a1_0 _ hx6) (fun _ hs => (RX.reads_triv _ _)) rfl ?_
    refine TL.run ft_txn_ok [2] rfl rfl ?_
    refine TL.nil (X.seq (T.seq (T.region rfl ?_)))
    refine TL.run ft_txn_ok [0, 1] rfl rfl ?_
    by_cases c7 : x5 = 0
    · replace h := ifT c7 h
      refine TL.nil (X.seq ?_)
      refine T.no rfl (bn_f (decide_eq_true c7)) ?_
      refine T.skip (X.seq (T.seq (T.region rfl ?_)))
      refine TL.run ft_txn_ok [0] rfl rfl ?_
      obtain rfl := Option.some.inj h
      exact TL.nil (X.seq (T.ret (X.done1 [0] Try.results143 (RV.tm rfl) ⟨rfl, rfl, rfl⟩ (by rfl) (.inl rfl))))
    · replace h := ifF c7 h
      refine TL.nil (X.seq ?_)
      refine T.yes rfl (bn_t (decide_eq_false c7)) ?_
      refine T.seq (T.region rfl ?_)
      obtain ⟨st8, hx9, h⟩ := Option.bind_eq_some_iff.1 h
      refine TL.run ft_txn_ok [0, 1] rfl rfl ?_
      refine TL.c0 rfl .u (.fn Try.call84 rfl) (gIFail_spec g st2 x5 _ hx9) (fun _ hs => (Src.triv _)) rfl ?_
      refine TL.nil (X.seq (T.seq (T.region rfl ?_)))
      refine TL.run ft_txn_ok [0] rfl rfl ?_
      obtain rfl := Option.some.inj h
      exact TL.nil (X.seq (T.ret (X.rs (X.done1 [0] Try.results143 (RV.tm rfl) ⟨rfl, rfl, rfl⟩ (by rfl) (.inl rfl)))))
  · replace h := ifF c4 h
    refine TL.nil (X.seq ?_)
    refine T.yes rfl (bn_t (decide_eq_false c4)) ?_
    refine T.seq (T.region rfl ?_)
    refine TL.run ft_txn_ok [0] rfl rfl ?_
    obtain rfl := Option.some.inj h
    exact TL.nil (X.seq (T.ret (X.rs (X.done1 [0] Try.results143 (RV.tm rfl) ⟨rfl, rfl, rfl⟩ (by rfl) (.inl rfl)))))
def f_txn_ReadEnd (st : I)  : Option (TxnEnd × I) := (gText st).bind fun (x2, st3) => (gInt st3 8).bind fun (x5, st6) => (gInt st6 2).bind fun (x8, st9) => (f_txn_Bool st9).bind fun (x12, st13) => (f_txn_closed_txn_EndCheck st13 (⟨x2, x5, x8, x12⟩ : TxnEnd)).bind fun (x15, st16) => if x15 = true then (some ((⟨x2, x5, x8, x12⟩ : TxnEnd), st16)) else (some ((⟨[], 0, 0, false⟩ : TxnEnd), st16))
set_option maxRecDepth 100000 in
set_option maxHeartbeats 4000000 in
theorem f_txn_ReadEnd_spec (g : Nat) (st : I)  (r : TxnEnd × I) (h : f_txn_ReadEnd st  = some r) : SpecX Try.prog 69 #[.pointer (some ⟨g, 0, none⟩)] .triv (InR g st) (fun v A' N => v = .agg #[.string (bsOf r.1.fID), .int .i64 r.1.fProducer, .int .i64 r.1.fEpoch, .bool r.1.fCommit] ∧ A' = InR g r.2 ∧ N = []) := by
  refine enterA Try.func69 rfl Try.ntmps69 rfl ?_
  intro F w hX
  unfold f_txn_ReadEnd at h
  refine T.seq (T.region rfl ?_)
  refine TL.alloc rfl .u Try.zeroValue109 rfl (fun b1 => ?_)
  refine TL.nil (X.seq (T.seq (T.region rfl ?_)))
  obtain ⟨⟨x2, st3⟩, hx4, h⟩ := Option.bind_eq_some_iff.1 h
  try dsimp only at h
  refine TL.run ft_txn_ok [0] rfl rfl ?_
  refine TL.c1 rfl .u (.fn Try.call136 rfl) (gText_spec g st _ hx4) (fun _ hs => (Src.triv _)) rfl ?_
  obtain ⟨⟨x5, st6⟩, hx7, h⟩ := Option.bind_eq_some_iff.1 h
  try dsimp only at h
  refine TL.run ft_txn_ok [2] rfl rfl ?_
  refine TL.c1 rfl .u (.fn Try.call83 rfl) (gInt_spec g st3 8 _ hx7) (fun _ hs => (Src.triv _)) rfl ?_
  obtain ⟨⟨x8, st9⟩, hx10, h⟩ := Option.bind_eq_some_iff.1 h
  try dsimp only at h
  refine TL.run ft_txn_ok [4] rfl rfl ?_
  refine TL.c1 rfl .u (.fn Try.call83 rfl) (gInt_spec g st6 2 _ hx10) (fun _ hs => (Src.triv _)) rfl ?_
  refine TL.q rfl .u (Ex.bld (cells := #[.string (bsOf x2), .int .i64 x5, .int .i64 x8, .bool false]) bok_txn_109 rfl (by kernel_rfl)) rfl ?_
  refine TL.alloc rfl .u Try.zeroValue109 rfl (fun b11 => ?_)
  refine TL.st0 (cs' := #[.string (bsOf x2), .int .i64 x5, .int .i64 x8, .bool false]) rfl .u rfl rfl Try.sizeOf109 rfl rfl rfl rfl ?_
  refine TL.nil (X.seq (T.seq (T.region rfl ?_)))
  obtain ⟨⟨x12, st13⟩, hx14, h⟩ := Option.bind_eq_some_iff.1 h
  try dsimp only at h
  refine TL.run ft_txn_ok [0] rfl rfl ?_
  refine TL.c2 rfl .u (.fn Try.call106 rfl) (f_txn_Bool_spec g st9 _ hx14) (fun _ hs => (Src.triv _)) rfl ?_
  refine TL.run ft_txn_ok [2] rfl rfl ?_
  refine TL.st0 (cs' := #[.string (bsOf x2), .int .i64 x5, .int .i64 x8, .bool x12]) rfl .u rfl rfl Try.sizeOf4 rfl rfl rfl rfl ?_
  refine TL.nil (X.seq (T.seq (T.seq (T.region rfl ?_))))
  refine TL.run ft_txn_ok [0] rfl rfl ?_
  refine TL.q rfl .u (Ex.bS (us := [.string (bsOf x2), .int .i64 x5, .int .i64 x8, .bool x12]) 0 rfl Try.isAgg109 Try.sizeOf109 rfl rfl rfl) rfl ?_
  refine TL.q rfl .u (Ex.mkF rfl rfl (fun _ => rfl)) rfl ?_
  obtain ⟨⟨x15, st16⟩, hx17, h⟩ := Option.bind_eq_some_iff.1 h
  try dsimp only at h
  refine TL.c2 rfl .u (.fn Try.call143 rfl) (f_txn_closed_txn_EndCheck_spec g st13 (⟨x2, x5, x8, x12⟩ : TxnEnd) _ hx17) (fun _ hs => (Src.triv _)) rfl ?_
  refine TL.run ft_txn_ok [4] rfl rfl ?_
  by_cases c18 : x15 = true
  · replace h := ifT c18 h
    refine TL.nil (X.seq ?_)
    refine T.no rfl (bn_f c18) ?_
    refine T.skip (X.seq (T.seq (T.region rfl ?_)))
    refine TL.q rfl .u (Ex.bS (us := [.string (bsOf x2), .int .i64 x5, .int .i64 x8, .bool x12]) 0 rfl Try.isAgg109 Try.sizeOf109 rfl rfl rfl) rfl ?_
    refine TL.st1 (cs' := #[.string (bsOf x2), .int .i64 x5, .int .i64 x8, .bool x12]) rfl .u rfl rfl Try.sizeOf109 rfl rfl rfl rfl ?_
    obtain rfl := Option.some.inj h
    exact TL.nil (X.seq (T.ret (X.done1 [2] Try.results69 (RV.cS (us := #[.string (bsOf x2), .int .i64 x5, .int .i64 x8, .bool x12]) 1 rfl Try.isAgg109 Try.sizeOf109 rfl rfl) ⟨rfl, rfl, rfl⟩ (by rfl) (.inl rfl))))
  · replace h := ifF c18 h
    replace c18 := eq_false_of_ne_true c18
    refine TL.nil (X.seq ?_)
    refine T.yes rfl (bn_t c18) ?_
    refine T.seq (T.region rfl ?_)
    refine TL.q rfl .u (Ex.bld (cells := #[.string ⟨#[]⟩, .int .i64 0, .int .i64 0, .bool false]) bok_txn_109 rfl (by kernel_rfl)) rfl ?_
    refine TL.st1 (cs' := #[.string ⟨#[]⟩, .int .i64 0, .int .i64 0, .bool false]) rfl .u rfl rfl Try.sizeOf109 rfl rfl rfl rfl ?_
    obtain rfl := Option.some.inj h
    exact TL.nil (X.seq (T.ret (X.rs (X.done1 [2] Try.results69 (RV.cS (us := #[.string ⟨#[]⟩, .int .i64 0, .int .i64 0, .bool false]) 1 rfl Try.isAgg109 Try.sizeOf109 rfl rfl) ⟨rfl, rfl, rfl⟩ (by rfl) (.inl rfl)))))
def f_txn_BeginCheck (a0 : TxnBegin) (a1 : Int) : Option (Int) := (if a0.fProducer = (-1) then (if a0.fEpoch = (-1) then some true else some false) else some false).bind fun y3 => ((gRight a0.fID).bind fun x15 => if x15 = true then (if a0.fID.null = true then some false else ((gKRight a0.fID.data).bind fun x19 => if x19 = true then some false else some true)) else some true).bind fun y13 => if y13 = true then some 4 else ((if a0.fTimeout < 0 then some true else ((gFits a0.fTimeout 4).bind fun x29 => if x29 = true then some false else some true)).bind fun y26 => (if y26 = true then some true else ((if y3 = true then some false else (if a1 > 0 then ((f_txn_Who a0.fProducer a0.fEpoch).bind fun x55 => if x55 = true then some false else some true) else some true)).bind fun y51 => some y51)).bind fun y44 => if y44 = true then some 11 else some 0)
set_option maxRecDepth 100000 in
set_option maxHeartbeats 4000000 in
theorem f_txn_BeginCheck_spec (a0 : TxnBegin) (a1 : Int) (r : Int) (h : f_txn_BeginCheck a0 a1 = some r) : SpecX Try.prog 65 #[.agg #[.bool a0.fID.null, .string (bsOf a0.fID.data), .int .i64 a0.fTimeout, .int .i64 a0.fProducer, .int .i64 a0.fEpoch], .int .i64 a1] .triv (EmpR) (fun v A' N => v = .int .i64 r ∧ A' = EmpR ∧ N = []) := by
  refine enterA Try.func65 rfl Try.ntmps65 rfl ?_
  intro F w hX
  unfold f_txn_BeginCheck at h
  refine T.seq (T.region rfl ?_)
  refine TL.box rfl .u rfl rfl (fun b1 => ?_)
  refine TL.run ft_txn_ok [1] rfl rfl ?_
  refine TL.nil (X.seq (T.seq ?_))
  obtain ⟨y3, h, hk4⟩ := Option.bind_eq_some_iff.1 h
  refine T.jq (fun e Rs => e = [(1, .int .i64 a1), (2, .pointer (some ⟨b1, 0, none⟩)), (4, .int .i64 0), (5, .bool y3)] ∧ Rs = [BlkR b1 107 #[.bool a0.fID.null, .string (bsOf a0.fID.data), .int .i64 a0.fTimeout, .int .i64 a0.fProducer, .int .i64 a0.fEpoch], EmpR]) ?_ ?_
  · clear hk4
    refine T.region rfl ?_
    refine TL.run ft_txn_ok [0] rfl rfl ?_
    refine TL.q rfl .u (Ex.b1 0 rfl Try.isAgg3 rfl rfl) rfl ?_
    by_cases c5 : a0.fProducer = (-1)
    · replace h := ifT c5 h
      refine TL.run ft_txn_ok [2, 3] rfl rfl ?_
      refine TL.q rfl (.g rfl rfl (decide_eq_true c5)) (Ex.ft ft_txn_ok rfl) rfl ?_
      refine TL.q rfl (.g rfl rfl (decide_eq_true c5)) (Ex.b1 0 rfl Try.isAgg3 rfl rfl) rfl ?_
      refine TL.q rfl (.g rfl rfl (decide_eq_true c5)) (Ex.ft ft_txn_ok rfl) rfl ?_
      refine TL.q rfl .u (Ex.py rfl (decide_eq_true c5) rfl) rfl ?_
      refine TL.run ft_txn_ok [8] rfl rfl ?_
      by_cases c6 : a0.fEpoch = (-1)
      · replace h := ifT c6 h
        cases h
        exact TL.nil (X.as (d := 5) (v' := .bool true) rfl (congrArg Value.bool (decide_eq_true c6)) (X.jq [0, 0] ⟨rfl, rfl⟩ (by rfl) (by rfl)))
      · replace h := ifF c6 h
        cases h
        exact TL.nil (X.as (d := 5) (v' := .bool false) rfl (congrArg Value.bool (decide_eq_false c6)) (X.jq [0, 0] ⟨rfl, rfl⟩ (by rfl) (by rfl)))
    · replace h := ifF c5 h
      refine TL.run ft_txn_ok [2, 3] rfl rfl ?_
      refine TL.no rfl (.gn rfl rfl (decide_eq_false c5)) rfl ?_
      refine TL.no rfl (.gn rfl rfl (decide_eq_false c5)) rfl ?_
      refine TL.no rfl (.gn rfl rfl (decide_eq_false c5)) rfl ?_
      refine TL.q rfl .u (Ex.pn rfl (decide_eq_false c5) rfl) rfl ?_
      refine TL.run ft_txn_ok [8] rfl rfl ?_
      cases h
      exact TL.nil (X.jq [0, 0] ⟨rfl, rfl⟩ (by rfl) (by rfl))
  · rintro _ _ ⟨rfl, rfl⟩
    clear h
    have h := hk4
    clear hk4
    try dsimp only at h
    refine X.seq (T.seq (T.block (T.seq ?_)))
    obtain ⟨y13, h, hk14⟩ := Option.bind_eq_some_iff.1 h
    refine T.jq (fun e Rs => e = [(1, .int .i64 a1), (2, .pointer (some ⟨b1, 0, none⟩)), (4, .int .i64 0), (5, .bool y3), (14, .bool y13)] ∧ Rs = [BlkR b1 107 #[.bool a0.fID.null, .string (bsOf a0.fID.data), .int .i64 a0.fTimeout, .int .i64 a0.fProducer, .int .i64 a0.fEpoch], EmpR]) ?_ ?_
    · clear hk14
      refine T.region rfl ?_
      refine TL.run ft_txn_ok [0] rfl rfl ?_
      refine TL.q rfl .u (Ex.bS (us := [.bool a0.fID.null, .string (bsOf a0.fID.data)]) 0 rfl Try.isAgg26 Try.sizeOf26 rfl rfl rfl) rfl ?_
      obtain ⟨x15, hx16, h⟩ := Option.bind_eq_some_iff.1 h
      refine TL.ce rfl .u (.fn Try.call138 rfl) (gRight_spec a0.fID _ hx16) (fun _ hs => (RX.reads_triv _ _)) rfl ?_
      by_cases c17 : x15 = true
      · replace h := ifT c17 h
        refine TL.run ft_txn_ok [3, 4] rfl rfl ?_
        refine TL.q rfl (.g rfl rfl (bn_f c17)) (Ex.ft ft_txn_ok rfl) rfl ?_
        refine TL.q rfl (.g rfl rfl (bn_f c17)) (Ex.ft ft_txn_ok rfl) rfl ?_
        refine TL.q rfl (.g rfl rfl (bn_f c17)) (Ex.b1 0 rfl Try.isAgg4 rfl rfl) rfl ?_
        refine TL.q rfl (.g rfl rfl (bn_f c17)) (Ex.ft ft_txn_ok rfl) rfl ?_
        refine TL.q rfl (.g rfl rfl (bn_f c17)) (Ex.ft ft_txn_ok rfl) rfl ?_
        by_cases c18 : a0.fID.null = true
        · replace h := ifT c18 h
          refine TL.no rfl (.gn rfl rfl (bn_f c18)) rfl ?_
          refine TL.no rfl (.gn rfl rfl (bn_f c18)) rfl ?_
          refine TL.no rfl (.gn rfl rfl (bn_f c18)) rfl ?_
          refine TL.no rfl (.gn rfl rfl (bn_f c18)) rfl ?_
          refine TL.no rfl (.gn rfl rfl (bn_f c18)) rfl ?_
          refine TL.q rfl (.g rfl rfl (bn_f c17)) (Ex.pn rfl (bn_f c18) rfl) rfl ?_
          refine TL.q rfl .u (Ex.pn rfl (bn_f c17) rfl) rfl ?_
          refine TL.run ft_txn_ok [17] rfl rfl ?_
          cases h
          exact TL.nil (X.jq [0, 0] ⟨rfl, rfl⟩ (by rfl) (by rfl))
        · replace h := ifF c18 h
          replace c18 := eq_false_of_ne_true c18
          refine TL.q rfl (.g rfl rfl (bn_t c18)) (Ex.ft ft_txn_ok rfl) rfl ?_
          refine TL.q rfl (.g rfl rfl (bn_t c18)) (Ex.ft ft_txn_ok rfl) rfl ?_
          refine TL.q rfl (.g rfl rfl (bn_t c18)) (Ex.b1 0 rfl Try.isAgg9 rfl rfl) rfl ?_
          obtain ⟨x19, hx20, h⟩ := Option.bind_eq_some_iff.1 h
          refine TL.ce rfl (.g rfl rfl (bn_t c18)) (.fn Try.call133 rfl) (SpecX.pure (fun w => gKRight_spec a0.fID.data _ hx20 w)) (fun _ _ => RX.reads_triv _ _) rfl ?_
          refine TL.q rfl (.g rfl rfl (bn_t c18)) (Ex.ft ft_txn_ok rfl) rfl ?_
          refine TL.q rfl (.g rfl rfl (bn_f c17)) (Ex.py rfl (bn_t c18) rfl) rfl ?_
          refine TL.q rfl .u (Ex.pn rfl (bn_f c17) rfl) rfl ?_
          refine TL.run ft_txn_ok [17] rfl rfl ?_
          by_cases c21 : x19 = true
          · replace h := ifT c21 h
            cases h
            exact TL.nil (X.as (d := 14) (v' := .bool false) rfl (congrArg Value.bool (bn_f c21)) (X.jq [0, 0] ⟨rfl, rfl⟩ (by rfl) (by rfl)))
          · replace h := ifF c21 h
            replace c21 := eq_false_of_ne_true c21
            cases h
            exact TL.nil (X.as (d := 14) (v' := .bool true) rfl (congrArg Value.bool (bn_t c21)) (X.jq [0, 0] ⟨rfl, rfl⟩ (by rfl) (by rfl)))
      · replace h := ifF c17 h
        replace c17 := eq_false_of_ne_true c17
        refine TL.run ft_txn_ok [3, 4] rfl rfl ?_
        refine TL.no rfl (.gn rfl rfl (bn_t c17)) rfl ?_
        refine TL.no rfl (.gn rfl rfl (bn_t c17)) rfl ?_
        refine TL.no rfl (.gn rfl rfl (bn_t c17)) rfl ?_
        refine TL.no rfl (.gn rfl rfl (bn_t c17)) rfl ?_
        refine TL.no rfl (.gn rfl rfl (bn_t c17)) rfl ?_
        refine TL.no rfl (.gu rfl rfl) rfl ?_
        refine TL.no rfl (.gu rfl rfl) rfl ?_
        refine TL.no rfl (.gu rfl rfl) rfl ?_
        refine TL.no rfl (.gu rfl rfl) rfl ?_
        refine TL.no rfl (.gu rfl rfl) rfl ?_
        refine TL.no rfl (.gn rfl rfl (bn_t c17)) rfl ?_
        refine TL.q rfl .u (Ex.py rfl (bn_t c17) rfl) rfl ?_
        refine TL.run ft_txn_ok [17] rfl rfl ?_
        cases h
        exact TL.nil (X.jq [0, 0] ⟨rfl, rfl⟩ (by rfl) (by rfl))
    · rintro _ _ ⟨rfl, rfl⟩
      clear h
      have h := hk14
      clear hk14
      try dsimp only at h
      by_cases c22 : y13 = true
      · replace h := ifT c22 h
        refine X.seq ?_
        refine T.yes rfl c22 ?_
        refine T.seq (T.region rfl ?_)
        refine TL.run ft_txn_ok [0] rfl rfl ?_
        obtain rfl := Option.some.inj h
        exact TL.nil (X.seq (T.ret (X.rb (X.rs (X.done1 [1] Try.results65 (RV.tm rfl) ⟨rfl, rfl, rfl⟩ (by rfl) (.inl rfl))))))
      · replace h := ifF c22 h
        replace c22 := eq_false_of_ne_true c22
        refine X.seq ?_
        refine T.no rfl c22 ?_
        refine T.seq (T.seq ?_)
        obtain ⟨y26, h, hk27⟩ := Option.bind_eq_some_iff.1 h
        refine T.jq (fun e Rs => e = [(1, .int .i64 a1), (2, .pointer (some ⟨b1, 0, none⟩)), (4, .int .i64 0), (5, .bool y3), (32, .bool y26)] ∧ Rs = [BlkR b1 107 #[.bool a0.fID.null, .string (bsOf a0.fID.data), .int .i64 a0.fTimeout, .int .i64 a0.fProducer, .int .i64 a0.fEpoch], EmpR]) ?_ ?_
        · clear hk27
          refine T.region rfl ?_
          refine TL.run ft_txn_ok [0] rfl rfl ?_
          refine TL.q rfl .u (Ex.b1 0 rfl Try.isAgg3 rfl rfl) rfl ?_
          by_cases c28 : a0.fTimeout < 0
          · replace h := ifT c28 h
            refine TL.run ft_txn_ok [2, 3] rfl rfl ?_
            refine TL.no rfl (.gn rfl rfl (decide_eq_true c28)) rfl ?_
            refine TL.no rfl (.gn rfl rfl (decide_eq_true c28)) rfl ?_
            refine TL.no rfl (.gn rfl rfl (decide_eq_true c28)) rfl ?_
            refine TL.no rfl (.gn rfl rfl (decide_eq_true c28)) rfl ?_
            refine TL.q rfl .u (Ex.py rfl (decide_eq_true c28) rfl) rfl ?_
            refine TL.run ft_txn_ok [9] rfl rfl ?_
            cases h
            exact TL.nil (X.jq [0, 0] ⟨rfl, rfl⟩ (by rfl) (by rfl))
          · replace h := ifF c28 h
            refine TL.run ft_txn_ok [2, 3] rfl rfl ?_
            refine TL.q rfl (.g rfl rfl (decide_eq_false c28)) (Ex.ft ft_txn_ok rfl) rfl ?_
            refine TL.q rfl (.g rfl rfl (decide_eq_false c28)) (Ex.b1 0 rfl Try.isAgg3 rfl rfl) rfl ?_
            obtain ⟨x29, hx30, h⟩ := Option.bind_eq_some_iff.1 h
            refine TL.ce rfl (.g rfl rfl (decide_eq_false c28)) (.fn Try.call96 rfl) (SpecX.pure (fun w => gFits_spec a0.fTimeout 4 _ hx30 w)) (fun _ _ => RX.reads_triv _ _) rfl ?_
            refine TL.q rfl (.g rfl rfl (decide_eq_false c28)) (Ex.ft ft_txn_ok rfl) rfl ?_
            refine TL.q rfl .u (Ex.pn rfl (decide_eq_false c28) rfl) rfl ?_
            refine TL.run ft_txn_ok [9] rfl rfl ?_
            by_cases c31 : x29 = true
            · replace h := ifT c31 h
              cases h
              exact TL.nil (X.as (d := 32) (v' := .bool false) rfl (congrArg Value.bool (bn_f c31)) (X.jq [0, 0] ⟨rfl, rfl⟩ (by rfl) (by rfl)))
            · replace h := ifF c31 h
              replace c31 := eq_false_of_ne_true c31
              cases h
              exact TL.nil (X.as (d := 32) (v' := .bool true) rfl (congrArg Value.bool (bn_t c31)) (X.jq [0, 0] ⟨rfl, rfl⟩ (by rfl) (by rfl)))
        · rintro _ _ ⟨rfl, rfl⟩
          clear h
          have h := hk27
          clear hk27
          try dsimp only at h
          refine X.seq ?_
          obtain ⟨y44, h, hk45⟩ := Option.bind_eq_some_iff.1 h
          refine T.jq (fun e Rs => e = [(4, .int .i64 0), (32, .bool y44)] ∧ Rs = [BlkR b1 107 #[.bool a0.fID.null, .string (bsOf a0.fID.data), .int .i64 a0.fTimeout, .int .i64 a0.fProducer, .int .i64 a0.fEpoch], EmpR]) ?_ ?_
          · clear hk45
            by_cases c46 : y26 = true
            · replace h := ifT c46 h
              refine T.yes rfl c46 ?_
              cases h
              exact T.skip (X.as (d := 32) (v' := .bool true) rfl (congrArg Value.bool c46) (X.jq [0, 0] ⟨rfl, rfl⟩ (by rfl) (by rfl)))
            · replace h := ifF c46 h
              replace c46 := eq_false_of_ne_true c46
              refine T.no rfl c46 ?_
              obtain ⟨y51, h, hk52⟩ := Option.bind_eq_some_iff.1 h
              refine T.jq (fun e Rs => e = [(4, .int .i64 0), (32, .bool y51)] ∧ Rs = [BlkR b1 107 #[.bool a0.fID.null, .string (bsOf a0.fID.data), .int .i64 a0.fTimeout, .int .i64 a0.fProducer, .int .i64 a0.fEpoch], EmpR]) ?_ ?_
              · clear hk52
                refine T.region rfl ?_
                by_cases c53 : y3 = true
                · replace h := ifT c53 h
                  refine TL.run ft_txn_ok [0, 1, 2] rfl rfl ?_
                  refine TL.no rfl (.gn rfl rfl (bn_f c53)) rfl ?_
                  refine TL.no rfl (.gn rfl rfl (bn_f c53)) rfl ?_
                  refine TL.no rfl (.gn rfl rfl (bn_f c53)) rfl ?_
                  refine TL.no rfl (.gu rfl rfl) rfl ?_
                  refine TL.no rfl (.gu rfl rfl) rfl ?_
                  refine TL.no rfl (.gu rfl rfl) rfl ?_
                  refine TL.no rfl (.gu rfl rfl) rfl ?_
                  refine TL.no rfl (.gu rfl rfl) rfl ?_
                  refine TL.no rfl (.gn rfl rfl (bn_f c53)) rfl ?_
                  refine TL.no rfl (.gn rfl rfl (bn_f c53)) rfl ?_
                  refine TL.q rfl .u (Ex.pn rfl (bn_f c53) rfl) rfl ?_
                  refine TL.run ft_txn_ok [14] rfl rfl ?_
                  cases h
                  exact TL.nil (X.jq [0, 0] ⟨rfl, rfl⟩ (by rfl) (by rfl))
                · replace h := ifF c53 h
                  replace c53 := eq_false_of_ne_true c53
                  refine TL.run ft_txn_ok [0, 1, 2] rfl rfl ?_
                  refine TL.q rfl (.g rfl rfl (bn_t c53)) (Ex.ft ft_txn_ok rfl) rfl ?_
                  refine TL.q rfl (.g rfl rfl (bn_t c53)) (Ex.ft ft_txn_ok rfl) rfl ?_
                  refine TL.q rfl (.g rfl rfl (bn_t c53)) (Ex.ft ft_txn_ok rfl) rfl ?_
                  by_cases c54 : a1 > 0
                  · replace h := ifT c54 h
                    refine TL.q rfl (.g rfl rfl (decide_eq_true c54)) (Ex.ft ft_txn_ok rfl) rfl ?_
                    refine TL.q rfl (.g rfl rfl (decide_eq_true c54)) (Ex.b1 0 rfl Try.isAgg3 rfl rfl) rfl ?_
                    refine TL.q rfl (.g rfl rfl (decide_eq_true c54)) (Ex.ft ft_txn_ok rfl) rfl ?_
                    refine TL.q rfl (.g rfl rfl (decide_eq_true c54)) (Ex.b1 0 rfl Try.isAgg3 rfl rfl) rfl ?_
                    obtain ⟨x55, hx56, h⟩ := Option.bind_eq_some_iff.1 h
                    refine TL.ce rfl (.g rfl rfl (decide_eq_true c54)) (.fn Try.call117 rfl) (f_txn_Who_spec a0.fProducer a0.fEpoch _ hx56) (fun _ hs => (RX.reads_triv _ _)) rfl ?_
                    refine TL.q rfl (.g rfl rfl (bn_t c53)) (Ex.py rfl (decide_eq_true c54) rfl) rfl ?_
                    refine TL.q rfl (.g rfl rfl (bn_t c53)) (Ex.ft ft_txn_ok rfl) rfl ?_
                    refine TL.q rfl .u (Ex.py rfl (bn_t c53) rfl) rfl ?_
                    refine TL.run ft_txn_ok [14] rfl rfl ?_
                    by_cases c57 : x55 = true
                    · replace h := ifT c57 h
                      cases h
                      exact TL.nil (X.as (d := 32) (v' := .bool false) rfl (congrArg Value.bool (bn_f c57)) (X.jq [0, 0] ⟨rfl, rfl⟩ (by rfl) (by rfl)))
                    · replace h := ifF c57 h
                      replace c57 := eq_false_of_ne_true c57
                      cases h
                      exact TL.nil (X.as (d := 32) (v' := .bool true) rfl (congrArg Value.bool (bn_t c57)) (X.jq [0, 0] ⟨rfl, rfl⟩ (by rfl) (by rfl)))
                  · replace h := ifF c54 h
                    refine TL.no rfl (.gn rfl rfl (decide_eq_false c54)) rfl ?_
                    refine TL.no rfl (.gn rfl rfl (decide_eq_false c54)) rfl ?_
                    refine TL.no rfl (.gn rfl rfl (decide_eq_false c54)) rfl ?_
                    refine TL.no rfl (.gn rfl rfl (decide_eq_false c54)) rfl ?_
                    refine TL.no rfl (.gn rfl rfl (decide_eq_false c54)) rfl ?_
                    refine TL.q rfl (.g rfl rfl (bn_t c53)) (Ex.pn rfl (decide_eq_false c54) rfl) rfl ?_
                    refine TL.q rfl (.g rfl rfl (bn_t c53)) (Ex.ft ft_txn_ok rfl) rfl ?_
                    refine TL.q rfl .u (Ex.py rfl (bn_t c53) rfl) rfl ?_
                    refine TL.run ft_txn_ok [14] rfl rfl ?_
                    cases h
                    exact TL.nil (X.jq [0, 0] ⟨rfl, rfl⟩ (by rfl) (by rfl))
              · rintro _ _ ⟨rfl, rfl⟩
                clear h
                have h := hk52
                clear hk52
                try dsimp only at h
                cases h
                exact X.jq [0, 0] ⟨rfl, rfl⟩ (by rfl) (by rfl)
          · rintro _ _ ⟨rfl, rfl⟩
            clear h
            have h := hk45
            clear hk45
            try dsimp only at h
            by_cases c58 : y44 = true
            · replace h := ifT c58 h
              refine X.seq ?_
              refine T.yes rfl c58 ?_
              refine T.seq (T.region rfl ?_)
              refine TL.run ft_txn_ok [0] rfl rfl ?_
              obtain rfl := Option.some.inj h
              exact TL.nil (X.seq (T.ret (X.rb (X.rs (X.done1 [1] Try.results65 (RV.tm rfl) ⟨rfl, rfl, rfl⟩ (by rfl) (.inl rfl))))))
            · replace h := ifF c58 h
              replace c58 := eq_false_of_ne_true c58
              refine X.seq ?_
              refine T.no rfl c58 ?_
              refine T.skip (X.blk (X.seq (T.seq (T.region rfl ?_))))
              refine TL.run ft_txn_ok [0] rfl rfl ?_
              obtain rfl := Option.some.inj h
              exact TL.nil (X.seq (T.ret (X.done1 [1] Try.results65 (RV.tm rfl) ⟨rfl, rfl, rfl⟩ (by rfl) (.inl rfl))))
def f_txn_ReadBegin1_b (a0 : TxnBegin) (a1 : Int) : Option (Int) := (f_txn_BeginCheck a0 a1).bind fun x1 => some x1
set_option maxRecDepth 100000 in
set_option maxHeartbeats 4000000 in
theorem f_txn_ReadBegin1_b_spec (a0 : TxnBegin) (ba0 : Nat) (a1 : Int) (ba1 : Nat) (r : Int) (h : f_txn_ReadBegin1_b a0 a1 = some r) : SpecX Try.prog 144 #[.pointer (some ⟨ba0, 0, none⟩), .pointer (some ⟨ba1, 0, none⟩)] (RX.and (RX.blk ba0 107 #[.bool a0.fID.null, .string (bsOf a0.fID.data), .int .i64 a0.fTimeout, .int .i64 a0.fProducer, .int .i64 a0.fEpoch]) (RX.blk ba1 3 #[.int .i64 a1])) (EmpR) (fun v A' N => v = .int .i64 r ∧ A' = EmpR ∧ N = []) := by
  refine enterA Try.func144 rfl Try.ntmps144 rfl ?_
  intro F w hX
  unfold f_txn_ReadBegin1_b at h
  refine T.seq (T.region rfl ?_)
  refine TL.run ft_txn_ok [0] rfl rfl ?_
  refine TL.nil (X.seq (T.seq (T.region rfl ?_)))
  refine TL.q rfl .u (Ex.xbS (us := [.bool a0.fID.null, .string (bsOf a0.fID.data), .int .i64 a0.fTimeout, .int .i64 a0.fProducer, .int .i64 a0.fEpoch]) (RX.reads_left hX) rfl Try.isAgg107 Try.sizeOf107 rfl rfl) rfl ?_
  refine TL.q rfl .u (Ex.xb1 (RX.reads_right hX) rfl Try.isAgg3 rfl) rfl ?_
  obtain ⟨x1, hx2, h⟩ := Option.bind_eq_some_iff.1 h
  refine TL.ce rfl .u (.fn Try.call65 rfl) (f_txn_BeginCheck_spec a0 a1 _ hx2) (fun _ hs => (RX.reads_triv _ _)) rfl ?_
  refine TL.run ft_txn_ok [3] rfl rfl ?_
  obtain rfl := Option.some.inj h
  exact TL.nil (X.seq (T.ret (X.done1 [0] Try.results144 (RV.tm rfl) ⟨rfl, rfl, rfl⟩ (by rfl) (.inl rfl))))
def f_txn_closed_txn_ReadBegin1 (st : I) (a1_0 : TxnBegin) (a1_1 : Int) : Option (Bool × I) := (gErr st).bind fun (x1, st2) => if x1 = 0 then ((f_txn_ReadBegin1_b a1_0 a1_1).bind fun x5 => if x5 = 0 then some (true, st2) else ((gIFail st2 x5).bind fun st8 => some (false, st8))) else some (false, st2)
set_option maxRecDepth 100000 in
set_option maxHeartbeats 4000000 in
theorem f_txn_closed_txn_ReadBegin1_spec (g : Nat) (st : I) (a1_0 : TxnBegin) (ba1_0 : Nat) (a1_1 : Int) (ba1_1 : Nat) (r : Bool × I) (h : f_txn_closed_txn_ReadBegin1 st a1_0 a1_1 = some r) : SpecX Try.prog 143 #[.pointer (some ⟨g, 0, none⟩), .func (.func 144) #[] #[.pointer (some ⟨ba1_0, 0, none⟩), .pointer (some ⟨ba1_1, 0, none⟩)]] (RX.and (RX.blk ba1_0 107 #[.bool a1_0.fID.null, .string (bsOf a1_0.fID.data), .int .i64 a1_0.fTimeout, .int .i64 a1_0.fProducer, .int .i64 a1_0.fEpoch]) (RX.blk ba1_1 3 #[.int .i64 a1_1])) (InR g st) (fun v A' N => v = .bool r.1 ∧ A' = InR g r.2 ∧ N = []) := by
  refine enterA Try.func143 rfl Try.ntmps143 rfl ?_
  intro F w hX
  unfold f_txn_closed_txn_ReadBegin1 at h
  refine T.seq (T.region rfl ?_)
  refine TL.run ft_txn_ok [0] rfl rfl ?_
  refine TL.nil (X.seq (T.seq (T.seq (T.region rfl ?_))))
  obtain ⟨⟨x1, st2⟩, hx3, h⟩ := Option.bind_eq_some_iff.1 h
  try dsimp only at h
  refine TL.run ft_txn_ok [0] rfl rfl ?_
  refine TL.c0 rfl .u (.fn Try.call19 rfl) (gErr_spec g st _ hx3) (fun _ hs => (Src.triv _)) rfl ?_
  refine TL.run ft_txn_ok [2] rfl rfl ?_
  by_cases c4 : x1 = 0
  · replace h := ifT c4 h
    refine TL.nil (X.seq ?_)
    refine T.no rfl (bn_f (decide_eq_true c4)) ?_
    refine T.skip (X.seq (T.seq (T.seq (T.region rfl ?_))))
    obtain ⟨x5, hx6, h⟩ := Option.bind_eq_some_iff.1 h
    refine TL.run ft_txn_ok [0] rfl rfl ?_
    refine TL.ce rfl .u (.val rfl Try.call144 rfl rfl) (f_txn_ReadBegin1_b_spec a1_0 ba1_0 a1_1 ba1_1 _ hx6) (fun _ hs => (RX.reads_and (SrcE.old hs (RX.reads_left hX)) (SrcE.old hs (RX.reads_right hX)))) rfl ?_
    refine TL.run ft_txn_ok [2] rfl rfl ?_
    refine TL.nil (X.seq (T.seq (T.region rfl ?_)))
    refine TL.run ft_txn_ok [0, 1] rfl rfl ?_
    by_cases c7 : x5 = 0
    · replace h := ifT c7 h
      refine TL.nil (X.seq ?_)
      refine T.no rfl (bn_f (decide_eq_true c7)) ?_
      refine T.skip (X.seq (T.seq (T.region rfl ?_)))
      refine TL.run ft_txn_ok [0] rfl rfl ?_
      obtain rfl := Option.some.inj h
      exact TL.nil (X.seq (T.ret (X.done1 [0] Try.results143 (RV.tm rfl) ⟨rfl, rfl, rfl⟩ (by rfl) (.inl rfl))))
    · replace h := ifF c7 h
      refine TL.nil (X.seq ?_)
      refine T.yes rfl (bn_t (decide_eq_false c7)) ?_
      refine T.seq (T.region rfl ?_)
      obtain ⟨st8, hx9, h⟩ := Option.bind_eq_some_iff.1 h
      refine TL.run ft_txn_ok [0, 1] rfl rfl ?_
      refine TL.c0 rfl .u (.fn Try.call84 rfl) (gIFail_spec g st2 x5 _ hx9) (fun _ hs => (Src.triv _)) rfl ?_
      refine TL.nil (X.seq (T.seq (T.region rfl ?_)))
      refine TL.run ft_txn_ok [0] rfl rfl ?_
      obtain rfl := Option.some.inj h
      exact TL.nil (X.seq (T.ret (X.rs (X.done1 [0] Try.results143 (RV.tm rfl) ⟨rfl, rfl, rfl⟩ (by rfl) (.inl rfl)))))
  · replace h := ifF c4 h
    refine TL.nil (X.seq ?_)
    refine T.yes rfl (bn_t (decide_eq_false c4)) ?_
    refine T.seq (T.region rfl ?_)
    refine TL.run ft_txn_ok [0] rfl rfl ?_
    obtain rfl := Option.some.inj h
    exact TL.nil (X.seq (T.ret (X.rs (X.done1 [0] Try.results143 (RV.tm rfl) ⟨rfl, rfl, rfl⟩ (by rfl) (.inl rfl)))))
def f_txn_ReadBegin (st : I) (a1 : Int) : Option (TxnBegin × I) := (gFixed st 2).bind fun (x3, st4) => (gInt st4 4).bind fun (x6, st7) => (if a1 > 0 then ((gInt st7 8).bind fun (x22, st23) => (gInt st23 2).bind fun (x25, st26) => some (x22, x25, st26)) else some (-1, -1, st7)).bind fun (y17, y18, st19) => (f_txn_closed_txn_ReadBegin1 st19 (⟨x3, x6, y17, y18⟩ : TxnBegin) a1).bind fun (x28, st29) => if x28 = true then (some ((⟨x3, x6, y17, y18⟩ : TxnBegin), st29)) else (some ((⟨(⟨false, []⟩ : Bl), 0, 0, 0⟩ : TxnBegin), st29))
set_option maxRecDepth 100000 in
set_option maxHeartbeats 4000000 in
theorem f_txn_ReadBegin_spec (g : Nat) (st : I) (a1 : Int) (r : TxnBegin × I) (h : f_txn_ReadBegin st a1 = some r) : SpecX Try.prog 68 #[.pointer (some ⟨g, 0, none⟩), .int .i64 a1] .triv (InR g st) (fun v A' N => v = .agg #[.bool r.1.fID.null, .string (bsOf r.1.fID.data), .int .i64 r.1.fTimeout, .int .i64 r.1.fProducer, .int .i64 r.1.fEpoch] ∧ A' = InR g r.2 ∧ N = []) := by
  refine enterA Try.func68 rfl Try.ntmps68 rfl ?_
  intro F w hX
  unfold f_txn_ReadBegin at h
  refine T.seq (T.region rfl ?_)
  refine TL.box rfl .u rfl rfl (fun b1 => ?_)
  refine TL.alloc rfl .u Try.zeroValue107 rfl (fun b2 => ?_)
  refine TL.nil (X.seq (T.seq (T.region rfl ?_)))
  obtain ⟨⟨x3, st4⟩, hx5, h⟩ := Option.bind_eq_some_iff.1 h
  try dsimp only at h
  refine TL.run ft_txn_ok [0] rfl rfl ?_
  refine TL.c2 rfl .u (.fn Try.call142 rfl) (gFixed_spec g st 2 _ hx5) (fun _ hs => (Src.triv _)) rfl ?_
  obtain ⟨⟨x6, st7⟩, hx8, h⟩ := Option.bind_eq_some_iff.1 h
  try dsimp only at h
  refine TL.run ft_txn_ok [2] rfl rfl ?_
  refine TL.c2 rfl .u (.fn Try.call83 rfl) (gInt_spec g st4 4 _ hx8) (fun _ hs => (Src.triv _)) rfl ?_
  refine TL.q rfl .u (Ex.bld (cells := #[.bool x3.null, .string (bsOf x3.data), .int .i64 x6, .int .i64 (-1), .int .i64 (-1)]) bok_txn_107 rfl (by kernel_rfl)) rfl ?_
  refine TL.alloc rfl .u Try.zeroValue107 rfl (fun b9 => ?_)
  refine TL.st0 (cs' := #[.bool x3.null, .string (bsOf x3.data), .int .i64 x6, .int .i64 (-1), .int .i64 (-1)]) rfl .u rfl rfl Try.sizeOf107 rfl rfl rfl rfl ?_
  refine TL.nil (X.seq (T.seq (T.seq (T.region rfl ?_))))
  refine TL.q rfl .u (Ex.b1 2 rfl Try.isAgg3 rfl rfl) rfl ?_
  refine TL.run ft_txn_ok [1] rfl rfl ?_
  refine TL.nil (X.seq ?_)
  obtain ⟨⟨y17, y18, st19⟩, h, hk20⟩ := Option.bind_eq_some_iff.1 h
  refine T.jq (fun e Rs => e = [(0, .pointer (some ⟨g, 0, none⟩)), (3, .pointer (some ⟨b1, 0, none⟩)), (4, .pointer (some ⟨b2, 0, none⟩)), (5, .pointer (some ⟨b9, 0, none⟩))] ∧ Rs = [BlkR b9 107 #[.bool x3.null, .string (bsOf x3.data), .int .i64 x6, .int .i64 y17, .int .i64 y18], BlkR b2 107 #[.bool false, .string ⟨#[]⟩, .int .i64 0, .int .i64 0, .int .i64 0], BlkR b1 3 #[.int .i64 a1], InR g st19]) ?_ ?_
  · clear hk20
    by_cases c21 : a1 > 0
    · replace h := ifT c21 h
      refine T.yes rfl (decide_eq_true c21) ?_
      refine T.region rfl ?_
      obtain ⟨⟨x22, st23⟩, hx24, h⟩ := Option.bind_eq_some_iff.1 h
      try dsimp only at h
      refine TL.run ft_txn_ok [0] rfl rfl ?_
      refine TL.c3 rfl .u (.fn Try.call83 rfl) (gInt_spec g st7 8 _ hx24) (fun _ hs => (Src.triv _)) rfl ?_
      obtain ⟨⟨x25, st26⟩, hx27, h⟩ := Option.bind_eq_some_iff.1 h
      try dsimp only at h
      refine TL.run ft_txn_ok [2] rfl rfl ?_
      refine TL.c3 rfl .u (.fn Try.call83 rfl) (gInt_spec g st23 2 _ hx27) (fun _ hs => (Src.triv _)) rfl ?_
      refine TL.run ft_txn_ok [4] rfl rfl ?_
      refine TL.st0 (cs' := #[.bool x3.null, .string (bsOf x3.data), .int .i64 x6, .int .i64 x22, .int .i64 (-1)]) rfl .u rfl rfl Try.sizeOf3 rfl rfl rfl rfl ?_
      refine TL.run ft_txn_ok [6] rfl rfl ?_
      refine TL.st0 (cs' := #[.bool x3.null, .string (bsOf x3.data), .int .i64 x6, .int .i64 x22, .int .i64 x25]) rfl .u rfl rfl Try.sizeOf3 rfl rfl rfl rfl ?_
      cases h
      exact TL.nil (X.jq [0, 0, 0, 0] ⟨rfl, rfl⟩ (by rfl) (by rfl))
    · replace h := ifF c21 h
      refine T.no rfl (decide_eq_false c21) ?_
      cases h
      exact T.skip (X.jq [0, 0, 0, 0] ⟨rfl, rfl⟩ (by rfl) (by rfl))
  · rintro _ _ ⟨rfl, rfl⟩
    clear h
    have h := hk20
    clear hk20
    try dsimp only at h
    refine X.seq (T.seq (T.seq (T.region rfl ?_)))
    refine TL.run ft_txn_ok [0] rfl rfl ?_
    refine TL.q rfl .u (Ex.mkF rfl rfl (fun _ => rfl)) rfl ?_
    obtain ⟨⟨x28, st29⟩, hx30, h⟩ := Option.bind_eq_some_iff.1 h
    try dsimp only at h
    refine TL.c3 rfl .u (.fn Try.call143 rfl) (f_txn_closed_txn_ReadBegin1_spec g st19 (⟨x3, x6, y17, y18⟩ : TxnBegin) b9 a1 b1 _ hx30) (fun _ hs => (Src.and (Src.res 0 rfl blk_reads) (Src.res 2 rfl blk_reads))) rfl ?_
    refine TL.run ft_txn_ok [3] rfl rfl ?_
    by_cases c31 : x28 = true
    · replace h := ifT c31 h
      refine TL.nil (X.seq ?_)
      refine T.no rfl (bn_f c31) ?_
      refine T.skip (X.seq (T.seq (T.region rfl ?_)))
      refine TL.q rfl .u (Ex.bS (us := [.bool x3.null, .string (bsOf x3.data), .int .i64 x6, .int .i64 y17, .int .i64 y18]) 0 rfl Try.isAgg107 Try.sizeOf107 rfl rfl rfl) rfl ?_
      refine TL.st1 (cs' := #[.bool x3.null, .string (bsOf x3.data), .int .i64 x6, .int .i64 y17, .int .i64 y18]) rfl .u rfl rfl Try.sizeOf107 rfl rfl rfl rfl ?_
      obtain rfl := Option.some.inj h
      exact TL.nil (X.seq (T.ret (X.done1 [3] Try.results68 (RV.cS (us := #[.bool x3.null, .string (bsOf x3.data), .int .i64 x6, .int .i64 y17, .int .i64 y18]) 1 rfl Try.isAgg107 Try.sizeOf107 rfl rfl) ⟨rfl, rfl, rfl⟩ (by rfl) (.inl rfl))))
    · replace h := ifF c31 h
      replace c31 := eq_false_of_ne_true c31
      refine TL.nil (X.seq ?_)
      refine T.yes rfl (bn_t c31) ?_
      refine T.seq (T.region rfl ?_)
      refine TL.q rfl .u (Ex.bld (cells := #[.bool false, .string ⟨#[]⟩, .int .i64 0, .int .i64 0, .int .i64 0]) bok_txn_107 rfl (by kernel_rfl)) rfl ?_
      refine TL.st1 (cs' := #[.bool false, .string ⟨#[]⟩, .int .i64 0, .int .i64 0, .int .i64 0]) rfl .u rfl rfl Try.sizeOf107 rfl rfl rfl rfl ?_
      obtain rfl := Option.some.inj h
      exact TL.nil (X.seq (T.ret (X.rs (X.done1 [3] Try.results68 (RV.cS (us := #[.bool false, .string ⟨#[]⟩, .int .i64 0, .int .i64 0, .int .i64 0]) 1 rfl Try.isAgg107 Try.sizeOf107 rfl rfl) ⟨rfl, rfl, rfl⟩ (by rfl) (.inl rfl)))))
def f_txn_BeginWrite (st : List UInt8 × Int) (a0 : TxnBegin) (a2 : Int) : Option (List UInt8 × Int) := (f_txn_BeginCheck a0 a2).bind fun x2 => (f_txn_fail st x2).bind fun (x4, st5) => if x4 = true then some st5 else ((gPutFixed st5 a0.fID 2).bind fun st8 => (gOInt st8 a0.fTimeout 4).bind fun st10 => (if a2 > 0 then ((gOInt st10 a0.fProducer 8).bind fun st20 => (gOInt st20 a0.fEpoch 2).bind fun st22 => some st22) else some st10).bind fun st17 => some st17)
set_option maxRecDepth 100000 in
set_option maxHeartbeats 4000000 in
theorem f_txn_BeginWrite_spec (g : Nat) (st : List UInt8 × Int) (a0 : TxnBegin) (a2 : Int) (r : List UInt8 × Int) (h : f_txn_BeginWrite st a0 a2 = some r) : SpecX Try.prog 64 #[.agg #[.bool a0.fID.null, .string (bsOf a0.fID.data), .int .i64 a0.fTimeout, .int .i64 a0.fProducer, .int .i64 a0.fEpoch], .pointer (some ⟨g, 0, none⟩), .int .i64 a2] .triv (OutR g st) (fun v A' N => v = .tuple #[] ∧ A' = OutR g r ∧ N = []) := by
  refine enterA Try.func64 rfl Try.ntmps64 rfl ?_
  intro F w hX
  unfold f_txn_BeginWrite at h
  refine T.seq (T.region rfl ?_)
  refine TL.box rfl .u rfl rfl (fun b1 => ?_)
  refine TL.nil (X.seq (T.seq (T.seq (T.region rfl ?_))))
  refine TL.run ft_txn_ok [0] rfl rfl ?_
  refine TL.q rfl .u (Ex.bS (us := [.bool a0.fID.null, .string (bsOf a0.fID.data), .int .i64 a0.fTimeout, .int .i64 a0.fProducer, .int .i64 a0.fEpoch]) 0 rfl Try.isAgg107 Try.sizeOf107 rfl rfl rfl) rfl ?_
  obtain ⟨x2, hx3, h⟩ := Option.bind_eq_some_iff.1 h
  refine TL.run ft_txn_ok [2] rfl rfl ?_
  refine TL.ce rfl .u (.fn Try.call65 rfl) (f_txn_BeginCheck_spec a0 a2 _ hx3) (fun _ hs => (RX.reads_triv _ _)) rfl ?_
  obtain ⟨⟨x4, st5⟩, hx6, h⟩ := Option.bind_eq_some_iff.1 h
  try dsimp only at h
  refine TL.c1 rfl .u (.fn Try.call140 rfl) (f_txn_fail_spec g st x2 _ hx6) (fun _ hs => (Src.triv _)) rfl ?_
  by_cases c7 : x4 = true
  · replace h := ifT c7 h
    refine TL.nil (X.seq ?_)
    refine T.yes rfl c7 ?_
    obtain rfl := Option.some.inj h
    exact T.ret (X.rs (X.done0 [1] Try.results64 ⟨rfl, rfl, rfl⟩ (by rfl) (.inl rfl)))
  · replace h := ifF c7 h
    replace c7 := eq_false_of_ne_true c7
    refine TL.nil (X.seq ?_)
    refine T.no rfl c7 ?_
    refine T.skip (X.seq (T.seq (T.region rfl ?_)))
    refine TL.run ft_txn_ok [0, 1] rfl rfl ?_
    refine TL.q rfl .u (Ex.bS (us := [.bool a0.fID.null, .string (bsOf a0.fID.data)]) 0 rfl Try.isAgg26 Try.sizeOf26 rfl rfl rfl) rfl ?_
    obtain ⟨st8, hx9, h⟩ := Option.bind_eq_some_iff.1 h
    refine TL.c1 rfl .u (.fn Try.call139 rfl) (gPutFixed_spec g st5 a0.fID 2 _ hx9) (fun _ hs => (Src.triv _)) rfl ?_
    refine TL.nil (X.seq (T.seq (T.region rfl ?_)))
    refine TL.run ft_txn_ok [0, 1] rfl rfl ?_
    refine TL.q rfl .u (Ex.b1 0 rfl Try.isAgg3 rfl rfl) rfl ?_
    obtain ⟨st10, hx11, h⟩ := Option.bind_eq_some_iff.1 h
    refine TL.c1 rfl .u (.fn Try.call113 rfl) (gOInt_spec g st8 a0.fTimeout 4 _ hx11) (fun _ hs => (Src.triv _)) rfl ?_
    refine TL.nil (X.seq (T.seq (T.region rfl ?_)))
    refine TL.run ft_txn_ok [0, 1] rfl rfl ?_
    refine TL.nil (X.seq ?_)
    obtain ⟨st17, h, hk18⟩ := Option.bind_eq_some_iff.1 h
    refine T.jq (fun e Rs => e = [] ∧ Rs = [BlkR b1 107 #[.bool a0.fID.null, .string (bsOf a0.fID.data), .int .i64 a0.fTimeout, .int .i64 a0.fProducer, .int .i64 a0.fEpoch], OutR g st17]) ?_ ?_
    · clear hk18
      by_cases c19 : a2 > 0
      · replace h := ifT c19 h
        refine T.yes rfl (decide_eq_true c19) ?_
        refine T.seq (T.region rfl ?_)
        refine TL.run ft_txn_ok [0, 1] rfl rfl ?_
        refine TL.q rfl .u (Ex.b1 0 rfl Try.isAgg3 rfl rfl) rfl ?_
        obtain ⟨st20, hx21, h⟩ := Option.bind_eq_some_iff.1 h
        refine TL.c1 rfl .u (.fn Try.call113 rfl) (gOInt_spec g st10 a0.fProducer 8 _ hx21) (fun _ hs => (Src.triv _)) rfl ?_
        refine TL.nil (X.seq (T.region rfl ?_))
        refine TL.run ft_txn_ok [0, 1] rfl rfl ?_
        refine TL.q rfl .u (Ex.b1 0 rfl Try.isAgg3 rfl rfl) rfl ?_
        obtain ⟨st22, hx23, h⟩ := Option.bind_eq_some_iff.1 h
        refine TL.c1 rfl .u (.fn Try.call113 rfl) (gOInt_spec g st20 a0.fEpoch 2 _ hx23) (fun _ hs => (Src.triv _)) rfl ?_
        cases h
        exact TL.nil (X.jq [0, 0] ⟨rfl, rfl⟩ (by rfl) (by rfl))
      · replace h := ifF c19 h
        refine T.no rfl (decide_eq_false c19) ?_
        cases h
        exact T.skip (X.jq [0, 0] ⟨rfl, rfl⟩ (by rfl) (by rfl))
    · rintro _ _ ⟨rfl, rfl⟩
      clear h
      have h := hk18
      clear hk18
      try dsimp only at h
      obtain rfl := Option.some.inj h
      exact X.done0 [1] Try.results64 ⟨rfl, rfl, rfl⟩ (by rfl) (.inr rfl)
end Go.Proofs.Ytagbblaegdedpaa.Sl
namespace Go.Proofs.Ytagbblaegdedpaa.Sl
open Go.RowKit
set_option linter.unusedVariables false
set_option linter.unusedSimpArgs false
theorem wi0 : wI 0 := ⟨by decide, by decide⟩
theorem wim : wI (-1) := ⟨by decide, by decide⟩
def who (p e : Int) : Bool := decide (0 ≤ p ∧ 0 ≤ e ∧ e ≤ 32767)
theorem who_eq (p e : Int) (he : wI e) : f_txn_Who p e = some (who p e) := by
  unfold f_txn_Who who
  by_cases h1 : p ≥ 0
  · rw [if_pos h1]
    by_cases h2 : e ≥ 0
    · rw [if_pos h2, gFits_eq _ _ he, fits_2]
      simp only [Option.bind_some]
      congr 1
      by_cases h3 : e ≤ 32767
      · rw [decide_eq_true (by omega), decide_eq_true (by omega)]
      · rw [decide_eq_false (by omega), decide_eq_false (by omega)]
    · rw [if_neg h2, decide_eq_false (by omega)]
      rfl
  · rw [if_neg h1, decide_eq_false (by omega)]
    rfl
def chkE (d : List UInt8) (p e : Int) : Int := if kright d = true then (if who p e = true then 0 else 11) else 4
def tmB (t : Int) : Bool := decide (0 ≤ t ∧ t ≤ 2147483647)
def nobB (p e : Int) : Bool := decide (p = -1 ∧ e = -1)
def chkBg (b : Bl) (t p e v : Int) : Int := if (bright b && (b.null || kright b.data)) = true then (if (tmB t && (nobB p e || (decide (v > 0) && who p e))) = true then 0 else 11) else 4
theorem endCheck (x : TxnEnd) (he : wI x.fEpoch) : f_txn_EndCheck x = some (chkE x.fID x.fProducer x.fEpoch) := by
  unfold f_txn_EndCheck chkE
  rw [gKRight_eq, Option.bind_some, who_eq _ _ he, Option.bind_some]
  cases kright x.fID <;> cases who x.fProducer x.fEpoch <;> rfl
theorem beginCheck (x : TxnBegin) (v : Int) (he : wI x.fEpoch) (ht : wI x.fTimeout) : f_txn_BeginCheck x v = some (chkBg x.fID x.fTimeout x.fProducer x.fEpoch v) := by
  unfold f_txn_BeginCheck chkBg
  have h1 : (if x.fProducer = (-1) then (if x.fEpoch = (-1) then some true else some false) else some false) = some (nobB x.fProducer x.fEpoch) := by
    unfold nobB
    by_cases a : x.fProducer = -1 <;> by_cases b : x.fEpoch = -1 <;> simp [a, b]
  have h3 : (if x.fTimeout < 0 then some true else ((gFits x.fTimeout 4).bind fun x29 => if x29 = true then some false else some true)) = some (!tmB x.fTimeout) := by
    unfold tmB
    by_cases a : x.fTimeout < 0
    · rw [if_pos a, decide_eq_false (by omega)]
      rfl
    · rw [if_neg a, gFits_eq _ _ ht, fits_4, Option.bind_some]
      by_cases b : x.fTimeout ≤ 2147483647
      · rw [if_pos (decide_eq_true (by omega)), decide_eq_true (by omega)]
        rfl
      · rw [if_neg (by simp; omega), decide_eq_false (by omega)]
        rfl
  have h4 : (if v > 0 then ((some (who x.fProducer x.fEpoch)).bind fun x55 => if x55 = true then some false else some true) else some true) = some (!(decide (v > 0) && who x.fProducer x.fEpoch)) := by
    by_cases d : v > 0
    · rw [if_pos d, decide_eq_true d]
      cases who x.fProducer x.fEpoch <;> rfl
    · rw [if_neg d, decide_eq_false d]
      rfl
  rw [h1, Option.bind_some, h3, who_eq _ _ he, h4, gRight_eq, gKRight_eq]
  cases bright x.fID <;> cases x.fID.null <;> cases kright x.fID.data <;> cases tmB x.fTimeout <;> cases nobB x.fProducer x.fEpoch <;> cases (decide (v > 0) && who x.fProducer x.fEpoch) <;> rfl
theorem B_bool : CB f_txn_Bool pBool false := by
  refine ⟨fun st h => ?_, fun s q hl hq => ?_⟩
  · unfold f_txn_Bool
    rw [gInt_d h, Option.bind_some]
    rfl
  · unfold f_txn_Bool pBool
    rcases Q1.run s q hq with ⟨e, st, p1, g1, x1, y1⟩ | ⟨n, r, p1, g1, n1, l1⟩
    · refine .inl ⟨e, st, Pr.bind_err p1, ?_, x1, y1⟩
      rw [g1, Option.bind_some]
      rfl
    · rw [g1, Option.bind_some, Pr.bind_of p1]
      simp only
      by_cases h0 : n = 0
      · rw [if_pos h0, if_pos h0, Option.bind_some, if_neg (by decide), Option.bind_some, if_neg (by omega)]
        exact .inr ⟨false, r, rfl, rfl, n1, l1⟩
      · by_cases h1 : n = 1
        · rw [if_neg h0, if_pos h1, if_neg h0, if_pos h1, Option.bind_some, if_neg (by decide), Option.bind_some, if_pos h1]
          exact .inr ⟨true, r, rfl, rfl, n1, l1⟩
        · rw [if_neg h0, if_neg h1, if_neg h0, if_neg h1, Option.bind_some, if_pos rfl, gIFail_eq, Option.bind_some, Option.bind_some, if_neg h1]
          exact .inl ⟨11, _, rfl, rfl, rfl, by simp [ifail]⟩
def zE : TxnEnd := ⟨[], 0, 0, false⟩
def zB : TxnBegin := ⟨⟨false, []⟩, 0, 0, 0⟩
def pEndR : Pr TxnEnd := pText.bind fun d => (pInt 8).bind fun p => (pInt 2).bind fun e => pBool.bind fun c => if chkE d p e = 0 then .ret ⟨d, p, e, c⟩ else .err (chkE d p e)
def pBeg0 (v : Int) : Pr TxnBegin := (pFixed 2).bind fun b => (pInt 4).bind fun t => if chkBg b t (-1) (-1) v = 0 then .ret ⟨b, t, -1, -1⟩ else .err (chkBg b t (-1) (-1) v)
def pBeg1 (v : Int) : Pr TxnBegin := (pFixed 2).bind fun b => (pInt 4).bind fun t => (pInt 8).bind fun p => (pInt 2).bind fun e => if chkBg b t p e v = 0 then .ret ⟨b, t, p, e⟩ else .err (chkBg b t p e v)
theorem B_end : CB f_txn_ReadEnd pEndR zE := by
  refine CB.congr (CB.bind (fun _ => True) QT.cb (fun _ _ _ _ _ _ _ => trivial) trivial fun d _ => CB.bind wI Q8.cb (w_int (by decide) (by decide)) wi0 fun p hp => CB.bind wI Q2.cb (w_int (by decide) (by decide)) wi0 fun e he => CB.bind (fun _ => True) B_bool (fun _ _ _ _ _ _ _ => trivial) trivial fun c _ =>
    CB_chk (op := fun st => (f_txn_closed_txn_EndCheck st ⟨d, p, e, c⟩).bind fun (x15, st16) => if x15 = true then some (⟨d, p, e, c⟩, st16) else some (zE, st16)) (fun st h => ?_) (fun st h => ?_)) (fun st => rfl)
  · unfold f_txn_closed_txn_EndCheck
    rw [gErr_eq, Option.bind_some]
    simp only
    rw [if_neg h]
    rfl
  · unfold f_txn_closed_txn_EndCheck
    rw [gErr_eq, Option.bind_some]
    simp only
    rw [if_pos h, endCheck _ he, Option.bind_some]
    by_cases hc : chkE d p e = 0
    · rw [if_pos hc, if_pos hc]
      rfl
    · rw [if_neg hc, if_neg hc, gIFail_eq]
      rfl
theorem closedB (b : Bl) (t p e v : Int) (ht : wI t) (he : wI e) : CB (fun st => (f_txn_closed_txn_ReadBegin1 st ⟨b, t, p, e⟩ v).bind fun (x15, st16) => if x15 = true then some ((⟨b, t, p, e⟩ : TxnBegin), st16) else some (zB, st16)) (if chkBg b t p e v = 0 then .ret ⟨b, t, p, e⟩ else .err (chkBg b t p e v)) zB := by
  refine CB_chk (fun st h => ?_) (fun st h => ?_)
  · unfold f_txn_closed_txn_ReadBegin1
    rw [gErr_eq, Option.bind_some]
    simp only
    rw [if_neg h]
    rfl
  · unfold f_txn_closed_txn_ReadBegin1 f_txn_ReadBegin1_b
    rw [gErr_eq, Option.bind_some]
    simp only
    rw [if_pos h, beginCheck _ _ he ht, Option.bind_some, Option.bind_some]
    by_cases hc : chkBg b t p e v = 0
    · rw [if_pos hc, if_pos hc]
      rfl
    · rw [if_neg hc, if_neg hc, gIFail_eq]
      rfl
theorem B_beg0 (v : Int) (hv : ¬ v > 0) : CB (fun st => f_txn_ReadBegin st v) (pBeg0 v) zB := by
  refine CB.congr (CB.bind (fun _ => True) QF2.cb (fun _ _ _ _ _ _ _ => trivial) trivial fun b _ => CB.bind wI Q4.cb (w_int (by decide) (by decide)) wi0 fun t ht => closedB b t (-1) (-1) v ht wim) (fun st => ?_)
  unfold f_txn_ReadBegin
  simp only [if_neg hv, Option.bind_some]
  rfl
theorem B_beg1 (v : Int) (hv : v > 0) : CB (fun st => f_txn_ReadBegin st v) (pBeg1 v) zB := by
  refine CB.congr (CB.bind (fun _ => True) QF2.cb (fun _ _ _ _ _ _ _ => trivial) trivial fun b _ => CB.bind wI Q4.cb (w_int (by decide) (by decide)) wi0 fun t ht => CB.bind wI Q8.cb (w_int (by decide) (by decide)) wi0 fun p hp => CB.bind wI Q2.cb (w_int (by decide) (by decide)) wi0 fun e he => closedB b t p e v ht he) (fun st => ?_)
  unfold f_txn_ReadBegin
  simp only [if_pos hv, Option.bind_assoc, Option.bind_some]
  rfl
def encTx (d : List UInt8) : List UInt8 := be (d.length : Int) 2 ++ d
def encE (x : TxnEnd) : List UInt8 := encTx x.fID ++ (be x.fProducer 8 ++ (be x.fEpoch 2 ++ encBool x.fCommit))
def encFx (b : Bl) : List UInt8 := be (blen b) 2 ++ b.data
def encB0 (x : TxnBegin) : List UInt8 := encFx x.fID ++ be x.fTimeout 4
def encB1 (x : TxnBegin) : List UInt8 := encFx x.fID ++ (be x.fTimeout 4 ++ (be x.fProducer 8 ++ be x.fEpoch 2))
def okTx (d : List UInt8) : Prop := fits (d.length : Int) 2 = true ∧ bright ⟨false, d⟩ = true
def okFx (b : Bl) : Prop := fits (blen b) 2 = true ∧ bright b = true
abbrev spI (k : Nat) (h1 : 1 ≤ k := by decide) (h8 : k ≤ 8 := by decide) := Sp_int k h1 h8
theorem Sp_end : Sp pEndR encE (fun x => okTx x.fID ∧ fits x.fProducer 8 = true ∧ fits x.fEpoch 2 = true ∧ chkE x.fID x.fProducer x.fEpoch = 0) := by
  refine Sp.congr (Sp.seq (β := TxnEnd) (π := (·.fID)) (ok2 := fun x : TxnEnd => fits x.fProducer 8 = true ∧ fits x.fEpoch 2 = true ∧ chkE x.fID x.fProducer x.fEpoch = 0) Sp_text fun d =>
    Sp.congr (Sp.seq (β := TxnEnd) (π := (·.fProducer)) (ok2 := fun x : TxnEnd => fits x.fEpoch 2 = true ∧ chkE d x.fProducer x.fEpoch = 0 ∧ x.fID = d) (spI 8) fun p =>
    Sp.congr (Sp.seq (β := TxnEnd) (π := (·.fEpoch)) (ok2 := fun x : TxnEnd => chkE d p x.fEpoch = 0 ∧ x.fID = d ∧ x.fProducer = p) (spI 2) fun e =>
    Sp.congr (Sp.seq (β := TxnEnd) (π := (·.fCommit)) (ok2 := fun x : TxnEnd => chkE d p e = 0 ∧ x.fID = d ∧ x.fProducer = p ∧ x.fEpoch = e) Sp_bool fun c =>
    (Sp_chk (β := TxnEnd) _ _ _).congr (ok' := fun x : TxnEnd => (chkE d p e = 0 ∧ x.fID = d ∧ x.fProducer = p ∧ x.fEpoch = e) ∧ x.fCommit = c) (fun x => ?_) (fun _ _ => rfl)) (fun x => ?_) (fun _ _ => rfl)) (fun x => ?_) (fun _ _ => rfl)) (fun x => ?_) (fun _ _ => rfl)) (fun x => ?_) (fun x _ => by simp only [encE, encTx, List.append_nil])
  · obtain ⟨a1, a2, a3, a4⟩ := x
    simp only [TxnEnd.mk.injEq]
    exact ⟨fun ⟨h, h1, h2, h3, h4⟩ => ⟨⟨h, h1, h2, h3⟩, h4⟩, fun ⟨⟨h, h1, h2, h3⟩, h4⟩ => ⟨h, h1, h2, h3, h4⟩⟩
  · exact ⟨fun ⟨_, h, h1, h2, h3⟩ => ⟨⟨by rw [h3]; exact h, h1, h2⟩, h3⟩, fun ⟨⟨h, h1, h2⟩, h3⟩ => ⟨trivial, by rw [← h3]; exact h, h1, h2, h3⟩⟩
  · exact ⟨fun ⟨h0, h, h1, h2⟩ => ⟨⟨h0, by rw [h2]; exact h, h1⟩, h2⟩, fun ⟨⟨h0, h, h1⟩, h2⟩ => ⟨h0, by rw [← h2]; exact h, h1, h2⟩⟩
  · exact ⟨fun ⟨h0, h, h1, h2⟩ => ⟨⟨h0, h, by rw [h2]; exact h1⟩, h2⟩, fun ⟨⟨h0, h, h1⟩, h2⟩ => ⟨h0, h, by rw [← h2]; exact h1, h2⟩⟩
  · exact Iff.rfl
theorem Sp_beg1 (v : Int) : Sp (pBeg1 v) encB1 (fun x => okFx x.fID ∧ fits x.fTimeout 4 = true ∧ fits x.fProducer 8 = true ∧ fits x.fEpoch 2 = true ∧ chkBg x.fID x.fTimeout x.fProducer x.fEpoch v = 0) := by
  refine Sp.congr (Sp.seq (β := TxnBegin) (π := (·.fID)) (ok2 := fun x : TxnBegin => fits x.fTimeout 4 = true ∧ fits x.fProducer 8 = true ∧ fits x.fEpoch 2 = true ∧ chkBg x.fID x.fTimeout x.fProducer x.fEpoch v = 0) (Sp_fixed 2 (by decide) (by decide)) fun b =>
    Sp.congr (Sp.seq (β := TxnBegin) (π := (·.fTimeout)) (ok2 := fun x : TxnBegin => fits x.fProducer 8 = true ∧ fits x.fEpoch 2 = true ∧ chkBg b x.fTimeout x.fProducer x.fEpoch v = 0 ∧ x.fID = b) (spI 4) fun t =>
    Sp.congr (Sp.seq (β := TxnBegin) (π := (·.fProducer)) (ok2 := fun x : TxnBegin => fits x.fEpoch 2 = true ∧ chkBg b t x.fProducer x.fEpoch v = 0 ∧ x.fID = b ∧ x.fTimeout = t) (spI 8) fun p =>
    Sp.congr (Sp.seq (β := TxnBegin) (π := (·.fEpoch)) (ok2 := fun x : TxnBegin => chkBg b t p x.fEpoch v = 0 ∧ x.fID = b ∧ x.fTimeout = t ∧ x.fProducer = p) (spI 2) fun e =>
    (Sp_chk (β := TxnBegin) _ _ _).congr (ok' := fun x : TxnBegin => (chkBg b t p x.fEpoch v = 0 ∧ x.fID = b ∧ x.fTimeout = t ∧ x.fProducer = p) ∧ x.fEpoch = e) (fun x => ?_) (fun _ _ => rfl)) (fun x => ?_) (fun _ _ => rfl)) (fun x => ?_) (fun _ _ => rfl)) (fun x => ?_) (fun _ _ => rfl)) (fun x => ?_) (fun x _ => by simp only [encB1, encFx, List.append_nil])
  · obtain ⟨a1, a2, a3, a4⟩ := x
    simp only [TxnBegin.mk.injEq]
    exact ⟨fun ⟨h, h1, h2, h3, h4⟩ => ⟨⟨by rw [h4]; exact h, h1, h2, h3⟩, h4⟩, fun ⟨⟨h, h1, h2, h3⟩, h4⟩ => ⟨by rw [← h4]; exact h, h1, h2, h3, h4⟩⟩
  · exact ⟨fun ⟨h0, h, h1, h2, h3⟩ => ⟨⟨h0, by rw [h3]; exact h, h1, h2⟩, h3⟩, fun ⟨⟨h0, h, h1, h2⟩, h3⟩ => ⟨h0, by rw [← h3]; exact h, h1, h2, h3⟩⟩
  · exact ⟨fun ⟨h0, hk, h, h1, h2⟩ => ⟨⟨h0, hk, by rw [h2]; exact h, h1⟩, h2⟩, fun ⟨⟨h0, hk, h, h1⟩, h2⟩ => ⟨h0, hk, by rw [← h2]; exact h, h1, h2⟩⟩
  · exact ⟨fun ⟨h0, h, hk, h1, h2⟩ => ⟨⟨h0, h, hk, by rw [h2]; exact h1⟩, h2⟩, fun ⟨⟨h0, h, hk, h1⟩, h2⟩ => ⟨h0, h, hk, by rw [← h2]; exact h1, h2⟩⟩
  · exact Iff.rfl
theorem Sp_beg0 (v : Int) : Sp (pBeg0 v) encB0 (fun x => okFx x.fID ∧ fits x.fTimeout 4 = true ∧ chkBg x.fID x.fTimeout x.fProducer x.fEpoch v = 0 ∧ x.fProducer = -1 ∧ x.fEpoch = -1) := by
  refine Sp.congr (Sp.seq (β := TxnBegin) (π := (·.fID)) (ok2 := fun x : TxnBegin => fits x.fTimeout 4 = true ∧ chkBg x.fID x.fTimeout (-1) (-1) v = 0 ∧ x.fProducer = -1 ∧ x.fEpoch = -1) (Sp_fixed 2 (by decide) (by decide)) fun b =>
    Sp.congr (Sp.seq (β := TxnBegin) (π := (·.fTimeout)) (ok2 := fun x : TxnBegin => chkBg b x.fTimeout (-1) (-1) v = 0 ∧ x.fID = b ∧ x.fProducer = -1 ∧ x.fEpoch = -1) (spI 4) fun t =>
    (Sp_chk (β := TxnBegin) _ _ _).congr (ok' := fun x : TxnBegin => (chkBg b x.fTimeout (-1) (-1) v = 0 ∧ x.fID = b ∧ x.fProducer = -1 ∧ x.fEpoch = -1) ∧ x.fTimeout = t) (fun x => ?_) (fun _ _ => rfl)) (fun x => ?_) (fun _ _ => rfl)) (fun x => ?_) (fun x _ => by simp only [encB0, encFx, List.append_nil])
  · obtain ⟨a1, a2, a3, a4⟩ := x
    simp only [TxnBegin.mk.injEq]
    exact ⟨fun ⟨h, h1, h2, h3, h4⟩ => ⟨⟨by rw [h2]; exact h, h1, h3, h4⟩, h2⟩, fun ⟨⟨h, h1, h3, h4⟩, h2⟩ => ⟨by rw [← h2]; exact h, h1, h2, h3, h4⟩⟩
  · exact ⟨fun ⟨h0, h, h1, h2, h3⟩ => ⟨⟨h0, by rw [h1]; exact h, h2, h3⟩, h1⟩, fun ⟨⟨h0, h, h2, h3⟩, h1⟩ => ⟨h0, by rw [← h1]; exact h, h1, h2, h3⟩⟩
  · exact ⟨fun ⟨h0, h, h1, h2, h3⟩ => ⟨h0, h, by rw [h2, h3]; exact h1, h2, h3⟩, fun ⟨h0, h, h1, h2, h3⟩ => ⟨h0, h, by rw [h2, h3] at h1; exact h1, h2, h3⟩⟩
end Go.Proofs.Ytagbblaegdedpaa.Sl
namespace Go.Proofs.Ytagbblaegdedpaa.Sl
open Go.RowKit
set_option linter.unusedVariables false
set_option linter.unusedSimpArgs false
theorem kright_len {d : List UInt8} (h : kright d = true) : d.length ≤ 32767 ∧ d ≠ [] := by
  unfold kright at h
  simp only [Bool.and_eq_true, decide_eq_true_eq, Bool.not_eq_true'] at h
  refine ⟨by omega, fun h0 => ?_⟩
  rw [h0] at h
  exact absurd h.1 (by decide)
theorem who_fits {p e : Int} (h : who p e = true) (hp : wI p) : fits p 8 = true ∧ fits e 2 = true := by
  unfold who at h
  have h := of_decide_eq_true h
  exact ⟨by rw [fits_8]; exact decide_eq_true hp, by rw [fits_2]; exact decide_eq_true (by omega)⟩
theorem putBool (t : List UInt8) (b : Bool) (ht : t.length ≤ 1000000) : f_txn_PutBool (t, 0) b = some (t ++ encBool b, 0) := by
  unfold f_txn_PutBool
  cases b with
  | true =>
    rw [if_pos rfl, gOByte_eq _ _ ⟨by decide, by decide, by simp only; omega⟩]
    rfl
  | false =>
    rw [if_neg (by decide), gOByte_eq _ _ ⟨by decide, by decide, by simp only; omega⟩]
    rfl
theorem txnFail (t : List UInt8) (e : Int) : f_txn_fail (t, 0) e = some (if e = 0 then (false, (t, 0)) else (true, (t, e))) := by
  unfold f_txn_fail
  by_cases h : e = 0
  · rw [if_pos h, if_pos h, Option.bind_some, if_pos h]
  · rw [if_neg h, if_neg h, gOFail_eq, Option.bind_some, Option.bind_some, if_neg h]
    rfl
theorem endWrite (x : TxnEnd) (t : List UInt8) (hp : wI x.fProducer) (he : wI x.fEpoch) (ht : t.length ≤ 900000) : f_txn_EndWrite (t, 0) x = some (if chkE x.fID x.fProducer x.fEpoch = 0 then (t ++ encE x, 0) else (t, chkE x.fID x.fProducer x.fEpoch)) := by
  unfold f_txn_EndWrite f_txn_wrong_TxnEnd
  rw [endCheck x he, Option.bind_some, txnFail, Option.bind_some]
  by_cases hc : chkE x.fID x.fProducer x.fEpoch = 0
  · rw [if_pos hc, if_pos hc, Option.bind_some]
    simp only
    have hk : kright x.fID = true := by
      unfold chkE at hc
      split at hc
      · rename_i h; exact h
      · exact absurd hc (by decide)
    have hw : who x.fProducer x.fEpoch = true := by
      unfold chkE at hc
      rw [if_pos hk] at hc
      split at hc
      · rename_i h; exact h
      · exact absurd hc (by decide)
    obtain ⟨k1, _⟩ := kright_len hk
    obtain ⟨f1, f2⟩ := who_fits hw hp
    rw [if_neg (by decide), gPutText_z k1 (by omega), Option.bind_some, gOInt_z f1 (by simp only [List.length_append, be_length]; omega), Option.bind_some, gOInt_z f2 (by simp only [List.length_append, be_length]; omega), Option.bind_some, putBool _ _ (by simp only [List.length_append, be_length]; omega), Option.bind_some]
    simp only [encE, encTx, List.append_assoc]
    rfl
  · rw [if_neg hc, if_neg hc, Option.bind_some]
    rfl
theorem chkBg_zero {b : Bl} {t p e v : Int} (hc : chkBg b t p e v = 0) : bright b = true ∧ (b.null = true ∨ kright b.data = true) ∧ (0 ≤ t ∧ t ≤ 2147483647) ∧ (p = -1 ∧ e = -1 ∨ v > 0 ∧ who p e = true) := by
  unfold chkBg at hc
  split at hc
  · rename_i h1
    split at hc
    · rename_i h2
      simp only [Bool.and_eq_true, Bool.or_eq_true, tmB, nobB, decide_eq_true_eq] at h1 h2
      exact ⟨h1.1, h1.2, h2.1, h2.2⟩
    · exact absurd hc (by decide)
  · exact absurd hc (by decide)
theorem bl_fits {b : Bl} (hb : bright b = true) (h : b.null = true ∨ kright b.data = true) : fits (blen b) 2 = true ∧ b.data.length ≤ 32767 := by
  unfold blen
  rcases h with h | h
  · have : b.data = [] := by unfold bright at hb; rw [h] at hb; simpa using hb
    rw [if_pos h, this]
    exact ⟨by decide, by decide⟩
  · obtain ⟨k1, _⟩ := kright_len h
    refine ⟨?_, k1⟩
    split
    · decide
    · rw [fits_2]; exact decide_eq_true (by omega)
def encB (v : Int) (x : TxnBegin) : List UInt8 := if v > 0 then encB1 x else encB0 x
theorem beginWrite (x : TxnBegin) (v : Int) (t : List UInt8) (hp : wI x.fProducer) (he : wI x.fEpoch) (hm : wI x.fTimeout) (ht : t.length ≤ 900000) : f_txn_BeginWrite (t, 0) x v = some (if chkBg x.fID x.fTimeout x.fProducer x.fEpoch v = 0 then (t ++ encB v x, 0) else (t, chkBg x.fID x.fTimeout x.fProducer x.fEpoch v)) := by
  unfold f_txn_BeginWrite
  rw [beginCheck x v he hm, Option.bind_some, txnFail, Option.bind_some]
  by_cases hc : chkBg x.fID x.fTimeout x.fProducer x.fEpoch v = 0
  · rw [if_pos hc, if_pos hc]
    simp only
    obtain ⟨h1, h2, h3, h4⟩ := chkBg_zero hc
    obtain ⟨f0, k1⟩ := bl_fits h1 h2
    have f4 : fits x.fTimeout 4 = true := by rw [fits_4]; exact decide_eq_true (by omega)
    have f1 : fits x.fProducer 8 = true := by rw [fits_8]; exact decide_eq_true hp
    have f2 : fits x.fEpoch 2 = true := by
      rcases h4 with h4 | h4
      · rw [h4.2]; decide
      · exact (who_fits h4.2 hp).2
    rw [if_neg (by decide), gPutFixed_z f0 h1 (by omega), Option.bind_some, gOInt_z f4 (by simp only [List.length_append, be_length]; omega), Option.bind_some]
    unfold encB
    by_cases hv : v > 0
    · rw [if_pos hv, if_pos hv, gOInt_z f1 (by simp only [List.length_append, be_length]; omega), Option.bind_some, gOInt_z f2 (by simp only [List.length_append, be_length]; omega), Option.bind_some, Option.bind_some]
      simp only [encB1, encFx, List.append_assoc]
      rfl
    · rw [if_neg hv, if_neg hv, Option.bind_some]
      simp only [encB0, encFx, List.append_assoc]
      rfl
  · rw [if_neg hc, if_neg hc]
    rfl
def Pr.map {α β : Type} (g : α → β) (p : Pr α) : Pr β := p.bind fun x => .ret (g x)
theorem Sp.map {α β : Type} {p : Pr α} {enc : α → List UInt8} {ok : α → Prop} (g : α → β) (g' : β → α) (hg : ∀ x, g' (g x) = x) (h : Sp p enc ok) : Sp (p.map g) (fun y => enc (g' y)) (fun y => ok (g' y) ∧ g (g' y) = y) := by
  refine ⟨fun s q y r hq hp => ?_, fun s t q y hq hy hd => ?_⟩
  · obtain ⟨x, m, h1, h2⟩ := Pr.bind_ok hp
    injection h2 with h2
    obtain ⟨rfl, rfl⟩ := Prod.mk.inj h2
    obtain ⟨a1, a2, a3, a4, a5⟩ := h.spell s q x m hq h1
    rw [hg x]
    exact ⟨a1, a2, a3, a4, a5, rfl⟩
  · have := h.back s t q (g' y) hq hy.1 hd
    rw [Pr.map, Pr.bind_of this, hy.2]
    rfl
theorem CB.map {α β : Type} {op : I → Option (α × I)} {p : Pr α} {z : α} (g : α → β) (h : CB op p z) : CB (fun st => (op st).bind fun (x, st1) => some (g x, st1)) (p.map g) (g z) := by
  refine ⟨fun st hd => ?_, fun s q hl hq => ?_⟩
  · show (op st).bind _ = _
    rw [h.dead st hd]
    rfl
  · rcases h.run s q hl hq with ⟨e, st, p1, g1, x1, y1⟩ | ⟨a, r, p1, g1, n1, l1⟩
    · refine .inl ⟨e, st, Pr.bind_err p1, ?_, x1, y1⟩
      show (op _).bind _ = _
      rw [g1]
      rfl
    · refine .inr ⟨g a, r, by rw [Pr.map, Pr.bind_of p1]; rfl, ?_, n1, l1⟩
      show (op _).bind _ = _
      rw [g1]
      rfl
end Go.Proofs.Ytagbblaegdedpaa.Sl
namespace Go.Proofs.Ytagbblaegdedpaa.Sl
open Go.RowKit
set_option linter.unusedVariables false
set_option linter.unusedSimpArgs false
theorem vbelow {w W : World} (h : Below w.heap.size w W) (o : Obj) : Below w.heap.size w (W.alloc o) := h.alloc h.size o
theorem vset {w W : World} (h : Below w.heap.size w W) (i : Nat) (u : Value) : Below w.heap.size w (W.setCell ⟨w.heap.size, i, none⟩ u) := h.setCell (p := ⟨w.heap.size, i, none⟩) (Nat.le_refl _) u
def vTable : Array Value := #[.int .i64 0, .string ⟨#[112, 114, 111, 100, 117, 99, 101]⟩, .int .i64 3, .int .i64 4, .int .i64 22, .string ⟨#[98, 101, 103, 105, 110]⟩, .int .i64 0, .int .i64 1,
  .int .i64 24, .string ⟨#[97, 100, 100]⟩, .int .i64 0, .int .i64 0, .int .i64 26, .string ⟨#[101, 110, 100]⟩, .int .i64 0, .int .i64 0, .int .i64 27, .string ⟨#[109, 97, 114, 107]⟩, .int .i64 0, .int .i64 1]
theorem vTable_one : vTable.all (·.oneCell') = true := by simp [vTable, Value.oneCell']
theorem info97 : (Try.prog.info? 275).map (·.size) = some 20 := by kernel_rfl
set_option maxRecDepth 100000 in
theorem table_any (w : World) :
    Calls Try.prog 214 #[] w fun e w' => e = .returned (.agg vTable) ∧ Below w.heap.size w w' := by
  have hi := info97
  go_enter Try.func214, Try.ntmps214
  go_wp2_with (refine wpList_store_new (w := w) rfl 275 _ _ rfl 275 _ vTable rfl rfl info97 rfl vTable_one ?_)
  refine bodyPost_ret (v := .agg vTable) ?_ rfl ?_
  · exact results_cell_row (by rfl) _ _ w.heap.size 275 vTable (0, 0) _ rfl (heap_alloc_new w _) Try.underlying275 rfl info97
  · exact ⟨rfl, (Below.refl _ _).alloc (Nat.le_refl _) _⟩
def vrow (k : Int) : Value × Bool :=
  if k = 0 then (.agg #[.int .i64 0, .string ⟨#[112, 114, 111, 100, 117, 99, 101]⟩, .int .i64 3, .int .i64 4], true)
  else if k = 22 then (.agg #[.int .i64 22, .string ⟨#[98, 101, 103, 105, 110]⟩, .int .i64 0, .int .i64 1], true)
  else if k = 24 then (.agg #[.int .i64 24, .string ⟨#[97, 100, 100]⟩, .int .i64 0, .int .i64 0], true)
  else if k = 26 then (.agg #[.int .i64 26, .string ⟨#[101, 110, 100]⟩, .int .i64 0, .int .i64 0], true)
  else if k = 27 then (.agg #[.int .i64 27, .string ⟨#[109, 97, 114, 107]⟩, .int .i64 0, .int .i64 1], true)
  else (.agg #[.int .i64 0, .string ⟨#[]⟩, .int .i64 0, .int .i64 0], false)
theorem row_kept {w w1 : World} {c : Array Value} {t : TypeId} (hb : Below (w.alloc (.cells c t)).heap.size (w.alloc (.cells c t)) w1) (i : Nat) : w1.cell? ⟨w.heap.size, i, none⟩ = c[i]? ∧ w1.frozen? ⟨w.heap.size, i, none⟩ = false := by
  have h : w1.heap[w.heap.size]? = some (.cells c t (0, 0)) := (hb.block w.heap.size (by simp)).trans (heap_alloc_new w _)
  exact ⟨heap_at h i, heap_free h i⟩
theorem row_lt_ {w w1 : World} {o : Obj} (hb : Below (w.alloc o).heap.size (w.alloc o) w1) : w.heap.size < w1.heap.size := by
  have := hb.size
  simp at this
  omega
set_option maxRecDepth 100000 in
set_option maxHeartbeats 4000000 in
theorem find_any (k : Int) (w : World) :
    Calls Try.prog 188 #[.int .i64 k] w fun e w' => e = .returned (.tuple #[(vrow k).1, .bool (vrow k).2]) ∧ Below w.heap.size w w' := by
  have i0 : ∀ w : World, (Instr.index 275 (.agg vTable) (.int .i64 0)).run Try.prog w = .ok (.agg #[.int .i64 0, .string ⟨#[112, 114, 111, 100, 117, 99, 101]⟩, .int .i64 3, .int .i64 4]) w := fun _ => by kernel_rfl
  have i1 : ∀ w : World, (Instr.index 275 (.agg vTable) (.int .i64 1)).run Try.prog w = .ok (.agg #[.int .i64 22, .string ⟨#[98, 101, 103, 105, 110]⟩, .int .i64 0, .int .i64 1]) w := fun _ => by kernel_rfl
  have i2 : ∀ w : World, (Instr.index 275 (.agg vTable) (.int .i64 2)).run Try.prog w = .ok (.agg #[.int .i64 24, .string ⟨#[97, 100, 100]⟩, .int .i64 0, .int .i64 0]) w := fun _ => by kernel_rfl
  have i3 : ∀ w : World, (Instr.index 275 (.agg vTable) (.int .i64 3)).run Try.prog w = .ok (.agg #[.int .i64 26, .string ⟨#[101, 110, 100]⟩, .int .i64 0, .int .i64 0]) w := fun _ => by kernel_rfl
  have i4 : ∀ w : World, (Instr.index 275 (.agg vTable) (.int .i64 4)).run Try.prog w = .ok (.agg #[.int .i64 27, .string ⟨#[109, 97, 114, 107]⟩, .int .i64 0, .int .i64 1]) w := fun _ => by kernel_rfl
  have way : k = 0 ∨ k = 22 ∨ k = 24 ∨ k = 26 ∨ k = 27 ∨ ((0 == k) = false ∧ (22 == k) = false ∧ (24 == k) = false ∧ (26 == k) = false ∧ (27 == k) = false ∧ vrow k = (.agg #[.int .i64 0, .string ⟨#[]⟩, .int .i64 0, .int .i64 0], false)) := by
    by_cases h0 : k = 0
    · simp [h0]
    by_cases h1 : k = 22
    · simp [h1]
    by_cases h2 : k = 24
    · simp [h2]
    by_cases h3 : k = 26
    · simp [h3]
    by_cases h4 : k = 27
    · simp [h4]
    refine .inr (.inr (.inr (.inr (.inr ⟨?_, ?_, ?_, ?_, ?_, by simp [vrow, h0, h1, h2, h3, h4]⟩))))
    all_goals (rw [beq_eq_false_iff_ne]; omega)
  rcases way with rfl | rfl | rfl | rfl | rfl | ⟨h0, h1, h2, h3, h4, hv⟩
  · go_enter Try.func188, Try.ntmps188
    go_wp2_with (go_at_call 214; refine (table_any _).mono ?_; rintro e w1 ⟨rfl, hb⟩; obtain ⟨d0, e0⟩ := row_kept hb 0; obtain ⟨d1, e1⟩ := row_kept hb 1; obtain ⟨d2, e2⟩ := row_kept hb 2; obtain ⟨d3, e3⟩ := row_kept hb 3; simp at d0 d1 d2 d3; have HB := Lib.hid hb; have hz := row_lt_ hb; have hz1 : w.heap.size < w1.heap.size + 1 := (by omega); have hz2 : w.heap.size < w1.heap.size + 1 + 1 := (by omega); have hz3 : w.heap.size < w1.heap.size + 1 + 1 + 1 := (by omega); have hz4 : w.heap.size < w1.heap.size + 1 + 1 + 1 + 1 := (by omega); have hz5 : w.heap.size < w1.heap.size + 1 + 1 + 1 + 1 + 1 := (by omega); clear hb)
    refine wp_loop_rounds 6 ?_
    repeat (rw [rounds_succ]; go_wp2_with fail)
    have hbel : Below w.heap.size w w1 := ((Below.refl _ _).alloc (Nat.le_refl _) _).trans (HB.out.mono (by simp))
    refine bodyPost_ret (v := .tuple #[(vrow 0).1, .bool (vrow 0).2]) ?_ rfl ⟨rfl, ?_⟩
    · simp [results, Try.results188, go_sem, d0, d1, d2, d3, hz, hz1, hz2, hz3, hz4, hz5, vrow]
    · repeat (first | (with_reducible exact hbel) | (with_reducible refine vset ?_ _ _) | (with_reducible refine vbelow ?_ _))
  · go_enter Try.func188, Try.ntmps188
    go_wp2_with (go_at_call 214; refine (table_any _).mono ?_; rintro e w1 ⟨rfl, hb⟩; obtain ⟨d0, e0⟩ := row_kept hb 0; obtain ⟨d1, e1⟩ := row_kept hb 1; obtain ⟨d2, e2⟩ := row_kept hb 2; obtain ⟨d3, e3⟩ := row_kept hb 3; simp at d0 d1 d2 d3; have HB := Lib.hid hb; have hz := row_lt_ hb; have hz1 : w.heap.size < w1.heap.size + 1 := (by omega); have hz2 : w.heap.size < w1.heap.size + 1 + 1 := (by omega); have hz3 : w.heap.size < w1.heap.size + 1 + 1 + 1 := (by omega); have hz4 : w.heap.size < w1.heap.size + 1 + 1 + 1 + 1 := (by omega); have hz5 : w.heap.size < w1.heap.size + 1 + 1 + 1 + 1 + 1 := (by omega); clear hb)
    refine wp_loop_rounds 6 ?_
    repeat (rw [rounds_succ]; go_wp2_with fail)
    have hbel : Below w.heap.size w w1 := ((Below.refl _ _).alloc (Nat.le_refl _) _).trans (HB.out.mono (by simp))
    refine bodyPost_ret (v := .tuple #[(vrow 22).1, .bool (vrow 22).2]) ?_ rfl ⟨rfl, ?_⟩
    · simp [results, Try.results188, go_sem, d0, d1, d2, d3, hz, hz1, hz2, hz3, hz4, hz5, vrow]
    · repeat (first | (with_reducible exact hbel) | (with_reducible refine vset ?_ _ _) | (with_reducible refine vbelow ?_ _))
  · go_enter Try.func188, Try.ntmps188
    go_wp2_with (go_at_call 214; refine (table_any _).mono ?_; rintro e w1 ⟨rfl, hb⟩; obtain ⟨d0, e0⟩ := row_kept hb 0; obtain ⟨d1, e1⟩ := row_kept hb 1; obtain ⟨d2, e2⟩ := row_kept hb 2; obtain ⟨d3, e3⟩ := row_kept hb 3; simp at d0 d1 d2 d3; have HB := Lib.hid hb; have hz := row_lt_ hb; have hz1 : w.heap.size < w1.heap.size + 1 := (by omega); have hz2 : w.heap.size < w1.heap.size + 1 + 1 := (by omega); have hz3 : w.heap.size < w1.heap.size + 1 + 1 + 1 := (by omega); have hz4 : w.heap.size < w1.heap.size + 1 + 1 + 1 + 1 := (by omega); have hz5 : w.heap.size < w1.heap.size + 1 + 1 + 1 + 1 + 1 := (by omega); clear hb)
    refine wp_loop_rounds 6 ?_
    repeat (rw [rounds_succ]; go_wp2_with fail)
    have hbel : Below w.heap.size w w1 := ((Below.refl _ _).alloc (Nat.le_refl _) _).trans (HB.out.mono (by simp))
    refine bodyPost_ret (v := .tuple #[(vrow 24).1, .bool (vrow 24).2]) ?_ rfl ⟨rfl, ?_⟩
    · simp [results, Try.results188, go_sem, d0, d1, d2, d3, hz, hz1, hz2, hz3, hz4, hz5, vrow]
    · repeat (first | (with_reducible exact hbel) | (with_reducible refine vset ?_ _ _) | (with_reducible refine vbelow ?_ _))
  · go_enter Try.func188, Try.ntmps188
    go_wp2_with (go_at_call 214; refine (table_any _).mono ?_; rintro e w1 ⟨rfl, hb⟩; obtain ⟨d0, e0⟩ := row_kept hb 0; obtain ⟨d1, e1⟩ := row_kept hb 1; obtain ⟨d2, e2⟩ := row_kept hb 2; obtain ⟨d3, e3⟩ := row_kept hb 3; simp at d0 d1 d2 d3; have HB := Lib.hid hb; have hz := row_lt_ hb; have hz1 : w.heap.size < w1.heap.size + 1 := (by omega); have hz2 : w.heap.size < w1.heap.size + 1 + 1 := (by omega); have hz3 : w.heap.size < w1.heap.size + 1 + 1 + 1 := (by omega); have hz4 : w.heap.size < w1.heap.size + 1 + 1 + 1 + 1 := (by omega); have hz5 : w.heap.size < w1.heap.size + 1 + 1 + 1 + 1 + 1 := (by omega); clear hb)
    refine wp_loop_rounds 6 ?_
    repeat (rw [rounds_succ]; go_wp2_with fail)
    have hbel : Below w.heap.size w w1 := ((Below.refl _ _).alloc (Nat.le_refl _) _).trans (HB.out.mono (by simp))
    refine bodyPost_ret (v := .tuple #[(vrow 26).1, .bool (vrow 26).2]) ?_ rfl ⟨rfl, ?_⟩
    · simp [results, Try.results188, go_sem, d0, d1, d2, d3, hz, hz1, hz2, hz3, hz4, hz5, vrow]
    · repeat (first | (with_reducible exact hbel) | (with_reducible refine vset ?_ _ _) | (with_reducible refine vbelow ?_ _))
  · go_enter Try.func188, Try.ntmps188
    go_wp2_with (go_at_call 214; refine (table_any _).mono ?_; rintro e w1 ⟨rfl, hb⟩; obtain ⟨d0, e0⟩ := row_kept hb 0; obtain ⟨d1, e1⟩ := row_kept hb 1; obtain ⟨d2, e2⟩ := row_kept hb 2; obtain ⟨d3, e3⟩ := row_kept hb 3; simp at d0 d1 d2 d3; have HB := Lib.hid hb; have hz := row_lt_ hb; have hz1 : w.heap.size < w1.heap.size + 1 := (by omega); have hz2 : w.heap.size < w1.heap.size + 1 + 1 := (by omega); have hz3 : w.heap.size < w1.heap.size + 1 + 1 + 1 := (by omega); have hz4 : w.heap.size < w1.heap.size + 1 + 1 + 1 + 1 := (by omega); have hz5 : w.heap.size < w1.heap.size + 1 + 1 + 1 + 1 + 1 := (by omega); clear hb)
    refine wp_loop_rounds 6 ?_
    repeat (rw [rounds_succ]; go_wp2_with fail)
    have hbel : Below w.heap.size w w1 := ((Below.refl _ _).alloc (Nat.le_refl _) _).trans (HB.out.mono (by simp))
    refine bodyPost_ret (v := .tuple #[(vrow 27).1, .bool (vrow 27).2]) ?_ rfl ⟨rfl, ?_⟩
    · simp [results, Try.results188, go_sem, d0, d1, d2, d3, hz, hz1, hz2, hz3, hz4, hz5, vrow]
    · repeat (first | (with_reducible exact hbel) | (with_reducible refine vset ?_ _ _) | (with_reducible refine vbelow ?_ _))
  · go_enter Try.func188, Try.ntmps188
    go_wp2_with (go_at_call 214; refine (table_any _).mono ?_; rintro e w1 ⟨rfl, hb⟩; obtain ⟨d0, e0⟩ := row_kept hb 0; obtain ⟨d1, e1⟩ := row_kept hb 1; obtain ⟨d2, e2⟩ := row_kept hb 2; obtain ⟨d3, e3⟩ := row_kept hb 3; simp at d0 d1 d2 d3; have HB := Lib.hid hb; have hz := row_lt_ hb; have hz1 : w.heap.size < w1.heap.size + 1 := (by omega); have hz2 : w.heap.size < w1.heap.size + 1 + 1 := (by omega); have hz3 : w.heap.size < w1.heap.size + 1 + 1 + 1 := (by omega); have hz4 : w.heap.size < w1.heap.size + 1 + 1 + 1 + 1 := (by omega); have hz5 : w.heap.size < w1.heap.size + 1 + 1 + 1 + 1 + 1 := (by omega); clear hb)
    refine wp_loop_rounds 6 ?_
    repeat (rw [rounds_succ]; go_wp2_with fail)
    have hbel : Below w.heap.size w w1 := ((Below.refl _ _).alloc (Nat.le_refl _) _).trans (HB.out.mono (by simp))
    refine bodyPost_ret (v := .tuple #[(vrow k).1, .bool (vrow k).2]) ?_ rfl ⟨rfl, ?_⟩
    · rw [hv]
      simp [results, Try.results188, go_sem, d0, d1, d2, d3, hz, hz1, hz2, hz3, hz4, hz5]
    · repeat (first | (with_reducible exact hbel) | (with_reducible refine vset ?_ _ _) | (with_reducible refine vbelow ?_ _))
theorem find_of (k : Int) (r : Value) (b : Bool) (h : vrow k = (r, b)) (w : World) :
    Calls Try.prog 188 #[.int .i64 k] w fun e w' => e = .returned (.tuple #[r, .bool b]) ∧ Below w.heap.size w w' := by
  have := find_any k w
  rwa [h] at this
def vKnown (k : Int) : Int × Int × ByteArray × Bool :=
  if k = 0 then (3, 4, ⟨#[112, 114, 111, 100, 117, 99, 101]⟩, true) else if k = 22 then (0, 1, ⟨#[98, 101, 103, 105, 110]⟩, true)
  else if k = 24 then (0, 0, ⟨#[97, 100, 100]⟩, true) else if k = 26 then (0, 0, ⟨#[101, 110, 100]⟩, true) else if k = 27 then (0, 1, ⟨#[109, 97, 114, 107]⟩, true) else (0, 0, ⟨#[]⟩, false)
theorem vrow_known (k : Int) : ∃ k2, vrow k = (.agg #[.int .i64 k2, .string (vKnown k).2.2.1, .int .i64 (vKnown k).1, .int .i64 (vKnown k).2.1], (vKnown k).2.2.2) := by
  by_cases h0 : k = 0
  · exact ⟨0, by simp [vrow, vKnown, h0]⟩
  by_cases h1 : k = 22
  · exact ⟨22, by simp [vrow, vKnown, h1]⟩
  by_cases h2 : k = 24
  · exact ⟨24, by simp [vrow, vKnown, h2]⟩
  by_cases h3 : k = 26
  · exact ⟨26, by simp [vrow, vKnown, h3]⟩
  by_cases h4 : k = 27
  · exact ⟨27, by simp [vrow, vKnown, h4]⟩
  exact ⟨0, by simp [vrow, vKnown, h0, h1, h2, h3, h4]⟩
def vcheck (k v : Int) : Int := if (vKnown k).2.2.2 = false then 12 else if v < (vKnown k).1 ∨ (vKnown k).2.1 < v then 7 else 0
set_option maxRecDepth 100000 in
theorem VCheck_spec (k v : Int) : Spec0 Try.prog 137 #[.int .i64 k, .int .i64 v] (fun r N => r = .int .i64 (vcheck k v) ∧ N = []) := by
  intro w
  obtain ⟨k2, hr⟩ := vrow_known k
  have HC := Lib.hid (show vcheck k v = if (vKnown k).2.2.2 = false then 12 else if v < (vKnown k).1 ∨ (vKnown k).2.1 < v then 7 else 0 from rfl)
  generalize vcheck k v = c at *
  generalize vKnown k = q at *
  obtain ⟨lo, hi, nm, ok⟩ := q
  simp only at hr
  have HF := Lib.hid (find_of k _ _ hr)
  clear hr
  have way : (ok = false ∧ c = 12) ∨ (ok = true ∧ v < lo ∧ c = 7) ∨ (ok = true ∧ ¬ v < lo ∧ hi < v ∧ c = 7) ∨ (ok = true ∧ ¬ v < lo ∧ ¬ hi < v ∧ c = 0) := by
    rw [HC.out]
    cases ok
    · simp
    · by_cases h1 : v < lo <;> by_cases h2 : hi < v <;> simp [h1, h2]
  clear HC
  rcases way with ⟨rfl, rfl⟩ | ⟨rfl, h1, rfl⟩ | ⟨rfl, h1, h2, rfl⟩ | ⟨rfl, h1, h2, rfl⟩
  all_goals
    go_enter Try.func137, Try.ntmps137
    go_wp2_with (go_at_call 188; refine (HF.out _).mono ?_; rintro e w1 ⟨rfl, hb⟩; have HB := Lib.hid hb; clear hb)
    go_ret
    exact ⟨_, _, rfl, ⟨rfl, rfl⟩, Fr.of_below (vbelow HB.out _), trivial⟩
end Go.Proofs.Ytagbblaegdedpaa.Sl
namespace Go.Proofs.Ytagbblaegdedpaa.Sl
open Go.RowKit
set_option linter.unusedVariables false
def gVCheck (k v : Int) : Option Int := some (vcheck k v)
theorem gVCheck_eq (k v : Int) : gVCheck k v = some (vcheck k v) := rfl
theorem gVCheck_spec (k v : Int) (r : Int) (h : gVCheck k v = some r) : SpecX Try.prog 137 #[.int .i64 k, .int .i64 v] .triv EmpR (fun u A' N => u = .int .i64 r ∧ A' = EmpR ∧ N = []) := by
  obtain rfl := Option.some.inj h
  exact SpecX.of_spec0_2 (VCheck_spec k v)
end Go.Proofs.Ytagbblaegdedpaa.Sl
namespace Go.Proofs.Ytagbblaegdedpaa.Sl
open Go.RowKit
set_option linter.unusedVariables false
set_option linter.unusedSimpArgs false
set_option maxRecDepth 100000
def ft_request : FTab := [(26, 1, 1), (105, 0, 0), (105, 1, 1), (105, 2, 2), (105, 3, 3)]
theorem ft_request_ok : (ft_request).OK Try.prog := ⟨FOK.mk Try.runUnderlying26 rfl Try.sizeOf9 rfl, FOK.mk Try.runUnderlying105 rfl Try.sizeOf3 rfl, FOK.mk Try.runUnderlying105 rfl Try.sizeOf3 rfl, FOK.mk Try.runUnderlying105 rfl Try.sizeOf3 rfl, FOK.mk Try.runUnderlying105 rfl Try.sizeOf26 rfl, trivial⟩
theorem bok_request_105 : BOK Try.prog 105 #[.int .i64 0, .int .i64 0, .int .i64 0, .bool false, .string ⟨#[]⟩] [(0, 1), (1, 1), (2, 1), (3, 2)] := BOK.mk Try.zeroValue105 Try.runUnderlying105 (by intro w; simp)
def f_request_Check (a0 : Head) : Option (Int) := (gVCheck a0.fKind a0.fVersion).bind fun x2 => if x2 = 0 then ((gFits a0.fNumber 4).bind fun x5 => if x5 = true then ((gRight a0.fClient).bind fun x8 => if x8 = true then (if (a0.fClient.data.length : Int) > 32767 then some 4 else some 0) else some 4) else some 11) else some x2
set_option maxRecDepth 100000 in
set_option maxHeartbeats 4000000 in
theorem f_request_Check_spec (a0 : Head) (r : Int) (h : f_request_Check a0 = some r) : SpecX Try.prog 60 #[.agg #[.int .i64 a0.fKind, .int .i64 a0.fVersion, .int .i64 a0.fNumber, .bool a0.fClient.null, .string (bsOf a0.fClient.data)]] .triv (EmpR) (fun v A' N => v = .int .i64 r ∧ A' = EmpR ∧ N = []) := by
  refine enterA Try.func60 rfl Try.ntmps60 rfl ?_
  intro F w hX
  unfold f_request_Check at h
  refine T.seq (T.region rfl ?_)
  refine TL.box rfl .u rfl rfl (fun b1 => ?_)
  refine TL.run ft_request_ok [1] rfl rfl ?_
  refine TL.nil (X.seq (T.seq (T.seq (T.region rfl ?_))))
  refine TL.run ft_request_ok [0] rfl rfl ?_
  refine TL.q rfl .u (Ex.b1 0 rfl Try.isAgg3 rfl rfl) rfl ?_
  refine TL.run ft_request_ok [2] rfl rfl ?_
  refine TL.q rfl .u (Ex.b1 0 rfl Try.isAgg3 rfl rfl) rfl ?_
  obtain ⟨x2, hx3, h⟩ := Option.bind_eq_some_iff.1 h
  refine TL.ce rfl .u (.fn Try.call137 rfl) (gVCheck_spec a0.fKind a0.fVersion _ hx3) (fun _ hs => (RX.reads_triv _ _)) rfl ?_
  refine TL.run ft_request_ok [5] rfl rfl ?_
  refine TL.nil (X.seq (T.seq (T.region rfl ?_)))
  refine TL.run ft_request_ok [0, 1] rfl rfl ?_
  by_cases c4 : x2 = 0
  · replace h := ifT c4 h
    refine TL.nil (X.seq ?_)
    refine T.no rfl (bn_f (decide_eq_true c4)) ?_
    refine T.skip (X.seq (T.seq (T.block (T.seq (T.region rfl ?_)))))
    refine TL.run ft_request_ok [0] rfl rfl ?_
    refine TL.q rfl .u (Ex.b1 0 rfl Try.isAgg3 rfl rfl) rfl ?_
    obtain ⟨x5, hx6, h⟩ := Option.bind_eq_some_iff.1 h
    refine TL.ce rfl .u (.fn Try.call96 rfl) (SpecX.pure (fun w => gFits_spec a0.fNumber 4 _ hx6 w)) (fun _ _ => RX.reads_triv _ _) rfl ?_
    refine TL.run ft_request_ok [3, 4] rfl rfl ?_
    by_cases c7 : x5 = true
    · replace h := ifT c7 h
      refine TL.nil (X.seq ?_)
      refine T.no rfl (bn_f c7) ?_
      refine T.seq (T.region rfl ?_)
      refine TL.run ft_request_ok [0] rfl rfl ?_
      refine TL.q rfl .u (Ex.bS (us := [.bool a0.fClient.null, .string (bsOf a0.fClient.data)]) 0 rfl Try.isAgg26 Try.sizeOf26 rfl rfl rfl) rfl ?_
      obtain ⟨x8, hx9, h⟩ := Option.bind_eq_some_iff.1 h
      refine TL.ce rfl .u (.fn Try.call138 rfl) (gRight_spec a0.fClient _ hx9) (fun _ hs => (RX.reads_triv _ _)) rfl ?_
      by_cases c10 : x8 = true
      · replace h := ifT c10 h
        refine TL.run ft_request_ok [3, 4] rfl rfl ?_
        refine TL.q rfl (.g rfl rfl (bn_f c10)) (Ex.ft ft_request_ok rfl) rfl ?_
        refine TL.q rfl (.g rfl rfl (bn_f c10)) (Ex.ft ft_request_ok rfl) rfl ?_
        refine TL.q rfl (.g rfl rfl (bn_f c10)) (Ex.b1 0 rfl Try.isAgg9 rfl rfl) rfl ?_
        refine TL.q rfl (.g rfl rfl (bn_f c10)) (Ex.lenB rfl Try.runUnderlying9) rfl ?_
        refine TL.q rfl (.g rfl rfl (bn_f c10)) (Ex.ft ft_request_ok rfl) rfl ?_
        refine TL.q rfl .u (Ex.pn rfl (bn_f c10) rfl) rfl ?_
        refine TL.run ft_request_ok [11] rfl rfl ?_
        by_cases c11 : (a0.fClient.data.length : Int) > 32767
        · replace h := ifT c11 h
          refine TL.nil (X.seq ?_)
          refine T.yes rfl (decide_eq_true c11) ?_
          refine T.seq (T.region rfl ?_)
          refine TL.run ft_request_ok [0] rfl rfl ?_
          obtain rfl := Option.some.inj h
          exact TL.nil (X.seq (T.ret (X.rb (X.rs (X.done1 [1] Try.results60 (RV.tm rfl) ⟨rfl, rfl, rfl⟩ (by rfl) (.inl rfl))))))
        · replace h := ifF c11 h
          refine TL.nil (X.seq ?_)
          refine T.no rfl (decide_eq_false c11) ?_
          refine T.skip (X.blk (X.seq (T.seq (T.region rfl ?_))))
          refine TL.run ft_request_ok [0] rfl rfl ?_
          obtain rfl := Option.some.inj h
          exact TL.nil (X.seq (T.ret (X.done1 [1] Try.results60 (RV.tm rfl) ⟨rfl, rfl, rfl⟩ (by rfl) (.inl rfl))))
      · replace h := ifF c10 h
        replace c10 := eq_false_of_ne_true c10
        refine TL.run ft_request_ok [3, 4] rfl rfl ?_
        refine TL.no rfl (.gn rfl rfl (bn_t c10)) rfl ?_
        refine TL.no rfl (.gn rfl rfl (bn_t c10)) rfl ?_
        refine TL.no rfl (.gn rfl rfl (bn_t c10)) rfl ?_
        refine TL.no rfl (.gn rfl rfl (bn_t c10)) rfl ?_
        refine TL.no rfl (.gn rfl rfl (bn_t c10)) rfl ?_
        refine TL.q rfl .u (Ex.py rfl (bn_t c10) rfl) rfl ?_
        refine TL.run ft_request_ok [11] rfl rfl ?_
        refine TL.nil (X.seq ?_)
        refine T.yes rfl rfl ?_
        refine T.seq (T.region rfl ?_)
        refine TL.run ft_request_ok [0] rfl rfl ?_
        obtain rfl := Option.some.inj h
        exact TL.nil (X.seq (T.ret (X.rb (X.rs (X.done1 [1] Try.results60 (RV.tm rfl) ⟨rfl, rfl, rfl⟩ (by rfl) (.inl rfl))))))
    · replace h := ifF c7 h
      replace c7 := eq_false_of_ne_true c7
      refine TL.nil (X.seq ?_)
      refine T.yes rfl (bn_t c7) ?_
      refine T.seq (T.region rfl ?_)
      refine TL.run ft_request_ok [0] rfl rfl ?_
      obtain rfl := Option.some.inj h
      exact TL.nil (X.seq (T.ret (X.rb (X.rs (X.done1 [1] Try.results60 (RV.tm rfl) ⟨rfl, rfl, rfl⟩ (by rfl) (.inl rfl))))))
  · replace h := ifF c4 h
    refine TL.nil (X.seq ?_)
    refine T.yes rfl (bn_t (decide_eq_false c4)) ?_
    refine T.seq (T.region rfl ?_)
    refine TL.run ft_request_ok [0, 1] rfl rfl ?_
    obtain rfl := Option.some.inj h
    exact TL.nil (X.seq (T.ret (X.rs (X.done1 [1] Try.results60 (RV.tm rfl) ⟨rfl, rfl, rfl⟩ (by rfl) (.inl rfl)))))
def f_request_Write (st : List UInt8 × Int) (a1 : Head) : Option (List UInt8 × Int) := (f_request_Check a1).bind fun x2 => if x2 = 0 then ((gOInt st a1.fKind 2).bind fun st5 => (gOInt st5 a1.fVersion 2).bind fun st7 => (gOInt st7 a1.fNumber 4).bind fun st9 => (gPutFixed st9 a1.fClient 2).bind fun st11 => some st11) else ((gOFail st x2).bind fun st13 => some st13)
set_option maxRecDepth 100000 in
set_option maxHeartbeats 4000000 in
theorem f_request_Write_spec (g : Nat) (st : List UInt8 × Int) (a1 : Head) (r : List UInt8 × Int) (h : f_request_Write st a1 = some r) : SpecX Try.prog 61 #[.pointer (some ⟨g, 0, none⟩), .agg #[.int .i64 a1.fKind, .int .i64 a1.fVersion, .int .i64 a1.fNumber, .bool a1.fClient.null, .string (bsOf a1.fClient.data)]] .triv (OutR g st) (fun v A' N => v = .tuple #[] ∧ A' = OutR g r ∧ N = []) := by
  refine enterA Try.func61 rfl Try.ntmps61 rfl ?_
  intro F w hX
  unfold f_request_Write at h
  refine T.seq (T.region rfl ?_)
  refine TL.box rfl .u rfl rfl (fun b1 => ?_)
  refine TL.nil (X.seq (T.seq (T.seq (T.region rfl ?_))))
  refine TL.q rfl .u (Ex.bS (us := [.int .i64 a1.fKind, .int .i64 a1.fVersion, .int .i64 a1.fNumber, .bool a1.fClient.null, .string (bsOf a1.fClient.data)]) 0 rfl Try.isAgg105 Try.sizeOf105 rfl rfl rfl) rfl ?_
  obtain ⟨x2, hx3, h⟩ := Option.bind_eq_some_iff.1 h
  refine TL.ce rfl .u (.fn Try.call60 rfl) (f_request_Check_spec a1 _ hx3) (fun _ hs => (RX.reads_triv _ _)) rfl ?_
  refine TL.run ft_request_ok [2] rfl rfl ?_
  refine TL.nil (X.seq (T.seq (T.region rfl ?_)))
  refine TL.run ft_request_ok [0, 1] rfl rfl ?_
  by_cases c4 : x2 = 0
  · replace h := ifT c4 h
    refine TL.nil (X.seq ?_)
    refine T.no rfl (bn_f (decide_eq_true c4)) ?_
    refine T.skip (X.seq (T.seq (T.region rfl ?_)))
    refine TL.run ft_request_ok [0, 1] rfl rfl ?_
    refine TL.q rfl .u (Ex.b1 0 rfl Try.isAgg3 rfl rfl) rfl ?_
    obtain ⟨st5, hx6, h⟩ := Option.bind_eq_some_iff.1 h
    refine TL.c1 rfl .u (.fn Try.call113 rfl) (gOInt_spec g st a1.fKind 2 _ hx6) (fun _ hs => (Src.triv _)) rfl ?_
    refine TL.nil (X.seq (T.seq (T.region rfl ?_)))
    refine TL.run ft_request_ok [0, 1] rfl rfl ?_
    refine TL.q rfl .u (Ex.b1 0 rfl Try.isAgg3 rfl rfl) rfl ?_
    obtain ⟨st7, hx8, h⟩ := Option.bind_eq_some_iff.1 h
    refine TL.c1 rfl .u (.fn Try.call113 rfl) (gOInt_spec g st5 a1.fVersion 2 _ hx8) (fun _ hs => (Src.triv _)) rfl ?_
    refine TL.nil (X.seq (T.seq (T.region rfl ?_)))
    refine TL.run ft_request_ok [0, 1] rfl rfl ?_
    refine TL.q rfl .u (Ex.b1 0 rfl Try.isAgg3 rfl rfl) rfl ?_
    obtain ⟨st9, hx10, h⟩ := Option.bind_eq_some_iff.1 h
    refine TL.c1 rfl .u (.fn Try.call113 rfl) (gOInt_spec g st7 a1.fNumber 4 _ hx10) (fun _ hs => (Src.triv _)) rfl ?_
    refine TL.nil (X.seq (T.region rfl ?_))
    refine TL.run ft_request_ok [0, 1] rfl rfl ?_
    refine TL.q rfl .u (Ex.bS (us := [.bool a1.fClient.null, .string (bsOf a1.fClient.data)]) 0 rfl Try.isAgg26 Try.sizeOf26 rfl rfl rfl) rfl ?_
    obtain ⟨st11, hx12, h⟩ := Option.bind_eq_some_iff.1 h
    refine TL.c1 rfl .u (.fn Try.call139 rfl) (gPutFixed_spec g st9 a1.fClient 2 _ hx12) (fun _ hs => (Src.triv _)) rfl ?_
    obtain rfl := Option.some.inj h
    exact TL.nil (X.done0 [1] Try.results61 ⟨rfl, rfl, rfl⟩ (by rfl) (.inr rfl))
  · replace h := ifF c4 h
    refine TL.nil (X.seq ?_)
    refine T.yes rfl (bn_t (decide_eq_false c4)) ?_
    refine T.seq (T.region rfl ?_)
    obtain ⟨st13, hx14, h⟩ := Option.bind_eq_some_iff.1 h
    refine TL.run ft_request_ok [0, 1] rfl rfl ?_
    refine TL.c1 rfl .u (.fn Try.call101 rfl) (gOFail_spec g st x2 _ hx14) (fun _ hs => (Src.triv _)) rfl ?_
    obtain rfl := Option.some.inj h
    exact TL.nil (X.seq (T.ret (X.rs (X.done0 [1] Try.results61 ⟨rfl, rfl, rfl⟩ (by rfl) (.inl rfl)))))
def f_request_Read (st : I)  : Option (Head × I) := (gInt st 2).bind fun (x2, st3) => (gInt st3 2).bind fun (x5, st6) => (gErr st6).bind fun (x9, st10) => if x9 = 0 then ((gVCheck x2 x5).bind fun x13 => if x13 = 0 then ((gInt st10 4).bind fun (x16, st17) => (gFixed st17 2).bind fun (x19, st20) => (gErr st20).bind fun (x22, st23) => if x22 = 0 then (some ((⟨x2, x5, x16, x19⟩ : Head), st23)) else (some ((⟨0, 0, 0, (⟨false, []⟩ : Bl)⟩ : Head), st23))) else ((gIFail st10 x13).bind fun st26 => (gInt st26 4).bind fun (x28, st29) => (gFixed st29 2).bind fun (x31, st32) => (gErr st32).bind fun (x34, st35) => if x34 = 0 then (some ((⟨x2, x5, x28, x31⟩ : Head), st35)) else (some ((⟨0, 0, 0, (⟨false, []⟩ : Bl)⟩ : Head), st35)))) else ((gInt st10 4).bind fun (x38, st39) => (gFixed st39 2).bind fun (x41, st42) => (gErr st42).bind fun (x44, st45) => if x44 = 0 then (some ((⟨x2, x5, x38, x41⟩ : Head), st45)) else (some ((⟨0, 0, 0, (⟨false, []⟩ : Bl)⟩ : Head), st45)))
set_option maxRecDepth 100000 in
set_option maxHeartbeats 4000000 in
theorem f_request_Read_spec (g : Nat) (st : I)  (r : Head × I) (h : f_request_Read st  = some r) : SpecX Try.prog 67 #[.pointer (some ⟨g, 0, none⟩)] .triv (InR g st) (fun v A' N => v = .agg #[.int .i64 r.1.fKind, .int .i64 r.1.fVersion, .int .i64 r.1.fNumber, .bool r.1.fClient.null, .string (bsOf r.1.fClient.data)] ∧ A' = InR g r.2 ∧ N = []) := by
  refine enterA Try.func67 rfl Try.ntmps67 rfl ?_
  intro F w hX
  unfold f_request_Read at h
  refine T.seq (T.region rfl ?_)
  refine TL.alloc rfl .u Try.zeroValue105 rfl (fun b1 => ?_)
  refine TL.nil (X.seq (T.seq (T.region rfl ?_)))
  obtain ⟨⟨x2, st3⟩, hx4, h⟩ := Option.bind_eq_some_iff.1 h
  try dsimp only at h
  refine TL.run ft_request_ok [0] rfl rfl ?_
  refine TL.c1 rfl .u (.fn Try.call83 rfl) (gInt_spec g st 2 _ hx4) (fun _ hs => (Src.triv _)) rfl ?_
  obtain ⟨⟨x5, st6⟩, hx7, h⟩ := Option.bind_eq_some_iff.1 h
  try dsimp only at h
  refine TL.run ft_request_ok [2] rfl rfl ?_
  refine TL.c1 rfl .u (.fn Try.call83 rfl) (gInt_spec g st3 2 _ hx7) (fun _ hs => (Src.triv _)) rfl ?_
  refine TL.q rfl .u (Ex.bld (cells := #[.int .i64 x2, .int .i64 x5, .int .i64 0, .bool false, .string ⟨#[]⟩]) bok_request_105 rfl (by kernel_rfl)) rfl ?_
  refine TL.alloc rfl .u Try.zeroValue105 rfl (fun b8 => ?_)
  refine TL.st0 (cs' := #[.int .i64 x2, .int .i64 x5, .int .i64 0, .bool false, .string ⟨#[]⟩]) rfl .u rfl rfl Try.sizeOf105 rfl rfl rfl rfl ?_
  refine TL.nil (X.seq (T.seq (T.seq (T.region rfl ?_))))
  obtain ⟨⟨x9, st10⟩, hx11, h⟩ := Option.bind_eq_some_iff.1 h
  try dsimp only at h
  refine TL.run ft_request_ok [0] rfl rfl ?_
  refine TL.c2 rfl .u (.fn Try.call19 rfl) (gErr_spec g st6 _ hx11) (fun _ hs => (Src.triv _)) rfl ?_
  refine TL.run ft_request_ok [2] rfl rfl ?_
  by_cases c12 : x9 = 0
  · replace h := ifT c12 h
    refine TL.nil (X.seq ?_)
    refine T.yes rfl (decide_eq_true c12) ?_
    refine T.seq (T.region rfl ?_)
    refine TL.run ft_request_ok [0] rfl rfl ?_
    refine TL.q rfl .u (Ex.b1 0 rfl Try.isAgg3 rfl rfl) rfl ?_
    refine TL.run ft_request_ok [2] rfl rfl ?_
    refine TL.q rfl .u (Ex.b1 0 rfl Try.isAgg3 rfl rfl) rfl ?_
    obtain ⟨x13, hx14, h⟩ := Option.bind_eq_some_iff.1 h
    refine TL.ce rfl .u (.fn Try.call137 rfl) (gVCheck_spec x2 x5 _ hx14) (fun _ hs => (RX.reads_triv _ _)) rfl ?_
    refine TL.run ft_request_ok [5] rfl rfl ?_
    refine TL.nil (X.seq (T.seq (T.region rfl ?_)))
    refine TL.run ft_request_ok [0, 1] rfl rfl ?_
    by_cases c15 : x13 = 0
    · replace h := ifT c15 h
      refine TL.nil (X.seq ?_)
      refine T.no rfl (bn_f (decide_eq_true c15)) ?_
      refine T.skip (X.seq (T.seq (T.region rfl ?_)))
      obtain ⟨⟨x16, st17⟩, hx18, h⟩ := Option.bind_eq_some_iff.1 h
      try dsimp only at h
      refine TL.run ft_request_ok [0] rfl rfl ?_
      refine TL.c2 rfl .u (.fn Try.call83 rfl) (gInt_spec g st10 4 _ hx18) (fun _ hs => (Src.triv _)) rfl ?_
      refine TL.run ft_request_ok [2] rfl rfl ?_
      refine TL.st0 (cs' := #[.int .i64 x2, .int .i64 x5, .int .i64 x16, .bool false, .string ⟨#[]⟩]) rfl .u rfl rfl Try.sizeOf3 rfl rfl rfl rfl ?_
      refine TL.nil (X.seq (T.seq (T.region rfl ?_)))
      obtain ⟨⟨x19, st20⟩, hx21, h⟩ := Option.bind_eq_some_iff.1 h
      try dsimp only at h
      refine TL.run ft_request_ok [0] rfl rfl ?_
      refine TL.c2 rfl .u (.fn Try.call142 rfl) (gFixed_spec g st17 2 _ hx21) (fun _ hs => (Src.triv _)) rfl ?_
      refine TL.run ft_request_ok [2] rfl rfl ?_
      refine TL.st0 (cs' := #[.int .i64 x2, .int .i64 x5, .int .i64 x16, .bool x19.null, .string (bsOf x19.data)]) rfl .u rfl rfl Try.sizeOf26 rfl rfl rfl rfl ?_
      refine TL.nil (X.seq (T.seq (T.seq (T.region rfl ?_))))
      obtain ⟨⟨x22, st23⟩, hx24, h⟩ := Option.bind_eq_some_iff.1 h
      try dsimp only at h
      refine TL.run ft_request_ok [0] rfl rfl ?_
      refine TL.c2 rfl .u (.fn Try.call19 rfl) (gErr_spec g st20 _ hx24) (fun _ hs => (Src.triv _)) rfl ?_
      refine TL.run ft_request_ok [2] rfl rfl ?_
      by_cases c25 : x22 = 0
      · replace h := ifT c25 h
        refine TL.nil (X.seq ?_)
        refine T.no rfl (bn_f (decide_eq_true c25)) ?_
        refine T.skip (X.seq (T.seq (T.region rfl ?_)))
        refine TL.q rfl .u (Ex.bS (us := [.int .i64 x2, .int .i64 x5, .int .i64 x16, .bool x19.null, .string (bsOf x19.data)]) 0 rfl Try.isAgg105 Try.sizeOf105 rfl rfl rfl) rfl ?_
        refine TL.st1 (cs' := #[.int .i64 x2, .int .i64 x5, .int .i64 x16, .bool x19.null, .string (bsOf x19.data)]) rfl .u rfl rfl Try.sizeOf105 rfl rfl rfl rfl ?_
        obtain rfl := Option.some.inj h
        exact TL.nil (X.seq (T.ret (X.done1 [2] Try.results67 (RV.cS (us := #[.int .i64 x2, .int .i64 x5, .int .i64 x16, .bool x19.null, .string (bsOf x19.data)]) 1 rfl Try.isAgg105 Try.sizeOf105 rfl rfl) ⟨rfl, rfl, rfl⟩ (by rfl) (.inl rfl))))
      · replace h := ifF c25 h
        refine TL.nil (X.seq ?_)
        refine T.yes rfl (bn_t (decide_eq_false c25)) ?_
        refine T.seq (T.region rfl ?_)
        refine TL.q rfl .u (Ex.bld (cells := #[.int .i64 0, .int .i64 0, .int .i64 0, .bool false, .string ⟨#[]⟩]) bok_request_105 rfl (by kernel_rfl)) rfl ?_
        refine TL.st1 (cs' := #[.int .i64 0, .int .i64 0, .int .i64 0, .bool false, .string ⟨#[]⟩]) rfl .u rfl rfl Try.sizeOf105 rfl rfl rfl rfl ?_
        obtain rfl := Option.some.inj h
        exact TL.nil (X.seq (T.ret (X.rs (X.done1 [2] Try.results67 (RV.cS (us := #[.int .i64 0, .int .i64 0, .int .i64 0, .bool false, .string ⟨#[]⟩]) 1 rfl Try.isAgg105 Try.sizeOf105 rfl rfl) ⟨rfl, rfl, rfl⟩ (by rfl) (.inl rfl)))))
    · replace h := ifF c15 h
      refine TL.nil (X.seq ?_)
      refine T.yes rfl (bn_t (decide_eq_false c15)) ?_
      refine T.region rfl ?_
      obtain ⟨st26, hx27, h⟩ := Option.bind_eq_some_iff.1 h
      refine TL.run ft_request_ok [0, 1] rfl rfl ?_
      refine TL.c2 rfl .u (.fn Try.call84 rfl) (gIFail_spec g st10 x13 _ hx27) (fun _ hs => (Src.triv _)) rfl ?_
      refine TL.nil (X.seq (T.seq (T.region rfl ?_)))
      obtain ⟨⟨x28, st29⟩, hx30, h⟩ := Option.bind_eq_some_iff.1 h
      try dsimp only at h
      refine TL.run ft_request_ok [0] rfl rfl ?_
      refine TL.c2 rfl .u (.fn Try.call83 rfl) (gInt_spec g st26 4 _ hx30) (fun _ hs => (Src.triv _)) rfl ?_
      refine TL.run ft_request_ok [2] rfl rfl ?_
      refine TL.st0 (cs' := #[.int .i64 x2, .int .i64 x5, .int .i64 x28, .bool false, .string ⟨#[]⟩]) rfl .u rfl rfl Try.sizeOf3 rfl rfl rfl rfl ?_
      refine TL.nil (X.seq (T.seq (T.region rfl ?_)))
      obtain ⟨⟨x31, st32⟩, hx33, h⟩ := Option.bind_eq_some_iff.1 h
      try dsimp only at h
      refine TL.run ft_request_ok [0] rfl rfl ?_
      refine TL.c2 rfl .u (.fn Try.call142 rfl) (gFixed_spec g st29 2 _ hx33) (fun _ hs => (Src.triv _)) rfl ?_
      refine TL.run ft_request_ok [2] rfl rfl ?_
      refine TL.st0 (cs' := #[.int .i64 x2, .int .i64 x5, .int .i64 x28, .bool x31.null, .string (bsOf x31.data)]) rfl .u rfl rfl Try.sizeOf26 rfl rfl rfl rfl ?_
      refine TL.nil (X.seq (T.seq (T.seq (T.region rfl ?_))))
      obtain ⟨⟨x34, st35⟩, hx36, h⟩ := Option.bind_eq_some_iff.1 h
      try dsimp only at h
      refine TL.run ft_request_ok [0] rfl rfl ?_
      refine TL.c2 rfl .u (.fn Try.call19 rfl) (gErr_spec g st32 _ hx36) (fun _ hs => (Src.triv _)) rfl ?_
      refine TL.run ft_request_ok [2] rfl rfl ?_
      by_cases c37 : x34 = 0
      · replace h := ifT c37 h
        refine TL.nil (X.seq ?_)
        refine T.no rfl (bn_f (decide_eq_true c37)) ?_
        refine T.skip (X.seq (T.seq (T.region rfl ?_)))
        refine TL.q rfl .u (Ex.bS (us := [.int .i64 x2, .int .i64 x5, .int .i64 x28, .bool x31.null, .string (bsOf x31.data)]) 0 rfl Try.isAgg105 Try.sizeOf105 rfl rfl rfl) rfl ?_
        refine TL.st1 (cs' := #[.int .i64 x2, .int .i64 x5, .int .i64 x28, .bool x31.null, .string (bsOf x31.data)]) rfl .u rfl rfl Try.sizeOf105 rfl rfl rfl rfl ?_
        obtain rfl := Option.some.inj h
        exact TL.nil (X.seq (T.ret (X.done1 [2] Try.results67 (RV.cS (us := #[.int .i64 x2, .int .i64 x5, .int .i64 x28, .bool x31.null, .string (bsOf x31.data)]) 1 rfl Try.isAgg105 Try.sizeOf105 rfl rfl) ⟨rfl, rfl, rfl⟩ (by rfl) (.inl rfl))))
      · replace h := ifF c37 h
        refine TL.nil (X.seq ?_)
        refine T.yes rfl (bn_t (decide_eq_false c37)) ?_
        refine T.seq (T.region rfl ?_)
        refine TL.q rfl .u (Ex.bld (cells := #[.int .i64 0, .int .i64 0, .int .i64 0, .bool false, .string ⟨#[]⟩]) bok_request_105 rfl (by kernel_rfl)) rfl ?_
        refine TL.st1 (cs' := #[.int .i64 0, .int .i64 0, .int .i64 0, .bool false, .string ⟨#[]⟩]) rfl .u rfl rfl Try.sizeOf105 rfl rfl rfl rfl ?_
        obtain rfl := Option.some.inj h
        exact TL.nil (X.seq (T.ret (X.rs (X.done1 [2] Try.results67 (RV.cS (us := #[.int .i64 0, .int .i64 0, .int .i64 0, .bool false, .string ⟨#[]⟩]) 1 rfl Try.isAgg105 Try.sizeOf105 rfl rfl) ⟨rfl, rfl, rfl⟩ (by rfl) (.inl rfl)))))
  · replace h := ifF c12 h
    refine TL.nil (X.seq ?_)
    refine T.no rfl (decide_eq_false c12) ?_
    refine T.skip (X.seq (T.seq (T.region rfl ?_)))
    obtain ⟨⟨x38, st39⟩, hx40, h⟩ := Option.bind_eq_some_iff.1 h
    try dsimp only at h
    refine TL.run ft_request_ok [0] rfl rfl ?_
    refine TL.c2 rfl .u (.fn Try.call83 rfl) (gInt_spec g st10 4 _ hx40) (fun _ hs => (Src.triv _)) rfl ?_
    refine TL.run ft_request_ok [2] rfl rfl ?_
    refine TL.st0 (cs' := #[.int .i64 x2, .int .i64 x5, .int .i64 x38, .bool false, .string ⟨#[]⟩]) rfl .u rfl rfl Try.sizeOf3 rfl rfl rfl rfl ?_
    refine TL.nil (X.seq (T.seq (T.region rfl ?_)))
    obtain ⟨⟨x41, st42⟩, hx43, h⟩ := Option.bind_eq_some_iff.1 h
    try dsimp only at h
    refine TL.run ft_request_ok [0] rfl rfl ?_
    refine TL.c2 rfl .u (.fn Try.call142 rfl) (gFixed_spec g st39 2 _ hx43) (fun _ hs => (Src.triv _)) rfl ?_
    refine TL.run ft_request_ok [2] rfl rfl ?_
    refine TL.st0 (cs' := #[.int .i64 x2, .int .i64 x5, .int .i64 x38, .bool x41.null, .string (bsOf x41.data)]) rfl .u rfl rfl Try.sizeOf26 rfl rfl rfl rfl ?_
    refine TL.nil (X.seq (T.seq (T.seq (T.region rfl ?_))))
    obtain ⟨⟨x44, st45⟩, hx46, h⟩ := Option.bind_eq_some_iff.1 h
    try dsimp only at h
    refine TL.run ft_request_ok [0] rfl rfl ?_
    refine TL.c2 rfl .u (.fn Try.call19 rfl) (gErr_spec g st42 _ hx46) (fun _ hs => (Src.triv _)) rfl ?_
    refine TL.run ft_request_ok [2] rfl rfl ?_
    by_cases c47 : x44 = 0
    · replace h := ifT c47 h
      refine TL.nil (X.seq ?_)
      refine T.no rfl (bn_f (decide_eq_true c47)) ?_
      refine T.skip (X.seq (T.seq (T.region rfl ?_)))
      refine TL.q rfl .u (Ex.bS (us := [.int .i64 x2, .int .i64 x5, .int .i64 x38, .bool x41.null, .string (bsOf x41.data)]) 0 rfl Try.isAgg105 Try.sizeOf105 rfl rfl rfl) rfl ?_
      refine TL.st1 (cs' := #[.int .i64 x2, .int .i64 x5, .int .i64 x38, .bool x41.null, .string (bsOf x41.data)]) rfl .u rfl rfl Try.sizeOf105 rfl rfl rfl rfl ?_
      obtain rfl := Option.some.inj h
      exact TL.nil (X.seq (T.ret (X.done1 [2] Try.results67 (RV.cS (us := #[.int .i64 x2, .int .i64 x5, .int .i64 x38, .bool x41.null, .string (bsOf x41.data)]) 1 rfl Try.isAgg105 Try.sizeOf105 rfl rfl) ⟨rfl, rfl, rfl⟩ (by rfl) (.inl rfl))))
    · replace h := ifF c47 h
      refine TL.nil (X.seq ?_)
      refine T.yes rfl (bn_t (decide_eq_false c47)) ?_
      refine T.seq (T.region rfl ?_)
      refine TL.q rfl .u (Ex.bld (cells := #[.int .i64 0, .int .i64 0, .int .i64 0, .bool false, .string ⟨#[]⟩]) bok_request_105 rfl (by kernel_rfl)) rfl ?_
      refine TL.st1 (cs' := #[.int .i64 0, .int .i64 0, .int .i64 0, .bool false, .string ⟨#[]⟩]) rfl .u rfl rfl Try.sizeOf105 rfl rfl rfl rfl ?_
      obtain rfl := Option.some.inj h
      exact TL.nil (X.seq (T.ret (X.rs (X.done1 [2] Try.results67 (RV.cS (us := #[.int .i64 0, .int .i64 0, .int .i64 0, .bool false, .string ⟨#[]⟩]) 1 rfl Try.isAgg105 Try.sizeOf105 rfl rfl) ⟨rfl, rfl, rfl⟩ (by rfl) (.inl rfl)))))
end Go.Proofs.Ytagbblaegdedpaa.Sl
namespace Go.Proofs.Ytagbblaegdedpaa.Sl
open Go.RowKit
set_option linter.unusedVariables false
set_option linter.unusedSimpArgs false
theorem vcheck_fits {k v : Int} (h : vcheck k v = 0) : fits k 2 = true ∧ fits v 2 = true := by
  unfold vcheck vKnown at h
  have e : (2 : Int) ^ (8 * (2 : Int).toNat - 1) = 32768 := by decide
  have hv : ∀ n : Int, -100 ≤ n → n ≤ 100 → fits n 2 = true := fun n h1 h2 => by
    unfold fits
    simp only [Bool.and_eq_true, decide_eq_true_eq]
    omega
  by_cases h0 : k = 0
  · simp [h0] at h
    exact ⟨hv _ (by omega) (by omega), hv _ (by omega) (by omega)⟩
  by_cases h1 : k = 22
  · simp [h1] at h
    exact ⟨hv _ (by omega) (by omega), hv _ (by omega) (by omega)⟩
  by_cases h2 : k = 24
  · simp [h2] at h
    exact ⟨hv _ (by omega) (by omega), hv _ (by omega) (by omega)⟩
  by_cases h3 : k = 26
  · simp [h3] at h
    exact ⟨hv _ (by omega) (by omega), hv _ (by omega) (by omega)⟩
  by_cases h4 : k = 27
  · simp [h4] at h
    exact ⟨hv _ (by omega) (by omega), hv _ (by omega) (by omega)⟩
  simp [h0, h1, h2, h3, h4] at h
def encH (h : Head) : List UInt8 := be h.fKind 2 ++ (be h.fVersion 2 ++ (be h.fNumber 4 ++ (be (blen h.fClient) 2 ++ h.fClient.data)))
def okH (h : Head) : Prop := vcheck h.fKind h.fVersion = 0 ∧ fits h.fNumber 4 = true ∧ fits (blen h.fClient) 2 = true ∧ bright h.fClient = true
def pHead : Pr Head := (pInt 2).bind fun k => (pInt 2).bind fun v => if vcheck k v = 0 then (pInt 4).bind fun n => (pFixed 2).bind fun c => .ret ⟨k, v, n, c⟩ else .err (vcheck k v)
theorem Sp_head : Sp pHead encH okH := by
  refine ⟨fun s q a r hq h => ?_, fun s t q a hq ha h => ?_⟩
  · obtain ⟨k, q1, h1, h⟩ := Pr.bind_ok h
    obtain ⟨v, q2, h2, h⟩ := Pr.bind_ok h
    split at h
    · rename_i hv
      obtain ⟨n, q3, h3, h⟩ := Pr.bind_ok h
      obtain ⟨c, q4, h4, h⟩ := Pr.bind_ok h
      injection h with h
      obtain ⟨rfl, rfl⟩ := Prod.mk.inj h
      obtain ⟨a1, a2, a3, a4, a5⟩ := (Sp_int 2 (by decide) (by decide)).spell _ _ _ _ hq h1
      obtain ⟨b1, b2, b3, b4, b5⟩ := (Sp_int 2 (by decide) (by decide)).spell _ _ _ _ a2 h2
      obtain ⟨c1, c2, c3, c4, c5⟩ := (Sp_int 4 (by decide) (by decide)).spell _ _ _ _ b2 h3
      obtain ⟨d1, d2, d3, d4, d5⟩ := (Sp_fixed 2 (by decide) (by decide)).spell _ _ _ _ c2 h4
      refine ⟨by omega, d2, ?_, ?_, hv, c5, d5.1, d5.2⟩
      · simp only [encH, List.length_append] at *
        omega
      · rw [d4, c4, b4, a4]
        simp only [encH, List.append_assoc]
    · exact nomatch h
  · obtain ⟨a1, a2, a3, a4⟩ := ha
    obtain ⟨f1, f2⟩ := vcheck_fits a1
    have hl := congrArg List.length h
    simp only [encH, List.length_drop, List.length_append, be_length] at hl
    simp only [encH, List.append_assoc] at h
    have g1 := (Sp_int 2 (by decide) (by decide)).back _ _ _ _ hq f1 h
    have h := drop_step h
    have g2 := (Sp_int 2 (by decide) (by decide)).back _ _ _ _ (by rw [be_length]; omega) f2 h
    have h := drop_step h
    have g3 := (Sp_int 4 (by decide) (by decide)).back _ _ _ _ (by simp only [be_length]; omega) a2 h
    have h := drop_step h
    rw [← List.append_assoc] at h
    have g4 := (Sp_fixed 2 (by decide) (by decide)).back _ _ _ _ (by simp only [be_length]; omega) ⟨a3, a4⟩ h
    rw [pHead, Pr.bind_of g1, Pr.bind_of g2, if_pos a1, Pr.bind_of g3, Pr.bind_of g4]
    simp only [Pr.ret, encH, List.length_append, Nat.add_assoc]
def zHead : Head := ⟨0, 0, 0, ⟨false, []⟩⟩
theorem Q_head : CQ f_request_Read pHead zHead := by
  refine ⟨fun st h => ?_, fun s q hq => ?_⟩
  · unfold f_request_Read
    simp only [gInt_d h, gFixed_d h, gErr_eq, Option.bind_some, if_neg h]
    rfl
  · unfold f_request_Read pHead
    rcases Q2.run s q hq with ⟨e, st, p1, g1, x1, y1⟩ | ⟨k, q1, p1, g1, n1, l1⟩
    · refine .inl ⟨e, st, Pr.bind_err p1, ?_, x1, y1⟩
      simp only [g1, gInt_d y1, gFixed_d y1, gErr_eq, Option.bind_some, if_neg y1]
      rfl
    simp only [g1, Option.bind_some, Pr.bind_of p1]
    rcases Q2.run s q1 l1 with ⟨e, st, p2, g2, x2, y2⟩ | ⟨v, q2, p2, g2, n2, l2⟩
    · refine .inl ⟨e, st, Pr.bind_err p2, ?_, x2, y2⟩
      simp only [g2, gInt_d y2, gFixed_d y2, gErr_eq, Option.bind_some, if_neg y2]
      rfl
    simp only [g2, Option.bind_some, Pr.bind_of p2, gErr_eq, gVCheck_eq, if_true]
    by_cases hv : vcheck k v = 0
    · simp only [if_pos hv]
      rcases Q4.run s q2 l2 with ⟨e, st, p3, g3, x3, y3⟩ | ⟨n, q3, p3, g3, n3, l3⟩
      · refine .inl ⟨e, st, Pr.bind_err p3, ?_, x3, y3⟩
        simp only [g3, gInt_d y3, gFixed_d y3, gErr_eq, Option.bind_some, if_neg y3]
        rfl
      simp only [g3, Option.bind_some, Pr.bind_of p3]
      rcases QF2.run s q3 l3 with ⟨e, st, p4, g4, x4, y4⟩ | ⟨c, q4, p4, g4, n4, l4⟩
      · refine .inl ⟨e, st, Pr.bind_err p4, ?_, x4, y4⟩
        simp only [g4, gInt_d y4, gFixed_d y4, gErr_eq, Option.bind_some, if_neg y4]
        rfl
      refine .inr ⟨⟨k, v, n, c⟩, q4, by rw [Pr.bind_of p4]; rfl, ?_, by omega, l4⟩
      simp only [g4, Option.bind_some, if_true]
    · simp only [if_neg hv]
      have y : (⟨s.drop q2, q2, vcheck k v⟩ : I).err ≠ 0 := hv
      refine .inl ⟨vcheck k v, ⟨s.drop q2, q2, vcheck k v⟩, rfl, ?_, rfl, hv⟩
      simp only [gIFail_eq, ifail_z, Option.bind_some, gInt_d y, gFixed_d y, gErr_eq, if_neg hv]
      rfl
def chkH (h : Head) : Int := if vcheck h.fKind h.fVersion = 0 then (if fits h.fNumber 4 = true then (if bright h.fClient = true then (if (h.fClient.data.length : Int) > 32767 then 4 else 0) else 4) else 11) else vcheck h.fKind h.fVersion
theorem check_eq (h : Head) (hn : wI h.fNumber) : f_request_Check h = some (chkH h) := by
  unfold f_request_Check chkH
  rw [gVCheck_eq, Option.bind_some]
  by_cases h1 : vcheck h.fKind h.fVersion = 0
  · rw [if_pos h1, if_pos h1, gFits_eq _ _ hn, Option.bind_some]
    by_cases h2 : fits h.fNumber 4 = true
    · rw [if_pos h2, if_pos h2, gRight_eq, Option.bind_some]
      by_cases h3 : bright h.fClient = true
      · rw [if_pos h3, if_pos h3]
        split <;> rfl
      · rw [if_neg h3, if_neg h3]
    · rw [if_neg h2, if_neg h2]
  · rw [if_neg h1, if_neg h1]
theorem chk_ok {h : Head} (hc : chkH h = 0) : okH h := by
  unfold chkH at hc
  split at hc
  · rename_i h1
    split at hc
    · rename_i h2
      split at hc
      · rename_i h3
        split at hc
        · exact absurd hc (by decide)
        · exact ⟨h1, h2, fits_small (.inl rfl) (by unfold blen; split <;> omega) (by unfold blen; split <;> omega), h3⟩
      · exact absurd hc (by decide)
    · exact absurd hc (by decide)
  · rename_i h1
    exact absurd hc h1
theorem head_write (h : Head) (t : List UInt8) (ht : t.length ≤ 140737488000000) (hn : wI h.fNumber) (hl : h.fClient.data.length ≤ 40000) : f_request_Write (t, 0) h = some (if chkH h = 0 then (t ++ encH h, 0) else (t, chkH h)) := by
  unfold f_request_Write
  rw [check_eq h hn, Option.bind_some]
  by_cases hc : chkH h = 0
  · rw [if_pos hc, if_pos hc]
    obtain ⟨o1, o2, o3, o4⟩ := chk_ok hc
    rw [gOInt_z (vcheck_fits o1).1 (by omega), Option.bind_some, gOInt_z (vcheck_fits o1).2 (by simp only [List.length_append, be_length]; omega), Option.bind_some]
    rw [gOInt_z o2 (by simp only [List.length_append, be_length]; omega), Option.bind_some, gPutFixed_z o3 o4 (by simp only [List.length_append, be_length]; omega), Option.bind_some]
    simp only [encH, List.append_assoc]
    rfl
  · rw [if_neg hc, if_neg hc, gOFail_eq, ofail_z]
    rfl
end Go.Proofs.Ytagbblaegdedpaa.Sl
