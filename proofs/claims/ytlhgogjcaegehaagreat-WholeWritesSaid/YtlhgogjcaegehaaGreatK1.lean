/- wholeWrites_holds: part 1. -/
import Derived.Laws.BytesString
import Derived.Laws.Cells
import Derived.Laws.MakeOwn
import Derived.Laws.CopyRow
import Derived.Lib.Builder
import Derived.Lib.UnsafeStr
import Derived.Laws.IdiomCopy
import Derived.ChangeKeysEq
import Derived.Test.YtlhgogjcaegehaaGreatK0
namespace Go.Proofs.YtlhgogjcaegehaaGreat.Sl
open Go.RowKit
set_option linter.unusedVariables false
set_option linter.unusedSimpArgs false
def envput : Option Nat → Value → Env → Env
  | none, _, e => e
  | some d, v, e => (d, v) :: e
def okd : Option Nat → Nat → Bool
  | none, _ => true
  | some d, n => Nat.blt d n
section
variable {P : Program} {n : Nat} {F0 : Nat → Prop} {w0 : World} {e : Env} {Rs : List Res} {d : Option Tmp} {ty : TypeId} {pos : String} {af : Array Edge} {gd : Option (Nat × Bool)} {v : Value} {x y : Operand} {t t' el : TypeId}
theorem Has.putd {a : Act} (h : Has n e a) (hd : okd d n = true) : Has n (envput d v e) (a.put d v) := by
  cases d with
  | none => exact h
  | some d => exact h.put hd
theorem St.setRowS {b : Nat} {T : TypeId} {cs cs' : Array Value} {w : World} (i : Nat) (h : St F0 w0 Rs w) (hi : Rs[i]? = some (BlkR b T cs)) : St F0 w0 (Rs.set i (BlkR b T cs')) (w.setRow b cs') := by
  refine h.step i hi (Ns := []) (fun G hG => ⟨⟨rfl, rfl, rfl, by simp [World.setRow], fun k hk hn => setRow_other w b k cs' (fun e => hn (e ▸ (hG.2 b).2 rfl))⟩, G, ⟨setRow_heap w b cs cs' T (0, 0) hG.1, hG.2⟩, fun k hk => .inl hk, trivial⟩)
theorem Ef.alloc {zv : Value} (hz : ∀ w, (zeroValue t).run P w = .ok zv w) (hd : okd d n = true) : Ef P n F0 w0 e Rs ⟨d, .alloc t, ty, pos, af, gd⟩ (fun e' Rs' => ∃ b, e' = envput d (.pointer (some ⟨b, 0, none⟩)) e ∧ Rs' = BlkR b t zv.cells :: Rs) := by
  intro a w K Q ha hs hk
  have h1 : (execOp a.eval ⟨d, .alloc t, ty, pos, af, gd⟩).run P w = .ok (.value (.pointer (some ⟨w.heap.size, 0, none⟩))) (w.alloc (.cells zv.cells t)) := by
    simp [execOp, Instr.alloc, hz, newVar, newRow, newObj]
    rfl
  unfold Oper.wp
  rw [h1]
  exact hk _ _ ⟨_, rfl, rfl⟩ _ _ (ha.putd hd) (hs.alloc _ _)
theorem Ef.box (hx : e.ev x = some v) (hd : okd d n = true) : Ef P n F0 w0 e Rs ⟨d, .box t x, ty, pos, af, gd⟩ (fun e' Rs' => ∃ b, e' = envput d (.pointer (some ⟨b, 0, none⟩)) e ∧ Rs' = BlkR b t v.cells :: Rs) := by
  intro a w K Q ha hs hk
  have h1 : (execOp a.eval ⟨d, .box t x, ty, pos, af, gd⟩).run P w = .ok (.value (.pointer (some ⟨w.heap.size, 0, none⟩))) (w.alloc (.cells v.cells t)) := by
    simp [execOp, ha.ev hx, Instr.box, newVar, newRow, newObj]
    rfl
  unfold Oper.wp
  rw [h1]
  exact hk _ _ ⟨_, rfl, rfl⟩ _ _ (ha.putd hd) (hs.alloc _ _)
theorem Ef.st (i : Nat) {b o z : Nat} {T : TypeId} {cs cs' : Array Value} (hx : e.ev x = some (.pointer (some ⟨b, o, none⟩))) (hy : e.ev y = some v) (hz : ∀ w, (sizeOf t).run P w = .ok z w) (hi : Rs[i]? = some (BlkR b T cs))
    (hvz : Nat.beq v.cells.size z = true) (hf : Nat.ble (o + v.cells.size) cs.size = true) (ho : v.cells.toList.all (·.oneCell') = true) (hc : (cs.toList.take o ++ v.cells.toList ++ cs.toList.drop (o + v.cells.size)).toArray = cs') :
    Ef P n F0 w0 e Rs ⟨none, .store t x y, ty, pos, af, gd⟩ (fun e' Rs' => e' = e ∧ Rs' = Rs.set i (BlkR b T cs')) := by
  intro a w K Q ha hs hk
  have hb := hs.blk i hi
  have hvz' := Nat.eq_of_beq_eq_true hvz
  have hf' := Nat.le_of_ble_eq_true hf
  have h2 := run_storeCells_at (P := P) b o T v.cells.toList 0 cs w hb (by simpa using hf') (List.all_eq_true.1 ho)
  have h1 : (execOp a.eval ⟨none, .store t x y, ty, pos, af, gd⟩).run P w = .ok .skip (w.setRow b cs') := by
    simp only [Nat.add_zero, Array.length_toList] at h2
    rw [hc] at h2
    simp [execOp, ha.ev hx, ha.ev hy, Instr.storeAt, Instr.sureAddr, storeVar, hz, hvz', h2]
  unfold Oper.wp
  rw [h1]
  exact hk _ _ ⟨rfl, rfl⟩ _ _ (ha.put0) (hs.setRowS i hi)
def CT (P : Program) (n : Nat) (e : Env) (o : Oper) (f : FuncId) (us : List Value) : Prop := ∀ a w, Has n e a → (execOp a.eval o).run P w = .ok (.enter f us.toArray) w
theorem CT.fn {f : FuncId} {xs : List Operand} {vs : List Value} {ts : Array TypeId} (hc : ∀ args w, (callFunc f args).run P w = .ok (.enter f args) w) (hv : e.evs xs = some vs) : CT P n e ⟨d, .call ⟨.value (.func f), xs.toArray, ts⟩, ty, pos, af, gd⟩ f vs := by
  intro a w ha
  simp [execOp, resolve, Act.eval, Deferred.ofValue, invoke, List.map_toArray, ha.evs hv, hc]
theorem CT.val {f : FuncId} {x : Operand} {xs : List Operand} {vs us fs cs : List Value} {ts : Array TypeId} (hx : e.ev x = some (.func (.func f) fs.toArray cs.toArray)) (hc : ∀ args w, (callFunc f args).run P w = .ok (.enter f args) w) (hv : e.evs xs = some vs) (hu : fs ++ vs ++ cs = us) : CT P n e ⟨d, .call ⟨.value x, xs.toArray, ts⟩, ty, pos, af, gd⟩ f us := by
  intro a w ha
  subst hu
  simp [execOp, resolve, ha.ev hx, Deferred.ofValue, invoke, List.map_toArray, ha.evs hv, hc]
theorem Ef.call (i : Nat) {op : Op} {f : FuncId} {vs : List Value} {A : Res} {Y : RX} {R : Value → Res → List Res → Prop} (hc : CT P n e ⟨d, op, ty, pos, af, gd⟩ f vs) (hi : Rs[i]? = some A)
    (hs : SpecX P f vs.toArray Y A R) (hr : ∀ w, St F0 w0 Rs w → Src F0 w0 Rs w i Y) (hd : okd d n = true) :
    Ef P n F0 w0 e Rs ⟨d, op, ty, pos, af, gd⟩ (fun e' Rs' => ∃ v A' N, R v A' N ∧ e' = envput d v e ∧ Rs' = N ++ Rs.set i A') := by
  intro a w K Q ha hst hk
  unfold Oper.wp
  rw [hc a w ha]
  refine (hst.callX i hi hs (hr w hst)).mono ?_
  rintro x w' ⟨v, A', N, rfl, hq, hst'⟩
  exact hk _ _ ⟨v, A', N, hq, rfl, rfl⟩ _ _ (ha.putd hd) hst'
theorem Ef.callE {op : Op} {f : FuncId} {vs : List Value} {Y : RX} {R : Value → Res → List Res → Prop} (hc : CT P n e ⟨d, op, ty, pos, af, gd⟩ f vs)
    (hs : SpecX P f vs.toArray Y EmpR R) (hr : ∀ w, St F0 w0 Rs w → Y.reads w (fun _ => False)) (hd : okd d n = true) :
    Ef P n F0 w0 e Rs ⟨d, op, ty, pos, af, gd⟩ (fun e' Rs' => ∃ v A' N, R v A' N ∧ e' = envput d v e ∧ Rs' = N ++ Rs) := by
  intro a w K Q ha hst hk
  unfold Oper.wp
  rw [hc a w ha]
  refine (hst.callE hs (hr w hst)).mono ?_
  rintro x w' ⟨v, A', N, rfl, hq, hst'⟩
  exact hk _ _ ⟨v, A', N, hq, rfl, rfl⟩ _ _ (ha.putd hd) hst'
theorem run_app {a : Act} {w : World} {sl x : Operand} {T : TypeId} {z bytes g : Nat} {zv : Value} {us cells : List Value} {q : Value} {m : Nat} (ha : Has n e a) (hu : P.underlying t = some (.slice T)) (hinfo : (P.info? T).map (fun i => (i.zero, i.size, i.bytes)) = some (some zv, z, bytes)) (hzv : zv.cells.size = z) (hp : 0 < z)
    (hs : e.ev sl = some q) (hx : e.ev x = some (.slice (some ⟨g, 0, none⟩) 1 1)) (hown : w.ownsRow 0 T z q m cells) (hl : us.length = z) (hg : w.heap[g]? = some (.cells us.toArray T (0, 0))) (ho : us.all (·.oneCell') = true) (hb : (m + 1) * bytes ≤ 140737488355328) (hm : m + 1 ≤ 140737488355328) :
    ∃ q' w', (execOp a.eval ⟨d, .call ⟨.builtin .append, #[sl, x], #[t, t]⟩, ty, pos, af, gd⟩).run P w = .ok (.value q') w' ∧ w'.ownsRow 0 T z q' (m + 1) (cells ++ us) ∧ w.grownBy w' q.ownBlock ∧ (q'.ownBlock = q.ownBlock ∨ ∃ k, q'.ownBlock = some k ∧ w.heap.size ≤ k) := by
  obtain ⟨i, hi, hzz⟩ := Option.map_eq_some_iff.1 hinfo
  simp only [Prod.mk.injEq] at hzz
  obtain ⟨h0, h1, h2⟩ := hzz
  obtain ⟨q', w', hr, k2, k3, _, k5⟩ := run_append_own_at (P := P) w 0 t ty T i zv z bytes hu hi h0 h1 h2 hzv hp q m cells hown ⟨g, 0, none⟩ 1 1 us (by omega) (fun j u hj => by
    have e1 : (⟨g, 0, none⟩ : Addr).add j = ⟨g, j, none⟩ := by unfold Addr.add; split <;> simp_all
    rw [e1, heap_at hg]
    simpa using hj) (by simpa using ho) (by simp only [maxLen]; omega) hb (Nat.zero_le _)
  refine ⟨q', w', ?_, k2, k3, k5.imp id (fun h => ⟨_, h, Nat.le_refl _⟩)⟩
  simp [execOp, resolve, invoke, builtin, ha.ev hs, ha.ev hx, hr]
theorem Ef.app1 (i : Nat) {α : Type} {E : Rd α} {sl x : Operand} {T : TypeId} {z bytes g : Nat} {zv : Value} {us : List Value} {A : Option Addr} {c : Nat} {l : List α} {u : α} {Rs' : List Res} (hu : P.underlying t = some (.slice T)) (hinfo : (P.info? T).map (fun i => (i.zero, i.size, i.bytes)) = some (some zv, z, bytes)) (hzv : zv.cells.size = z) (hp : 0 < z)
    (hs : e.ev sl = some (.slice A l.length c)) (hx : e.ev x = some (.slice (some ⟨g, 0, none⟩) 1 1)) (hR : Rs = BlkR g T us.toArray :: Rs') (hi : Rs'[i]? = some (OwnR T z E (.slice A l.length c) l)) (hl : us.length = z) (ho : us.all (·.oneCell') = true) (hE : ∀ w S, E.P w S us u) (hb : (l.length + 1) * bytes ≤ 140737488355328) (hm : l.length + 1 ≤ 140737488355328) (hd : okd d n = true) :
    Ef P n F0 w0 e Rs ⟨d, .call ⟨.builtin .append, #[sl, x], #[t, t]⟩, ty, pos, af, gd⟩ (fun e' R => ∃ A' c', e' = envput d (.slice A' (l ++ [u]).length c') e ∧ R = Rs'.set i (OwnR T z E (.slice A' (l ++ [u]).length c') (l ++ [u]))) := by
  subst hR
  intro a w K Q ha hst hk
  obtain ⟨cells, k1, k2⟩ := OwnR.open_ (i + 1) hst (by simpa using hi)
  obtain ⟨q', w', r1, r2, r3, r4⟩ := run_app (d := d) (ty := ty) (pos := pos) (af := af) (gd := gd) ha hu hinfo hzv hp hs hx k1 hl (hst.blk 0 rfl) ho hb hm
  have h3 := k2 q' w' us u r2 r3 r4 hl hE
  have hlen : l.length + 1 = (l ++ [u]).length := by simp
  rw [hlen] at r2
  obtain ⟨A', c', rfl⟩ := row_slice r2
  unfold Oper.wp
  rw [r1]
  exact hk _ _ ⟨A', c', rfl, rfl⟩ _ _ (ha.putd hd) (h3.drop_)
theorem Ef.app2 (i j : Nat) {α : Type} {E : Rd α} {sl x : Operand} {T : TypeId} {z bytes g : Nat} {zv : Value} {us : List Value} {A : Option Addr} {c : Nat} {l : List α} {u : α} {Rs' : List Res} {B : Res} (hu : P.underlying t = some (.slice T)) (hinfo : (P.info? T).map (fun i => (i.zero, i.size, i.bytes)) = some (some zv, z, bytes)) (hzv : zv.cells.size = z) (hp : 0 < z)
    (hs : e.ev sl = some (.slice A l.length c)) (hx : e.ev x = some (.slice (some ⟨g, 0, none⟩) 1 1)) (hR : Rs = BlkR g T us.toArray :: Rs') (hi : Rs'[i]? = some (OwnR T z E (.slice A l.length c) l)) (hj : (Rs'.eraseIdx i)[j]? = some B) (hl : us.length = z) (ho : us.all (·.oneCell') = true) (hE : ∀ w G, B.P w G → E.P w G us u) (hb : (l.length + 1) * bytes ≤ 140737488355328) (hm : l.length + 1 ≤ 140737488355328) (hd : okd d n = true) :
    Ef P n F0 w0 e Rs ⟨d, .call ⟨.builtin .append, #[sl, x], #[t, t]⟩, ty, pos, af, gd⟩ (fun e' R => ∃ A' c', e' = envput d (.slice A' (l ++ [u]).length c') e ∧ R = OwnR T z E (.slice A' (l ++ [u]).length c') (l ++ [u]) :: (Rs'.eraseIdx i).eraseIdx j) := by
  subst hR
  intro a w K Q ha hst hk
  obtain ⟨cells, k1, k2⟩ := OwnR.open2 (B := B) (i + 1) (j + 1) hst (by simpa using hi) (by simpa using hj)
  obtain ⟨q', w', r1, r2, r3, r4⟩ := run_app (d := d) (ty := ty) (pos := pos) (af := af) (gd := gd) ha hu hinfo hzv hp hs hx k1 hl (hst.blk 0 rfl) ho hb hm
  have h3 := k2 q' w' us u r2 r3 r4 hl hE
  have hlen : l.length + 1 = (l ++ [u]).length := by simp
  rw [hlen] at r2
  obtain ⟨A', c', rfl⟩ := row_slice r2
  unfold Oper.wp
  rw [r1]
  have h4 := h3.del 1 (A := BlkR g T us.toArray) rfl
  exact hk _ _ ⟨A', c', rfl, rfl⟩ _ _ (ha.putd hd) h4
def SOK (P : Program) (t T : TypeId) (m z : Nat) (zs : Array Value) : Prop := ∀ (parts : Array (Nat × Value)) (cells : Array Value) (w : World), Instr.fill (fun i => some (i * z, z)) zs parts.toList = some cells → (Instr.buildSlice t m parts).run P w = .ok (.slice (some ⟨w.heap.size, 0, none⟩) m m) (w.alloc (.cells cells T))
theorem Ef.lit {T m z : Nat} {zs cells : Array Value} {ps : List (Nat × Operand)} {vs : List Value} (hB : SOK P t T m z zs) (hv : e.evs (ps.map (·.2)) = some vs) (hf : Instr.fill (fun i => some (i * z, z)) zs ((ps.map (·.1)).zip vs) = some cells) (hd : okd d n = true) :
    Ef P n F0 w0 e Rs ⟨d, .buildSlice t m ps.toArray, ty, pos, af, gd⟩ (fun e' Rs' => ∃ b, e' = envput d (.slice (some ⟨b, 0, none⟩) m m) e ∧ Rs' = BlkR b T cells :: Rs) := by
  intro a w K Q ha hs hk
  have h1 := ha.evs hv
  have h2 : ps.map (fun p => (p.1, a.eval p.2)) = (ps.map (·.1)).zip vs := by
    rw [← h1]
    clear h1 hf hv
    induction ps with
    | nil => rfl
    | cons p ps ih => simp [ih]
  have h3 := hB (ps.map (fun p => (p.1, a.eval p.2))).toArray cells w (by simpa [h2] using hf)
  unfold Oper.wp
  simp only [execOp, List.map_toArray, Sem.run_bind]
  rw [h3]
  exact hk _ _ ⟨_, rfl, rfl⟩ _ _ (ha.putd hd) (hs.alloc _ _)
theorem St.rowOf {α : Type} {E : Rd α} {b T z m : Nat} {us : List Value} {l : List α} {w : World} (h : St F0 w0 (BlkR b T us.toArray :: Rs) w) (hm : l.length = m) (hmm : m ≤ maxLen) (he : ∀ w, elems z E w (fun _ => False) us l) :
    St F0 w0 (OwnR T z E (.slice (some ⟨b, 0, none⟩) m m) l :: Rs) w := by
  subst hm
  refine h.weaken 0 rfl (fun G hG => ?_)
  have hl := elems_length (he w)
  refine ⟨us, fun _ => False, ⟨hl, .inr ⟨b, l.length, us.toArray, rfl, Nat.zero_le _, hG.1, Nat.le_refl _, hmm, by simpa using hl, ?_⟩⟩, he w, fun _ h => h.elim, fun _ _ h => h, fun k => ?_⟩
  · simp [← hl]
  · rw [hG.2 k]
    simp [Value.ownBlock, eq_comm]
end
section
variable {P : Program} {n : Nat} {F0 : Nat → Prop} {w0 : World} {e : Env} {Rs Rf : List Res} {Q : Exit → Act → World → Prop} {ops : Array Oper} {i d b o z f T : Nat} {ty t el : TypeId} {pos : String} {af : Array Edge} {gd : Option (Nat × Bool)} {v zv : Value} {x y : Operand} {l : List Nat} {xs : List Operand} {vs : List Value} {ts : Array TypeId} {Y : RX} {A B : Res} {R : Value → Res → List Res → Prop} {c : Code} {cl : Call}
theorem TL.rowOf {α : Type} {E : Rd α} {m : Nat} {us : List Value} {xs : List α} (hm : xs.length = m) (hmm : m ≤ maxLen) (he : ∀ w, elems z E w (fun _ => False) us xs) (h : TL P n F0 w0 ops l e (OwnR T z E (.slice (some ⟨b, 0, none⟩) m m) xs :: Rs) Q) : TL P n F0 w0 ops l e (BlkR b T us.toArray :: Rs) Q := fun a w ha hs => h a w ha (hs.rowOf hm hmm he)
theorem TD.rowOf {α : Type} {E : Rd α} {m : Nat} {us : List Value} {xs : List α} {l : Sch} (hm : xs.length = m) (hmm : m ≤ maxLen) (he : ∀ w, elems z E w (fun _ => False) us xs) (h : TD P n F0 w0 ops l Rf e (OwnR T z E (.slice (some ⟨b, 0, none⟩) m m) xs :: Rs) Q) : TD P n F0 w0 ops l Rf e (BlkR b T us.toArray :: Rs) Q := fun a w ha hs => h a w ha (hs.rowOf hm hmm he)
theorem TL.alloc  (ho : ops[i]? = some ⟨some d, .alloc t, ty, pos, af, gd⟩) (hw : Wd n ops e ⟨some d, .alloc t, ty, pos, af, gd⟩ true) (hz : ∀ w, (zeroValue t).run P w = .ok zv w) (hd : Nat.blt d n = true) (h : ∀ b, TL P n F0 w0 ops l ((d, .pointer (some ⟨b, 0, none⟩)) :: e) (BlkR b t zv.cells :: Rs) Q) : TL P n F0 w0 ops (i :: l) e Rs Q := by
  refine TL.ef ho hw (Ef.alloc hz hd) ?_
  rintro _ _ ⟨b, rfl, rfl⟩
  exact h b
theorem TD.alloc  {l : Sch} (ho : ops[i]? = some ⟨some d, .alloc t, ty, pos, af, gd⟩) (hw : Wd n ops e ⟨some d, .alloc t, ty, pos, af, gd⟩ true) (hz : ∀ w, (zeroValue t).run P w = .ok zv w) (hd : Nat.blt d n = true) (is : List Nat) (hf : ∀ b, Sel (BlkR b t zv.cells :: Rs) is Rf) (h : ∀ b, TD P n F0 w0 ops l Rf ((d, .pointer (some ⟨b, 0, none⟩)) :: e) (BlkR b t zv.cells :: Rs) Q) : TD P n F0 w0 ops (.e i l) Rf e Rs Q := by
  refine TD.ef ho hw (Ef.alloc hz hd) ?_
  rintro _ _ ⟨b, rfl, rfl⟩
  exact ⟨Rf, fun w hw => hw.sel is (hf b), fun _ h => h, h b⟩
theorem TL.box  (ho : ops[i]? = some ⟨some d, .box t x, ty, pos, af, gd⟩) (hw : Wd n ops e ⟨some d, .box t x, ty, pos, af, gd⟩ true) (hx : e.ev x = some v) (hd : Nat.blt d n = true) (h : ∀ b, TL P n F0 w0 ops l ((d, .pointer (some ⟨b, 0, none⟩)) :: e) (BlkR b t v.cells :: Rs) Q) : TL P n F0 w0 ops (i :: l) e Rs Q := by
  refine TL.ef ho hw (Ef.box hx hd) ?_
  rintro _ _ ⟨b, rfl, rfl⟩
  exact h b
theorem TD.box  {l : Sch} (ho : ops[i]? = some ⟨some d, .box t x, ty, pos, af, gd⟩) (hw : Wd n ops e ⟨some d, .box t x, ty, pos, af, gd⟩ true) (hx : e.ev x = some v) (hd : Nat.blt d n = true) (is : List Nat) (hf : ∀ b, Sel (BlkR b t v.cells :: Rs) is Rf) (h : ∀ b, TD P n F0 w0 ops l Rf ((d, .pointer (some ⟨b, 0, none⟩)) :: e) (BlkR b t v.cells :: Rs) Q) : TD P n F0 w0 ops (.e i l) Rf e Rs Q := by
  refine TD.ef ho hw (Ef.box hx hd) ?_
  rintro _ _ ⟨b, rfl, rfl⟩
  exact ⟨Rf, fun w hw => hw.sel is (hf b), fun _ h => h, h b⟩
theorem TL.lit {m : Nat} {zs cells : Array Value} {ps : List (Nat × Operand)} (ho : ops[i]? = some ⟨some d, .buildSlice t m ps.toArray, ty, pos, af, gd⟩) (hw : Wd n ops e ⟨some d, .buildSlice t m ps.toArray, ty, pos, af, gd⟩ true) (hB : SOK P t T m z zs) (hv : e.evs (ps.map (·.2)) = some vs) (hf' : Instr.fill (fun i => some (i * z, z)) zs ((ps.map (·.1)).zip vs) = some cells) (hd : Nat.blt d n = true) (h : ∀ b, TL P n F0 w0 ops l ((d, .slice (some ⟨b, 0, none⟩) m m) :: e) (BlkR b T cells :: Rs) Q) : TL P n F0 w0 ops (i :: l) e Rs Q := by
  refine TL.ef ho hw (Ef.lit hB hv hf' hd) ?_
  rintro _ _ ⟨b, rfl, rfl⟩
  exact h b
theorem TD.lit {m : Nat} {zs cells : Array Value} {ps : List (Nat × Operand)} {l : Sch} (ho : ops[i]? = some ⟨some d, .buildSlice t m ps.toArray, ty, pos, af, gd⟩) (hw : Wd n ops e ⟨some d, .buildSlice t m ps.toArray, ty, pos, af, gd⟩ true) (hB : SOK P t T m z zs) (hv : e.evs (ps.map (·.2)) = some vs) (hf' : Instr.fill (fun i => some (i * z, z)) zs ((ps.map (·.1)).zip vs) = some cells) (hd : Nat.blt d n = true) (is : List Nat) (hf : ∀ b, Sel (BlkR b T cells :: Rs) is Rf) (h : ∀ b, TD P n F0 w0 ops l Rf ((d, .slice (some ⟨b, 0, none⟩) m m) :: e) (BlkR b T cells :: Rs) Q) : TD P n F0 w0 ops (.e i l) Rf e Rs Q := by
  refine TD.ef ho hw (Ef.lit hB hv hf' hd) ?_
  rintro _ _ ⟨b, rfl, rfl⟩
  exact ⟨Rf, fun w hw => hw.sel is (hf b), fun _ h => h, h b⟩
theorem TL.st0 {cs cs' : Array Value}  (ho : ops[i]? = some ⟨none, .store t x y, ty, pos, af, gd⟩) (hw : Wd n ops e ⟨none, .store t x y, ty, pos, af, gd⟩ true) (hx : e.ev x = some (.pointer (some ⟨b, o, none⟩))) (hy : e.ev y = some v) (hz : ∀ w, (sizeOf t).run P w = .ok z w) (hvz : Nat.beq v.cells.size z = true) (hf' : Nat.ble (o + v.cells.size) cs.size = true) (ho' : v.cells.toList.all (·.oneCell') = true) (hc : (cs.toList.take o ++ v.cells.toList ++ cs.toList.drop (o + v.cells.size)).toArray = cs') (h : TL P n F0 w0 ops l e (BlkR b T cs' :: Rs) Q) : TL P n F0 w0 ops (i :: l) e (BlkR b T cs :: Rs) Q := by
  refine TL.ef ho hw (Ef.st 0 hx hy hz rfl hvz hf' ho' hc) ?_
  rintro _ _ ⟨rfl, rfl⟩
  exact h
theorem TD.st0 {cs cs' : Array Value}  {l : Sch} (ho : ops[i]? = some ⟨none, .store t x y, ty, pos, af, gd⟩) (hw : Wd n ops e ⟨none, .store t x y, ty, pos, af, gd⟩ true) (hx : e.ev x = some (.pointer (some ⟨b, o, none⟩))) (hy : e.ev y = some v) (hz : ∀ w, (sizeOf t).run P w = .ok z w) (hvz : Nat.beq v.cells.size z = true) (hf' : Nat.ble (o + v.cells.size) cs.size = true) (ho' : v.cells.toList.all (·.oneCell') = true) (hc : (cs.toList.take o ++ v.cells.toList ++ cs.toList.drop (o + v.cells.size)).toArray = cs') (is : List Nat) (hf : Sel (BlkR b T cs' :: Rs) is Rf) (h : TD P n F0 w0 ops l Rf e (BlkR b T cs' :: Rs) Q) : TD P n F0 w0 ops (.e i l) Rf e (BlkR b T cs :: Rs) Q := by
  refine TD.ef ho hw (Ef.st 0 hx hy hz rfl hvz hf' ho' hc) ?_
  rintro _ _ ⟨rfl, rfl⟩
  exact ⟨Rf, fun w hw => hw.sel is (hf), fun _ h => h, h⟩
theorem TL.c0  (ho : ops[i]? = some ⟨some d, .call cl, ty, pos, af, gd⟩) (hw : Wd n ops e ⟨some d, .call cl, ty, pos, af, gd⟩ true) (hc : CT P n e ⟨some d, .call cl, ty, pos, af, gd⟩ f vs) (hs : SpecX P f vs.toArray Y A (fun v' A' N => v' = v ∧ A' = B ∧ N = [])) (hr : ∀ w, St F0 w0 (A :: Rs) w → Src F0 w0 (A :: Rs) w 0 Y) (hd : Nat.blt d n = true) (h : TL P n F0 w0 ops l ((d, v) :: e) (B :: Rs) Q) : TL P n F0 w0 ops (i :: l) e (A :: Rs) Q := by
  refine TL.ef ho hw (Ef.call 0 hc rfl hs hr hd) ?_
  rintro _ _ ⟨_, _, _, ⟨rfl, rfl, rfl⟩, rfl, rfl⟩
  exact h
theorem TD.c0  {l : Sch} (ho : ops[i]? = some ⟨some d, .call cl, ty, pos, af, gd⟩) (hw : Wd n ops e ⟨some d, .call cl, ty, pos, af, gd⟩ true) (hc : CT P n e ⟨some d, .call cl, ty, pos, af, gd⟩ f vs) (hs : SpecX P f vs.toArray Y A (fun v' A' N => v' = v ∧ A' = B ∧ N = [])) (hr : ∀ w, St F0 w0 (A :: Rs) w → Src F0 w0 (A :: Rs) w 0 Y) (hd : Nat.blt d n = true) (is : List Nat) (hf : Sel (B :: Rs) is Rf) (h : TD P n F0 w0 ops l Rf ((d, v) :: e) (B :: Rs) Q) : TD P n F0 w0 ops (.e i l) Rf e (A :: Rs) Q := by
  refine TD.ef ho hw (Ef.call 0 hc rfl hs hr hd) ?_
  rintro _ _ ⟨_, _, _, ⟨rfl, rfl, rfl⟩, rfl, rfl⟩
  exact ⟨Rf, fun w hw => hw.sel is (hf), fun _ h => h, h⟩
theorem TL.st1 {cs cs' : Array Value} {R0 : Res} (ho : ops[i]? = some ⟨none, .store t x y, ty, pos, af, gd⟩) (hw : Wd n ops e ⟨none, .store t x y, ty, pos, af, gd⟩ true) (hx : e.ev x = some (.pointer (some ⟨b, o, none⟩))) (hy : e.ev y = some v) (hz : ∀ w, (sizeOf t).run P w = .ok z w) (hvz : Nat.beq v.cells.size z = true) (hf' : Nat.ble (o + v.cells.size) cs.size = true) (ho' : v.cells.toList.all (·.oneCell') = true) (hc : (cs.toList.take o ++ v.cells.toList ++ cs.toList.drop (o + v.cells.size)).toArray = cs') (h : TL P n F0 w0 ops l e (R0 :: BlkR b T cs' :: Rs) Q) : TL P n F0 w0 ops (i :: l) e (R0 :: BlkR b T cs :: Rs) Q := by
  refine TL.ef ho hw (Ef.st 1 hx hy hz rfl hvz hf' ho' hc) ?_
  rintro _ _ ⟨rfl, rfl⟩
  exact h
theorem TD.st1 {cs cs' : Array Value} {R0 : Res} {l : Sch} (ho : ops[i]? = some ⟨none, .store t x y, ty, pos, af, gd⟩) (hw : Wd n ops e ⟨none, .store t x y, ty, pos, af, gd⟩ true) (hx : e.ev x = some (.pointer (some ⟨b, o, none⟩))) (hy : e.ev y = some v) (hz : ∀ w, (sizeOf t).run P w = .ok z w) (hvz : Nat.beq v.cells.size z = true) (hf' : Nat.ble (o + v.cells.size) cs.size = true) (ho' : v.cells.toList.all (·.oneCell') = true) (hc : (cs.toList.take o ++ v.cells.toList ++ cs.toList.drop (o + v.cells.size)).toArray = cs') (is : List Nat) (hf : Sel (R0 :: BlkR b T cs' :: Rs) is Rf) (h : TD P n F0 w0 ops l Rf e (R0 :: BlkR b T cs' :: Rs) Q) : TD P n F0 w0 ops (.e i l) Rf e (R0 :: BlkR b T cs :: Rs) Q := by
  refine TD.ef ho hw (Ef.st 1 hx hy hz rfl hvz hf' ho' hc) ?_
  rintro _ _ ⟨rfl, rfl⟩
  exact ⟨Rf, fun w hw => hw.sel is (hf), fun _ h => h, h⟩
theorem TL.c1 {R0 : Res} (ho : ops[i]? = some ⟨some d, .call cl, ty, pos, af, gd⟩) (hw : Wd n ops e ⟨some d, .call cl, ty, pos, af, gd⟩ true) (hc : CT P n e ⟨some d, .call cl, ty, pos, af, gd⟩ f vs) (hs : SpecX P f vs.toArray Y A (fun v' A' N => v' = v ∧ A' = B ∧ N = [])) (hr : ∀ w, St F0 w0 (R0 :: A :: Rs) w → Src F0 w0 (R0 :: A :: Rs) w 1 Y) (hd : Nat.blt d n = true) (h : TL P n F0 w0 ops l ((d, v) :: e) (R0 :: B :: Rs) Q) : TL P n F0 w0 ops (i :: l) e (R0 :: A :: Rs) Q := by
  refine TL.ef ho hw (Ef.call 1 hc rfl hs hr hd) ?_
  rintro _ _ ⟨_, _, _, ⟨rfl, rfl, rfl⟩, rfl, rfl⟩
  exact h
theorem TD.c1 {R0 : Res} {l : Sch} (ho : ops[i]? = some ⟨some d, .call cl, ty, pos, af, gd⟩) (hw : Wd n ops e ⟨some d, .call cl, ty, pos, af, gd⟩ true) (hc : CT P n e ⟨some d, .call cl, ty, pos, af, gd⟩ f vs) (hs : SpecX P f vs.toArray Y A (fun v' A' N => v' = v ∧ A' = B ∧ N = [])) (hr : ∀ w, St F0 w0 (R0 :: A :: Rs) w → Src F0 w0 (R0 :: A :: Rs) w 1 Y) (hd : Nat.blt d n = true) (is : List Nat) (hf : Sel (R0 :: B :: Rs) is Rf) (h : TD P n F0 w0 ops l Rf ((d, v) :: e) (R0 :: B :: Rs) Q) : TD P n F0 w0 ops (.e i l) Rf e (R0 :: A :: Rs) Q := by
  refine TD.ef ho hw (Ef.call 1 hc rfl hs hr hd) ?_
  rintro _ _ ⟨_, _, _, ⟨rfl, rfl, rfl⟩, rfl, rfl⟩
  exact ⟨Rf, fun w hw => hw.sel is (hf), fun _ h => h, h⟩
theorem TL.st2 {cs cs' : Array Value} {R0 R1 : Res} (ho : ops[i]? = some ⟨none, .store t x y, ty, pos, af, gd⟩) (hw : Wd n ops e ⟨none, .store t x y, ty, pos, af, gd⟩ true) (hx : e.ev x = some (.pointer (some ⟨b, o, none⟩))) (hy : e.ev y = some v) (hz : ∀ w, (sizeOf t).run P w = .ok z w) (hvz : Nat.beq v.cells.size z = true) (hf' : Nat.ble (o + v.cells.size) cs.size = true) (ho' : v.cells.toList.all (·.oneCell') = true) (hc : (cs.toList.take o ++ v.cells.toList ++ cs.toList.drop (o + v.cells.size)).toArray = cs') (h : TL P n F0 w0 ops l e (R0 :: R1 :: BlkR b T cs' :: Rs) Q) : TL P n F0 w0 ops (i :: l) e (R0 :: R1 :: BlkR b T cs :: Rs) Q := by
  refine TL.ef ho hw (Ef.st 2 hx hy hz rfl hvz hf' ho' hc) ?_
  rintro _ _ ⟨rfl, rfl⟩
  exact h
theorem TD.st2 {cs cs' : Array Value} {R0 R1 : Res} {l : Sch} (ho : ops[i]? = some ⟨none, .store t x y, ty, pos, af, gd⟩) (hw : Wd n ops e ⟨none, .store t x y, ty, pos, af, gd⟩ true) (hx : e.ev x = some (.pointer (some ⟨b, o, none⟩))) (hy : e.ev y = some v) (hz : ∀ w, (sizeOf t).run P w = .ok z w) (hvz : Nat.beq v.cells.size z = true) (hf' : Nat.ble (o + v.cells.size) cs.size = true) (ho' : v.cells.toList.all (·.oneCell') = true) (hc : (cs.toList.take o ++ v.cells.toList ++ cs.toList.drop (o + v.cells.size)).toArray = cs') (is : List Nat) (hf : Sel (R0 :: R1 :: BlkR b T cs' :: Rs) is Rf) (h : TD P n F0 w0 ops l Rf e (R0 :: R1 :: BlkR b T cs' :: Rs) Q) : TD P n F0 w0 ops (.e i l) Rf e (R0 :: R1 :: BlkR b T cs :: Rs) Q := by
  refine TD.ef ho hw (Ef.st 2 hx hy hz rfl hvz hf' ho' hc) ?_
  rintro _ _ ⟨rfl, rfl⟩
  exact ⟨Rf, fun w hw => hw.sel is (hf), fun _ h => h, h⟩
theorem TL.c2 {R0 R1 : Res} (ho : ops[i]? = some ⟨some d, .call cl, ty, pos, af, gd⟩) (hw : Wd n ops e ⟨some d, .call cl, ty, pos, af, gd⟩ true) (hc : CT P n e ⟨some d, .call cl, ty, pos, af, gd⟩ f vs) (hs : SpecX P f vs.toArray Y A (fun v' A' N => v' = v ∧ A' = B ∧ N = [])) (hr : ∀ w, St F0 w0 (R0 :: R1 :: A :: Rs) w → Src F0 w0 (R0 :: R1 :: A :: Rs) w 2 Y) (hd : Nat.blt d n = true) (h : TL P n F0 w0 ops l ((d, v) :: e) (R0 :: R1 :: B :: Rs) Q) : TL P n F0 w0 ops (i :: l) e (R0 :: R1 :: A :: Rs) Q := by
  refine TL.ef ho hw (Ef.call 2 hc rfl hs hr hd) ?_
  rintro _ _ ⟨_, _, _, ⟨rfl, rfl, rfl⟩, rfl, rfl⟩
  exact h
theorem TD.c2 {R0 R1 : Res} {l : Sch} (ho : ops[i]? = some ⟨some d, .call cl, ty, pos, af, gd⟩) (hw : Wd n ops e ⟨some d, .call cl, ty, pos, af, gd⟩ true) (hc : CT P n e ⟨some d, .call cl, ty, pos, af, gd⟩ f vs) (hs : SpecX P f vs.toArray Y A (fun v' A' N => v' = v ∧ A' = B ∧ N = [])) (hr : ∀ w, St F0 w0 (R0 :: R1 :: A :: Rs) w → Src F0 w0 (R0 :: R1 :: A :: Rs) w 2 Y) (hd : Nat.blt d n = true) (is : List Nat) (hf : Sel (R0 :: R1 :: B :: Rs) is Rf) (h : TD P n F0 w0 ops l Rf ((d, v) :: e) (R0 :: R1 :: B :: Rs) Q) : TD P n F0 w0 ops (.e i l) Rf e (R0 :: R1 :: A :: Rs) Q := by
  refine TD.ef ho hw (Ef.call 2 hc rfl hs hr hd) ?_
  rintro _ _ ⟨_, _, _, ⟨rfl, rfl, rfl⟩, rfl, rfl⟩
  exact ⟨Rf, fun w hw => hw.sel is (hf), fun _ h => h, h⟩
theorem TL.st3 {cs cs' : Array Value} {R0 R1 R2 : Res} (ho : ops[i]? = some ⟨none, .store t x y, ty, pos, af, gd⟩) (hw : Wd n ops e ⟨none, .store t x y, ty, pos, af, gd⟩ true) (hx : e.ev x = some (.pointer (some ⟨b, o, none⟩))) (hy : e.ev y = some v) (hz : ∀ w, (sizeOf t).run P w = .ok z w) (hvz : Nat.beq v.cells.size z = true) (hf' : Nat.ble (o + v.cells.size) cs.size = true) (ho' : v.cells.toList.all (·.oneCell') = true) (hc : (cs.toList.take o ++ v.cells.toList ++ cs.toList.drop (o + v.cells.size)).toArray = cs') (h : TL P n F0 w0 ops l e (R0 :: R1 :: R2 :: BlkR b T cs' :: Rs) Q) : TL P n F0 w0 ops (i :: l) e (R0 :: R1 :: R2 :: BlkR b T cs :: Rs) Q := by
  refine TL.ef ho hw (Ef.st 3 hx hy hz rfl hvz hf' ho' hc) ?_
  rintro _ _ ⟨rfl, rfl⟩
  exact h
theorem TD.st3 {cs cs' : Array Value} {R0 R1 R2 : Res} {l : Sch} (ho : ops[i]? = some ⟨none, .store t x y, ty, pos, af, gd⟩) (hw : Wd n ops e ⟨none, .store t x y, ty, pos, af, gd⟩ true) (hx : e.ev x = some (.pointer (some ⟨b, o, none⟩))) (hy : e.ev y = some v) (hz : ∀ w, (sizeOf t).run P w = .ok z w) (hvz : Nat.beq v.cells.size z = true) (hf' : Nat.ble (o + v.cells.size) cs.size = true) (ho' : v.cells.toList.all (·.oneCell') = true) (hc : (cs.toList.take o ++ v.cells.toList ++ cs.toList.drop (o + v.cells.size)).toArray = cs') (is : List Nat) (hf : Sel (R0 :: R1 :: R2 :: BlkR b T cs' :: Rs) is Rf) (h : TD P n F0 w0 ops l Rf e (R0 :: R1 :: R2 :: BlkR b T cs' :: Rs) Q) : TD P n F0 w0 ops (.e i l) Rf e (R0 :: R1 :: R2 :: BlkR b T cs :: Rs) Q := by
  refine TD.ef ho hw (Ef.st 3 hx hy hz rfl hvz hf' ho' hc) ?_
  rintro _ _ ⟨rfl, rfl⟩
  exact ⟨Rf, fun w hw => hw.sel is (hf), fun _ h => h, h⟩
theorem TL.c3 {R0 R1 R2 : Res} (ho : ops[i]? = some ⟨some d, .call cl, ty, pos, af, gd⟩) (hw : Wd n ops e ⟨some d, .call cl, ty, pos, af, gd⟩ true) (hc : CT P n e ⟨some d, .call cl, ty, pos, af, gd⟩ f vs) (hs : SpecX P f vs.toArray Y A (fun v' A' N => v' = v ∧ A' = B ∧ N = [])) (hr : ∀ w, St F0 w0 (R0 :: R1 :: R2 :: A :: Rs) w → Src F0 w0 (R0 :: R1 :: R2 :: A :: Rs) w 3 Y) (hd : Nat.blt d n = true) (h : TL P n F0 w0 ops l ((d, v) :: e) (R0 :: R1 :: R2 :: B :: Rs) Q) : TL P n F0 w0 ops (i :: l) e (R0 :: R1 :: R2 :: A :: Rs) Q := by
  refine TL.ef ho hw (Ef.call 3 hc rfl hs hr hd) ?_
  rintro _ _ ⟨_, _, _, ⟨rfl, rfl, rfl⟩, rfl, rfl⟩
  exact h
theorem TD.c3 {R0 R1 R2 : Res} {l : Sch} (ho : ops[i]? = some ⟨some d, .call cl, ty, pos, af, gd⟩) (hw : Wd n ops e ⟨some d, .call cl, ty, pos, af, gd⟩ true) (hc : CT P n e ⟨some d, .call cl, ty, pos, af, gd⟩ f vs) (hs : SpecX P f vs.toArray Y A (fun v' A' N => v' = v ∧ A' = B ∧ N = [])) (hr : ∀ w, St F0 w0 (R0 :: R1 :: R2 :: A :: Rs) w → Src F0 w0 (R0 :: R1 :: R2 :: A :: Rs) w 3 Y) (hd : Nat.blt d n = true) (is : List Nat) (hf : Sel (R0 :: R1 :: R2 :: B :: Rs) is Rf) (h : TD P n F0 w0 ops l Rf ((d, v) :: e) (R0 :: R1 :: R2 :: B :: Rs) Q) : TD P n F0 w0 ops (.e i l) Rf e (R0 :: R1 :: R2 :: A :: Rs) Q := by
  refine TD.ef ho hw (Ef.call 3 hc rfl hs hr hd) ?_
  rintro _ _ ⟨_, _, _, ⟨rfl, rfl, rfl⟩, rfl, rfl⟩
  exact ⟨Rf, fun w hw => hw.sel is (hf), fun _ h => h, h⟩
theorem TL.st4 {cs cs' : Array Value} {R0 R1 R2 R3 : Res} (ho : ops[i]? = some ⟨none, .store t x y, ty, pos, af, gd⟩) (hw : Wd n ops e ⟨none, .store t x y, ty, pos, af, gd⟩ true) (hx : e.ev x = some (.pointer (some ⟨b, o, none⟩))) (hy : e.ev y = some v) (hz : ∀ w, (sizeOf t).run P w = .ok z w) (hvz : Nat.beq v.cells.size z = true) (hf' : Nat.ble (o + v.cells.size) cs.size = true) (ho' : v.cells.toList.all (·.oneCell') = true) (hc : (cs.toList.take o ++ v.cells.toList ++ cs.toList.drop (o + v.cells.size)).toArray = cs') (h : TL P n F0 w0 ops l e (R0 :: R1 :: R2 :: R3 :: BlkR b T cs' :: Rs) Q) : TL P n F0 w0 ops (i :: l) e (R0 :: R1 :: R2 :: R3 :: BlkR b T cs :: Rs) Q := by
  refine TL.ef ho hw (Ef.st 4 hx hy hz rfl hvz hf' ho' hc) ?_
  rintro _ _ ⟨rfl, rfl⟩
  exact h
theorem TD.st4 {cs cs' : Array Value} {R0 R1 R2 R3 : Res} {l : Sch} (ho : ops[i]? = some ⟨none, .store t x y, ty, pos, af, gd⟩) (hw : Wd n ops e ⟨none, .store t x y, ty, pos, af, gd⟩ true) (hx : e.ev x = some (.pointer (some ⟨b, o, none⟩))) (hy : e.ev y = some v) (hz : ∀ w, (sizeOf t).run P w = .ok z w) (hvz : Nat.beq v.cells.size z = true) (hf' : Nat.ble (o + v.cells.size) cs.size = true) (ho' : v.cells.toList.all (·.oneCell') = true) (hc : (cs.toList.take o ++ v.cells.toList ++ cs.toList.drop (o + v.cells.size)).toArray = cs') (is : List Nat) (hf : Sel (R0 :: R1 :: R2 :: R3 :: BlkR b T cs' :: Rs) is Rf) (h : TD P n F0 w0 ops l Rf e (R0 :: R1 :: R2 :: R3 :: BlkR b T cs' :: Rs) Q) : TD P n F0 w0 ops (.e i l) Rf e (R0 :: R1 :: R2 :: R3 :: BlkR b T cs :: Rs) Q := by
  refine TD.ef ho hw (Ef.st 4 hx hy hz rfl hvz hf' ho' hc) ?_
  rintro _ _ ⟨rfl, rfl⟩
  exact ⟨Rf, fun w hw => hw.sel is (hf), fun _ h => h, h⟩
theorem TL.c4 {R0 R1 R2 R3 : Res} (ho : ops[i]? = some ⟨some d, .call cl, ty, pos, af, gd⟩) (hw : Wd n ops e ⟨some d, .call cl, ty, pos, af, gd⟩ true) (hc : CT P n e ⟨some d, .call cl, ty, pos, af, gd⟩ f vs) (hs : SpecX P f vs.toArray Y A (fun v' A' N => v' = v ∧ A' = B ∧ N = [])) (hr : ∀ w, St F0 w0 (R0 :: R1 :: R2 :: R3 :: A :: Rs) w → Src F0 w0 (R0 :: R1 :: R2 :: R3 :: A :: Rs) w 4 Y) (hd : Nat.blt d n = true) (h : TL P n F0 w0 ops l ((d, v) :: e) (R0 :: R1 :: R2 :: R3 :: B :: Rs) Q) : TL P n F0 w0 ops (i :: l) e (R0 :: R1 :: R2 :: R3 :: A :: Rs) Q := by
  refine TL.ef ho hw (Ef.call 4 hc rfl hs hr hd) ?_
  rintro _ _ ⟨_, _, _, ⟨rfl, rfl, rfl⟩, rfl, rfl⟩
  exact h
theorem TD.c4 {R0 R1 R2 R3 : Res} {l : Sch} (ho : ops[i]? = some ⟨some d, .call cl, ty, pos, af, gd⟩) (hw : Wd n ops e ⟨some d, .call cl, ty, pos, af, gd⟩ true) (hc : CT P n e ⟨some d, .call cl, ty, pos, af, gd⟩ f vs) (hs : SpecX P f vs.toArray Y A (fun v' A' N => v' = v ∧ A' = B ∧ N = [])) (hr : ∀ w, St F0 w0 (R0 :: R1 :: R2 :: R3 :: A :: Rs) w → Src F0 w0 (R0 :: R1 :: R2 :: R3 :: A :: Rs) w 4 Y) (hd : Nat.blt d n = true) (is : List Nat) (hf : Sel (R0 :: R1 :: R2 :: R3 :: B :: Rs) is Rf) (h : TD P n F0 w0 ops l Rf ((d, v) :: e) (R0 :: R1 :: R2 :: R3 :: B :: Rs) Q) : TD P n F0 w0 ops (.e i l) Rf e (R0 :: R1 :: R2 :: R3 :: A :: Rs) Q := by
  refine TD.ef ho hw (Ef.call 4 hc rfl hs hr hd) ?_
  rintro _ _ ⟨_, _, _, ⟨rfl, rfl, rfl⟩, rfl, rfl⟩
  exact ⟨Rf, fun w hw => hw.sel is (hf), fun _ h => h, h⟩
theorem TL.st5 {cs cs' : Array Value} {R0 R1 R2 R3 R4 : Res} (ho : ops[i]? = some ⟨none, .store t x y, ty, pos, af, gd⟩) (hw : Wd n ops e ⟨none, .store t x y, ty, pos, af, gd⟩ true) (hx : e.ev x = some (.pointer (some ⟨b, o, none⟩))) (hy : e.ev y = some v) (hz : ∀ w, (sizeOf t).run P w = .ok z w) (hvz : Nat.beq v.cells.size z = true) (hf' : Nat.ble (o + v.cells.size) cs.size = true) (ho' : v.cells.toList.all (·.oneCell') = true) (hc : (cs.toList.take o ++ v.cells.toList ++ cs.toList.drop (o + v.cells.size)).toArray = cs') (h : TL P n F0 w0 ops l e (R0 :: R1 :: R2 :: R3 :: R4 :: BlkR b T cs' :: Rs) Q) : TL P n F0 w0 ops (i :: l) e (R0 :: R1 :: R2 :: R3 :: R4 :: BlkR b T cs :: Rs) Q := by
  refine TL.ef ho hw (Ef.st 5 hx hy hz rfl hvz hf' ho' hc) ?_
  rintro _ _ ⟨rfl, rfl⟩
  exact h
theorem TD.st5 {cs cs' : Array Value} {R0 R1 R2 R3 R4 : Res} {l : Sch} (ho : ops[i]? = some ⟨none, .store t x y, ty, pos, af, gd⟩) (hw : Wd n ops e ⟨none, .store t x y, ty, pos, af, gd⟩ true) (hx : e.ev x = some (.pointer (some ⟨b, o, none⟩))) (hy : e.ev y = some v) (hz : ∀ w, (sizeOf t).run P w = .ok z w) (hvz : Nat.beq v.cells.size z = true) (hf' : Nat.ble (o + v.cells.size) cs.size = true) (ho' : v.cells.toList.all (·.oneCell') = true) (hc : (cs.toList.take o ++ v.cells.toList ++ cs.toList.drop (o + v.cells.size)).toArray = cs') (is : List Nat) (hf : Sel (R0 :: R1 :: R2 :: R3 :: R4 :: BlkR b T cs' :: Rs) is Rf) (h : TD P n F0 w0 ops l Rf e (R0 :: R1 :: R2 :: R3 :: R4 :: BlkR b T cs' :: Rs) Q) : TD P n F0 w0 ops (.e i l) Rf e (R0 :: R1 :: R2 :: R3 :: R4 :: BlkR b T cs :: Rs) Q := by
  refine TD.ef ho hw (Ef.st 5 hx hy hz rfl hvz hf' ho' hc) ?_
  rintro _ _ ⟨rfl, rfl⟩
  exact ⟨Rf, fun w hw => hw.sel is (hf), fun _ h => h, h⟩
theorem TL.c5 {R0 R1 R2 R3 R4 : Res} (ho : ops[i]? = some ⟨some d, .call cl, ty, pos, af, gd⟩) (hw : Wd n ops e ⟨some d, .call cl, ty, pos, af, gd⟩ true) (hc : CT P n e ⟨some d, .call cl, ty, pos, af, gd⟩ f vs) (hs : SpecX P f vs.toArray Y A (fun v' A' N => v' = v ∧ A' = B ∧ N = [])) (hr : ∀ w, St F0 w0 (R0 :: R1 :: R2 :: R3 :: R4 :: A :: Rs) w → Src F0 w0 (R0 :: R1 :: R2 :: R3 :: R4 :: A :: Rs) w 5 Y) (hd : Nat.blt d n = true) (h : TL P n F0 w0 ops l ((d, v) :: e) (R0 :: R1 :: R2 :: R3 :: R4 :: B :: Rs) Q) : TL P n F0 w0 ops (i :: l) e (R0 :: R1 :: R2 :: R3 :: R4 :: A :: Rs) Q := by
  refine TL.ef ho hw (Ef.call 5 hc rfl hs hr hd) ?_
  rintro _ _ ⟨_, _, _, ⟨rfl, rfl, rfl⟩, rfl, rfl⟩
  exact h
theorem TD.c5 {R0 R1 R2 R3 R4 : Res} {l : Sch} (ho : ops[i]? = some ⟨some d, .call cl, ty, pos, af, gd⟩) (hw : Wd n ops e ⟨some d, .call cl, ty, pos, af, gd⟩ true) (hc : CT P n e ⟨some d, .call cl, ty, pos, af, gd⟩ f vs) (hs : SpecX P f vs.toArray Y A (fun v' A' N => v' = v ∧ A' = B ∧ N = [])) (hr : ∀ w, St F0 w0 (R0 :: R1 :: R2 :: R3 :: R4 :: A :: Rs) w → Src F0 w0 (R0 :: R1 :: R2 :: R3 :: R4 :: A :: Rs) w 5 Y) (hd : Nat.blt d n = true) (is : List Nat) (hf : Sel (R0 :: R1 :: R2 :: R3 :: R4 :: B :: Rs) is Rf) (h : TD P n F0 w0 ops l Rf ((d, v) :: e) (R0 :: R1 :: R2 :: R3 :: R4 :: B :: Rs) Q) : TD P n F0 w0 ops (.e i l) Rf e (R0 :: R1 :: R2 :: R3 :: R4 :: A :: Rs) Q := by
  refine TD.ef ho hw (Ef.call 5 hc rfl hs hr hd) ?_
  rintro _ _ ⟨_, _, _, ⟨rfl, rfl, rfl⟩, rfl, rfl⟩
  exact ⟨Rf, fun w hw => hw.sel is (hf), fun _ h => h, h⟩
theorem TL.st6 {cs cs' : Array Value} {R0 R1 R2 R3 R4 R5 : Res} (ho : ops[i]? = some ⟨none, .store t x y, ty, pos, af, gd⟩) (hw : Wd n ops e ⟨none, .store t x y, ty, pos, af, gd⟩ true) (hx : e.ev x = some (.pointer (some ⟨b, o, none⟩))) (hy : e.ev y = some v) (hz : ∀ w, (sizeOf t).run P w = .ok z w) (hvz : Nat.beq v.cells.size z = true) (hf' : Nat.ble (o + v.cells.size) cs.size = true) (ho' : v.cells.toList.all (·.oneCell') = true) (hc : (cs.toList.take o ++ v.cells.toList ++ cs.toList.drop (o + v.cells.size)).toArray = cs') (h : TL P n F0 w0 ops l e (R0 :: R1 :: R2 :: R3 :: R4 :: R5 :: BlkR b T cs' :: Rs) Q) : TL P n F0 w0 ops (i :: l) e (R0 :: R1 :: R2 :: R3 :: R4 :: R5 :: BlkR b T cs :: Rs) Q := by
  refine TL.ef ho hw (Ef.st 6 hx hy hz rfl hvz hf' ho' hc) ?_
  rintro _ _ ⟨rfl, rfl⟩
  exact h
theorem TD.st6 {cs cs' : Array Value} {R0 R1 R2 R3 R4 R5 : Res} {l : Sch} (ho : ops[i]? = some ⟨none, .store t x y, ty, pos, af, gd⟩) (hw : Wd n ops e ⟨none, .store t x y, ty, pos, af, gd⟩ true) (hx : e.ev x = some (.pointer (some ⟨b, o, none⟩))) (hy : e.ev y = some v) (hz : ∀ w, (sizeOf t).run P w = .ok z w) (hvz : Nat.beq v.cells.size z = true) (hf' : Nat.ble (o + v.cells.size) cs.size = true) (ho' : v.cells.toList.all (·.oneCell') = true) (hc : (cs.toList.take o ++ v.cells.toList ++ cs.toList.drop (o + v.cells.size)).toArray = cs') (is : List Nat) (hf : Sel (R0 :: R1 :: R2 :: R3 :: R4 :: R5 :: BlkR b T cs' :: Rs) is Rf) (h : TD P n F0 w0 ops l Rf e (R0 :: R1 :: R2 :: R3 :: R4 :: R5 :: BlkR b T cs' :: Rs) Q) : TD P n F0 w0 ops (.e i l) Rf e (R0 :: R1 :: R2 :: R3 :: R4 :: R5 :: BlkR b T cs :: Rs) Q := by
  refine TD.ef ho hw (Ef.st 6 hx hy hz rfl hvz hf' ho' hc) ?_
  rintro _ _ ⟨rfl, rfl⟩
  exact ⟨Rf, fun w hw => hw.sel is (hf), fun _ h => h, h⟩
theorem TL.c6 {R0 R1 R2 R3 R4 R5 : Res} (ho : ops[i]? = some ⟨some d, .call cl, ty, pos, af, gd⟩) (hw : Wd n ops e ⟨some d, .call cl, ty, pos, af, gd⟩ true) (hc : CT P n e ⟨some d, .call cl, ty, pos, af, gd⟩ f vs) (hs : SpecX P f vs.toArray Y A (fun v' A' N => v' = v ∧ A' = B ∧ N = [])) (hr : ∀ w, St F0 w0 (R0 :: R1 :: R2 :: R3 :: R4 :: R5 :: A :: Rs) w → Src F0 w0 (R0 :: R1 :: R2 :: R3 :: R4 :: R5 :: A :: Rs) w 6 Y) (hd : Nat.blt d n = true) (h : TL P n F0 w0 ops l ((d, v) :: e) (R0 :: R1 :: R2 :: R3 :: R4 :: R5 :: B :: Rs) Q) : TL P n F0 w0 ops (i :: l) e (R0 :: R1 :: R2 :: R3 :: R4 :: R5 :: A :: Rs) Q := by
  refine TL.ef ho hw (Ef.call 6 hc rfl hs hr hd) ?_
  rintro _ _ ⟨_, _, _, ⟨rfl, rfl, rfl⟩, rfl, rfl⟩
  exact h
theorem TD.c6 {R0 R1 R2 R3 R4 R5 : Res} {l : Sch} (ho : ops[i]? = some ⟨some d, .call cl, ty, pos, af, gd⟩) (hw : Wd n ops e ⟨some d, .call cl, ty, pos, af, gd⟩ true) (hc : CT P n e ⟨some d, .call cl, ty, pos, af, gd⟩ f vs) (hs : SpecX P f vs.toArray Y A (fun v' A' N => v' = v ∧ A' = B ∧ N = [])) (hr : ∀ w, St F0 w0 (R0 :: R1 :: R2 :: R3 :: R4 :: R5 :: A :: Rs) w → Src F0 w0 (R0 :: R1 :: R2 :: R3 :: R4 :: R5 :: A :: Rs) w 6 Y) (hd : Nat.blt d n = true) (is : List Nat) (hf : Sel (R0 :: R1 :: R2 :: R3 :: R4 :: R5 :: B :: Rs) is Rf) (h : TD P n F0 w0 ops l Rf ((d, v) :: e) (R0 :: R1 :: R2 :: R3 :: R4 :: R5 :: B :: Rs) Q) : TD P n F0 w0 ops (.e i l) Rf e (R0 :: R1 :: R2 :: R3 :: R4 :: R5 :: A :: Rs) Q := by
  refine TD.ef ho hw (Ef.call 6 hc rfl hs hr hd) ?_
  rintro _ _ ⟨_, _, _, ⟨rfl, rfl, rfl⟩, rfl, rfl⟩
  exact ⟨Rf, fun w hw => hw.sel is (hf), fun _ h => h, h⟩
theorem TL.st7 {cs cs' : Array Value} {R0 R1 R2 R3 R4 R5 R6 : Res} (ho : ops[i]? = some ⟨none, .store t x y, ty, pos, af, gd⟩) (hw : Wd n ops e ⟨none, .store t x y, ty, pos, af, gd⟩ true) (hx : e.ev x = some (.pointer (some ⟨b, o, none⟩))) (hy : e.ev y = some v) (hz : ∀ w, (sizeOf t).run P w = .ok z w) (hvz : Nat.beq v.cells.size z = true) (hf' : Nat.ble (o + v.cells.size) cs.size = true) (ho' : v.cells.toList.all (·.oneCell') = true) (hc : (cs.toList.take o ++ v.cells.toList ++ cs.toList.drop (o + v.cells.size)).toArray = cs') (h : TL P n F0 w0 ops l e (R0 :: R1 :: R2 :: R3 :: R4 :: R5 :: R6 :: BlkR b T cs' :: Rs) Q) : TL P n F0 w0 ops (i :: l) e (R0 :: R1 :: R2 :: R3 :: R4 :: R5 :: R6 :: BlkR b T cs :: Rs) Q := by
  refine TL.ef ho hw (Ef.st 7 hx hy hz rfl hvz hf' ho' hc) ?_
  rintro _ _ ⟨rfl, rfl⟩
  exact h
theorem TD.st7 {cs cs' : Array Value} {R0 R1 R2 R3 R4 R5 R6 : Res} {l : Sch} (ho : ops[i]? = some ⟨none, .store t x y, ty, pos, af, gd⟩) (hw : Wd n ops e ⟨none, .store t x y, ty, pos, af, gd⟩ true) (hx : e.ev x = some (.pointer (some ⟨b, o, none⟩))) (hy : e.ev y = some v) (hz : ∀ w, (sizeOf t).run P w = .ok z w) (hvz : Nat.beq v.cells.size z = true) (hf' : Nat.ble (o + v.cells.size) cs.size = true) (ho' : v.cells.toList.all (·.oneCell') = true) (hc : (cs.toList.take o ++ v.cells.toList ++ cs.toList.drop (o + v.cells.size)).toArray = cs') (is : List Nat) (hf : Sel (R0 :: R1 :: R2 :: R3 :: R4 :: R5 :: R6 :: BlkR b T cs' :: Rs) is Rf) (h : TD P n F0 w0 ops l Rf e (R0 :: R1 :: R2 :: R3 :: R4 :: R5 :: R6 :: BlkR b T cs' :: Rs) Q) : TD P n F0 w0 ops (.e i l) Rf e (R0 :: R1 :: R2 :: R3 :: R4 :: R5 :: R6 :: BlkR b T cs :: Rs) Q := by
  refine TD.ef ho hw (Ef.st 7 hx hy hz rfl hvz hf' ho' hc) ?_
  rintro _ _ ⟨rfl, rfl⟩
  exact ⟨Rf, fun w hw => hw.sel is (hf), fun _ h => h, h⟩
theorem TL.c7 {R0 R1 R2 R3 R4 R5 R6 : Res} (ho : ops[i]? = some ⟨some d, .call cl, ty, pos, af, gd⟩) (hw : Wd n ops e ⟨some d, .call cl, ty, pos, af, gd⟩ true) (hc : CT P n e ⟨some d, .call cl, ty, pos, af, gd⟩ f vs) (hs : SpecX P f vs.toArray Y A (fun v' A' N => v' = v ∧ A' = B ∧ N = [])) (hr : ∀ w, St F0 w0 (R0 :: R1 :: R2 :: R3 :: R4 :: R5 :: R6 :: A :: Rs) w → Src F0 w0 (R0 :: R1 :: R2 :: R3 :: R4 :: R5 :: R6 :: A :: Rs) w 7 Y) (hd : Nat.blt d n = true) (h : TL P n F0 w0 ops l ((d, v) :: e) (R0 :: R1 :: R2 :: R3 :: R4 :: R5 :: R6 :: B :: Rs) Q) : TL P n F0 w0 ops (i :: l) e (R0 :: R1 :: R2 :: R3 :: R4 :: R5 :: R6 :: A :: Rs) Q := by
  refine TL.ef ho hw (Ef.call 7 hc rfl hs hr hd) ?_
  rintro _ _ ⟨_, _, _, ⟨rfl, rfl, rfl⟩, rfl, rfl⟩
  exact h
theorem TD.c7 {R0 R1 R2 R3 R4 R5 R6 : Res} {l : Sch} (ho : ops[i]? = some ⟨some d, .call cl, ty, pos, af, gd⟩) (hw : Wd n ops e ⟨some d, .call cl, ty, pos, af, gd⟩ true) (hc : CT P n e ⟨some d, .call cl, ty, pos, af, gd⟩ f vs) (hs : SpecX P f vs.toArray Y A (fun v' A' N => v' = v ∧ A' = B ∧ N = [])) (hr : ∀ w, St F0 w0 (R0 :: R1 :: R2 :: R3 :: R4 :: R5 :: R6 :: A :: Rs) w → Src F0 w0 (R0 :: R1 :: R2 :: R3 :: R4 :: R5 :: R6 :: A :: Rs) w 7 Y) (hd : Nat.blt d n = true) (is : List Nat) (hf : Sel (R0 :: R1 :: R2 :: R3 :: R4 :: R5 :: R6 :: B :: Rs) is Rf) (h : TD P n F0 w0 ops l Rf ((d, v) :: e) (R0 :: R1 :: R2 :: R3 :: R4 :: R5 :: R6 :: B :: Rs) Q) : TD P n F0 w0 ops (.e i l) Rf e (R0 :: R1 :: R2 :: R3 :: R4 :: R5 :: R6 :: A :: Rs) Q := by
  refine TD.ef ho hw (Ef.call 7 hc rfl hs hr hd) ?_
  rintro _ _ ⟨_, _, _, ⟨rfl, rfl, rfl⟩, rfl, rfl⟩
  exact ⟨Rf, fun w hw => hw.sel is (hf), fun _ h => h, h⟩
theorem TL.c8 {R0 R1 R2 R3 R4 R5 R6 R7 : Res} (ho : ops[i]? = some ⟨some d, .call cl, ty, pos, af, gd⟩) (hw : Wd n ops e ⟨some d, .call cl, ty, pos, af, gd⟩ true) (hc : CT P n e ⟨some d, .call cl, ty, pos, af, gd⟩ f vs) (hs : SpecX P f vs.toArray Y A (fun v' A' N => v' = v ∧ A' = B ∧ N = [])) (hr : ∀ w, St F0 w0 (R0 :: R1 :: R2 :: R3 :: R4 :: R5 :: R6 :: R7 :: A :: Rs) w → Src F0 w0 (R0 :: R1 :: R2 :: R3 :: R4 :: R5 :: R6 :: R7 :: A :: Rs) w 8 Y) (hd : Nat.blt d n = true) (h : TL P n F0 w0 ops l ((d, v) :: e) (R0 :: R1 :: R2 :: R3 :: R4 :: R5 :: R6 :: R7 :: B :: Rs) Q) : TL P n F0 w0 ops (i :: l) e (R0 :: R1 :: R2 :: R3 :: R4 :: R5 :: R6 :: R7 :: A :: Rs) Q := by
  refine TL.ef ho hw (Ef.call 8 hc rfl hs hr hd) ?_
  rintro _ _ ⟨_, _, _, ⟨rfl, rfl, rfl⟩, rfl, rfl⟩
  exact h
theorem TD.c8 {R0 R1 R2 R3 R4 R5 R6 R7 : Res} {l : Sch} (ho : ops[i]? = some ⟨some d, .call cl, ty, pos, af, gd⟩) (hw : Wd n ops e ⟨some d, .call cl, ty, pos, af, gd⟩ true) (hc : CT P n e ⟨some d, .call cl, ty, pos, af, gd⟩ f vs) (hs : SpecX P f vs.toArray Y A (fun v' A' N => v' = v ∧ A' = B ∧ N = [])) (hr : ∀ w, St F0 w0 (R0 :: R1 :: R2 :: R3 :: R4 :: R5 :: R6 :: R7 :: A :: Rs) w → Src F0 w0 (R0 :: R1 :: R2 :: R3 :: R4 :: R5 :: R6 :: R7 :: A :: Rs) w 8 Y) (hd : Nat.blt d n = true) (is : List Nat) (hf : Sel (R0 :: R1 :: R2 :: R3 :: R4 :: R5 :: R6 :: R7 :: B :: Rs) is Rf) (h : TD P n F0 w0 ops l Rf ((d, v) :: e) (R0 :: R1 :: R2 :: R3 :: R4 :: R5 :: R6 :: R7 :: B :: Rs) Q) : TD P n F0 w0 ops (.e i l) Rf e (R0 :: R1 :: R2 :: R3 :: R4 :: R5 :: R6 :: R7 :: A :: Rs) Q := by
  refine TD.ef ho hw (Ef.call 8 hc rfl hs hr hd) ?_
  rintro _ _ ⟨_, _, _, ⟨rfl, rfl, rfl⟩, rfl, rfl⟩
  exact ⟨Rf, fun w hw => hw.sel is (hf), fun _ h => h, h⟩
theorem TL.st9 {cs cs' : Array Value} {R0 R1 R2 R3 R4 R5 R6 R7 R8 : Res} (ho : ops[i]? = some ⟨none, .store t x y, ty, pos, af, gd⟩) (hw : Wd n ops e ⟨none, .store t x y, ty, pos, af, gd⟩ true) (hx : e.ev x = some (.pointer (some ⟨b, o, none⟩))) (hy : e.ev y = some v) (hz : ∀ w, (sizeOf t).run P w = .ok z w) (hvz : Nat.beq v.cells.size z = true) (hf' : Nat.ble (o + v.cells.size) cs.size = true) (ho' : v.cells.toList.all (·.oneCell') = true) (hc : (cs.toList.take o ++ v.cells.toList ++ cs.toList.drop (o + v.cells.size)).toArray = cs') (h : TL P n F0 w0 ops l e (R0 :: R1 :: R2 :: R3 :: R4 :: R5 :: R6 :: R7 :: R8 :: BlkR b T cs' :: Rs) Q) : TL P n F0 w0 ops (i :: l) e (R0 :: R1 :: R2 :: R3 :: R4 :: R5 :: R6 :: R7 :: R8 :: BlkR b T cs :: Rs) Q := by
  refine TL.ef ho hw (Ef.st 9 hx hy hz rfl hvz hf' ho' hc) ?_
  rintro _ _ ⟨rfl, rfl⟩
  exact h
theorem TD.st9 {cs cs' : Array Value} {R0 R1 R2 R3 R4 R5 R6 R7 R8 : Res} {l : Sch} (ho : ops[i]? = some ⟨none, .store t x y, ty, pos, af, gd⟩) (hw : Wd n ops e ⟨none, .store t x y, ty, pos, af, gd⟩ true) (hx : e.ev x = some (.pointer (some ⟨b, o, none⟩))) (hy : e.ev y = some v) (hz : ∀ w, (sizeOf t).run P w = .ok z w) (hvz : Nat.beq v.cells.size z = true) (hf' : Nat.ble (o + v.cells.size) cs.size = true) (ho' : v.cells.toList.all (·.oneCell') = true) (hc : (cs.toList.take o ++ v.cells.toList ++ cs.toList.drop (o + v.cells.size)).toArray = cs') (is : List Nat) (hf : Sel (R0 :: R1 :: R2 :: R3 :: R4 :: R5 :: R6 :: R7 :: R8 :: BlkR b T cs' :: Rs) is Rf) (h : TD P n F0 w0 ops l Rf e (R0 :: R1 :: R2 :: R3 :: R4 :: R5 :: R6 :: R7 :: R8 :: BlkR b T cs' :: Rs) Q) : TD P n F0 w0 ops (.e i l) Rf e (R0 :: R1 :: R2 :: R3 :: R4 :: R5 :: R6 :: R7 :: R8 :: BlkR b T cs :: Rs) Q := by
  refine TD.ef ho hw (Ef.st 9 hx hy hz rfl hvz hf' ho' hc) ?_
  rintro _ _ ⟨rfl, rfl⟩
  exact ⟨Rf, fun w hw => hw.sel is (hf), fun _ h => h, h⟩
theorem TL.c9 {R0 R1 R2 R3 R4 R5 R6 R7 R8 : Res} (ho : ops[i]? = some ⟨some d, .call cl, ty, pos, af, gd⟩) (hw : Wd n ops e ⟨some d, .call cl, ty, pos, af, gd⟩ true) (hc : CT P n e ⟨some d, .call cl, ty, pos, af, gd⟩ f vs) (hs : SpecX P f vs.toArray Y A (fun v' A' N => v' = v ∧ A' = B ∧ N = [])) (hr : ∀ w, St F0 w0 (R0 :: R1 :: R2 :: R3 :: R4 :: R5 :: R6 :: R7 :: R8 :: A :: Rs) w → Src F0 w0 (R0 :: R1 :: R2 :: R3 :: R4 :: R5 :: R6 :: R7 :: R8 :: A :: Rs) w 9 Y) (hd : Nat.blt d n = true) (h : TL P n F0 w0 ops l ((d, v) :: e) (R0 :: R1 :: R2 :: R3 :: R4 :: R5 :: R6 :: R7 :: R8 :: B :: Rs) Q) : TL P n F0 w0 ops (i :: l) e (R0 :: R1 :: R2 :: R3 :: R4 :: R5 :: R6 :: R7 :: R8 :: A :: Rs) Q := by
  refine TL.ef ho hw (Ef.call 9 hc rfl hs hr hd) ?_
  rintro _ _ ⟨_, _, _, ⟨rfl, rfl, rfl⟩, rfl, rfl⟩
  exact h
theorem TD.c9 {R0 R1 R2 R3 R4 R5 R6 R7 R8 : Res} {l : Sch} (ho : ops[i]? = some ⟨some d, .call cl, ty, pos, af, gd⟩) (hw : Wd n ops e ⟨some d, .call cl, ty, pos, af, gd⟩ true) (hc : CT P n e ⟨some d, .call cl, ty, pos, af, gd⟩ f vs) (hs : SpecX P f vs.toArray Y A (fun v' A' N => v' = v ∧ A' = B ∧ N = [])) (hr : ∀ w, St F0 w0 (R0 :: R1 :: R2 :: R3 :: R4 :: R5 :: R6 :: R7 :: R8 :: A :: Rs) w → Src F0 w0 (R0 :: R1 :: R2 :: R3 :: R4 :: R5 :: R6 :: R7 :: R8 :: A :: Rs) w 9 Y) (hd : Nat.blt d n = true) (is : List Nat) (hf : Sel (R0 :: R1 :: R2 :: R3 :: R4 :: R5 :: R6 :: R7 :: R8 :: B :: Rs) is Rf) (h : TD P n F0 w0 ops l Rf ((d, v) :: e) (R0 :: R1 :: R2 :: R3 :: R4 :: R5 :: R6 :: R7 :: R8 :: B :: Rs) Q) : TD P n F0 w0 ops (.e i l) Rf e (R0 :: R1 :: R2 :: R3 :: R4 :: R5 :: R6 :: R7 :: R8 :: A :: Rs) Q := by
  refine TD.ef ho hw (Ef.call 9 hc rfl hs hr hd) ?_
  rintro _ _ ⟨_, _, _, ⟨rfl, rfl, rfl⟩, rfl, rfl⟩
  exact ⟨Rf, fun w hw => hw.sel is (hf), fun _ h => h, h⟩
theorem TL.st10 {cs cs' : Array Value} {R0 R1 R2 R3 R4 R5 R6 R7 R8 R9 : Res} (ho : ops[i]? = some ⟨none, .store t x y, ty, pos, af, gd⟩) (hw : Wd n ops e ⟨none, .store t x y, ty, pos, af, gd⟩ true) (hx : e.ev x = some (.pointer (some ⟨b, o, none⟩))) (hy : e.ev y = some v) (hz : ∀ w, (sizeOf t).run P w = .ok z w) (hvz : Nat.beq v.cells.size z = true) (hf' : Nat.ble (o + v.cells.size) cs.size = true) (ho' : v.cells.toList.all (·.oneCell') = true) (hc : (cs.toList.take o ++ v.cells.toList ++ cs.toList.drop (o + v.cells.size)).toArray = cs') (h : TL P n F0 w0 ops l e (R0 :: R1 :: R2 :: R3 :: R4 :: R5 :: R6 :: R7 :: R8 :: R9 :: BlkR b T cs' :: Rs) Q) : TL P n F0 w0 ops (i :: l) e (R0 :: R1 :: R2 :: R3 :: R4 :: R5 :: R6 :: R7 :: R8 :: R9 :: BlkR b T cs :: Rs) Q := by
  refine TL.ef ho hw (Ef.st 10 hx hy hz rfl hvz hf' ho' hc) ?_
  rintro _ _ ⟨rfl, rfl⟩
  exact h
theorem TD.st10 {cs cs' : Array Value} {R0 R1 R2 R3 R4 R5 R6 R7 R8 R9 : Res} {l : Sch} (ho : ops[i]? = some ⟨none, .store t x y, ty, pos, af, gd⟩) (hw : Wd n ops e ⟨none, .store t x y, ty, pos, af, gd⟩ true) (hx : e.ev x = some (.pointer (some ⟨b, o, none⟩))) (hy : e.ev y = some v) (hz : ∀ w, (sizeOf t).run P w = .ok z w) (hvz : Nat.beq v.cells.size z = true) (hf' : Nat.ble (o + v.cells.size) cs.size = true) (ho' : v.cells.toList.all (·.oneCell') = true) (hc : (cs.toList.take o ++ v.cells.toList ++ cs.toList.drop (o + v.cells.size)).toArray = cs') (is : List Nat) (hf : Sel (R0 :: R1 :: R2 :: R3 :: R4 :: R5 :: R6 :: R7 :: R8 :: R9 :: BlkR b T cs' :: Rs) is Rf) (h : TD P n F0 w0 ops l Rf e (R0 :: R1 :: R2 :: R3 :: R4 :: R5 :: R6 :: R7 :: R8 :: R9 :: BlkR b T cs' :: Rs) Q) : TD P n F0 w0 ops (.e i l) Rf e (R0 :: R1 :: R2 :: R3 :: R4 :: R5 :: R6 :: R7 :: R8 :: R9 :: BlkR b T cs :: Rs) Q := by
  refine TD.ef ho hw (Ef.st 10 hx hy hz rfl hvz hf' ho' hc) ?_
  rintro _ _ ⟨rfl, rfl⟩
  exact ⟨Rf, fun w hw => hw.sel is (hf), fun _ h => h, h⟩
theorem TL.c10 {R0 R1 R2 R3 R4 R5 R6 R7 R8 R9 : Res} (ho : ops[i]? = some ⟨some d, .call cl, ty, pos, af, gd⟩) (hw : Wd n ops e ⟨some d, .call cl, ty, pos, af, gd⟩ true) (hc : CT P n e ⟨some d, .call cl, ty, pos, af, gd⟩ f vs) (hs : SpecX P f vs.toArray Y A (fun v' A' N => v' = v ∧ A' = B ∧ N = [])) (hr : ∀ w, St F0 w0 (R0 :: R1 :: R2 :: R3 :: R4 :: R5 :: R6 :: R7 :: R8 :: R9 :: A :: Rs) w → Src F0 w0 (R0 :: R1 :: R2 :: R3 :: R4 :: R5 :: R6 :: R7 :: R8 :: R9 :: A :: Rs) w 10 Y) (hd : Nat.blt d n = true) (h : TL P n F0 w0 ops l ((d, v) :: e) (R0 :: R1 :: R2 :: R3 :: R4 :: R5 :: R6 :: R7 :: R8 :: R9 :: B :: Rs) Q) : TL P n F0 w0 ops (i :: l) e (R0 :: R1 :: R2 :: R3 :: R4 :: R5 :: R6 :: R7 :: R8 :: R9 :: A :: Rs) Q := by
  refine TL.ef ho hw (Ef.call 10 hc rfl hs hr hd) ?_
  rintro _ _ ⟨_, _, _, ⟨rfl, rfl, rfl⟩, rfl, rfl⟩
  exact h
theorem TD.c10 {R0 R1 R2 R3 R4 R5 R6 R7 R8 R9 : Res} {l : Sch} (ho : ops[i]? = some ⟨some d, .call cl, ty, pos, af, gd⟩) (hw : Wd n ops e ⟨some d, .call cl, ty, pos, af, gd⟩ true) (hc : CT P n e ⟨some d, .call cl, ty, pos, af, gd⟩ f vs) (hs : SpecX P f vs.toArray Y A (fun v' A' N => v' = v ∧ A' = B ∧ N = [])) (hr : ∀ w, St F0 w0 (R0 :: R1 :: R2 :: R3 :: R4 :: R5 :: R6 :: R7 :: R8 :: R9 :: A :: Rs) w → Src F0 w0 (R0 :: R1 :: R2 :: R3 :: R4 :: R5 :: R6 :: R7 :: R8 :: R9 :: A :: Rs) w 10 Y) (hd : Nat.blt d n = true) (is : List Nat) (hf : Sel (R0 :: R1 :: R2 :: R3 :: R4 :: R5 :: R6 :: R7 :: R8 :: R9 :: B :: Rs) is Rf) (h : TD P n F0 w0 ops l Rf ((d, v) :: e) (R0 :: R1 :: R2 :: R3 :: R4 :: R5 :: R6 :: R7 :: R8 :: R9 :: B :: Rs) Q) : TD P n F0 w0 ops (.e i l) Rf e (R0 :: R1 :: R2 :: R3 :: R4 :: R5 :: R6 :: R7 :: R8 :: R9 :: A :: Rs) Q := by
  refine TD.ef ho hw (Ef.call 10 hc rfl hs hr hd) ?_
  rintro _ _ ⟨_, _, _, ⟨rfl, rfl, rfl⟩, rfl, rfl⟩
  exact ⟨Rf, fun w hw => hw.sel is (hf), fun _ h => h, h⟩
theorem TL.st11 {cs cs' : Array Value} {R0 R1 R2 R3 R4 R5 R6 R7 R8 R9 R10 : Res} (ho : ops[i]? = some ⟨none, .store t x y, ty, pos, af, gd⟩) (hw : Wd n ops e ⟨none, .store t x y, ty, pos, af, gd⟩ true) (hx : e.ev x = some (.pointer (some ⟨b, o, none⟩))) (hy : e.ev y = some v) (hz : ∀ w, (sizeOf t).run P w = .ok z w) (hvz : Nat.beq v.cells.size z = true) (hf' : Nat.ble (o + v.cells.size) cs.size = true) (ho' : v.cells.toList.all (·.oneCell') = true) (hc : (cs.toList.take o ++ v.cells.toList ++ cs.toList.drop (o + v.cells.size)).toArray = cs') (h : TL P n F0 w0 ops l e (R0 :: R1 :: R2 :: R3 :: R4 :: R5 :: R6 :: R7 :: R8 :: R9 :: R10 :: BlkR b T cs' :: Rs) Q) : TL P n F0 w0 ops (i :: l) e (R0 :: R1 :: R2 :: R3 :: R4 :: R5 :: R6 :: R7 :: R8 :: R9 :: R10 :: BlkR b T cs :: Rs) Q := by
  refine TL.ef ho hw (Ef.st 11 hx hy hz rfl hvz hf' ho' hc) ?_
  rintro _ _ ⟨rfl, rfl⟩
  exact h
theorem TD.st11 {cs cs' : Array Value} {R0 R1 R2 R3 R4 R5 R6 R7 R8 R9 R10 : Res} {l : Sch} (ho : ops[i]? = some ⟨none, .store t x y, ty, pos, af, gd⟩) (hw : Wd n ops e ⟨none, .store t x y, ty, pos, af, gd⟩ true) (hx : e.ev x = some (.pointer (some ⟨b, o, none⟩))) (hy : e.ev y = some v) (hz : ∀ w, (sizeOf t).run P w = .ok z w) (hvz : Nat.beq v.cells.size z = true) (hf' : Nat.ble (o + v.cells.size) cs.size = true) (ho' : v.cells.toList.all (·.oneCell') = true) (hc : (cs.toList.take o ++ v.cells.toList ++ cs.toList.drop (o + v.cells.size)).toArray = cs') (is : List Nat) (hf : Sel (R0 :: R1 :: R2 :: R3 :: R4 :: R5 :: R6 :: R7 :: R8 :: R9 :: R10 :: BlkR b T cs' :: Rs) is Rf) (h : TD P n F0 w0 ops l Rf e (R0 :: R1 :: R2 :: R3 :: R4 :: R5 :: R6 :: R7 :: R8 :: R9 :: R10 :: BlkR b T cs' :: Rs) Q) : TD P n F0 w0 ops (.e i l) Rf e (R0 :: R1 :: R2 :: R3 :: R4 :: R5 :: R6 :: R7 :: R8 :: R9 :: R10 :: BlkR b T cs :: Rs) Q := by
  refine TD.ef ho hw (Ef.st 11 hx hy hz rfl hvz hf' ho' hc) ?_
  rintro _ _ ⟨rfl, rfl⟩
  exact ⟨Rf, fun w hw => hw.sel is (hf), fun _ h => h, h⟩
theorem TL.c11 {R0 R1 R2 R3 R4 R5 R6 R7 R8 R9 R10 : Res} (ho : ops[i]? = some ⟨some d, .call cl, ty, pos, af, gd⟩) (hw : Wd n ops e ⟨some d, .call cl, ty, pos, af, gd⟩ true) (hc : CT P n e ⟨some d, .call cl, ty, pos, af, gd⟩ f vs) (hs : SpecX P f vs.toArray Y A (fun v' A' N => v' = v ∧ A' = B ∧ N = [])) (hr : ∀ w, St F0 w0 (R0 :: R1 :: R2 :: R3 :: R4 :: R5 :: R6 :: R7 :: R8 :: R9 :: R10 :: A :: Rs) w → Src F0 w0 (R0 :: R1 :: R2 :: R3 :: R4 :: R5 :: R6 :: R7 :: R8 :: R9 :: R10 :: A :: Rs) w 11 Y) (hd : Nat.blt d n = true) (h : TL P n F0 w0 ops l ((d, v) :: e) (R0 :: R1 :: R2 :: R3 :: R4 :: R5 :: R6 :: R7 :: R8 :: R9 :: R10 :: B :: Rs) Q) : TL P n F0 w0 ops (i :: l) e (R0 :: R1 :: R2 :: R3 :: R4 :: R5 :: R6 :: R7 :: R8 :: R9 :: R10 :: A :: Rs) Q := by
  refine TL.ef ho hw (Ef.call 11 hc rfl hs hr hd) ?_
  rintro _ _ ⟨_, _, _, ⟨rfl, rfl, rfl⟩, rfl, rfl⟩
  exact h
theorem TD.c11 {R0 R1 R2 R3 R4 R5 R6 R7 R8 R9 R10 : Res} {l : Sch} (ho : ops[i]? = some ⟨some d, .call cl, ty, pos, af, gd⟩) (hw : Wd n ops e ⟨some d, .call cl, ty, pos, af, gd⟩ true) (hc : CT P n e ⟨some d, .call cl, ty, pos, af, gd⟩ f vs) (hs : SpecX P f vs.toArray Y A (fun v' A' N => v' = v ∧ A' = B ∧ N = [])) (hr : ∀ w, St F0 w0 (R0 :: R1 :: R2 :: R3 :: R4 :: R5 :: R6 :: R7 :: R8 :: R9 :: R10 :: A :: Rs) w → Src F0 w0 (R0 :: R1 :: R2 :: R3 :: R4 :: R5 :: R6 :: R7 :: R8 :: R9 :: R10 :: A :: Rs) w 11 Y) (hd : Nat.blt d n = true) (is : List Nat) (hf : Sel (R0 :: R1 :: R2 :: R3 :: R4 :: R5 :: R6 :: R7 :: R8 :: R9 :: R10 :: B :: Rs) is Rf) (h : TD P n F0 w0 ops l Rf ((d, v) :: e) (R0 :: R1 :: R2 :: R3 :: R4 :: R5 :: R6 :: R7 :: R8 :: R9 :: R10 :: B :: Rs) Q) : TD P n F0 w0 ops (.e i l) Rf e (R0 :: R1 :: R2 :: R3 :: R4 :: R5 :: R6 :: R7 :: R8 :: R9 :: R10 :: A :: Rs) Q := by
  refine TD.ef ho hw (Ef.call 11 hc rfl hs hr hd) ?_
  rintro _ _ ⟨_, _, _, ⟨rfl, rfl, rfl⟩, rfl, rfl⟩
  exact ⟨Rf, fun w hw => hw.sel is (hf), fun _ h => h, h⟩
theorem TL.c12 {R0 R1 R2 R3 R4 R5 R6 R7 R8 R9 R10 R11 : Res} (ho : ops[i]? = some ⟨some d, .call cl, ty, pos, af, gd⟩) (hw : Wd n ops e ⟨some d, .call cl, ty, pos, af, gd⟩ true) (hc : CT P n e ⟨some d, .call cl, ty, pos, af, gd⟩ f vs) (hs : SpecX P f vs.toArray Y A (fun v' A' N => v' = v ∧ A' = B ∧ N = [])) (hr : ∀ w, St F0 w0 (R0 :: R1 :: R2 :: R3 :: R4 :: R5 :: R6 :: R7 :: R8 :: R9 :: R10 :: R11 :: A :: Rs) w → Src F0 w0 (R0 :: R1 :: R2 :: R3 :: R4 :: R5 :: R6 :: R7 :: R8 :: R9 :: R10 :: R11 :: A :: Rs) w 12 Y) (hd : Nat.blt d n = true) (h : TL P n F0 w0 ops l ((d, v) :: e) (R0 :: R1 :: R2 :: R3 :: R4 :: R5 :: R6 :: R7 :: R8 :: R9 :: R10 :: R11 :: B :: Rs) Q) : TL P n F0 w0 ops (i :: l) e (R0 :: R1 :: R2 :: R3 :: R4 :: R5 :: R6 :: R7 :: R8 :: R9 :: R10 :: R11 :: A :: Rs) Q := by
  refine TL.ef ho hw (Ef.call 12 hc rfl hs hr hd) ?_
  rintro _ _ ⟨_, _, _, ⟨rfl, rfl, rfl⟩, rfl, rfl⟩
  exact h
theorem TD.c12 {R0 R1 R2 R3 R4 R5 R6 R7 R8 R9 R10 R11 : Res} {l : Sch} (ho : ops[i]? = some ⟨some d, .call cl, ty, pos, af, gd⟩) (hw : Wd n ops e ⟨some d, .call cl, ty, pos, af, gd⟩ true) (hc : CT P n e ⟨some d, .call cl, ty, pos, af, gd⟩ f vs) (hs : SpecX P f vs.toArray Y A (fun v' A' N => v' = v ∧ A' = B ∧ N = [])) (hr : ∀ w, St F0 w0 (R0 :: R1 :: R2 :: R3 :: R4 :: R5 :: R6 :: R7 :: R8 :: R9 :: R10 :: R11 :: A :: Rs) w → Src F0 w0 (R0 :: R1 :: R2 :: R3 :: R4 :: R5 :: R6 :: R7 :: R8 :: R9 :: R10 :: R11 :: A :: Rs) w 12 Y) (hd : Nat.blt d n = true) (is : List Nat) (hf : Sel (R0 :: R1 :: R2 :: R3 :: R4 :: R5 :: R6 :: R7 :: R8 :: R9 :: R10 :: R11 :: B :: Rs) is Rf) (h : TD P n F0 w0 ops l Rf ((d, v) :: e) (R0 :: R1 :: R2 :: R3 :: R4 :: R5 :: R6 :: R7 :: R8 :: R9 :: R10 :: R11 :: B :: Rs) Q) : TD P n F0 w0 ops (.e i l) Rf e (R0 :: R1 :: R2 :: R3 :: R4 :: R5 :: R6 :: R7 :: R8 :: R9 :: R10 :: R11 :: A :: Rs) Q := by
  refine TD.ef ho hw (Ef.call 12 hc rfl hs hr hd) ?_
  rintro _ _ ⟨_, _, _, ⟨rfl, rfl, rfl⟩, rfl, rfl⟩
  exact ⟨Rf, fun w hw => hw.sel is (hf), fun _ h => h, h⟩
theorem TL.st13 {cs cs' : Array Value} {R0 R1 R2 R3 R4 R5 R6 R7 R8 R9 R10 R11 R12 : Res} (ho : ops[i]? = some ⟨none, .store t x y, ty, pos, af, gd⟩) (hw : Wd n ops e ⟨none, .store t x y, ty, pos, af, gd⟩ true) (hx : e.ev x = some (.pointer (some ⟨b, o, none⟩))) (hy : e.ev y = some v) (hz : ∀ w, (sizeOf t).run P w = .ok z w) (hvz : Nat.beq v.cells.size z = true) (hf' : Nat.ble (o + v.cells.size) cs.size = true) (ho' : v.cells.toList.all (·.oneCell') = true) (hc : (cs.toList.take o ++ v.cells.toList ++ cs.toList.drop (o + v.cells.size)).toArray = cs') (h : TL P n F0 w0 ops l e (R0 :: R1 :: R2 :: R3 :: R4 :: R5 :: R6 :: R7 :: R8 :: R9 :: R10 :: R11 :: R12 :: BlkR b T cs' :: Rs) Q) : TL P n F0 w0 ops (i :: l) e (R0 :: R1 :: R2 :: R3 :: R4 :: R5 :: R6 :: R7 :: R8 :: R9 :: R10 :: R11 :: R12 :: BlkR b T cs :: Rs) Q := by
  refine TL.ef ho hw (Ef.st 13 hx hy hz rfl hvz hf' ho' hc) ?_
  rintro _ _ ⟨rfl, rfl⟩
  exact h
theorem TD.st13 {cs cs' : Array Value} {R0 R1 R2 R3 R4 R5 R6 R7 R8 R9 R10 R11 R12 : Res} {l : Sch} (ho : ops[i]? = some ⟨none, .store t x y, ty, pos, af, gd⟩) (hw : Wd n ops e ⟨none, .store t x y, ty, pos, af, gd⟩ true) (hx : e.ev x = some (.pointer (some ⟨b, o, none⟩))) (hy : e.ev y = some v) (hz : ∀ w, (sizeOf t).run P w = .ok z w) (hvz : Nat.beq v.cells.size z = true) (hf' : Nat.ble (o + v.cells.size) cs.size = true) (ho' : v.cells.toList.all (·.oneCell') = true) (hc : (cs.toList.take o ++ v.cells.toList ++ cs.toList.drop (o + v.cells.size)).toArray = cs') (is : List Nat) (hf : Sel (R0 :: R1 :: R2 :: R3 :: R4 :: R5 :: R6 :: R7 :: R8 :: R9 :: R10 :: R11 :: R12 :: BlkR b T cs' :: Rs) is Rf) (h : TD P n F0 w0 ops l Rf e (R0 :: R1 :: R2 :: R3 :: R4 :: R5 :: R6 :: R7 :: R8 :: R9 :: R10 :: R11 :: R12 :: BlkR b T cs' :: Rs) Q) : TD P n F0 w0 ops (.e i l) Rf e (R0 :: R1 :: R2 :: R3 :: R4 :: R5 :: R6 :: R7 :: R8 :: R9 :: R10 :: R11 :: R12 :: BlkR b T cs :: Rs) Q := by
  refine TD.ef ho hw (Ef.st 13 hx hy hz rfl hvz hf' ho' hc) ?_
  rintro _ _ ⟨rfl, rfl⟩
  exact ⟨Rf, fun w hw => hw.sel is (hf), fun _ h => h, h⟩
theorem TL.c13 {R0 R1 R2 R3 R4 R5 R6 R7 R8 R9 R10 R11 R12 : Res} (ho : ops[i]? = some ⟨some d, .call cl, ty, pos, af, gd⟩) (hw : Wd n ops e ⟨some d, .call cl, ty, pos, af, gd⟩ true) (hc : CT P n e ⟨some d, .call cl, ty, pos, af, gd⟩ f vs) (hs : SpecX P f vs.toArray Y A (fun v' A' N => v' = v ∧ A' = B ∧ N = [])) (hr : ∀ w, St F0 w0 (R0 :: R1 :: R2 :: R3 :: R4 :: R5 :: R6 :: R7 :: R8 :: R9 :: R10 :: R11 :: R12 :: A :: Rs) w → Src F0 w0 (R0 :: R1 :: R2 :: R3 :: R4 :: R5 :: R6 :: R7 :: R8 :: R9 :: R10 :: R11 :: R12 :: A :: Rs) w 13 Y) (hd : Nat.blt d n = true) (h : TL P n F0 w0 ops l ((d, v) :: e) (R0 :: R1 :: R2 :: R3 :: R4 :: R5 :: R6 :: R7 :: R8 :: R9 :: R10 :: R11 :: R12 :: B :: Rs) Q) : TL P n F0 w0 ops (i :: l) e (R0 :: R1 :: R2 :: R3 :: R4 :: R5 :: R6 :: R7 :: R8 :: R9 :: R10 :: R11 :: R12 :: A :: Rs) Q := by
  refine TL.ef ho hw (Ef.call 13 hc rfl hs hr hd) ?_
  rintro _ _ ⟨_, _, _, ⟨rfl, rfl, rfl⟩, rfl, rfl⟩
  exact h
theorem TD.c13 {R0 R1 R2 R3 R4 R5 R6 R7 R8 R9 R10 R11 R12 : Res} {l : Sch} (ho : ops[i]? = some ⟨some d, .call cl, ty, pos, af, gd⟩) (hw : Wd n ops e ⟨some d, .call cl, ty, pos, af, gd⟩ true) (hc : CT P n e ⟨some d, .call cl, ty, pos, af, gd⟩ f vs) (hs : SpecX P f vs.toArray Y A (fun v' A' N => v' = v ∧ A' = B ∧ N = [])) (hr : ∀ w, St F0 w0 (R0 :: R1 :: R2 :: R3 :: R4 :: R5 :: R6 :: R7 :: R8 :: R9 :: R10 :: R11 :: R12 :: A :: Rs) w → Src F0 w0 (R0 :: R1 :: R2 :: R3 :: R4 :: R5 :: R6 :: R7 :: R8 :: R9 :: R10 :: R11 :: R12 :: A :: Rs) w 13 Y) (hd : Nat.blt d n = true) (is : List Nat) (hf : Sel (R0 :: R1 :: R2 :: R3 :: R4 :: R5 :: R6 :: R7 :: R8 :: R9 :: R10 :: R11 :: R12 :: B :: Rs) is Rf) (h : TD P n F0 w0 ops l Rf ((d, v) :: e) (R0 :: R1 :: R2 :: R3 :: R4 :: R5 :: R6 :: R7 :: R8 :: R9 :: R10 :: R11 :: R12 :: B :: Rs) Q) : TD P n F0 w0 ops (.e i l) Rf e (R0 :: R1 :: R2 :: R3 :: R4 :: R5 :: R6 :: R7 :: R8 :: R9 :: R10 :: R11 :: R12 :: A :: Rs) Q := by
  refine TD.ef ho hw (Ef.call 13 hc rfl hs hr hd) ?_
  rintro _ _ ⟨_, _, _, ⟨rfl, rfl, rfl⟩, rfl, rfl⟩
  exact ⟨Rf, fun w hw => hw.sel is (hf), fun _ h => h, h⟩
theorem TL.cge  (ho : ops[i]? = some ⟨some d, .call cl, ty, pos, af, gd⟩) (hw : Wd n ops e ⟨some d, .call cl, ty, pos, af, gd⟩ true) (hc : CT P n e ⟨some d, .call cl, ty, pos, af, gd⟩ f vs) (hs : SpecX P f vs.toArray Y EmpR R) (hr : ∀ w, St F0 w0 Rs w → Y.reads w (fun _ => False)) (hd : Nat.blt d n = true) (h : ∀ v A' N, R v A' N → TL P n F0 w0 ops l ((d, v) :: e) (N ++ Rs) Q) : TL P n F0 w0 ops (i :: l) e Rs Q := by
  refine TL.ef ho hw (Ef.callE hc hs hr hd) ?_
  rintro _ _ ⟨v, A', N, hR, rfl, rfl⟩
  exact h v A' N hR
theorem TD.cge  {l : Sch} (ho : ops[i]? = some ⟨some d, .call cl, ty, pos, af, gd⟩) (hw : Wd n ops e ⟨some d, .call cl, ty, pos, af, gd⟩ true) (hc : CT P n e ⟨some d, .call cl, ty, pos, af, gd⟩ f vs) (hs : SpecX P f vs.toArray Y EmpR R) (hr : ∀ w, St F0 w0 Rs w → Y.reads w (fun _ => False)) (hd : Nat.blt d n = true) (is : List Nat) (hf : ∀ v A' N, R v A' N → Sel (N ++ Rs) is Rf) (h : ∀ v A' N, R v A' N → TD P n F0 w0 ops l Rf ((d, v) :: e) (N ++ Rs) Q) : TD P n F0 w0 ops (.e i l) Rf e Rs Q := by
  refine TD.ef ho hw (Ef.callE hc hs hr hd) ?_
  rintro _ _ ⟨v, A', N, hR, rfl, rfl⟩
  exact ⟨Rf, fun w hw => hw.sel is (hf v A' N hR), fun _ h => h, h v A' N hR⟩
theorem TL.ce  (ho : ops[i]? = some ⟨some d, .call cl, ty, pos, af, gd⟩) (hw : Wd n ops e ⟨some d, .call cl, ty, pos, af, gd⟩ true) (hc : CT P n e ⟨some d, .call cl, ty, pos, af, gd⟩ f vs) (hs : SpecX P f vs.toArray Y EmpR (fun v' A' N => v' = v ∧ A' = EmpR ∧ N = [])) (hr : ∀ w, St F0 w0 Rs w → Y.reads w (fun _ => False)) (hd : Nat.blt d n = true) (h : TL P n F0 w0 ops l ((d, v) :: e) Rs Q) : TL P n F0 w0 ops (i :: l) e Rs Q := by
  refine TL.ef ho hw (Ef.callE hc hs hr hd) ?_
  rintro _ _ ⟨_, _, _, ⟨rfl, rfl, rfl⟩, rfl, rfl⟩
  exact h
theorem TD.ce  {l : Sch} (ho : ops[i]? = some ⟨some d, .call cl, ty, pos, af, gd⟩) (hw : Wd n ops e ⟨some d, .call cl, ty, pos, af, gd⟩ true) (hc : CT P n e ⟨some d, .call cl, ty, pos, af, gd⟩ f vs) (hs : SpecX P f vs.toArray Y EmpR (fun v' A' N => v' = v ∧ A' = EmpR ∧ N = [])) (hr : ∀ w, St F0 w0 Rs w → Y.reads w (fun _ => False)) (hd : Nat.blt d n = true) (is : List Nat) (hf : Sel Rs is Rf) (h : TD P n F0 w0 ops l Rf ((d, v) :: e) Rs Q) : TD P n F0 w0 ops (.e i l) Rf e Rs Q := by
  refine TD.ef ho hw (Ef.callE hc hs hr hd) ?_
  rintro _ _ ⟨_, _, _, ⟨rfl, rfl, rfl⟩, rfl, rfl⟩
  exact ⟨Rf, fun w hw => hw.sel is (hf), fun _ h => h, h⟩
end
end Go.Proofs.YtlhgogjcaegehaaGreat.Sl
namespace Go.Proofs.YtlhgogjcaegehaaGreat.Sl
open Go.RowKit
set_option linter.unusedVariables false
set_option linter.unusedSimpArgs false
theorem bn_t {b : Bool} (h : b = false) : (!b) = true := by rw [h]; rfl
theorem bn_f {b : Bool} (h : b = true) : (!b) = false := by rw [h]; rfl
theorem ifT {α : Type} {c : Prop} [Decidable c] {x y z : α} (hc : c) (h : (if c then x else y) = z) : x = z := by rwa [if_pos hc] at h
theorem ifF {α : Type} {c : Prop} [Decidable c] {x y z : α} (hc : ¬ c) (h : (if c then x else y) = z) : y = z := by rwa [if_neg hc] at h
theorem sl_drop {α : Type} (l : List α) (p : Nat) : (l.drop p).take (l.length - p) = l.drop p := by rw [← List.length_drop, List.take_length]
section
variable {P : Program} {n : Nat} {F0 : Nat → Prop} {w0 : World} {e : Env} {Rs Rf : List Res} {Q : Exit → Act → World → Prop} {ops : Array Oper} {i d : Nat} {ty t t' el : TypeId} {pos : String} {af : Array Edge} {gd : Option (Nat × Bool)} {v v' : Value} {x y : Operand} {l : List Nat} {lo : Sch} {c : Code} {S : World → Prop}
theorem Ex.bEq {d : Option Tmp} {a b p q : Bool} (hx : e.ev x = some (.bool a)) (ha : a = p) (hy : e.ev y = some (.bool b)) (hb : b = q) (hu : ∀ w, (underlying t).run P w = .ok .bool w) : Ex P n e S ⟨d, .binOp .eql t x y t', ty, pos, af, gd⟩ (.bool (p == q)) := by
  intro A w h _
  subst ha hb
  have h1 : ∀ k, (Op.equalIn (k + 1) t (.bool a) (.bool b)).run P w = .ok (a == b) w := by
    intro k
    simp only [Op.equalIn, Sem.run_bind, hu, Result.andThen_ok]
    rfl
  have h2 : (Op.equal t (.bool a) (.bool b)).run P w = .ok (a == b) w := h1 9999
  have h4 : (binOp .eql t (.bool a) (.bool b)).run P w = .ok (.bool (a == b)) w := by
    simp only [binOp, Sem.run_bind, h2, Result.andThen_ok, Sem.run_pure]
  simp only [execOp, h.ev hx, h.ev hy, eqGuard]
  simp [h4]
theorem Ex.bNe {d : Option Tmp} {a b p q : Bool} (hx : e.ev x = some (.bool a)) (ha : a = p) (hy : e.ev y = some (.bool b)) (hb : b = q) (hu : ∀ w, (underlying t).run P w = .ok .bool w) : Ex P n e S ⟨d, .binOp .neq t x y t', ty, pos, af, gd⟩ (.bool (!(p == q))) := by
  intro A w h _
  subst ha hb
  have h1 : ∀ k, (Op.equalIn (k + 1) t (.bool a) (.bool b)).run P w = .ok (a == b) w := by
    intro k
    simp only [Op.equalIn, Sem.run_bind, hu, Result.andThen_ok]
    rfl
  have h2 : (Op.equal t (.bool a) (.bool b)).run P w = .ok (a == b) w := h1 9999
  have h4 : (binOp .neq t (.bool a) (.bool b)).run P w = .ok (.bool (!(a == b))) w := by
    simp only [binOp, Sem.run_bind, h2, Result.andThen_ok, Sem.run_pure]
  simp only [execOp, h.ev hx, h.ev hy, eqGuard]
  simp [h4]
theorem TL.sel (is : List Nat) {Rs' : List Res} (hr : Sel Rs is Rs') (h : TL P n F0 w0 ops l e Rs' Q) : TL P n F0 w0 ops l e Rs Q := fun a w ha hs => h a w ha (hs.sel is hr)
theorem TD.sel (is : List Nat) {Rs' : List Res} (hr : Sel Rs is Rs') (h : TD P n F0 w0 ops lo Rf e Rs' Q) : TD P n F0 w0 ops lo Rf e Rs Q := fun a w ha hs => h a w ha (hs.sel is hr)
theorem T.sel (is : List Nat) {Rs' : List Res} (hr : Sel Rs is Rs') (h : T P n F0 w0 e Rs' c Q) : T P n F0 w0 e Rs c Q := fun a w ha hs => h a w ha (hs.sel is hr)
theorem X.sel {z : Exit} (is : List Nat) {Rs' : List Res} (hr : Sel Rs is Rs') (h : X n F0 w0 e Rs' z Q) : X n F0 w0 e Rs z Q := fun a w ha hs => h a w ha (hs.sel is hr)
theorem Has.as {a : Act} (ha : Has n e a) (hv : e.get d = some v) (h : v = v') : Has n ((d, v') :: e) a := ha.sub (fun t u hu => by
  simp only [Env.get] at hu
  cases hb : Nat.beq d t with
  | true =>
    rw [hb] at hu
    obtain rfl := Nat.eq_of_beq_eq_true hb
    injection hu with hu
    rw [hv, h, hu]
  | false => rw [hb] at hu; exact hu)
theorem TL.as (hv : e.get d = some v) (h : v = v') (k : TL P n F0 w0 ops l ((d, v') :: e) Rs Q) : TL P n F0 w0 ops l e Rs Q := fun a w ha hs => k a w (ha.as hv h) hs
theorem TD.as (hv : e.get d = some v) (h : v = v') (k : TD P n F0 w0 ops lo Rf ((d, v') :: e) Rs Q) : TD P n F0 w0 ops lo Rf e Rs Q := fun a w ha hs => k a w (ha.as hv h) hs
theorem TL.nilrow {α : Type} (T' : TypeId) (size : Nat) (E : Rd α) (h : TL P n F0 w0 ops l e (OwnR T' size E (.slice none 0 0) [] :: Rs) Q) : TL P n F0 w0 ops l e Rs Q := fun a w ha hs => h a w ha (OwnR.nil T' size E hs)
theorem TD.nilrow {α : Type} (T' : TypeId) (size : Nat) (E : Rd α) (h : TD P n F0 w0 ops lo Rf e (OwnR T' size E (.slice none 0 0) [] :: Rs) Q) : TD P n F0 w0 ops lo Rf e Rs Q := fun a w ha hs => h a w ha (OwnR.nil T' size E hs)
theorem X.nilrd {α : Type} {z : Exit} (size : Nat) (E : Rd α) (h : X n F0 w0 e (RdR (sliceRd size E) [.slice none 0 0] [] :: Rs) z Q) : X n F0 w0 e Rs z Q := fun a w ha hs => h a w ha (RdR.nil size E hs)
theorem X.shut {α : Type} {z : Exit} {E : Rd α} {size : Nat} {T : TypeId} {u : Value} {xs : List α} (hp : 0 < size) (i : Nat) (hi : Rs[i]? = some (OwnR T size E u xs)) (h : X n F0 w0 e (Rs.set i (RdR (sliceRd size E) [u] xs)) z Q) : X n F0 w0 e Rs z Q := fun a w ha hs => h a w ha (OwnR.shut hp i hs hi)
theorem OutR.of_blk {b : Nat} {w : World} {G : Nat → Prop} (h : (BlkR b 44 #[.slice none 0 0, .int .i64 0]).P w G) : (OutR b ([], 0)).P w G := by
  obtain ⟨h1, h2⟩ := h
  exact ⟨_, h1, World.ownsRow_nil _ _ _ _, fun k => by simp [h2 k, Value.ownBlock]⟩
theorem TL.newout {zv : Value} (ho : ops[i]? = some ⟨some d, .alloc t, ty, pos, af, gd⟩) (hw : Wd n ops e ⟨some d, .alloc t, ty, pos, af, gd⟩ true) (hz : ∀ w, (zeroValue t).run P w = .ok zv w) (hd : Nat.blt d n = true)
    (h : ∀ b, TL P n F0 w0 ops l ((d, .pointer (some ⟨b, 0, none⟩)) :: e) (OutR b ([], 0) :: Rs) Q) (ht : t = 44 := by rfl) (hzv : zv = .agg #[.slice none 0 0, .int .i64 0] := by rfl) : TL P n F0 w0 ops (i :: l) e Rs Q := by
  refine TL.alloc ho hw hz hd (fun b => ?_)
  intro a w ha hs
  subst ht hzv
  exact h b a w ha (hs.weaken 0 rfl (fun G hG => OutR.of_blk hG))
theorem TD.newout {zv : Value} (ho : ops[i]? = some ⟨some d, .alloc t, ty, pos, af, gd⟩) (hw : Wd n ops e ⟨some d, .alloc t, ty, pos, af, gd⟩ true) (hz : ∀ w, (zeroValue t).run P w = .ok zv w) (hd : Nat.blt d n = true) (is : List Nat) (hf : ∀ b, Sel (OutR b ([], 0) :: Rs) is Rf)
    (h : ∀ b, TD P n F0 w0 ops lo Rf ((d, .pointer (some ⟨b, 0, none⟩)) :: e) (OutR b ([], 0) :: Rs) Q) (ht : t = 44 := by rfl) (hzv : zv = .agg #[.slice none 0 0, .int .i64 0] := by rfl) : TD P n F0 w0 ops (.e i lo) Rf e Rs Q := by
  refine TD.ef ho hw (Ef.alloc hz hd) ?_
  rintro _ _ ⟨b, rfl, rfl⟩
  subst ht hzv
  have key : ∀ w, St F0 w0 (BlkR b 44 #[.slice none 0 0, .int .i64 0] :: Rs) w → St F0 w0 (OutR b ([], 0) :: Rs) w := fun w hs => hs.weaken 0 rfl (fun G hG => OutR.of_blk hG)
  exact ⟨Rf, fun w hs => (key w hs).sel is (hf b), fun _ h => h, fun a w ha hs => h b a w ha (key w hs)⟩
section
variable {α : Type} {E : Rd α} {sl : Operand} {T z bytes g ii jj : Nat} {zv : Value} {A : Option Addr} {cp : Nat} {Rs' : List Res} {B : Res}
theorem TL.app1 (ii : Nat) {us : List Value} {u : α} {l : List α} {lr : List Nat} (ho : ops[i]? = some ⟨some d, .call ⟨.builtin .append, #[sl, x], #[t, t]⟩, ty, pos, af, gd⟩) (hw : Wd n ops e ⟨some d, .call ⟨.builtin .append, #[sl, x], #[t, t]⟩, ty, pos, af, gd⟩ true)
    (hu : P.underlying t = some (.slice T)) (hinfo : (P.info? T).map (fun i => (i.zero, i.size, i.bytes)) = some (some zv, z, bytes)) (hzv : zv.cells.size = z) (hp : 0 < z)
    (hs : e.ev sl = some (.slice A l.length cp)) (hx : e.ev x = some (.slice (some ⟨g, 0, none⟩) 1 1)) (hR : Rs = BlkR g T us.toArray :: Rs') (hi : Rs'[ii]? = some (OwnR T z E (.slice A l.length cp) l)) (hl : us.length = z) (hq : us.all (·.oneCell') = true) (hE : ∀ w S, E.P w S us u) (hb : (l.length + 1) * bytes ≤ 140737488355328) (hm : l.length + 1 ≤ 140737488355328) (hd : Nat.blt d n = true)
    (h : ∀ A' c', TL P n F0 w0 ops lr ((d, .slice A' (l ++ [u]).length c') :: e) (Rs'.set ii (OwnR T z E (.slice A' (l ++ [u]).length c') (l ++ [u]))) Q) : TL P n F0 w0 ops (i :: lr) e Rs Q := by
  refine TL.ef ho hw (Ef.app1 ii hu hinfo hzv hp hs hx hR hi hl hq hE hb hm hd) ?_
  rintro _ _ ⟨A', c', rfl, rfl⟩
  exact h A' c'
theorem TL.app2 (ii jj : Nat) {us : List Value} {u : α} {l : List α} {lr : List Nat} (ho : ops[i]? = some ⟨some d, .call ⟨.builtin .append, #[sl, x], #[t, t]⟩, ty, pos, af, gd⟩) (hw : Wd n ops e ⟨some d, .call ⟨.builtin .append, #[sl, x], #[t, t]⟩, ty, pos, af, gd⟩ true)
    (hu : P.underlying t = some (.slice T)) (hinfo : (P.info? T).map (fun i => (i.zero, i.size, i.bytes)) = some (some zv, z, bytes)) (hzv : zv.cells.size = z) (hp : 0 < z)
    (hs : e.ev sl = some (.slice A l.length cp)) (hx : e.ev x = some (.slice (some ⟨g, 0, none⟩) 1 1)) (hR : Rs = BlkR g T us.toArray :: Rs') (hi : Rs'[ii]? = some (OwnR T z E (.slice A l.length cp) l)) (hj : (Rs'.eraseIdx ii)[jj]? = some B) (hl : us.length = z) (hq : us.all (·.oneCell') = true) (hE : ∀ w G, B.P w G → E.P w G us u) (hb : (l.length + 1) * bytes ≤ 140737488355328) (hm : l.length + 1 ≤ 140737488355328) (hd : Nat.blt d n = true)
    (h : ∀ A' c', TL P n F0 w0 ops lr ((d, .slice A' (l ++ [u]).length c') :: e) (OwnR T z E (.slice A' (l ++ [u]).length c') (l ++ [u]) :: (Rs'.eraseIdx ii).eraseIdx jj) Q) : TL P n F0 w0 ops (i :: lr) e Rs Q := by
  refine TL.ef ho hw (Ef.app2 ii jj hu hinfo hzv hp hs hx hR hi hj hl hq hE hb hm hd) ?_
  rintro _ _ ⟨A', c', rfl, rfl⟩
  exact h A' c'
theorem TD.app1 (ii : Nat) {us : List Value} {u : α} {l : List α} {lr : Sch} (ho : ops[i]? = some ⟨some d, .call ⟨.builtin .append, #[sl, x], #[t, t]⟩, ty, pos, af, gd⟩) (hw : Wd n ops e ⟨some d, .call ⟨.builtin .append, #[sl, x], #[t, t]⟩, ty, pos, af, gd⟩ true)
    (hu : P.underlying t = some (.slice T)) (hinfo : (P.info? T).map (fun i => (i.zero, i.size, i.bytes)) = some (some zv, z, bytes)) (hzv : zv.cells.size = z) (hp : 0 < z)
    (hs : e.ev sl = some (.slice A l.length cp)) (hx : e.ev x = some (.slice (some ⟨g, 0, none⟩) 1 1)) (hR : Rs = BlkR g T us.toArray :: Rs') (hi : Rs'[ii]? = some (OwnR T z E (.slice A l.length cp) l)) (hl : us.length = z) (hq : us.all (·.oneCell') = true) (hE : ∀ w S, E.P w S us u) (hb : (l.length + 1) * bytes ≤ 140737488355328) (hm : l.length + 1 ≤ 140737488355328) (hd : Nat.blt d n = true)
    (is : List Nat) (hf : ∀ A' c', Sel (Rs'.set ii (OwnR T z E (.slice A' (l ++ [u]).length c') (l ++ [u]))) is Rf)
    (h : ∀ A' c', TD P n F0 w0 ops lr Rf ((d, .slice A' (l ++ [u]).length c') :: e) (Rs'.set ii (OwnR T z E (.slice A' (l ++ [u]).length c') (l ++ [u]))) Q) : TD P n F0 w0 ops (.e i lr) Rf e Rs Q := by
  refine TD.ef ho hw (Ef.app1 ii hu hinfo hzv hp hs hx hR hi hl hq hE hb hm hd) ?_
  rintro _ _ ⟨A', c', rfl, rfl⟩
  exact ⟨Rf, fun w hw => hw.sel is (hf A' c'), fun _ h => h, h A' c'⟩
theorem TD.app2 (ii jj : Nat) {us : List Value} {u : α} {l : List α} {lr : Sch} (ho : ops[i]? = some ⟨some d, .call ⟨.builtin .append, #[sl, x], #[t, t]⟩, ty, pos, af, gd⟩) (hw : Wd n ops e ⟨some d, .call ⟨.builtin .append, #[sl, x], #[t, t]⟩, ty, pos, af, gd⟩ true)
    (hu : P.underlying t = some (.slice T)) (hinfo : (P.info? T).map (fun i => (i.zero, i.size, i.bytes)) = some (some zv, z, bytes)) (hzv : zv.cells.size = z) (hp : 0 < z)
    (hs : e.ev sl = some (.slice A l.length cp)) (hx : e.ev x = some (.slice (some ⟨g, 0, none⟩) 1 1)) (hR : Rs = BlkR g T us.toArray :: Rs') (hi : Rs'[ii]? = some (OwnR T z E (.slice A l.length cp) l)) (hj : (Rs'.eraseIdx ii)[jj]? = some B) (hl : us.length = z) (hq : us.all (·.oneCell') = true) (hE : ∀ w G, B.P w G → E.P w G us u) (hb : (l.length + 1) * bytes ≤ 140737488355328) (hm : l.length + 1 ≤ 140737488355328) (hd : Nat.blt d n = true)
    (is : List Nat) (hf : ∀ A' c', Sel (OwnR T z E (.slice A' (l ++ [u]).length c') (l ++ [u]) :: (Rs'.eraseIdx ii).eraseIdx jj) is Rf)
    (h : ∀ A' c', TD P n F0 w0 ops lr Rf ((d, .slice A' (l ++ [u]).length c') :: e) (OwnR T z E (.slice A' (l ++ [u]).length c') (l ++ [u]) :: (Rs'.eraseIdx ii).eraseIdx jj) Q) : TD P n F0 w0 ops (.e i lr) Rf e Rs Q := by
  refine TD.ef ho hw (Ef.app2 ii jj hu hinfo hzv hp hs hx hR hi hj hl hq hE hb hm hd) ?_
  rintro _ _ ⟨A', c', rfl, rfl⟩
  exact ⟨Rf, fun w hw => hw.sel is (hf A' c'), fun _ h => h, h A' c'⟩
end
variable (P n F0 w0) in
def RV (e : Env) (Rs : List Res) (r : ResultVar) (v : Value) : Prop := ∀ a w, Has n e a → St F0 w0 Rs w → (resv a.tmps r).run P w = .ok v w
theorem RV.tm {k : Nat} (hv : e.get k = some v) : RV P n F0 w0 e Rs (.tmp k) v := by
  intro a w ha hs
  have h2 := ha.at_ k v hv
  simp [resv, h2]
theorem RV.cS (i : Nat) {k b T : Nat} {us : Array Value} {z : Nat} (hk : e.get k = some (.pointer (some ⟨b, 0, none⟩))) (ha : ∀ w, (isAgg t).run P w = .ok true w) (hz : ∀ w, (sizeOf t).run P w = .ok z w) (hi : Rs[i]? = some (BlkR b T us)) (hl : us.size = z) : RV P n F0 w0 e Rs (.cell k t) (.agg us) := by
  intro a w h hs
  have h2 := h.at_ k _ hk
  have hb := hs.blk i hi
  have h3 := run_loadVarS (P := P) (t := t) (w := w) (ad := ⟨b, 0, none⟩) (cs := us.toList) ha (by intro w; rw [hz]; simp [hl]) (fun j u hj => by
    have e1 : (⟨b, 0, none⟩ : Addr).add j = ⟨b, j, none⟩ := by unfold Addr.add; split <;> simp_all
    rw [e1, heap_at hb]
    simpa using hj)
  simp [resv, h2, asAddr, h3]
theorem RV.c1 (i : Nat) {k b T : Nat} {us : Array Value} (hk : e.get k = some (.pointer (some ⟨b, 0, none⟩))) (ha : ∀ w, (isAgg t).run P w = .ok false w) (hi : Rs[i]? = some (BlkR b T us)) (hv : us[0]? = some v) : RV P n F0 w0 e Rs (.cell k t) v := by
  intro a w h hs
  have h2 := h.at_ k _ hk
  have hb := hs.blk i hi
  have h3 := run_loadVar1 (P := P) (t := t) (w := w) (ad := ⟨b, 0, none⟩) ha ((heap_at hb 0).trans hv)
  simp [resv, h2, asAddr, h3]
section
variable {f : Func} {R : Value → Res → List Res → Prop} {A' : Res} {Ns : List Res} {r1 r2 r3 r4 : ResultVar} {v1 v2 v3 v4 : Value} {z : Exit}
theorem X.fin (hR : R v A' Ns) (is : List Nat) (hr : Sel Rs is (A' :: Ns)) (hx : z = .ret ∨ z = .normal) (h : ∀ a w, Has n e a → St F0 w0 Rs w → (results f a.tmps).run P w = .ok v w) : X n F0 w0 e Rs z (bodyPost P f (Post R F0 w0)) := by
  intro a w ha hs
  have h : bodyPost P f (Post R F0 w0) .ret a w := ⟨ha.df, v, h a w ha hs, v, A', Ns, rfl, hR, hs.sel is hr⟩
  rcases hx with rfl | rfl <;> exact h
theorem X.done1 (is : List Nat) (hf : f.results = #[r1]) (h1 : RV P n F0 w0 e Rs r1 v1) (hR : R v1 A' Ns) (hr : Sel Rs is (A' :: Ns)) (hx : z = .ret ∨ z = .normal) : X n F0 w0 e Rs z (bodyPost P f (Post R F0 w0)) :=
  X.fin hR is hr hx (fun a w ha hs => by rw [results_eq, hf]; simp [h1 a w ha hs])
theorem X.done2 (is : List Nat) (hf : f.results = #[r1, r2]) (h1 : RV P n F0 w0 e Rs r1 v1) (h2 : RV P n F0 w0 e Rs r2 v2) (hR : R (.tuple #[v1, v2]) A' Ns) (hr : Sel Rs is (A' :: Ns)) (hx : z = .ret ∨ z = .normal) : X n F0 w0 e Rs z (bodyPost P f (Post R F0 w0)) :=
  X.fin hR is hr hx (fun a w ha hs => by rw [results_eq, hf]; simp [h1 a w ha hs, h2 a w ha hs])
theorem X.done3 (is : List Nat) (hf : f.results = #[r1, r2, r3]) (h1 : RV P n F0 w0 e Rs r1 v1) (h2 : RV P n F0 w0 e Rs r2 v2) (h3 : RV P n F0 w0 e Rs r3 v3) (hR : R (.tuple #[v1, v2, v3]) A' Ns) (hr : Sel Rs is (A' :: Ns)) (hx : z = .ret ∨ z = .normal) : X n F0 w0 e Rs z (bodyPost P f (Post R F0 w0)) :=
  X.fin hR is hr hx (fun a w ha hs => by rw [results_eq, hf]; simp [h1 a w ha hs, h2 a w ha hs, h3 a w ha hs])
end
theorem BOK.mk {zv : Value} {fs : Array Field} {pl : List (Nat × Nat)} {zs : Array Value} (hz : ∀ w, (zeroValue t).run P w = .ok zv w) (hu : ∀ w, (underlying t).run P w = .ok (.struct fs) w) (hp : ∀ w, (fs.mapM (fun f => do pure (f.offset, ← sizeOf f.type)) : Sem (Array (Nat × Nat))).run P w = .ok pl.toArray w) (hzs : zv.cells = zs := by rfl) : BOK P t zs pl := by
  intro parts cells w h
  subst hzs
  simp only [Instr.build, Sem.run_bind, hz, Result.andThen_ok, hu, hp]
  have h2 : (fun (i : Nat) => (pl.toArray)[i]?) = (fun (i : Nat) => pl[i]?) := by funext i; simp
  simp [h2, h]
theorem SOK.mk {T m z : Nat} {zv : Value} {zs : Array Value} (hu : ∀ w, (underlying t).run P w = .ok (.slice T) w) (hz : ∀ w, (sizeOf T).run P w = .ok z w) (hzv : ∀ w, (zeroValue T).run P w = .ok zv w) (hm : 0 < m * z ∧ m * z ≤ 16777216) (hzs : (Array.range (m * z)).map (fun i => zv.cells[i % zv.cells.size]!) = zs) : SOK P t T m z zs := by
  intro parts cells w h
  have h1 : ¬ (m * z > 2 ^ 24) := by omega
  have h2 : ¬ (m * z = 0) := by omega
  subst hzs
  simp only [Instr.buildSlice, Sem.run_bind, hu, hz, Result.andThen_ok, h1, if_false, h2, hzv, Sem.run_pure]
  simp [h, newRow]
end
end Go.Proofs.YtlhgogjcaegehaaGreat.Sl
namespace Go.Proofs.YtlhgogjcaegehaaGreat.Sl
open Go.RowKit
set_option linter.unusedVariables false
set_option linter.unusedSimpArgs false
def eqV : Value → Value → Option Bool
  | .int k a, .int k' b => if k = k' then some (decide (a = b)) else none
  | .bool a, .bool b => some (decide (a = b))
  | .string a, .string b => some (decide (a.toList = b.toList))
  | _, _ => none
def eqL : List Value → List Value → Option Bool
  | [], [] => some true
  | x :: xs, y :: ys => match eqV x y with
    | some true => eqL xs ys
    | some false => some false
    | none => none
  | _, _ => none
theorem eqL_append : ∀ {xs ys xs' ys' : List Value} {b : Bool}, xs.length = ys.length → eqL (xs ++ xs') (ys ++ ys') = some b → ∃ c, eqL xs ys = some c ∧ (if c then eqL xs' ys' else some false) = some b
  | [], [], xs', ys', b, _, h => ⟨true, rfl, by simpa using h⟩
  | x :: xs, y :: ys, xs', ys', b, hl, h => by
    simp only [List.cons_append, eqL] at h ⊢
    cases hv : eqV x y with
    | none => rw [hv] at h; cases h
    | some c =>
      cases c with
      | true =>
        rw [hv] at h
        exact eqL_append (by simpa using hl) h
      | false =>
        rw [hv] at h
        exact ⟨false, rfl, by simpa using h⟩
def okD : TypeDesc → Value → Bool
  | .int _, .int _ _ => true
  | .bool, .bool _ => true
  | .string, .string _ => true
  | _, _ => false
def oksD : List TypeDesc → List Value → Bool
  | [], [] => true
  | d :: ds, v :: vs => okD d v && oksD ds vs
  | _, _ => false
theorem oksD_length : ∀ {ds : List TypeDesc} {vs : List Value}, oksD ds vs = true → vs.length = ds.length
  | [], [], _ => rfl
  | d :: ds, v :: vs, h => by
    simp only [oksD, Bool.and_eq_true] at h
    simp [oksD_length h.2]
theorem oksD_app : ∀ {ds ds' : List TypeDesc} {vs : List Value}, oksD (ds ++ ds') vs = true → oksD ds (vs.take ds.length) = true ∧ oksD ds' (vs.drop ds.length) = true
  | [], ds', vs, h => by simpa [oksD] using h
  | d :: ds, ds', [], h => by simp [oksD] at h
  | d :: ds, ds', v :: vs, h => by
    simp only [List.cons_append, oksD, Bool.and_eq_true] at h
    have := oksD_app h.2
    simp [oksD, h.1, this]
def mkV (agg : Bool) (xs : List Value) : Value := if agg then .agg xs.toArray else xs.headD undef
structure Flat (P : Program) (k : Nat) (t : TypeId) (ds : List TypeDesc) (agg : Bool) : Prop where
  ia : ∀ w, (isAgg t).run P w = .ok agg w
  sz : ∀ w, (sizeOf t).run P w = .ok ds.length w
  one : agg = false → ds.length = 1
  eq : ∀ (d : Nat) (xs ys : List Value) (b : Bool) (w : World), k ≤ d → oksD ds xs = true → oksD ds ys = true → eqL xs ys = some b → (Op.equalIn d t (mkV agg xs) (mkV agg ys)).run P w = .ok b w
section
variable {P : Program} {t : TypeId}
def FlatFs (P : Program) (k : Nat) : Nat → List Field → List TypeDesc → Prop
  | _, [], ds => ds = []
  | off, f :: fs, ds => f.name ≠ "_" ∧ f.offset = off ∧ ∃ d1 d2 agg, ds = d1 ++ d2 ∧ Flat P k f.type d1 agg ∧ FlatFs P k (off + d1.length) fs d2
theorem part_run {ty : TypeId} {ds : List TypeDesc} {agg : Bool} {k : Nat} (hf : Flat P k ty ds agg) (xs : List Value) (off : Nat) (w : World) (hl : off + ds.length ≤ xs.length) : (part ty xs.toArray off).run P w = .ok (mkV agg ((xs.drop off).take ds.length)) w := by
  cases agg with
  | true =>
    have h1 := hf.ia w
    simp only [part, Sem.run_bind, h1, Result.andThen_ok, if_true, hf.sz w, Sem.run_pure, mkV]
    congr 2
    apply Array.ext'
    simp [List.extract_eq_take_drop]
  | false =>
    have h1 := hf.ia w
    have h2 := hf.one rfl
    have h3 : off < xs.length := by omega
    have h4 : ((xs.drop off).take 1).headD undef = xs[off] := by
      rw [List.drop_eq_getElem_cons h3]
      rfl
    simp only [part, Sem.run_bind, h1, Result.andThen_ok, Bool.false_eq_true, if_false, mkV, h2, h4]
    simp [h3]
theorem fields_run {k : Nat} : ∀ {fs : List Field} {ds : List TypeDesc} {off : Nat}, FlatFs P k off fs ds → ∀ (d : Nat) (xs ys : List Value) (b : Bool) (w : World), k ≤ d → xs.length = off + ds.length → ys.length = off + ds.length →
    oksD ds (xs.drop off) = true → oksD ds (ys.drop off) = true → eqL (xs.drop off) (ys.drop off) = some b → (Op.eqFields d xs.toArray ys.toArray fs).run P w = .ok b w
  | [], ds, off, hf, d, xs, ys, b, w, hd, hx, hy, ox, oy, h => by
    obtain rfl : ds = [] := hf
    rw [List.drop_of_length_le (by simp at hx; omega), List.drop_of_length_le (by simp at hy; omega)] at h
    injection h with h
    subst h
    rfl
  | f :: fs, ds, off, hf, d, xs, ys, b, w, hd, hx, hy, ox, oy, h => by
    obtain ⟨hn, ho, d1, d2, agg, rfl, hF, hr⟩ := hf
    rw [List.length_append] at hx hy
    have ox' := oksD_app ox
    have oy' := oksD_app oy
    have e1 : xs.drop off = (xs.drop off).take d1.length ++ xs.drop (off + d1.length) := by rw [← List.drop_drop, List.take_append_drop]
    have e2 : ys.drop off = (ys.drop off).take d1.length ++ ys.drop (off + d1.length) := by rw [← List.drop_drop, List.take_append_drop]
    rw [e1, e2] at h
    obtain ⟨c, h1, h2⟩ := eqL_append (by simp; omega) h
    have p1 := part_run hF xs off w (by omega)
    have p2 := part_run hF ys off w (by omega)
    have q1 := hF.eq d _ _ c w hd ox'.1 oy'.1 h1
    simp only [Op.eqFields, hn, ne_eq, not_false_eq_true, if_true, Sem.run_bind, ho, p1, Result.andThen_ok, p2, q1, Sem.run_ite]
    cases c with
    | false =>
      simp only [Bool.false_eq_true, if_false] at h2
      injection h2 with h2
      subst h2
      rfl
    | true =>
      simp only [if_true] at h2
      have h3 := fields_run hr d xs ys b w hd (by omega) (by omega) (by rw [← List.drop_drop]; exact ox'.2) (by rw [← List.drop_drop]; exact oy'.2) h2
      simpa using h3
theorem Flat.struct {k : Nat} {fs : Array Field} {ds : List TypeDesc} (ia : ∀ w, (isAgg t).run P w = .ok true w) {z : Nat} (sz : ∀ w, (sizeOf t).run P w = .ok z w) (hz : ds.length = z) (hu : P.underlying t = some (.struct fs)) (hp : P.stoodInHeld t = false) (hf : FlatFs P k 0 fs.toList ds) : Flat P (k + 1) t ds true := by
  subst hz
  refine ⟨ia, sz, fun h => (by cases h), ?_⟩
  intro d xs ys b w hd hx hy h
  obtain ⟨d, rfl⟩ : ∃ d', d = d' + 1 := ⟨d - 1, by omega⟩
  have e : P.fieldsOf t = fs := by simp [Program.fieldsOf, hu]
  simp only [mkV, if_true]
  rw [run_equalIn_agg w d t _ _ (by rw [e]; exact hu) hp, e]
  exact fields_run hf d xs ys b w (by omega) (by simpa using oksD_length hx) (by simpa using oksD_length hy) hx hy h
theorem Flat.mono {k k' : Nat} {ds : List TypeDesc} {agg : Bool} (h : Flat P k t ds agg) (hk : k ≤ k') : Flat P k' t ds agg := ⟨h.ia, h.sz, h.one, fun d xs ys b w hd => h.eq d xs ys b w (by omega)⟩
end
section
variable {P : Program} {n : Nat} {F0 : Nat → Prop} {w0 : World} {e : Env} {Rs Rf : List Res} {Q : Exit → Act → World → Prop} {ops : Array Oper} {d : Option Tmp} {i : Nat} {ty t t' el : TypeId} {pos : String} {af : Array Edge} {gd : Option (Nat × Bool)} {v v' : Value} {x y : Operand} {l : List Nat} {lo : Sch} {c : Code} {S : World → Prop}
theorem Wd.gu {op : Op} {j k : Nat} {want : Bool} (hj : (ops[j]?).bind (·.dst) = some k) (hv : e.get k = some undef) : Wd n ops e ⟨d, op, ty, pos, af, some (j, want)⟩ false := by
  intro a h
  simp only [Region.wanted, yielded, hj, Option.bind_some, h.at_ k _ hv]
  rfl
theorem SOK.mk0 {T : Nat} {z : Nat} (hu : ∀ w, (underlying t).run P w = .ok (.slice T) w) (hz : ∀ w, (sizeOf T).run P w = .ok z w) : SOK P t T 0 z #[] := by
  intro parts cells w h
  have e0 : ∀ f : Nat → Value, Array.map f (Array.range 0) = #[] := by intro f; simp
  simp only [Instr.buildSlice, Sem.run_bind, hu, hz, Result.andThen_ok, Nat.zero_mul, Sem.run_pure]
  simp [e0, h, newRow]
end
section
variable {P : Program} {n : Nat} {F0 : Nat → Prop} {w0 w : World} {e : Env} {Rs Rf : List Res} {Q : Exit → Act → World → Prop} {ops : Array Oper} {d : Option Tmp} {i : Nat} {ty t t' el : TypeId} {pos : String} {af : Array Edge} {gd : Option (Nat × Bool)} {v v' : Value} {y z : Operand} {l : List Nat} {lo : Sch} {c : Code} {S : World → Prop}
variable {α : Type} {E : Rd α} {B : Res} {A : Option Addr} {m cp size k : Nat} {xs : List α} {x : α}
theorem Ex.k1 {q g : Nat} {cs : List Value} (i j : Nat) (hy : e.ev y = some (.pointer (some ⟨g, q + j, none⟩))) (ha : ∀ w, (isAgg t).run P w = .ok false w) (hi : Rs[i]? = some B) (hB : ∀ w G, B.P w G → ∀ j, j < cs.length → w.cell? ⟨g, q + j, none⟩ = cs[j]?) (hv : cs[j]? = some v) : Ex P n e (St F0 w0 Rs) ⟨d, .load t y, ty, pos, af, gd⟩ v :=
  Ex.ld1 hy ha (fun w hw => by
    obtain ⟨G, h1, _⟩ := hw.get i hi
    exact (hB w G h1 j (List.getElem?_eq_some_iff.1 hv).1).trans hv)
end
end Go.Proofs.YtlhgogjcaegehaaGreat.Sl
namespace Go.Proofs.YtlhgogjcaegehaaGreat.Sl
open Go.RowKit
set_option linter.unusedVariables false
set_option linter.unusedSimpArgs false
def RX.blk (b : Nat) (T : TypeId) (cs : Array Value) : RX := ⟨fun w S => w.heap[b]? = some (.cells cs T (0, 0)) ∧ S b, fun h k => ⟨h.1, k _ h.2⟩, fun h k => ⟨(k _ h.2).trans h.1, h.2⟩⟩
section
variable {P : Program} {n : Nat} {F0 : Nat → Prop} {w0 w : World} {e : Env} {Rs Rf : List Res} {Q : Exit → Act → World → Prop} {ops : Array Oper} {d : Option Tmp} {i : Nat} {ty t t' el : TypeId} {pos : String} {af : Array Edge} {gd : Option (Nat × Bool)} {v v' : Value} {x y z : Operand} {l : List Nat} {lo : Sch} {c : Code} {S : World → Prop}
end
end Go.Proofs.YtlhgogjcaegehaaGreat.Sl
namespace Go.Proofs.YtlhgogjcaegehaaGreat.Sl
open Go.RowKit
set_option linter.unusedVariables false
set_option linter.unusedSimpArgs false
section
variable {P : Program} {n : Nat} {F0 : Nat → Prop} {w0 w : World} {e : Env} {Rs : List Res} {d : Option Tmp} {ty t t' el : TypeId} {pos : String} {af : Array Edge} {gd : Option (Nat × Bool)} {x y : Operand} {S : World → Prop}
theorem Ex.mulw {k : IntKind} {p q : Int} (hx : e.ev x = some (.int k p)) (hy : e.ev y = some (.int k q)) : Ex P n e S ⟨d, .binOp .mul t x y t', ty, pos, af, gd⟩ (.int k (k.wrap (p * q))) := by
  intro a w ha _
  simp [execOp, ha.ev hx, ha.ev hy, eqGuard, binOp, Op.intArith]
end
end Go.Proofs.YtlhgogjcaegehaaGreat.Sl
namespace Go.Proofs.YtlhgogjcaegehaaGreat.Sl
open Go.RowKit
set_option linter.unusedVariables false
section
variable {P : Program} {n : Nat} {F0 : Nat → Prop} {w0 : World} {e e' : Env} {Rs Rs' : List Res} {Q : Exit → Act → World → Prop} {c : Code} {d : Nat} {v v' : Value}
def JK (n : Nat) (F0 : Nat → Prop) (w0 : World) (R : Env → List Res → Prop) (a : Act) (w : World) : Prop := ∃ e Rs, R e Rs ∧ Has n e a ∧ St F0 w0 Rs w
theorem T.jq (R : Env → List Res → Prop) (h : T P n F0 w0 e Rs c (Exit.then (JK n F0 w0 R) Q)) (k : ∀ e' Rs', R e' Rs' → X n F0 w0 e' Rs' .normal Q) : T P n F0 w0 e Rs c Q := by
  intro a w ha hs
  refine wp_mono (h a w ha hs) ?_
  intro x a' w' hx
  cases x <;> first | exact hx | skip
  obtain ⟨e', Rs', hR, ha', hs'⟩ := hx
  exact k e' Rs' hR a' w' ha' hs'
theorem X.jq {R : Env → List Res → Prop} (is : List Nat) (hR : R e' Rs') (he : Sub e' e) (hr : Sel Rs is Rs') : X n F0 w0 e Rs .normal (Exit.then (JK n F0 w0 R) Q) := fun a w ha hs => ⟨e', Rs', hR, ha.sub he.get, hs.sel is hr⟩
theorem X.as {z : Exit} (hv : e.get d = some v) (h : v = v') (k : X n F0 w0 ((d, v') :: e) Rs z Q) : X n F0 w0 e Rs z Q := fun a w ha hs => k a w (ha.as hv h) hs
end
end Go.Proofs.YtlhgogjcaegehaaGreat.Sl
namespace Go.Proofs.YtlhgogjcaegehaaGreat.Sl
open Go.RowKit
set_option linter.unusedVariables false
set_option linter.unusedSimpArgs false
section
variable {P : Program} {n : Nat} {F0 : Nat → Prop} {w0 : World} {e : Env} {Rs : List Res} {S : World → Prop} {d : Option Tmp} {ty : TypeId} {pos : String} {af : Array Edge} {gd : Option (Nat × Bool)} {v : Value} {x y ix : Operand} {t t' el : TypeId}
theorem Ex.ixP {g o m z k : Nat} {i : Int} {q : IntKind} (hx : e.ev x = some (.pointer (some ⟨g, o, none⟩))) (hi : e.ev ix = some (.int q i)) (hik : i = (k : Int)) (hu : ∀ w, (underlying t).run P w = .ok (.array m el) w) (hz : ∀ w, (sizeOf el).run P w = .ok z w) (hk : k < m) :
    Ex P n e S ⟨d, .indexAddr t x ix, ty, pos, af, gd⟩ (.pointer (some ⟨g, o + k * z, none⟩)) := by
  intro a w ha _
  subst hik
  have h1 : (0 : Int) ≤ (k : Int) ∧ (k : Int) < (m : Int) := by omega
  have h2 : (⟨g, o, none⟩ : Addr).add (k * z) = ⟨g, o + k * z, none⟩ := by unfold Addr.add; split <;> simp_all
  have h3 : (Instr.indexAt t (.pointer (some ⟨g, o, none⟩)) (.int q (k : Int))).run P w = .ok (.pointer (some ⟨g, o + k * z, none⟩)) w := by
    simp only [Instr.indexAt, asIntOf, Sem.run_bind, Sem.run_pure, Result.andThen_ok, hu, Instr.sureAddr]
    rw [if_pos h1]
    simp only [Sem.run_bind, hz, Result.andThen_ok, Int.toNat_natCast, h2, Sem.run_pure]
  simp [execOp, ha.ev hx, ha.ev hi, h3]
theorem Ex.ixL {g o m c z k : Nat} {i : Int} {q : IntKind} (hx : e.ev x = some (.slice (some ⟨g, o, none⟩) m c)) (hi : e.ev ix = some (.int q i)) (hik : i = (k : Int)) (hu : ∀ w, (underlying t).run P w = .ok (.slice el) w) (hz : ∀ w, (sizeOf el).run P w = .ok z w) (hk : k < m) {r : Nat} (hr : o + k * z = r) :
    Ex P n e S ⟨d, .indexAddr t x ix, ty, pos, af, gd⟩ (.pointer (some ⟨g, r, none⟩)) := by
  subst hr
  exact Ex.ixS hx hi hik hu hz hk
end
end Go.Proofs.YtlhgogjcaegehaaGreat.Sl
namespace Go.Proofs.YtlhgogjcaegehaaGreat.Sl
open Go.RowKit Go.Deep Go.ChangeShapes
set_option linter.unusedVariables false
set_option linter.unusedSimpArgs false
def oldRd {α : Type} (w0 : World) (S : Nat → Prop) (E : Rd α) : Rd α where
  P := fun w G cs x => ∀ W : World, (∀ k, G k → W.heap[k]? = w.heap[k]?) → (∀ k, S k → W.heap[k]? = w0.heap[k]?) → E.P W (fun k => G k ∨ S k) cs x
  mono := fun h hS W h1 h2 => E.mono (h W (fun k hk => h1 k (hS k hk)) h2) (fun k hk => hk.imp (hS k) id)
  move := fun h hm W h1 h2 => h W (fun k hk => (h1 k hk).trans (hm k hk)) h2
def RX.old (w0 : World) (S : Nat → Prop) (X : RX) : RX where
  P := fun w G => ∀ W : World, (∀ k, G k → W.heap[k]? = w.heap[k]?) → (∀ k, S k → W.heap[k]? = w0.heap[k]?) → X.P W (fun k => G k ∨ S k)
  mono := fun h hS W h1 h2 => X.mono (h W (fun k hk => h1 k (hS k hk)) h2) (fun k hk => hk.imp (hS k) id)
  move := fun h hm W h1 h2 => h W (fun k hk => (h1 k hk).trans (hm k hk)) h2
section
variable {α : Type} {w0 w w1 : World} {S G F : Nat → Prop} {E : Rd α} {cs : List Value} {x : α} {X Y : RX} {size : Nat}
theorem old_in (h : E.P w0 S cs x) : (oldRd w0 S E).P w G cs x := fun W _ h2 => E.mono (E.move h h2) (fun k hk => .inr hk)
theorem old_slice {xs : List α} (h : (sliceRd size (oldRd w0 S E)).P w G cs xs) : (oldRd w0 S (sliceRd size E)).P w G cs xs := by
  intro W h1 h2
  rcases h with h | ⟨a, cap, e1, e2, e3, hb, hr⟩
  · exact .inl h
  · refine .inr ⟨a, cap, e1, e2, e3, fun hl => .inl (hb hl), fun i x hx => ?_⟩
    obtain ⟨cs, k1, k2, k3⟩ := hr i x hx
    refine ⟨cs, k1, fun j hj => ?_, k3 W h1 h2⟩
    have hl : 0 < xs.length := by have := (List.getElem?_eq_some_iff.1 hx).1; omega
    rw [← k2 j hj]
    have e : (a.add (i * size + j)).block = a.block := block_add _ _
    simp only [World.cell?, e, h1 _ (hb hl)]
theorem oldRd_eq (h : ∀ k, S k → w1.heap[k]? = w0.heap[k]?) : oldRd w1 S E = oldRd w0 S E := by
  unfold oldRd
  congr 1
  funext w G cs x
  apply propext
  constructor
  · exact fun hp W h1 h2 => hp W h1 (fun k hk => (h2 k hk).trans (h k hk).symm)
  · exact fun hp W h1 h2 => hp W h1 (fun k hk => (h2 k hk).trans (h k hk))
theorem xold_own {T : TypeId} {v : Value} {xs : List α} (hp : 0 < size) : ∀ w G, (OwnR T size (oldRd w0 S E) v xs).P w G → (RX.old w0 S (RX.of (sliceRd size E) [v] xs)).P w G := fun w G h => old_slice (own_reads hp w G h)
theorem xold_rd : ∀ w G, (RdR (oldRd w0 S E) cs x).P w G → (RX.old w0 S (RX.of E cs x)).P w G := fun w G h => h.1
theorem RX.elemS {A : Option Addr} {n c i : Nat} {l : List α} (hp : 0 < size) (h : (RX.of (sliceRd size E) [.slice A n c] l).P w S) (hF : ∀ k, S k → ¬ F k ∧ k < w.heap.size) (hx : l[i]? = some x) :
    ∃ g o : Nat, A = some ⟨g, o, none⟩ ∧ ∃ cs, cs.length = size ∧ (∀ j, j < size → w.cell? ⟨g, o + i * size + j, none⟩ = cs[j]?) ∧ (¬ F g ∧ g < w.heap.size) ∧ (RX.of E cs x).P w S := by
  rcases h with ⟨h, rfl⟩ | ⟨a, cap, h, _, _, hb, h2⟩
  · simp at hx
  · injection h with h
    injection h with h3 h4 h5
    subst h3
    have hl : 0 < l.length := by have := (List.getElem?_eq_some_iff.1 hx).1; omega
    obtain ⟨cs0, k1, k2, _⟩ := h2 0 l[0] (List.getElem?_eq_getElem hl)
    have k3 := k2 0 hp
    rw [List.getElem?_eq_getElem (by omega)] at k3
    have k4 : a.add (0 * size + 0) = a := by simp [Addr.add]
    rw [k4] at k3
    have k5 := spot_none k3
    obtain ⟨cs, k6, k7, k8⟩ := h2 i x hx
    refine ⟨a.block, a.off, by rw [← k5], cs, k6, fun j hj => ?_, hF _ (hb hl), k8⟩
    rw [← k7 j hj, k5, WideShapes.add_plain, Nat.add_assoc]
end
structure RO where
  α : Type
  E : Rd α
  cs : List Value
  x : α
def RO.res (w0 : World) (S : Nat → Prop) (o : RO) : Res := RdR (oldRd w0 S o.E) o.cs o.x
def SpecS (P : Program) (f : FuncId) (args : Array Value) (X : RX) (A : Res) (R : Value → Res → List RO → Prop) : Prop :=
  ∀ F w S, A.P w F → X.P w S → (∀ k, S k → ¬ F k ∧ k < w.heap.size) → Calls P f args w (Post (fun v A' N => ∃ L, R v A' L ∧ N = L.map (RO.res w S)) F w)
section
variable {P : Program} {n : Nat} {F0 : Nat → Prop} {w0 w : World} {S : Nat → Prop} {e : Env} {Rs Rs' Rf Bs : List Res} {L : List RO} {B : Res} {Xr Y : RX}
theorem Src.oldres {i : Nat} (j : Nat) (hs : St F0 w0 Rs w) (hj : (Rs.eraseIdx i)[j]? = some B) (hB : ∀ w G, B.P w G → (RX.old w0 S Xr).P w G) (hF : ∀ k, S k → ¬ F0 k ∧ k < w0.heap.size) : Src F0 w0 Rs w i Xr := by
  intro A G _ _ h3 h4
  obtain ⟨G2, k1, k2, _⟩ := Sep.pick j hj h4
  have hfr := hs.fr
  refine ⟨fun k => G2 k ∨ S k, hB w G2 k1 w (fun _ _ => rfl) (fun k hk => hfr.block k (hF k hk).2 (hF k hk).1), fun k hk => ?_⟩
  rcases hk with hk | hk
  · exact ⟨(k2 k hk).2, B.lt k1 k hk⟩
  · refine ⟨fun hg => ?_, Nat.lt_of_lt_of_le (hF k hk).2 hfr.size⟩
    rcases h3 k hg with h5 | h5
    · exact (hF k hk).1 h5
    · have := (hF k hk).2; omega
theorem SrcE.oldres (j : Nat) (hs : St F0 w0 Rs w) (hj : Rs[j]? = some B) (hB : ∀ w G, B.P w G → (RX.old w0 S Xr).P w G) (hF : ∀ k, S k → ¬ F0 k ∧ k < w0.heap.size) : Xr.reads w (fun _ => False) := by
  obtain ⟨G2, k1, k2⟩ := hs.get j hj
  have hfr := hs.fr
  refine ⟨fun k => G2 k ∨ S k, hB w G2 k1 w (fun _ _ => rfl) (fun k hk => hfr.block k (hF k hk).2 (hF k hk).1), fun k hk => ⟨fun h => h, ?_⟩⟩
  rcases hk with hk | hk
  · exact B.lt k1 k hk
  · exact Nat.lt_of_lt_of_le (hF k hk).2 hfr.size
theorem Sep.split : ∀ {Bs Rs : List Res} {w : World} {F : Nat → Prop}, Sep (Bs ++ Rs) w F → ∃ G, Sep Bs w G ∧ (∀ k, G k → F k) ∧ (∀ k, G k → k < w.heap.size) ∧ Sep Rs w (fun k => F k ∧ ¬ G k)
  | [], Rs, w, F, h => ⟨fun _ => False, trivial, fun _ h => h.elim, fun _ h => h.elim, h.mono (fun k hk => ⟨hk, fun h => h⟩)⟩
  | B :: Bs, Rs, w, F, ⟨G1, h1, h2, h3⟩ => by
    obtain ⟨G, k1, k2, k3, k4⟩ := Sep.split h3
    refine ⟨fun k => G1 k ∨ G k, ⟨G1, h1, fun k hk => .inl hk, k1.mono (fun k hk => ⟨.inr hk, (k2 k hk).2⟩)⟩, fun k hk => hk.elim (h2 k) (fun h => (k2 k h).1), fun k hk => hk.elim (B.lt h1 k) (k3 k), k4.mono (fun k hk => ⟨hk.1.1, fun h => h.elim hk.1.2 hk.2⟩)⟩
theorem Sep.each : ∀ {L : List RO} {w1 : World} {S1 F : Nat → Prop}, Sep (L.map (RO.res w1 S1)) w F → ∀ o, o ∈ L → ∃ G, (RdR (oldRd w1 S1 o.E) o.cs o.x).P w G ∧ ∀ k, G k → F k
  | a :: L, w1, S1, F, ⟨G, h1, h2, h3⟩, o, ho => by
    rcases List.mem_cons.1 ho with rfl | ho
    · exact ⟨G, h1, h2⟩
    · obtain ⟨G', k1, k2⟩ := Sep.each h3 o ho
      exact ⟨G', k1, fun k hk => (k2 k hk).1⟩
variable {d : Option Tmp} {ty : TypeId} {pos : String} {af : Array Edge} {gd : Option (Nat × Bool)} {R : Value → Res → List RO → Prop}
theorem Ef.callSo {op : Op} {f : FuncId} {vs : List Value} (hc : CT P n e ⟨d, op, ty, pos, af, gd⟩ f vs) (hs : SpecS P f vs.toArray Y EmpR R) (hY : Y.P w0 S) (hF : ∀ k, S k → ¬ F0 k ∧ k < w0.heap.size) (hd : okd d n = true) :
    Ef P n F0 w0 e Rs ⟨d, op, ty, pos, af, gd⟩ (fun e' Rs' => ∃ v A' L, R v A' L ∧ e' = envput d v e ∧ Rs' = L.map (RO.res w0 S) ++ Rs) := by
  intro a w K Q ha hst hk
  unfold Oper.wp
  rw [hc a w ha]
  have hfr := hst.fr
  have hag : ∀ k, S k → w.heap[k]? = w0.heap[k]? := fun k hk => hfr.block k (hF k hk).2 (hF k hk).1
  refine (hs (fun _ => False) w S (fun _ h => h) (Y.move hY hag) (fun k hk => ⟨fun h => h, Nat.lt_of_lt_of_le (hF k hk).2 hfr.size⟩)).mono ?_
  rintro x w' ⟨v, A', N, rfl, ⟨L, hq, rfl⟩, hst'⟩
  have e1 : L.map (RO.res w S) = L.map (RO.res w0 S) := List.map_congr_left (fun o _ => by unfold RO.res; rw [oldRd_eq hag])
  have h1 := hst'.drop_
  rw [e1] at h1
  exact hk _ _ ⟨v, A', L, hq, rfl, rfl⟩ _ _ (ha.putd hd) (hst.grow h1.fr (h1.sep.mono (fun k hk => hk.elim (fun h => h.elim) id)))
variable {Q : Exit → Act → World → Prop} {ops : Array Oper} {i dd : Nat} {cl : Call} {f : FuncId} {vs : List Value}
theorem TL.cso {l : List Nat} (ho : ops[i]? = some ⟨some dd, .call cl, ty, pos, af, gd⟩) (hw : Wd n ops e ⟨some dd, .call cl, ty, pos, af, gd⟩ true) (hc : CT P n e ⟨some dd, .call cl, ty, pos, af, gd⟩ f vs) (hs : SpecS P f vs.toArray Y EmpR R) (hY : Y.P w0 S) (hF : ∀ k, S k → ¬ F0 k ∧ k < w0.heap.size) (hd : Nat.blt dd n = true)
    (h : ∀ v A' L, R v A' L → TL P n F0 w0 ops l ((dd, v) :: e) (L.map (RO.res w0 S) ++ Rs) Q) : TL P n F0 w0 ops (i :: l) e Rs Q := by
  refine TL.ef ho hw (Ef.callSo hc hs hY hF hd) ?_
  rintro _ _ ⟨v, A', L, hR, rfl, rfl⟩
  exact h v A' L hR
theorem TD.cso {l : Sch} (ho : ops[i]? = some ⟨some dd, .call cl, ty, pos, af, gd⟩) (hw : Wd n ops e ⟨some dd, .call cl, ty, pos, af, gd⟩ true) (hc : CT P n e ⟨some dd, .call cl, ty, pos, af, gd⟩ f vs) (hs : SpecS P f vs.toArray Y EmpR R) (hY : Y.P w0 S) (hF : ∀ k, S k → ¬ F0 k ∧ k < w0.heap.size) (hd : Nat.blt dd n = true)
    (is : List Nat) (hf : ∀ v A' L, R v A' L → Sel (L.map (RO.res w0 S) ++ Rs) is Rf) (h : ∀ v A' L, R v A' L → TD P n F0 w0 ops l Rf ((dd, v) :: e) (L.map (RO.res w0 S) ++ Rs) Q) : TD P n F0 w0 ops (.e i l) Rf e Rs Q := by
  refine TD.ef ho hw (Ef.callSo hc hs hY hF hd) ?_
  rintro _ _ ⟨v, A', L, hR, rfl, rfl⟩
  exact ⟨Rf, fun w hw => hw.sel is (hf v A' L hR), fun _ h => h, h v A' L hR⟩
variable {α : Type} {E : Rd α} {size : Nat} {T : TypeId} {u : Value} {xs : List α}
theorem X.shutO {z : Exit} (hp : 0 < size) (i : Nat) (hi : Rs[i]? = some (OwnR T size (oldRd w0 S E) u xs)) (h : X n F0 w0 e (Rs.set i (RdR (oldRd w0 S (sliceRd size E)) [u] xs)) z Q) : X n F0 w0 e Rs z Q := fun a w ha hs =>
  h a w ha (hs.weaken i hi (fun G hG => ⟨old_slice (own_reads hp _ _ hG), fun k hk => (OwnR T size (oldRd w0 S E) u xs).lt hG k hk⟩))
end
theorem enterS {P : Program} {f n : Nat} {fn : Func} {c : Code} {args : List Value} {Xr : RX} {A : Res} {R : Value → Res → List RO → Prop} (hf : P.funcs[f]? = some fn) (hb : fn.body = some c) (hn : fn.ntmps = n)
    (hl : Nat.ble args.length n = true) (h : ∀ F w S, Xr.P w S → (∀ k, S k → ¬ F k ∧ k < w.heap.size) → T P n F w (argsE 0 args) [A] c (bodyPost P fn (Post (fun v A' N => ∃ L, R v A' L ∧ N = L.map (RO.res w S)) F w))) : SpecS P f args.toArray Xr A R := by
  intro F w S hA hX hSF
  refine calls_of_wp hf hb ?_
  have hl' : args.length ≤ n := Nat.le_of_ble_eq_true hl
  refine h F w S hX hSF _ w ⟨rfl, ?_, fun t v hv => ?_⟩ (SpecX.start hA)
  · simp only [Array.size_append, Array.size_replicate, hn, List.size_toArray]
    omega
  · have h1 : args.toArray[t]? = some v := by simpa using (argsE_get args 0 t v hv).2
    have h2 := (Array.getElem?_eq_some_iff.1 h1).1
    rw [Array.getElem?_append_left h2]
    exact h1
end Go.Proofs.YtlhgogjcaegehaaGreat.Sl
namespace Go.Proofs.YtlhgogjcaegehaaGreat.Sl
open Go.RowKit
set_option linter.unusedVariables false
set_option linter.unusedSimpArgs false
section
variable {α : Type} {size : Nat} {E : Rd α} {w : World} {S : Nat → Prop}
theorem elems_set : ∀ {xs : List α} {cs new : List Value} {k : Nat} {x x' : α}, elems size E w S cs xs → xs[k]? = some x → new.length = size → E.P w S new x' → elems size E w S (cs.take (k * size) ++ new ++ cs.drop ((k + 1) * size)) (xs.set k x')
  | [], _, _, k, _, _, _, hk, _, _ => by simp at hk
  | y :: ys, cs, new, 0, x, x', ⟨h0, _, h2⟩, _, hn, hx => by
    rw [Nat.zero_mul, List.take_zero, List.nil_append, Nat.zero_add, Nat.one_mul]
    exact ⟨by rw [List.take_append_of_le_length (by omega), List.take_of_length_le (by omega)]; exact hn, by rw [List.take_append_of_le_length (by omega), List.take_of_length_le (by omega)]; exact hx,
      by rw [List.drop_append_of_le_length (by omega), List.drop_of_length_le (by omega)]; exact h2⟩
  | y :: ys, cs, new, k + 1, x, x', ⟨h0, h1, h2⟩, hk, hn, hx => by
    have hle : size ≤ cs.length := by rw [List.length_take] at h0; omega
    have ih := elems_set (k := k) (x := x) h2 (by simpa using hk) hn hx
    have hc : cs = cs.take size ++ cs.drop size := (List.take_append_drop size cs).symm
    have e0 : (cs.take size).length = size := h0
    have e1 : cs.take ((k + 1) * size) = cs.take size ++ (cs.drop size).take (k * size) := by
      conv => lhs; rw [hc]
      rw [List.take_append, e0, show (k + 1) * size - size = k * size by rw [Nat.add_mul]; omega, List.take_of_length_le (by rw [e0, Nat.add_mul]; omega)]
    have e2 : cs.drop ((k + 1 + 1) * size) = (cs.drop size).drop ((k + 1) * size) := by
      rw [List.drop_drop, show size + (k + 1) * size = (k + 1 + 1) * size by rw [Nat.add_mul (k + 1)]; omega]
    rw [e1, e2, List.append_assoc, List.append_assoc, ← List.append_assoc ((cs.drop size).take (k * size))]
    exact ⟨by rw [List.take_append_of_le_length (by omega), List.take_of_length_le (by omega)]; exact h0, by rw [List.take_append_of_le_length (by omega), List.take_of_length_le (by omega)]; exact h1,
      by rw [List.drop_append_of_le_length (by omega), List.drop_of_length_le (by omega), List.nil_append]; exact ih⟩
theorem OwnR.stored {T m c g o k off q : Nat} {G : Nat → Prop} {xs : List α} {x x' : α} {us : List Value} (h : (OwnR T size E (.slice (some ⟨g, o, none⟩) m c) xs).P w G) (hk : xs[k]? = some x) (hq : q = o + k * size + off) (hl : off + us.length ≤ size)
    (hE : ∀ w S cs, cs.length = size → E.P w S cs x → E.P w S (cs.take off ++ us ++ cs.drop (off + us.length)) x') :
    ∃ cur, w.heap[g]? = some (.cells cur T (0, 0)) ∧ q + us.length ≤ cur.size ∧ (∀ k, k = g → G k) ∧ (OwnR T size E (.slice (some ⟨g, o, none⟩) m c) (xs.set k x')).P (w.setRow g (cur.toList.take q ++ us ++ cur.toList.drop (q + us.length)).toArray) G := by
  obtain ⟨cells, S, ⟨hlen, hown⟩, h2, h3, h4, h5⟩ := h
  rcases hown with ⟨hv, _⟩ | ⟨g', cap, cur, hv, hb0, hg, hnc, hcm, hcs, htk⟩
  · cases hv
  injection hv with hv1 hv2 hv3
  injection hv1 with hv1
  injection hv1 with hv4 hv5
  subst hv4 hv5 hv2 hv3
  have hkl : k < xs.length := (List.getElem?_eq_some_iff.1 hk).1
  have hks : (k + 1) * size ≤ xs.length * size := Nat.mul_le_mul_right _ hkl
  have hcap : xs.length * size ≤ c * size := Nat.mul_le_mul_right _ hnc
  have hk1 : (k + 1) * size = k * size + size := by rw [Nat.add_mul, Nat.one_mul]
  have hfit : q + us.length ≤ cur.size := by rw [hcs]; omega
  refine ⟨cur, hg, hfit, fun k hk => by subst hk; exact (h5 _).2 (.inl rfl), ?_⟩
  obtain ⟨c1, c2⟩ := elems_get h2 hk
  have hgS : ¬ S g := h4 g rfl
  have hnew : ((cells.drop (k * size)).take size).take off ++ us ++ ((cells.drop (k * size)).take size).drop (off + us.length) = ((cells.drop (k * size)).take size).take off ++ us ++ ((cells.drop (k * size)).take size).drop (off + us.length) := rfl
  have hset := elems_set h2 hk (new := ((cells.drop (k * size)).take size).take off ++ us ++ ((cells.drop (k * size)).take size).drop (off + us.length)) (by simp only [List.length_append, List.length_take, List.length_drop] at c1 ⊢; omega) (hE w S _ c1 c2)
  have hset' : elems size E (w.setRow g (cur.toList.take q ++ us ++ cur.toList.drop (q + us.length)).toArray) S _ (xs.set k x') := elems_move hset (fun k hk => setRow_other w g k _ (fun e => hgS (e ▸ hk)))
  refine ⟨_, S, ⟨?_, .inr ⟨g, c, _, by rw [List.length_set], hb0, setRow_heap w g cur _ T (0, 0) hg, by rw [List.length_set]; exact hnc, hcm, ?_, ?_⟩⟩, hset', fun k hk => by rw [size_setRow]; exact h3 k hk, h4, h5⟩
  · have := elems_length hset
    exact this
  · simp only [List.size_toArray, List.length_append, List.length_take, List.length_drop, Array.length_toList]
    omega
  · rw [List.length_set]
    have hcl : cur.toList.length = c * size := by simpa using hcs
    have hcells : cells.length = xs.length * size := hlen
    have d1 : (cells.drop (k * size)).take size = (cells.drop (k * size)).take size := rfl
    have hq2 : q + us.length ≤ xs.length * size := by omega
    have r1 : cells.take (k * size) ++ ((cells.drop (k * size)).take size).take off = cells.take q := by
      rw [List.take_take, Nat.min_eq_left (by omega), ← List.take_add, show k * size + off = q by omega]
    have r2 : ((cells.drop (k * size)).take size).drop (off + us.length) ++ cells.drop ((k + 1) * size) = cells.drop (q + us.length) := by
      have e1 : cells.drop ((k + 1) * size) = (cells.drop (k * size)).drop size := by rw [List.drop_drop, hk1]
      have e2 : cells.drop (q + us.length) = (cells.drop (k * size)).drop (off + us.length) := by rw [List.drop_drop, show k * size + (off + us.length) = q + us.length by omega]
      rw [e1, e2, ← List.drop_append_of_le_length (by omega), List.take_append_drop]
    have r3 : cells.take (k * size) ++ (((cells.drop (k * size)).take size).take off ++ us ++ ((cells.drop (k * size)).take size).drop (off + us.length)) ++ cells.drop ((k + 1) * size) = cells.take q ++ us ++ cells.drop (q + us.length) := by
      rw [← r1, ← r2]
      simp only [List.append_assoc]
    rw [r3, ← htk, List.drop_take, List.take_take, Nat.min_eq_left (by omega)]
    have l1 : (cur.toList.take q ++ us).length = q + us.length := by rw [List.length_append, List.length_take]; omega
    rw [List.toList_toArray, List.take_append, l1, List.take_of_length_le (by omega)]
end
section
variable {P : Program} {n : Nat} {F0 : Nat → Prop} {w0 : World} {e : Env} {Rs Rf : List Res} {Q : Exit → Act → World → Prop} {ops : Array Oper} {d : Option Tmp} {i : Nat} {ty t t' el : TypeId} {pos : String} {af : Array Edge} {gd : Option (Nat × Bool)} {v v' : Value} {x y : Operand} {l : List Nat} {lo : Sch} {c : Code} {S : World → Prop}
section
variable {α : Type} {E : Rd α} {T m cp size g o k off q z : Nat} {xs : List α} {u u' : α}
end
section
variable {α : Type} {E : Rd α} {T bytes k : Nat} {zv : Value} {u : α} {m : Int} {kl : IntKind} {d' : Nat}
end
def bitOp : BinOp → Bool
  | .and | .or | .xor | .andNot => true
  | _ => false
theorem Ex.bitw {bo : BinOp} {k : IntKind} {p q : Int} (hb : bitOp bo = true) (hx : e.ev x = some (.int k p)) (hy : e.ev y = some (.int k q)) : Ex P n e S ⟨d, .binOp bo t x y t', ty, pos, af, gd⟩ (.int k (Go.bits bo k p q)) := by
  intro a w ha _
  have h1 : Op.intBits bo k p q = pure (.int k (Go.bits bo k p q)) := by cases bo <;> first | rfl | exact absurd hb (by decide)
  have h2 : (binOp bo t (.int k p) (.int k q)).run P w = .ok (.int k (Go.bits bo k p q)) w := by
    cases bo <;> first | exact absurd hb (by decide) | simp only [binOp, h1, ne_eq, not_true, if_false, Sem.run_pure]
  have h3 : eqGuard bo t x y (.int k p) (.int k q) = pure () := by cases bo <;> first | exact absurd hb (by decide) | rfl
  simp only [execOp, ha.ev hx, ha.ev hy, h3, Sem.run_bind, Sem.run_pure, Result.andThen_ok, h2]
def shrK (k : IntKind) (p q : Int) : Int := p.fdiv (2 ^ min q.toNat k.bits)
theorem Ex.shr {k k' : IntKind} {p q : Int} (hx : e.ev x = some (.int k p)) (hy : e.ev y = some (.int k' q)) (hq : 0 ≤ q) : Ex P n e S ⟨d, .binOp .shr t x y t', ty, pos, af, gd⟩ (.int k (shrK k p q)) := by
  intro a w ha _
  have h0 : ¬ q < 0 := by omega
  simp [execOp, ha.ev hx, ha.ev hy, eqGuard, binOp, Op.shift, h0, shrK]
theorem Ex.notK {k : IntKind} {p : Int} (hx : e.ev x = some (.int k p)) : Ex P n e S ⟨d, .unOp .xor t x, ty, pos, af, gd⟩ (.int k (Go.bits .xor k (if k.signed then -1 else k.max) p)) := by
  intro a w ha _
  have h1 : Op.intBits .xor k (if k.signed then -1 else k.max) p = pure (.int k (Go.bits .xor k (if k.signed then -1 else k.max) p)) := rfl
  simp [execOp, ha.ev hx, Op.unary, h1]
theorem T.blen {α : Type} {E : Rd α} {A : Option Addr} {m cp size : Nat} {xs : List α} {B : Res} (i : Nat) (hi : Rs[i]? = some B) (hB : ∀ w G, B.P w G → (RX.of (sliceRd size E) [.slice A m cp] xs).P w G) (h : xs.length ≤ 9223372036854775807 → T P n F0 w0 e Rs c Q) : T P n F0 w0 e Rs c Q := by
  intro a w ha hs
  refine h ?_ a w ha hs
  obtain ⟨G, hG, _⟩ := hs.get i hi
  rcases hB w G hG with ⟨_, rfl⟩ | ⟨_, cap, _, h1, h2, _⟩
  · simp
  · have : maxLen = 9223372036854775807 := rfl
    omega
end
end Go.Proofs.YtlhgogjcaegehaaGreat.Sl
namespace Go.Proofs.YtlhgogjcaegehaaGreat.Sl
open Go.RowKit
set_option linter.unusedVariables false
set_option linter.unusedSimpArgs false
def tabC (l : List Int) : Array Value := (l.map (Value.int .u32)).toArray
def TabR (T g : Nat) (l : List Int) : Res where
  P := fun w G => (BlkR g T (tabC l)).P w G ∧ l.length = 256
  lt := fun h => (BlkR g T (tabC l)).lt h.1
  move := fun h hm => ⟨(BlkR g T (tabC l)).move h.1 hm, h.2⟩
theorem tabC_get {l : List Int} {k : Nat} {u : Int} (h : l[k]? = some u) : (tabC l)[k]? = some (.int .u32 u) := by
  unfold tabC
  simp [h]
section
variable {P : Program} {n : Nat} {F0 : Nat → Prop} {w0 w : World} {e : Env} {Rs Rf : List Res} {Q : Exit → Act → World → Prop} {ops : Array Oper} {d : Option Tmp} {i : Nat} {ty t t' el : TypeId} {pos : String} {af : Array Edge} {gd : Option (Nat × Bool)} {v v' : Value} {x y ix : Operand} {L : List Nat} {lo : Sch} {c : Code} {S : World → Prop}
variable {T g k : Nat} {l : List Int} {u u' : Int}
theorem tab_len (j : Nat) (h : St F0 w0 Rs w) (hj : Rs[j]? = some (TabR T g l)) : l.length = 256 := by
  obtain ⟨G, hG, _⟩ := h.get j hj
  exact hG.2
theorem tab_blk (j : Nat) (h : St F0 w0 Rs w) (hj : Rs[j]? = some (TabR T g l)) : w.heap[g]? = some (.cells (tabC l) T (0, 0)) := by
  obtain ⟨G, hG, _⟩ := h.get j hj
  exact hG.1.1
theorem Ex.tIx (j : Nat) {a : Int} {q : IntKind} (hx : e.ev x = some (.pointer (some ⟨g, 0, none⟩))) (hi : e.ev ix = some (.int q a)) (hik : a = (k : Int)) (hu : ∀ w, (underlying t).run P w = .ok (.array 256 el) w) (hz : ∀ w, (sizeOf el).run P w = .ok 1 w) (hj : Rs[j]? = some (TabR T g l)) (hk : l[k]? = some u) :
    Ex P n e (St F0 w0 Rs) ⟨d, .indexAddr t x ix, ty, pos, af, gd⟩ (.pointer (some ⟨g, k, none⟩)) := by
  intro A w ha hs
  have h1 := tab_len j hs hj
  have h2 : k < 256 := by rw [← h1]; exact (List.getElem?_eq_some_iff.1 hk).1
  have h3 := Ex.ixP (S := fun _ => True) (d := d) (ty := ty) (pos := pos) (af := af) (gd := gd) hx hi hik hu hz h2 A w ha trivial
  rwa [show 0 + k * 1 = k by omega] at h3
theorem Ex.tLd (j : Nat) (hx : e.ev x = some (.pointer (some ⟨g, k, none⟩))) (ha : ∀ w, (isAgg t).run P w = .ok false w) (hj : Rs[j]? = some (TabR T g l)) (hk : l[k]? = some u) :
    Ex P n e (St F0 w0 Rs) ⟨d, .load t x, ty, pos, af, gd⟩ (.int .u32 u) :=
  Ex.ld1 hx ha (fun w hw => (heap_at (tab_blk j hw hj) k).trans (tabC_get hk))
theorem Ef.tSt (j : Nat) (hx : e.ev x = some (.pointer (some ⟨g, k, none⟩))) (hy : e.ev y = some (.int .u32 u')) (hz : ∀ w, (sizeOf t).run P w = .ok 1 w) (hj : Rs[j]? = some (TabR T g l)) (hk : l[k]? = some u) :
    Ef P n F0 w0 e Rs ⟨none, .store t x y, ty, pos, af, gd⟩ (fun e' Rs' => e' = e ∧ Rs' = Rs.set j (TabR T g (l.set k u'))) := by
  intro a w K Q ha hs hk'
  have hb := tab_blk j hs hj
  have hl := tab_len j hs hj
  have hkl : k < l.length := (List.getElem?_eq_some_iff.1 hk).1
  have hc : ((tabC l).toList.take k ++ [Value.int .u32 u'] ++ (tabC l).toList.drop (k + 1)).toArray = tabC (l.set k u') := by
    unfold tabC
    rw [List.map_set, List.set_eq_take_append_cons_drop, if_pos (by rw [List.length_map]; exact hkl)]
    simp
  have h2 := run_storeCells_at (P := P) g k T [Value.int .u32 u'] 0 (tabC l) w hb (by simp [tabC]; omega) (by simp [Value.oneCell'])
  simp only [Nat.add_zero, List.length_singleton] at h2
  rw [hc] at h2
  have h1 : (execOp a.eval ⟨none, .store t x y, ty, pos, af, gd⟩).run P w = .ok .skip (w.setRow g (tabC (l.set k u'))) := by
    simp [execOp, ha.ev hx, ha.ev hy, Instr.storeAt, Instr.sureAddr, storeVar, hz, Value.cells, h2]
  unfold Oper.wp
  rw [h1]
  refine hk' _ _ ⟨rfl, rfl⟩ _ _ ha.put0 (hs.step j hj (Ns := []) (fun G hG => ?_))
  exact ⟨⟨rfl, rfl, rfl, by simp [World.setRow], fun k hk hn => setRow_other w g k _ (fun e => hn (e ▸ (hG.1.2 g).2 rfl))⟩, G, ⟨⟨setRow_heap w g _ _ T (0, 0) hG.1.1, hG.1.2⟩, by rw [List.length_set]; exact hG.2⟩, fun k hk => .inl hk, trivial⟩
theorem TL.tSt (j : Nat) (ho : ops[i]? = some ⟨none, .store t x y, ty, pos, af, gd⟩) (hw : Wd n ops e ⟨none, .store t x y, ty, pos, af, gd⟩ true) (hx : e.ev x = some (.pointer (some ⟨g, k, none⟩))) (hy : e.ev y = some (.int .u32 u')) (hz : ∀ w, (sizeOf t).run P w = .ok 1 w) (hj : Rs[j]? = some (TabR T g l)) (hk : l[k]? = some u)
    (h : TL P n F0 w0 ops L e (Rs.set j (TabR T g (l.set k u'))) Q) : TL P n F0 w0 ops (i :: L) e Rs Q := by
  refine TL.ef ho hw (Ef.tSt j hx hy hz hj hk) ?_
  rintro _ _ ⟨rfl, rfl⟩
  exact h
theorem TD.tSt (j : Nat) (ho : ops[i]? = some ⟨none, .store t x y, ty, pos, af, gd⟩) (hw : Wd n ops e ⟨none, .store t x y, ty, pos, af, gd⟩ true) (hx : e.ev x = some (.pointer (some ⟨g, k, none⟩))) (hy : e.ev y = some (.int .u32 u')) (hz : ∀ w, (sizeOf t).run P w = .ok 1 w) (hj : Rs[j]? = some (TabR T g l)) (hk : l[k]? = some u)
    (is : List Nat) (hf : Sel (Rs.set j (TabR T g (l.set k u'))) is Rf)
    (h : TD P n F0 w0 ops lo Rf e (Rs.set j (TabR T g (l.set k u'))) Q) : TD P n F0 w0 ops (.e i lo) Rf e Rs Q := by
  refine TD.ef ho hw (Ef.tSt j hx hy hz hj hk) ?_
  rintro _ _ ⟨rfl, rfl⟩
  exact ⟨Rf, fun w hw => hw.sel is hf, fun _ h => h, h⟩
theorem Ex.bldZ {m : Nat} {zs : Array Value} (hz : ∀ w, (zeroValue t).run P w = .ok (.agg zs) w) (hu : ∀ w, (underlying t).run P w = .ok (.array m el) w) (hs : ∀ w, (sizeOf el).run P w = .ok 1 w) : Ex P n e S ⟨d, .build t #[], ty, pos, af, gd⟩ (.agg zs) := by
  intro a w ha _
  have h1 : (Instr.build t #[]).run P w = .ok (.agg zs) w := by
    simp only [Instr.build, Sem.run_bind, hz, hu, hs, Result.andThen_ok]
    rfl
  simp only [execOp, Sem.run_bind]
  simp [h1]
theorem TL.tNew {zs : Array Value} {d : Nat} (ho : ops[i]? = some ⟨some d, .box t x, ty, pos, af, gd⟩) (hw : Wd n ops e ⟨some d, .box t x, ty, pos, af, gd⟩ true) (hx : e.ev x = some (.agg zs)) (hzs : zs = tabC (List.replicate 256 0)) (hd : Nat.blt d n = true)
    (h : ∀ b, TL P n F0 w0 ops L ((d, .pointer (some ⟨b, 0, none⟩)) :: e) (TabR t b (List.replicate 256 0) :: Rs) Q) : TL P n F0 w0 ops (i :: L) e Rs Q := by
  refine TL.box ho hw hx hd (fun b => ?_)
  intro a w ha hs
  subst hzs
  exact h b a w ha (hs.weaken 0 rfl (fun G hG => ⟨hG, List.length_replicate ..⟩))
end
def LW (P : Program) (c : Code) (Q : Exit → Act → World → Prop) (a : Act) (w : World) : Prop := ∀ b k cs, ∃ x a' w', Q x a' w' ∧ Arrives P (lone (b.at a (.code c :: .inLoop c :: k)) cs w) b k cs x a' w'
def TW (P : Program) (n : Nat) (F0 : Nat → Prop) (w0 : World) (e : Env) (Rs : List Res) (c : Code) (Q : Exit → Act → World → Prop) : Prop := ∀ a w, Has n e a → St F0 w0 Rs w → LW P c Q a w
section
variable {P : Program} {n : Nat} {F0 : Nat → Prop} {w0 : World} {e : Env} {Rs : List Res} {Q : Exit → Act → World → Prop} {c : Code}
theorem T.unroll0 (h : TW P n F0 w0 e Rs c Q) : T P n F0 w0 e Rs (.loop c) Q := by
  intro a w ha hs b k cs
  obtain ⟨x, a', w', hq, harr⟩ := h a w ha hs b k cs
  exact ⟨x, a', w', hq, .of_steps (.one step_loop) harr⟩
theorem TW.step (h : T P n F0 w0 e Rs c (Exit.then (LW P c Q) Q)) : TW P n F0 w0 e Rs c Q := by
  intro a w ha hs b k cs
  obtain ⟨x, a₁, w₁, hq, harr⟩ := h a w ha hs b (.inLoop c :: k) cs
  cases x with
  | normal =>
    obtain ⟨x₂, a₂, w₂, hq₂, harr₂⟩ := hq b k cs
    exact ⟨x₂, a₂, w₂, hq₂, .of_steps (Steps.trans harr (.one step_inLoop)) harr₂⟩
  | exit id => exact ⟨_, a₁, w₁, hq, .pass (x := .inLoop c) rfl (fun _ _ => .inl (by simp)) harr⟩
  | goto l => exact ⟨_, a₁, w₁, hq, .pass (x := .inLoop c) rfl (fun _ _ => .inl (by simp)) harr⟩
  | ret => exact ⟨_, a₁, w₁, hq, .pass (x := .inLoop c) rfl (fun _ _ => .inl (by simp)) harr⟩
  | panic ch => exact ⟨_, a₁, w₁, hq, .pass (x := .inLoop c) rfl (fun _ _ => .inl (by simp)) harr⟩
  | outgrown => exact ⟨_, a₁, w₁, hq, .pass (x := .inLoop c) rfl (fun _ _ => .inl (by simp)) harr⟩
theorem X.un (h : TW P n F0 w0 e Rs c Q) : X n F0 w0 e Rs .normal (Exit.then (LW P c Q) Q) := h
end
end Go.Proofs.YtlhgogjcaegehaaGreat.Sl
namespace Go.Proofs.YtlhgogjcaegehaaGreat.Sl
open Go.RowKit
set_option linter.unusedVariables false
set_option linter.unusedSimpArgs false
section
variable {P : Program} {n : Nat} {F0 : Nat → Prop} {w0 : World} {e : Env} {Rs Rf : List Res} {Q : Exit → Act → World → Prop} {ops : Array Oper} {i : Nat} {ty t : TypeId} {pos : String} {af : Array Edge} {gd : Option (Nat × Bool)} {x y : Operand} {L : List Nat} {lo : Sch} {b : Nat} {s : List UInt8 × Int}
theorem Ef.outZ (j : Nat) (hx : e.ev x = some (.pointer (some ⟨b, 0, none⟩))) (hy : e.ev y = some (.agg #[.slice none 0 0, .int .i64 0])) (hz : ∀ w, (sizeOf t).run P w = .ok 2 w) (hj : Rs[j]? = some (OutR b s)) :
    Ef P n F0 w0 e Rs ⟨none, .store t x y, ty, pos, af, gd⟩ (fun e' Rs' => e' = e ∧ Rs' = Rs.set j (OutR b ([], 0))) := by
  intro a w K Q ha hs hk
  obtain ⟨G, ⟨v, h1, _, _⟩, _⟩ := hs.get j hj
  have h2 := run_storeCells_at (P := P) b 0 44 [Value.slice none 0 0, .int .i64 0] 0 _ w h1 (by simp) (by intro v hv; simp at hv; rcases hv with rfl | rfl <;> rfl)
  have h3 : (execOp a.eval ⟨none, .store t x y, ty, pos, af, gd⟩).run P w = .ok .skip (w.setRow b #[.slice none 0 0, .int .i64 0]) := by
    simp at h2
    simp [execOp, ha.ev hx, ha.ev hy, Instr.storeAt, Instr.sureAddr, storeVar, hz, Value.cells, h2]
  unfold Oper.wp
  rw [h3]
  refine hk _ _ ⟨rfl, rfl⟩ _ _ ha.put0 (hs.step j hj (Ns := []) (fun G hG => ?_))
  obtain ⟨v', k1, k2, k3⟩ := hG
  refine ⟨⟨rfl, rfl, rfl, by simp [World.setRow], fun q hq hn => setRow_other w b q _ (fun e => hn (e ▸ (k3 b).2 (.inl rfl)))⟩, fun q => q = b, ⟨_, setRow_heap w b _ _ _ (0, 0) k1, World.ownsRow_nil _ _ _ _, fun q => by simp [Value.ownBlock]⟩, fun q hq => .inl ((k3 q).2 (.inl hq)), trivial⟩
theorem TL.outZ (j : Nat) (ho : ops[i]? = some ⟨none, .store t x y, ty, pos, af, gd⟩) (hw : Wd n ops e ⟨none, .store t x y, ty, pos, af, gd⟩ true) (hx : e.ev x = some (.pointer (some ⟨b, 0, none⟩))) (hy : e.ev y = some (.agg #[.slice none 0 0, .int .i64 0])) (hz : ∀ w, (sizeOf t).run P w = .ok 2 w) (hj : Rs[j]? = some (OutR b s))
    (h : TL P n F0 w0 ops L e (Rs.set j (OutR b ([], 0))) Q) : TL P n F0 w0 ops (i :: L) e Rs Q := by
  refine TL.ef ho hw (Ef.outZ j hx hy hz hj) ?_
  rintro _ _ ⟨rfl, rfl⟩
  exact h
theorem TD.outZ (j : Nat) (ho : ops[i]? = some ⟨none, .store t x y, ty, pos, af, gd⟩) (hw : Wd n ops e ⟨none, .store t x y, ty, pos, af, gd⟩ true) (hx : e.ev x = some (.pointer (some ⟨b, 0, none⟩))) (hy : e.ev y = some (.agg #[.slice none 0 0, .int .i64 0])) (hz : ∀ w, (sizeOf t).run P w = .ok 2 w) (hj : Rs[j]? = some (OutR b s))
    (is : List Nat) (hf : Sel (Rs.set j (OutR b ([], 0))) is Rf) (h : TD P n F0 w0 ops lo Rf e (Rs.set j (OutR b ([], 0))) Q) : TD P n F0 w0 ops (.e i lo) Rf e Rs Q := by
  refine TD.ef ho hw (Ef.outZ j hx hy hz hj) ?_
  rintro _ _ ⟨rfl, rfl⟩
  exact ⟨Rf, fun w hw => hw.sel is hf, fun _ h => h, h⟩
end
end Go.Proofs.YtlhgogjcaegehaaGreat.Sl
namespace Go.Proofs.YtlhgogjcaegehaaGreat.Sl
open Go.RowKit
set_option linter.unusedVariables false
set_option linter.unusedSimpArgs false
def BldR (b : Nat) (l : List UInt8) : Res where
  P := fun w G => ∃ p v, (p = .pointer none ∨ p = .pointer (some ⟨b, 0, none⟩)) ∧ w.heap[b]? = some (.cells #[p, v] 79 (0, 0)) ∧ w.ownsRow 0 5 1 v l.length (byteCells l) ∧ ∀ k, G k ↔ k = b ∨ v.ownBlock = some k
  lt := by
    rintro w G ⟨p, v, _, h1, h2, h3⟩ k hk
    rcases (h3 k).1 hk with rfl | h
    · exact heap_lt h1
    · exact row_lt h2 k h
  move := by
    rintro w w' G ⟨p, v, hp, h1, h2, h3⟩ hm
    exact ⟨p, v, hp, (hm _ ((h3 _).2 (.inl rfl))).trans h1, row_move h2 (fun k hk => hm k ((h3 k).2 (.inr hk))), h3⟩
theorem BldR.new {F0 : Nat → Prop} {w0 w : World} {Rs : List Res} (h : St F0 w0 Rs w) : St F0 w0 (BldR w.heap.size [] :: Rs) (w.alloc (.cells #[.pointer none, .slice none 0 0] 79)) := by
  refine (h.alloc #[.pointer none, .slice none 0 0] 79).weaken 0 rfl (A' := BldR w.heap.size []) ?_
  rintro G ⟨h1, h2⟩
  exact ⟨_, _, .inl rfl, h1, World.ownsRow_nil _ _ _ _, fun k => by simp [h2 k, Value.ownBlock]⟩
theorem fr_freeze {F : Nat → Prop} {w w' : World} (h : Fr F w w') {p : Addr} (hp : F p.block) (n : Nat) : Fr F w (w'.freeze p n) := by
  refine h.trans (G := F) ?_ (fun _ h => .inl h)
  unfold World.freeze
  split
  · exact Fr.refl _ _
  · exact ⟨rfl, rfl, rfl, by simp, fun k hk hn => by
      simp only [Array.getElem?_modify]
      rw [if_neg (fun h : p.block = k => hn (by rw [← h]; exact hp))]⟩
theorem bld_size : (Tryz.prog.info? 79).map (·.size) = some 2 := by kernel_rfl
theorem bld_lies : liesAt Tryz.prog Tryz.prog.depth 79 (2 / Tryz.prog.cellsOf 79) 0 79 1 = true := by kernel_rfl
theorem bld_shape {w : World} {b : Nat} {p v : Value} (hb : w.heap[b]? = some (.cells #[p, v] 79 (0, 0))) : w.shape? b = some (79, 2) := by simp [World.shape?, hb]
set_option maxRecDepth 100000 in
set_option maxHeartbeats 1000000 in
theorem bld_check (b : Nat) (w : World) (p v : Value) (hp : p = .pointer none ∨ p = .pointer (some ⟨b, 0, none⟩)) (hb : w.heap[b]? = some (.cells #[p, v] 79 (0, 0))) :
    Calls Tryz.prog 52 #[.pointer (some ⟨b, 0, none⟩)] w fun e w' => e = .returned (.tuple #[]) ∧ w'.heap[b]? = some (.cells #[.pointer (some ⟨b, 0, none⟩), v] 79 (0, 0)) ∧ Fr (fun k => k = b) w w' := by
  obtain ⟨j, hj, hjs⟩ := Option.map_eq_some_iff.1 bld_size
  have h0 : w.cell? ⟨b, 0, none⟩ = some p := (heap_at hb 0).trans rfl
  have f0 : w.frozen? ⟨b, 0, none⟩ = false := heap_free hb 0
  have hsh := bld_shape hb
  have HB := Lib.hid hb
  clear hb
  rcases hp with rfl | rfl
  · go_enter Tryz.func52, Tryz.ntmps52
    go_wp2
    rw [Lib.run_to_unsafe w ⟨b, 0, none⟩ Tryz.underlying77 Tryz.underlying143 hj (by rw [hjs]; decide) hsh (Nat.zero_lt_succ 1)]
    simp only [Result.andThen]
    rw [Oper.upon_value]
    go_wp2
    rw [run_callFunc_extern Tryz.func73 (by kernel_rfl) (by kernel_rfl) (by kernel_rfl) (e := Extern.AbiNoEscape.same) (by kernel_rfl)]
    rw [Lib.run_noEscape]
    simp only [Result.andThen]
    rw [Oper.upon_value]
    go_wp2
    rw [Lib.run_from_unsafe w ⟨b, 0, none⟩ Tryz.underlying143 Tryz.underlying77 hj hsh bld_lies]
    simp only [Result.andThen]
    rw [Oper.upon_value]
    go_wp2
    go_end0
    exact ⟨rfl, by simpa using heap_set HB.out 0 (.pointer (some ⟨b, 0, none⟩)), (Fr.refl (fun k => k = b) w).set (p := ⟨b, 0, none⟩) (.inl rfl) _⟩
  · go_enter Tryz.func52, Tryz.ntmps52
    go_wp2
    rw [Lib.run_neq_ptr_same w _ Tryz.underlying77 hj]
    go_wp2
    go_end0
    exact ⟨rfl, HB.out, Fr.refl _ _⟩
theorem BldR.stored {b : Nat} {l m : List UInt8} {w w1 w2 : World} {v v1 : Value} {F : Nat → Prop} (hw : Fr (fun k => k = b) w w1) (hF : ∀ k, F k ↔ k = b ∨ v.ownBlock = some k) (hb : w1.heap[b]? = some (.cells #[.pointer (some ⟨b, 0, none⟩), v] 79 (0, 0))) (ho : w1.ownsRow 0 5 1 v l.length (byteCells l))
    {n : Nat} (ho1 : w2.ownsRow 0 5 1 v1 n (byteCells m)) (hg : w1.grownBy w2 v.ownBlock) (hat : v1.ownBlock = v.ownBlock ∨ ∃ k, v1.ownBlock = some k ∧ w1.heap.size ≤ k) (hlt : b < w.heap.size) :
    St F w [BldR b m] (w2.setCell ⟨b, 1, none⟩ v1) := by
  have hn : n = m.length := by have := ho1.1; simpa [byteCells] using this.symm
  subst hn
  have hne := row_ne ho hb (by decide)
  have hb1 : w2.heap[b]? = some (.cells #[.pointer (some ⟨b, 0, none⟩), v] 79 (0, 0)) := (hg.block b (heap_lt hb) hne).trans hb
  have hne1 := row_ne ho1 hb1 (by decide)
  have f1 : Fr F w w1 := hw.mono (fun k hk => (hF k).2 (.inl hk))
  have f2 : Fr F w w2 := f1.trans (Fr.of_grown (F := F) hg (fun k hk => (hF k).2 (.inr hk))) (fun k hk => .inl hk)
  refine ⟨f2.set (p := ⟨b, 1, none⟩) (.inl ((hF b).2 (.inl rfl))) v1, ?_⟩
  refine ⟨fun k => k = b ∨ v1.ownBlock = some k, ⟨_, v1, .inr rfl, by simpa using heap_set hb1 1 v1, row_set ho1 hne1 v1, fun _ => Iff.rfl⟩, ?_, trivial⟩
  rintro k (rfl | hk)
  · exact .inl ((hF k).2 (.inl rfl))
  · rcases hat with h | ⟨k', h, h'⟩
    · rw [h] at hk
      exact .inl ((hF k).2 (.inr hk))
    · rw [h] at hk
      injection hk with hk
      subst hk
      exact .inr (Nat.le_trans hw.size h')
set_option maxRecDepth 100000 in
set_option maxHeartbeats 1000000 in
theorem BldWS_spec (b : Nat) (l : List UInt8) (s : ByteArray) (hl : l.length + s.size ≤ 140737488355328) :
    Spec Tryz.prog 27 #[.pointer (some ⟨b, 0, none⟩), .string s] (BldR b l) (fun v A' N => v = .tuple #[.int .i64 s.size, .nilIface] ∧ A' = BldR b (l ++ s.data.toList) ∧ N = []) := by
  rintro F w ⟨p, v, hp, hb, ho, hF⟩
  have hne := row_ne ho hb (by decide)
  have HB := Lib.hid hb
  have HO := Lib.hid ho
  have HP := Lib.hid hp
  clear hb ho hp
  go_enter Tryz.func27, Tryz.ntmps27
  go_wp2_with (go_at_call 52; refine (bld_check b _ p v HP.out HB.out).mono ?_)
  rintro e w1 ⟨rfl, hb1, hfr⟩
  have ho1 : w1.ownsRow 0 5 1 v l.length (byteCells l) := row_move HO.out (fun k hk => hfr.block k (row_lt HO.out k hk) (fun h => hne (h ▸ hk.symm)))
  have c0 : w1.cell? ⟨b, 0, none⟩ = some (.pointer (some ⟨b, 0, none⟩)) := (heap_at hb1 0).trans rfl
  have c1 : w1.cell? ⟨b, 1, none⟩ = some v := (heap_at hb1 1).trans rfl
  have HB1 := Lib.hid hb1
  have HO1 := Lib.hid ho1
  have HF := Lib.hid hfr
  clear hb1 ho1 hfr
  go_wp2_with (at_builtin; refine wp_append_str_at w1 rfl _ _ _ _ rfl 5 Tryz.underlying42 Tryz.underlying9 infoByte v l.length (byteCells l) rfl HO1.out s rfl hl ?_; intro v1 w2 ho2 hg hat; obtain ⟨a1, k1, rfl⟩ := row_slice ho2; have HO2 := Lib.hid ho2; clear ho2; have HN := Lib.hid (row_ne HO1.out HB1.out (by decide)); have HB2 := Lib.hid (show w2.heap[b]? = _ from (hg.block b (heap_lt HB1.out) HN.out).trans HB1.out); have d0 : w2.cell? ⟨b, 0, none⟩ = some (.pointer (some ⟨b, 0, none⟩)) := (heap_at HB2.out 0).trans rfl; have d1 : w2.cell? ⟨b, 1, none⟩ = some v := (heap_at HB2.out 1).trans rfl; have e1 : w2.frozen? ⟨b, 1, none⟩ = false := heap_free HB2.out 1; have HG := Lib.hid hg; have HAT := Lib.hid hat; clear hg hat)
  go_ret2
  have ho2 := HO2.out
  rw [byteCells_str, ← byteCells_append] at ho2
  refine ⟨_, _, _, rfl, ⟨rfl, rfl, rfl⟩, ?_⟩
  exact BldR.stored HF.out hF HB1.out HO1.out ho2 HG.out (by rcases HAT.out with h | h; exact .inl h; exact .inr ⟨_, h, Nat.le_refl _⟩) (heap_lt HB.out)
set_option maxRecDepth 100000 in
set_option maxHeartbeats 2000000 in
theorem BldStr_spec (b : Nat) (l : List UInt8) : Spec Tryz.prog 28 #[.pointer (some ⟨b, 0, none⟩)] (BldR b l) (fun v A' N => v = .string (bsOf l) ∧ A' = EmpR ∧ N = []) := by
  rintro F w ⟨p, v, hp, hb, ho, hF⟩
  have done : ∀ w', Fr F w w' → St F w [EmpR] w' := fun w' h => ⟨h, fun _ => False, fun _ h => h, fun _ h => h.elim, trivial⟩
  have DONE := Lib.hid done
  clear done
  have hUS0 : ∀ (W : World) (q : Option Addr), (Builtin.unsafeString_ #[117, 3] 9 #[.pointer q, .int .i64 0]).run Tryz.prog W = .ok (.string .empty) W := fun W q => Lib.run_unsafeString_none W _ _ _ q
  have hl0 : l = [] ∨ l ≠ [] := by cases l; exact .inl rfl; exact .inr (by simp)
  rcases ho.2 with ⟨rfl, hz⟩ | ⟨g, cap, cur, rfl, _, hg, hnc, hcm, hcs, htake⟩
  · obtain rfl : l = [] := List.length_eq_zero_iff.1 hz
    have c1 : w.drew.cell? ⟨b, 1, none⟩ = some (.slice none 0 0) := (heap_at (w := w.drew) hb 1).trans rfl
    have hSD : (Builtin.unsafeSliceData_ #[42] 117 #[.slice none 0 0]).run Tryz.prog w.drew = .ok (.pointer none) w.drew := rfl
    clear hb ho hp
    go_enter Tryz.func28, Tryz.ntmps28
    go_wp2
    go_region
    all_goals (go_wp2; go_ret; exact ⟨_, _, _, rfl, ⟨rfl, rfl, rfl⟩, DONE.out _ (Fr.refl F w).drew⟩)
  · have hgF : F g := (hF g).2 (.inr rfl)
    have HGF := Lib.hid hgF
    clear hgF
    rcases hl0 with rfl | hl1
    · by_cases hc0 : cap = 0
      · subst hc0
        have hb' : w.drew.heap[b]? = some (.cells #[p, .slice (some ⟨g, 0, none⟩) 0 0] 79 (0, 0)) := hb
        have c1 : w.drew.cell? ⟨b, 1, none⟩ = some (.slice (some ⟨g, 0, none⟩) 0 0) := (heap_at hb' 1).trans rfl
        have hSD : (Builtin.unsafeSliceData_ #[42] 117 #[.slice (some ⟨g, 0, none⟩) 0 0]).run Tryz.prog w.drew = .ok (.pointer (some ⟨w.drew.heap.size, 0, none⟩)) (w.drew.alloc (.view ⟨g, 0, none⟩ 5)) :=
          Lib.run_unsafeSliceData_zero w.drew _ _ 5 Tryz.underlying117 ⟨g, 0, none⟩ 0 (5, cur.size) (by have hg' : w.drew.heap[g]? = some (.cells cur 5 (0, 0)) := hg; simp [World.shape?, hg'])
        have c2 : (w.drew.alloc (.view ⟨g, 0, none⟩ 5)).cell? ⟨b, 1, none⟩ = some (.slice (some ⟨g, 0, none⟩) 0 0) := by
          have h := (Lib.alloc_old w.drew (.view ⟨g, 0, none⟩ 5) b (heap_lt hb')).trans hb'
          exact (heap_at h 1).trans rfl
        have c3 : (w.alloc (.view ⟨g, 0, none⟩ 5)).drew.cell? ⟨b, 1, none⟩ = some (.slice (some ⟨g, 0, none⟩) 0 0) := c2
        have c0 : w.cell? ⟨b, 1, none⟩ = some (.slice (some ⟨g, 0, none⟩) 0 0) := c1
        clear hb hb' ho hp hg htake hcs
        go_enter Tryz.func28, Tryz.ntmps28
        go_wp2
        go_region
        all_goals (go_wp2; go_ret; exact ⟨_, _, _, rfl, ⟨rfl, rfl, rfl⟩, DONE.out _ ((Fr.refl F w).drew.alloc _)⟩)
      · have c1 : w.drew.cell? ⟨b, 1, none⟩ = some (.slice (some ⟨g, 0, none⟩) 0 cap) := (heap_at (w := w.drew) hb 1).trans rfl
        have hSD : (Builtin.unsafeSliceData_ #[42] 117 #[.slice (some ⟨g, 0, none⟩) 0 cap]).run Tryz.prog w.drew = .ok (.pointer (some ⟨g, 0, none⟩)) w.drew := Lib.run_unsafeSliceData_row _ _ _ _ _ _ hc0
        clear hb ho hp hg htake hcs hc0
        go_enter Tryz.func28, Tryz.ntmps28
        go_wp2
        go_region
        all_goals (go_wp2; go_ret; exact ⟨_, _, _, rfl, ⟨rfl, rfl, rfl⟩, DONE.out _ (Fr.refl F w).drew⟩)
    · have hlen : l.length ≠ 0 := by simpa using hl1
      have c1 : w.drew.cell? ⟨b, 1, none⟩ = some (.slice (some ⟨g, 0, none⟩) l.length cap) := (heap_at (w := w.drew) hb 1).trans rfl
      have hSD : (Builtin.unsafeSliceData_ #[42] 117 #[.slice (some ⟨g, 0, none⟩) l.length cap]).run Tryz.prog w.drew = .ok (.pointer (some ⟨g, 0, none⟩)) w.drew := Lib.run_unsafeSliceData_row _ _ _ _ _ _ (by omega)
      have hUS : (Builtin.unsafeString_ #[117, 3] 9 #[.pointer (some ⟨g, 0, none⟩), .int .i64 l.length]).run Tryz.prog w.drew = .ok (.string ⟨l.toArray⟩) (w.drew.freeze ⟨g, 0, none⟩ l.length) := by
        refine Lib.run_unsafeString_row w.drew 117 3 9 5 Tryz.underlying117 (by kernel_rfl) g cur.size (by have hg' : w.drew.heap[g]? = some (.cells cur 5 (0, 0)) := hg; simp [World.shape?, hg']) l hl1 (by omega) (by unfold maxLen at hcm; omega) ?_
        intro j x hx
        have := ho.cells (g := g) rfl j (.int .u8 x.toNat) (by simp [byteCells, hx])
        exact this
      clear hb ho hp hg htake hcs hl1 hlen hUS0
      go_enter Tryz.func28, Tryz.ntmps28
      go_wp2
      go_region
      all_goals (go_wp2; go_ret; exact ⟨_, _, _, rfl, ⟨rfl, rfl, rfl⟩, DONE.out _ (fr_freeze (Fr.refl F w).drew (p := ⟨g, 0, none⟩) HGF.out _)⟩)
def gBWrite (st : List UInt8) (s : List UInt8) : Option (List UInt8) := if st.length + s.length ≤ 140737488355328 then some (st ++ s) else none
theorem gBWrite_eq (st : List UInt8) (s : List UInt8) (h : st.length + s.length ≤ 140737488355328) : gBWrite st s = some (st ++ s) := if_pos h
theorem gBWrite_spec (g : Nat) (st : List UInt8) (s : List UInt8) (r : List UInt8) (h : gBWrite st s = some r) : SpecX Tryz.prog 27 #[.pointer (some ⟨g, 0, none⟩), .string (bsOf s)] .triv (BldR g st) (fun v A' N => v = .tuple #[.int .i64 (bsOf s).size, .nilIface] ∧ A' = BldR g r ∧ N = []) := by
  unfold gBWrite at h
  split at h
  · rename_i h1
    obtain rfl := Option.some.inj h
    have k := BldWS_spec g st (bsOf s) (by rw [bsOf_size]; exact h1)
    rw [bsOf_list] at k
    exact SpecX.of_spec k
  · simp at h
def gBStr (st : List UInt8) : Option (List UInt8) := some st
theorem gBStr_eq (st : List UInt8) : gBStr st = some st := rfl
theorem gBStr_spec (g : Nat) (st : List UInt8) (r : List UInt8) (h : gBStr st = some r) : SpecX Tryz.prog 28 #[.pointer (some ⟨g, 0, none⟩)] .triv (BldR g st) (fun v A' N => v = .string (bsOf r) ∧ A' = EmpR ∧ N = []) := by
  unfold gBStr at h
  obtain rfl := Option.some.inj h
  exact SpecX.of_spec (BldStr_spec g _)
end Go.Proofs.YtlhgogjcaegehaaGreat.Sl
namespace Go.Proofs.YtlhgogjcaegehaaGreat.Sl
open Go.RowKit
set_option linter.unusedVariables false
set_option linter.unusedSimpArgs false
section
variable {P : Program} {n : Nat} {F0 : Nat → Prop} {w0 : World} {e : Env} {Rs Rf : List Res} {Q : Exit → Act → World → Prop} {ops : Array Oper} {i d : Nat} {ty t : TypeId} {pos : String} {af : Array Edge} {gd : Option (Nat × Bool)} {l : List Nat} {lo : Sch}
theorem BldR.of_blk {b : Nat} {w : World} {G : Nat → Prop} (h : (BlkR b 79 #[.pointer none, .slice none 0 0]).P w G) : (BldR b []).P w G := by
  obtain ⟨h1, h2⟩ := h
  exact ⟨_, _, .inl rfl, h1, World.ownsRow_nil _ _ _ _, fun k => by simp [h2 k, Value.ownBlock]⟩
theorem TL.newbld {zv : Value} (ho : ops[i]? = some ⟨some d, .alloc t, ty, pos, af, gd⟩) (hw : Wd n ops e ⟨some d, .alloc t, ty, pos, af, gd⟩ true) (hz : ∀ w, (zeroValue t).run P w = .ok zv w) (hd : Nat.blt d n = true)
    (h : ∀ b, TL P n F0 w0 ops l ((d, .pointer (some ⟨b, 0, none⟩)) :: e) (BldR b [] :: Rs) Q) (ht : t = 79 := by rfl) (hzv : zv = .agg #[.pointer none, .slice none 0 0] := by rfl) : TL P n F0 w0 ops (i :: l) e Rs Q := by
  refine TL.alloc ho hw hz hd (fun b => ?_)
  intro a w ha hs
  subst ht hzv
  exact h b a w ha (hs.weaken 0 rfl (fun G hG => BldR.of_blk hG))
theorem TD.newbld {zv : Value} (ho : ops[i]? = some ⟨some d, .alloc t, ty, pos, af, gd⟩) (hw : Wd n ops e ⟨some d, .alloc t, ty, pos, af, gd⟩ true) (hz : ∀ w, (zeroValue t).run P w = .ok zv w) (hd : Nat.blt d n = true) (is : List Nat) (hf : ∀ b, Sel (BldR b [] :: Rs) is Rf)
    (h : ∀ b, TD P n F0 w0 ops lo Rf ((d, .pointer (some ⟨b, 0, none⟩)) :: e) (BldR b [] :: Rs) Q) (ht : t = 79 := by rfl) (hzv : zv = .agg #[.pointer none, .slice none 0 0] := by rfl) : TD P n F0 w0 ops (.e i lo) Rf e Rs Q := by
  refine TD.ef ho hw (Ef.alloc hz hd) ?_
  rintro _ _ ⟨b, rfl, rfl⟩
  subst ht hzv
  have key : ∀ w, St F0 w0 (BlkR b 79 #[.pointer none, .slice none 0 0] :: Rs) w → St F0 w0 (BldR b [] :: Rs) w := fun w hs => hs.weaken 0 rfl (fun G hG => BldR.of_blk hG)
  exact ⟨Rf, fun w hs => (key w hs).sel is (hf b), fun _ h => h, fun a w ha hs => h b a w ha (key w hs)⟩
end
section
variable {α : Type} {P : Program} {n : Nat} {F0 : Nat → Prop} {w0 : World} {e : Env} {Rs : List Res} {Q : Exit → Act → World → Prop} {ops : Array Oper} {l : List Nat} {c : Code} {S : Nat → Prop} {E : Rd α} {size m cp k : Nat} {A : Option Addr} {xs : List α} {x : α} {B : Res}
end
end Go.Proofs.YtlhgogjcaegehaaGreat.Sl
namespace Go.Proofs.YtlhgogjcaegehaaGreat.Sl
open Go.RowKit
set_option linter.unusedVariables false
set_option linter.unusedSimpArgs false
def PakR {ι : Type} (f : ι → List Res) : Res where
  P := fun w G => (∃ i, Sep (f i) w G) ∧ ∀ k, G k → k < w.heap.size
  lt := fun h k hk => h.2 k hk
  move := fun {w w' G} h hm => ⟨let ⟨i, hi⟩ := h.1; ⟨i, hi.move_ hm⟩, fun k hk => by
    have h1 := h.2 k hk
    have h2 := hm k hk
    rw [Array.getElem?_eq_getElem h1] at h2
    exact (Array.getElem?_eq_some_iff.1 h2).1⟩
section
variable {P : Program} {n : Nat} {F0 : Nat → Prop} {w0 w : World} {e : Env} {Rs Rs' Rf : List Res} {Q : Exit → Act → World → Prop} {ops : Array Oper} {l : List Nat} {c : Code} {x : Exit} {ι : Type} {f : ι → List Res}
end
section
variable {P : Program} {n : Nat} {F0 : Nat → Prop} {w0 w : World} {e : Env} {Rs Rf : List Res} {Q : Exit → Act → World → Prop} {ops : Array Oper} {d : Option Tmp} {i : Nat} {ty t t' el : TypeId} {pos : String} {af : Array Edge} {gd : Option (Nat × Bool)} {v : Value} {x y : Operand} {L : List Nat} {lo : Sch} {cd : Code}
variable {U c m k : Nat} {A : Option Addr}
variable {α : Type} {E : Rd α} {z : Nat} {xs ys : List α}
def cutA (A : Option Addr) (c k z : Nat) : Option Addr := if c = k then A else A.map (·.add (k * z))
end
end Go.Proofs.YtlhgogjcaegehaaGreat.Sl
namespace Go.Proofs.YtlhgogjcaegehaaGreat.Sl
open Go.RowKit
set_option linter.unusedVariables false
set_option linter.unusedSimpArgs false
section
variable {P : Program} {n : Nat} {F0 : Nat → Prop} {w0 w : World} {e e' : Env} {Rs Rs' Rf : List Res} {Q : Exit → Act → World → Prop} {ops : Array Oper} {L : List Nat} {lo : Sch} {cd : Code} {K : Act → World → Prop} {l id : Nat} {J : Nat → Nat → Env → List Res → Prop} {J' : Nat → Act → World → Prop}
theorem X.gs (h : X n F0 w0 e Rs (.goto l) Q) : X n F0 w0 e Rs (.goto l) (Exit.then K Q) := h
theorem X.nilrow {x : Exit} {α : Type} (T' : TypeId) (size : Nat) (E : Rd α) (h : X n F0 w0 e (OwnR T' size E (.slice none 0 0) [] :: Rs) x Q) : X n F0 w0 e Rs x Q := fun a w ha hs => h a w ha (OwnR.nil T' size E hs)
def AnyR (b T z : Nat) : Res := PakR (fun cs : {cs : Array Value // cs.size = z} => [BlkR b T cs.1])
theorem St.any {b T z : Nat} {cs : Array Value} (i : Nat) (h : St F0 w0 Rs w) (hi : Rs[i]? = some (BlkR b T cs)) (hz : cs.size = z) : St F0 w0 (Rs.set i (AnyR b T z)) w :=
  h.weaken i hi (fun G hG => ⟨⟨⟨cs, hz⟩, G, hG, fun k hk => hk, trivial⟩, (BlkR b T cs).lt hG⟩)
theorem X.any {x : Exit} {b T z : Nat} {cs : Array Value} (i : Nat) (hi : Rs[i]? = some (BlkR b T cs)) (hz : cs.size = z) (h : X n F0 w0 e (Rs.set i (AnyR b T z)) x Q) : X n F0 w0 e Rs x Q := fun a w ha hs => h a w ha (hs.any i hi hz)
theorem T.any {b T' z : Nat} {cs : Array Value} (i : Nat) (hi : Rs[i]? = some (BlkR b T' cs)) (hz : cs.size = z) (h : T P n F0 w0 e (Rs.set i (AnyR b T' z)) cd Q) : T P n F0 w0 e Rs cd Q := fun a w ha hs => h a w ha (hs.any i hi hz)
variable {d : Option Tmp} {i : Nat} {ty t t' el : TypeId} {pos : String} {af : Array Edge} {gd : Option (Nat × Bool)} {v : Value} {x y : Operand}
variable {α : Type} {E : Rd α} {z : Nat} {xs ys : List α} {A A2 : Option Addr} {m c c2 k : Nat} {U bytes : Nat} {zv : Value}
theorem RX.sub {G : Nat → Prop} {p q : Nat} (h : (RX.of (sliceRd z E) [.slice A m c] xs).P w G) (hpq : p ≤ q) (hq : q ≤ xs.length) (hl : ((xs.drop p).take (q - p)) = ys) : (RX.of (sliceRd z E) [.slice (cutA A c p z) ys.length (c - p)] ys).P w G := by
  subst hl
  have hlen : ((xs.drop p).take (q - p)).length = q - p := by rw [List.length_take, List.length_drop]; omega
  rcases h with ⟨h, rfl⟩ | ⟨a, cap, h, h1, h2, hb, hr⟩
  · injection h with h
    injection h with e1 e2 e3
    subst e1 e3
    obtain rfl : q = 0 := by simpa using hq
    obtain rfl : p = 0 := by omega
    exact .inl ⟨rfl, by simp⟩
  · injection h with h
    injection h with e1 e2 e3
    subst e1 e3
    by_cases hc : c = p
    · have hz : q - p = 0 := by omega
      refine .inr ⟨a, c - p, by simp [cutA, hc], by rw [hlen]; omega, by omega, fun h => by omega, fun i x hx => ?_⟩
      have := (List.getElem?_eq_some_iff.1 hx).1
      omega
    · refine .inr ⟨a.add (p * z), c - p, by simp [cutA, hc], by rw [hlen]; omega, by omega, fun h => by rw [Go.ChangeShapes.block_add]; exact hb (by omega), fun i x hx => ?_⟩
      rw [List.getElem?_take] at hx
      split at hx
      · rw [List.getElem?_drop] at hx
        obtain ⟨cs, k1, k2, k3⟩ := hr (p + i) x hx
        refine ⟨cs, k1, fun j hj => ?_, k3⟩
        rw [← k2 j hj]
        congr 1
        unfold Addr.add
        split <;> split <;> simp_all [Nat.add_mul, Nat.add_assoc]
      · exact nomatch hx
end
section
variable {P : Program} {t el : TypeId}
end
end Go.Proofs.YtlhgogjcaegehaaGreat.Sl
namespace Go.Proofs.YtlhgogjcaegehaaGreat.Sl
open Go.RowKit
set_option linter.unusedVariables false
set_option linter.unusedSimpArgs false
def wantV (ops : Array Oper) (e : Env) : Option (Nat × Bool) → Option Bool
  | none => some true
  | some (j, want) => match (ops[j]?).bind (·.dst) with
    | some t => match e.get t with
      | some (.bool b) => some (match b with | true => want | false => !want)
      | some _ => some false
      | none => none
    | none => none
theorem wantV_ok {n : Nat} {ops : Array Oper} {e : Env} {d : Option Tmp} {op : Op} {ty : TypeId} {pos : String} {af : Array Edge} {g : Option (Nat × Bool)} {b : Bool} (h : wantV ops e g = some b) : Wd n ops e ⟨d, op, ty, pos, af, g⟩ b := by
  intro a ha
  cases g with
  | none =>
    cases h
    rfl
  | some g =>
    obtain ⟨j, want⟩ := g
    simp only [wantV] at h
    split at h
    · rename_i t hj
      split at h
      · rename_i b' hv
        injection h with h
        subst h
        simp only [Region.wanted, yielded, hj, Option.bind_some, ha.at_ t _ hv]
        cases b' <;> cases want <;> rfl
      · rename_i v hne hv
        injection h with h
        subst h
        simp only [Region.wanted, yielded, hj, Option.bind_some, ha.at_ t _ hv]
        cases v <;> first | rfl | exact absurd rfl (hne _)
      · cases h
    · cases h
def memN : List Nat → Nat → Bool
  | [], _ => false
  | a :: r, t => match Nat.beq a t with
    | true => true
    | false => memN r t
def NOK (P : Program) : List Nat → Prop
  | [] => True
  | a :: r => (∀ w, (isAgg a).run P w = .ok false w) ∧ NOK P r
theorem NOK.get {P : Program} : ∀ {l : List Nat}, NOK P l → ∀ {t : Nat}, memN l t = true → ∀ w, (isAgg t).run P w = .ok false w
  | [], _, t, h => by simp [memN] at h
  | a :: r, ⟨h1, h2⟩, t, h => by
    simp only [memN] at h
    cases hb : Nat.beq a t with
    | true =>
      obtain rfl := Nat.eq_of_beq_eq_true hb
      exact h1
    | false => rw [hb] at h; exact NOK.get h2 h
def pureW (ft : FTab) (nt : List Nat) (cs : Array Value) (e : Env) (L : List Nat) : Op → Option (Value × List Nat)
  | .pick c x y => match e.ev c with
    | some (.bool b) => match b with
      | true => match e.ev x with
        | some v => some (v, L)
        | none => none
      | false => match e.ev y with
        | some v => some (v, L)
        | none => none
    | _ => none
  | .load t x => match memN nt t with
    | true => match e.ev x with
      | some (.pointer (some ⟨b, o, none⟩)) => match cs[o]? with
        | some v => some (v, b :: L)
        | none => none
      | _ => none
    | false => none
  | op => match pureV ft e op with
    | some v => some (v, L)
    | none => none
def runB (ft : FTab) (nt : List Nat) (cs : Array Value) (n : Nat) (ops : Array Oper) : Env → List Nat → List Nat → Option (Env × List Nat)
  | e, L, [] => some (e, L)
  | e, L, i :: is => match ops[i]? with
    | some ⟨d, op, _, _, _, g⟩ => match wantV ops e g with
      | some true => match d with
        | some d => match Nat.blt d n with
          | true => match pureW ft nt cs e L op with
            | some (v, L') => runB ft nt cs n ops ((d, v) :: e) L' is
            | none => none
          | false => none
        | none => none
      | some false => match d with
        | some d => match Nat.blt d n with
          | true => runB ft nt cs n ops ((d, undef) :: e) L is
          | false => none
        | none => runB ft nt cs n ops e L is
      | none => none
    | none => none
section
variable {P : Program} {n : Nat} {F0 : Nat → Prop} {w0 : World} {e e' : Env} {Rs : List Res} {Q : Exit → Act → World → Prop} {ops : Array Oper} {ft : FTab} {nt : List Nat} {cs : Array Value} {b T j : Nat} {L L' l : List Nat}
theorem pureW_sub {op : Op} {v : Value} (h : pureW ft nt cs e L op = some (v, L')) : ∀ x ∈ L, x ∈ L' := by
  unfold pureW at h
  repeat' split at h
  all_goals first | cases h | skip
  all_goals first | exact fun x hx => hx | exact fun x hx => List.mem_cons_of_mem _ hx
theorem runB_sub : ∀ (is : List Nat) {e e' : Env} {L L' : List Nat}, runB ft nt cs n ops e L is = some (e', L') → ∀ x ∈ L, x ∈ L'
  | [], e, e', L, L', h => by
    cases h
    exact fun x hx => hx
  | i :: is, e, e', L, L', h => by
    simp only [runB] at h
    repeat' split at h
    all_goals first | cases h | skip
    all_goals first | exact runB_sub is h | (rename_i hp; exact fun x hx => runB_sub is h x (pureW_sub hp x hx))
theorem pureW_run {d : Option Tmp} {op : Op} {ty : TypeId} {pos : String} {af : Array Edge} {g : Option (Nat × Bool)} {v : Value} (hft : ft.OK P) (hnt : NOK P nt) (hi : Rs[j]? = some (BlkR b T cs)) (h : pureW ft nt cs e L op = some (v, L')) (hL : ∀ x ∈ L', x = b) :
    Ex P n e (St F0 w0 Rs) ⟨d, op, ty, pos, af, g⟩ v := by
  unfold pureW at h
  split at h
  · split at h
    · rename_i hc
      split at h
      · split at h
        · rename_i hx
          cases h
          exact Ex.py hc rfl hx
        · cases h
      · split at h
        · rename_i hx
          cases h
          exact Ex.pn hc rfl hx
        · cases h
    · cases h
  · split at h
    · rename_i ht
      split at h
      · rename_i b' o hx
        split at h
        · rename_i hv
          cases h
          obtain rfl := hL b' (List.mem_cons_self ..)
          exact Ex.b1 j hx (hnt.get ht) hi hv
        · cases h
      · cases h
    · cases h
  · split at h
    · rename_i hv
      cases h
      exact pureV_run hft hv
    · cases h
theorem TL.runB_ (hft : ft.OK P) (hnt : NOK P nt) (hi : Rs[j]? = some (BlkR b T cs)) : ∀ (is : List Nat) {e e' : Env} {L L' l : List Nat}, runB ft nt cs n ops e L is = some (e', L') → (∀ x ∈ L', x = b) → TL P n F0 w0 ops l e' Rs Q → TL P n F0 w0 ops (is ++ l) e Rs Q
  | [], e, e', L, L', l, h, _, k => by
    cases h
    exact k
  | i :: is, e, e', L, L', l, h, hL, k => by
    simp only [runB] at h
    split at h
    · rename_i d op ty pos af g ho
      split at h
      · rename_i hw
        split at h
        · rename_i d
          split at h
          · rename_i hd
            split at h
            · rename_i v L1 hv
              exact TL.q ho (wantV_ok hw) (pureW_run hft hnt hi hv (fun x hx => hL x (runB_sub is h x hx))) hd (TL.runB_ hft hnt hi is h hL k)
            · cases h
          · cases h
        · cases h
      · rename_i hw
        split at h
        · rename_i d
          split at h
          · rename_i hd
            exact TL.no ho (wantV_ok hw) hd (TL.runB_ hft hnt hi is h hL k)
          · cases h
        · exact TL.no0 ho (wantV_ok hw) (TL.runB_ hft hnt hi is h hL k)
      · cases h
    · cases h
theorem TL.rb (hft : ft.OK P) (hnt : NOK P nt) (j : Nat) (hi : Rs[j]? = some (BlkR b T cs)) (k : Nat) (h : runB ft nt cs n ops e [] (l.take k) = some (e', L)) (hL : L = L.map fun _ => b) (K : TL P n F0 w0 ops (l.drop k) e' Rs Q) : TL P n F0 w0 ops l e Rs Q := by
  have h2 : ∀ x ∈ L, x = b := fun x hx => by
    rw [hL] at hx
    obtain ⟨_, _, rfl⟩ := List.mem_map.1 hx
    rfl
  have h3 := TL.runB_ hft hnt hi (l.take k) h h2 K
  rwa [List.take_append_drop] at h3
theorem TL.runW_ (hft : ft.OK P) : ∀ (is : List Nat) {e e' : Env} {l : List Nat}, runB ft [] #[] n ops e [] is = some (e', []) → TL P n F0 w0 ops l e' Rs Q → TL P n F0 w0 ops (is ++ l) e Rs Q
  | [], e, e', l, h, k => by
    cases h
    exact k
  | i :: is, e, e', l, h, k => by
    simp only [runB] at h
    split at h
    · rename_i d op ty pos af g ho
      split at h
      · rename_i hw
        split at h
        · rename_i d
          split at h
          · rename_i hd
            split at h
            · rename_i v L1 hv
              have hL1 : L1 = [] := by
                cases L1 with
                | nil => rfl
                | cons x r => exact absurd (runB_sub is h x (List.mem_cons_self ..)) (by simp)
              subst hL1
              have hx : Ex P n e (St F0 w0 Rs) ⟨some d, op, ty, pos, af, g⟩ v := by
                unfold pureW at hv
                split at hv
                · split at hv
                  · rename_i hc
                    split at hv
                    · split at hv
                      · rename_i hx
                        cases hv
                        exact Ex.py hc rfl hx
                      · cases hv
                    · split at hv
                      · rename_i hx
                        cases hv
                        exact Ex.pn hc rfl hx
                      · cases hv
                  · cases hv
                · simp [memN] at hv
                · split at hv
                  · rename_i hv'
                    cases hv
                    exact pureV_run hft hv'
                  · cases hv
              exact TL.q ho (wantV_ok hw) hx hd (TL.runW_ hft is h k)
            · cases h
          · cases h
        · cases h
      · rename_i hw
        split at h
        · rename_i d
          split at h
          · rename_i hd
            exact TL.no ho (wantV_ok hw) hd (TL.runW_ hft is h k)
          · cases h
        · exact TL.no0 ho (wantV_ok hw) (TL.runW_ hft is h k)
      · cases h
    · cases h
theorem TL.rw (hft : ft.OK P) (k : Nat) (h : runB ft [] #[] n ops e [] (l.take k) = some (e', [])) (K : TL P n F0 w0 ops (l.drop k) e' Rs Q) : TL P n F0 w0 ops l e Rs Q := by
  have h3 := TL.runW_ hft (l.take k) h K
  rwa [List.take_append_drop] at h3
theorem TL.hv (d : Nat) {x y : Bool} (hv : e.get d = some (.bool x)) (h : x = y) (K : TL P n F0 w0 ops l ((d, .bool y) :: e) Rs Q) : TL P n F0 w0 ops l e Rs Q := fun a w ha hs => by
  refine K a w (ha.sub (fun t u hu => ?_)) hs
  simp only [Env.get] at hu
  cases hb : Nat.beq d t with
  | true =>
    rw [hb] at hu
    obtain rfl := Nat.eq_of_beq_eq_true hb
    injection hu with hu
    rw [hv, h, hu]
  | false => rw [hb] at hu; exact hu
end
end Go.Proofs.YtlhgogjcaegehaaGreat.Sl
namespace Go.Proofs.YtlhgogjcaegehaaGreat.Sl
open Go.RowKit
set_option linter.unusedVariables false
set_option linter.unusedSimpArgs false
set_option maxRecDepth 100000
def ft_header : FTab := [(103, 0, 0), (103, 1, 1)]
theorem ft_header_ok : (ft_header).OK Tryz.prog := ⟨FOK.mk Tryz.runUnderlying103 rfl Tryz.sizeOf9 rfl, FOK.mk Tryz.runUnderlying103 rfl Tryz.sizeOf23 rfl, trivial⟩
def nt_header : List Nat := [9]
theorem nt_header_ok : NOK Tryz.prog nt_header := ⟨Tryz.isAgg9, trivial⟩
def f_header_Write_l1 : List Hd → (List UInt8 × Int) → Option (List UInt8 × Int)
  | [], st6 => some st6
  | x11 :: xs, st6 => (gPutName st6 x11.fKey).bind fun st16 => (gPutVaried st16 x11.fValue).bind fun st18 => f_header_Write_l1 xs st18
def f_header_Write (st : List UInt8 × Int) (a1 : List Hd) : Option (List UInt8 × Int) := (gPutInt st (a1.length : Int)).bind fun st3 => (f_header_Write_l1 a1 st3).bind fun st21 => some st21
set_option maxRecDepth 100000 in
set_option maxHeartbeats 4000000 in
theorem f_header_Write_spec (g : Nat) (st : List UInt8 × Int) (a1 : List Hd) (A1 : Option Addr) (c2 : Nat) (r : List UInt8 × Int) (h : f_header_Write st a1 = some r) : SpecX Tryz.prog 82 #[.pointer (some ⟨g, 0, none⟩), .slice A1 a1.length c2] (RX.of (sliceRd 3 Hd_rd) [.slice A1 a1.length c2] a1) (OutR g st) (fun v A' N => v = .tuple #[] ∧ A' = OutR g r ∧ N = []) := by
  refine enterA Tryz.func82 rfl Tryz.ntmps82 rfl ?_
  intro F w hX
  unfold f_header_Write at h
  refine T.seq (T.region rfl ?_)
  refine TL.run ft_header_ok [0, 1] rfl rfl ?_
  refine TL.q rfl .u (Ex.lenS rfl Tryz.runUnderlying88) rfl ?_
  obtain ⟨st3, hx4, h⟩ := Option.bind_eq_some_iff.1 h
  refine TL.c0 rfl .u (.fn Tryz.call80 rfl) (gPutInt_spec g st (a1.length : Int) _ hx4) (fun _ hs => (Src.triv _)) rfl ?_
  refine TL.nil (X.seq (T.seq (T.region rfl ?_)))
  refine TL.run ft_header_ok [0] rfl rfl ?_
  refine TL.q rfl .u (Ex.lenS rfl Tryz.runUnderlying88) rfl ?_
  refine TL.run ft_header_ok [2] rfl rfl ?_
  refine TL.nil (X.seq (T.block ?_))
  obtain ⟨E7, hE8, hO9⟩ := Option.bind_eq_some_iff.1 h
  have hk13len := RX.len_le hX
  refine T.lp (fun m e Rs => ∃ (k5 : Nat) (st6 : List UInt8 × Int), k5 + m = a1.length ∧ e = [(0, .pointer (some ⟨g, 0, none⟩)), (10, .slice A1 a1.length c2), (11, .int .i64 (a1.length : Int)), (12, .int .i64 (k5 : Int))] ∧ Rs = [OutR g st6] ∧ f_header_Write_l1 (a1.drop k5) st6 = some E7) (a1.length) [0] ⟨0, st3, by simp, rfl, rfl, by rw [List.drop_zero]; exact hE8⟩ (by rfl) (by rfl) ?_
  rintro m10 _ _ ⟨k5, st6, hk13, rfl, rfl, hl12⟩
  clear hE8 h
  cases m10 with
  | zero =>
    have h := hl12
    clear hl12
    rw [List.drop_of_length_le (by omega), f_header_Write_l1] at h
    have hk13ge : ¬ ((k5 : Int) < (a1.length : Int)) := by omega
    refine T.seq (T.region rfl ?_)
    refine TL.run ft_header_ok [0] rfl rfl ?_
    refine TL.nil (X.seq (T.seq ?_))
    refine T.no rfl (decide_eq_false hk13ge) ?_
    obtain rfl := Option.some.inj h
    replace h := hO9
    clear hO9
    try dsimp only at h
    obtain rfl := Option.some.inj h
    exact T.exit (X.exs (X.exs (X.ex (X.done0 [0] Tryz.results82 ⟨rfl, rfl, rfl⟩ (by rfl) (.inr rfl)))))
  | succ m10 =>
    have h := hl12
    clear hl12
    obtain ⟨x11, hxx11⟩ : ∃ x, a1[k5]? = some x := ⟨_, List.getElem?_eq_getElem (by omega)⟩
    rw [drop_cons hxx11, f_header_Write_l1] at h
    have hk13lt : (k5 : Int) < (a1.length : Int) := by omega
    refine T.seq (T.region rfl ?_)
    refine TL.run ft_header_ok [0] rfl rfl ?_
    refine TL.nil (X.seq (T.seq ?_))
    refine T.yes rfl (decide_eq_true hk13lt) ?_
    obtain ⟨gz14, oz14, rfl, z14cs, z14cl, z14cc, z14nf, z14r⟩ := RX.elem (by decide) hX hxx11
    obtain ⟨z14S, z14r, z14rr⟩ := z14r
    obtain rfl : z14cs = [.string (bsOf x11.fKey), .bool x11.fValue.null, .string (bsOf x11.fValue.data)] := z14r
    refine T.skip (X.seq (T.seq (T.block (T.seq (T.region rfl ?_)))))
    refine TL.q rfl .u (Ex.ixS (k := k5) rfl rfl rfl Tryz.runUnderlying88 Tryz.sizeOf103 (List.getElem?_eq_some_iff.1 hxx11).1) rfl ?_
    refine TL.q rfl .u (Ex.oS (us := [.string (bsOf x11.fKey), .bool x11.fValue.null, .string (bsOf x11.fValue.data)]) 0 rfl Tryz.isAgg103 Tryz.sizeOf103 z14nf z14cc rfl rfl rfl) rfl ?_
    refine TL.alloc rfl .u Tryz.zeroValue103 rfl (fun b15 => ?_)
    refine TL.st0 (cs' := #[.string (bsOf x11.fKey), .bool x11.fValue.null, .string (bsOf x11.fValue.data)]) rfl .u rfl rfl Tryz.sizeOf103 rfl rfl rfl rfl ?_
    refine TL.nil (X.seq (T.seq (T.region rfl ?_)))
    obtain ⟨st16, hx17, h⟩ := Option.bind_eq_some_iff.1 h
    refine TL.rb ft_header_ok nt_header_ok 0 rfl 3 rfl rfl ?_
    refine TL.c1 rfl .u (.fn Tryz.call63 rfl) (gPutName_spec g st6 x11.fKey _ hx17) (fun _ hs => (Src.triv _)) rfl ?_
    refine TL.nil (X.seq (T.region rfl ?_))
    refine TL.run ft_header_ok [0, 1] rfl rfl ?_
    refine TL.q rfl .u (Ex.bS (us := [.bool x11.fValue.null, .string (bsOf x11.fValue.data)]) 0 rfl Tryz.isAgg23 Tryz.sizeOf23 rfl rfl rfl) rfl ?_
    obtain ⟨st18, hx19, h⟩ := Option.bind_eq_some_iff.1 h
    refine TL.c1 rfl .u (.fn Tryz.call81 rfl) (gPutVaried_spec g st16 x11.fValue _ hx19) (fun _ hs => (Src.triv _)) rfl ?_
    refine TL.nil (X.blk (X.seq (T.region rfl ?_)))
    refine TL.q rfl .u (Ex.add rfl rfl (by omega)) rfl ?_
    refine TL.run ft_header_ok [1] rfl rfl ?_
    exact TL.nil (X.back (m' := m10) [1] (by omega) ⟨k5 + 1, st18, by omega, rfl, rfl, h⟩ (by rfl) (by rfl))
end Go.Proofs.YtlhgogjcaegehaaGreat.Sl
namespace Go.Proofs.YtlhgogjcaegehaaGreat.Sl
open Go.RowKit
set_option linter.unusedVariables false
set_option linter.unusedSimpArgs false
set_option maxRecDepth 100000
def ft_record : FTab := [(90, 0, 0), (90, 1, 1), (90, 2, 2), (90, 3, 4), (90, 4, 6), (103, 1, 1)]
theorem ft_record_ok : (ft_record).OK Tryz.prog := ⟨FOK.mk Tryz.runUnderlying90 rfl Tryz.sizeOf3 rfl, FOK.mk Tryz.runUnderlying90 rfl Tryz.sizeOf3 rfl, FOK.mk Tryz.runUnderlying90 rfl Tryz.sizeOf23 rfl, FOK.mk Tryz.runUnderlying90 rfl Tryz.sizeOf23 rfl, FOK.mk Tryz.runUnderlying90 rfl Tryz.sizeOf88 rfl, FOK.mk Tryz.runUnderlying103 rfl Tryz.sizeOf23 rfl, trivial⟩
def nt_record : List Nat := [3, 88]
theorem nt_record_ok : NOK Tryz.prog nt_record := ⟨Tryz.isAgg3, Tryz.isAgg88, trivial⟩
theorem sok_record_156_1 : SOK Tryz.prog 156 23 1 2 #[.bool false, .string ⟨#[]⟩] := SOK.mk Tryz.runUnderlying156 Tryz.sizeOf23 Tryz.zeroValue23 (by decide) (by kernel_rfl)
theorem sok_record_156_2 : SOK Tryz.prog 156 23 2 2 #[.bool false, .string ⟨#[]⟩, .bool false, .string ⟨#[]⟩] := SOK.mk Tryz.runUnderlying156 Tryz.sizeOf23 Tryz.zeroValue23 (by decide) (by kernel_rfl)
def f_record_rights_l1 : List Bl → Bool → Option (Lp Bool Bool)
  | [], y3 => some (Lp.go y3)
  | x9 :: xs, y3 => (gRight x9).bind fun x14 => if x14 = true then (f_record_rights_l1 xs y3) else some (Lp.ret false)
def f_record_rights (a0 : List Bl) : Option (Bool) := (f_record_rights_l1 a0 false).bind fun e => match e with | .ret r => some r | .go y17 => some true
set_option maxRecDepth 100000 in
set_option maxHeartbeats 4000000 in
theorem f_record_rights_spec (a0 : List Bl) (A1 : Option Addr) (c2 : Nat) (r : Bool) (h : f_record_rights a0 = some r) : SpecX Tryz.prog 76 #[.slice A1 a0.length c2] (RX.of (sliceRd 2 Bl_rd) [.slice A1 a0.length c2] a0) (EmpR) (fun v A' N => v = .bool r ∧ A' = EmpR ∧ N = []) := by
  refine enterA Tryz.func76 rfl Tryz.ntmps76 rfl ?_
  intro F w hX
  unfold f_record_rights at h
  refine T.seq (T.region rfl ?_)
  refine TL.run ft_record_ok [0] rfl rfl ?_
  refine TL.nil (X.seq (T.seq (T.seq (T.region rfl ?_))))
  refine TL.run ft_record_ok [0] rfl rfl ?_
  refine TL.q rfl .u (Ex.lenS rfl Tryz.runUnderlying156) rfl ?_
  refine TL.run ft_record_ok [2] rfl rfl ?_
  refine TL.nil (X.seq (T.block ?_))
  obtain ⟨E5, hE6, hO7⟩ := Option.bind_eq_some_iff.1 h
  have hk11len := RX.len_le hX
  refine T.lp (fun m e Rs => ∃ (y3 : Bool) (k4 : Nat), k4 + m = a0.length ∧ e = [(2, .bool y3), (5, .slice A1 a0.length c2), (6, .int .i64 (a0.length : Int)), (7, .int .i64 (k4 : Int))] ∧ Rs = [EmpR] ∧ f_record_rights_l1 (a0.drop k4) y3 = some E5) (a0.length) [0] ⟨false, 0, by simp, rfl, rfl, by rw [List.drop_zero]; exact hE6⟩ (by rfl) (by rfl) ?_
  rintro m8 _ _ ⟨y3, k4, hk11, rfl, rfl, hl10⟩
  clear hE6 h
  cases m8 with
  | zero =>
    have h := hl10
    clear hl10
    rw [List.drop_of_length_le (by omega), f_record_rights_l1] at h
    have hk11ge : ¬ ((k4 : Int) < (a0.length : Int)) := by omega
    refine T.seq (T.region rfl ?_)
    refine TL.run ft_record_ok [0] rfl rfl ?_
    refine TL.nil (X.seq (T.seq ?_))
    refine T.no rfl (decide_eq_false hk11ge) ?_
    obtain rfl := Option.some.inj h
    replace h := hO7
    clear hO7
    try dsimp only at h
    refine T.exit (X.exs (X.exs (X.ex (X.seq (T.seq (T.region rfl ?_))))))
    refine TL.run ft_record_ok [0] rfl rfl ?_
    obtain rfl := Option.some.inj h
    exact TL.nil (X.seq (T.ret (X.done1 [0] Tryz.results76 (RV.tm rfl) ⟨rfl, rfl, rfl⟩ (by rfl) (.inl rfl))))
  | succ m8 =>
    have h := hl10
    clear hl10
    obtain ⟨x9, hxx9⟩ : ∃ x, a0[k4]? = some x := ⟨_, List.getElem?_eq_getElem (by omega)⟩
    rw [drop_cons hxx9, f_record_rights_l1] at h
    have hk11lt : (k4 : Int) < (a0.length : Int) := by omega
    refine T.seq (T.region rfl ?_)
    refine TL.run ft_record_ok [0] rfl rfl ?_
    refine TL.nil (X.seq (T.seq ?_))
    refine T.yes rfl (decide_eq_true hk11lt) ?_
    obtain ⟨gz12, oz12, rfl, z12cs, z12cl, z12cc, z12nf, z12r⟩ := RX.elem (by decide) hX hxx9
    obtain ⟨z12S, z12r, z12rr⟩ := z12r
    obtain rfl : z12cs = [.bool x9.null, .string (bsOf x9.data)] := z12r
    refine T.skip (X.seq (T.seq (T.block (T.seq (T.region rfl ?_)))))
    refine TL.q rfl .u (Ex.ixS (k := k4) rfl rfl rfl Tryz.runUnderlying156 Tryz.sizeOf23 (List.getElem?_eq_some_iff.1 hxx9).1) rfl ?_
    refine TL.q rfl .u (Ex.oS (us := [.bool x9.null, .string (bsOf x9.data)]) 0 rfl Tryz.isAgg23 Tryz.sizeOf23 z12nf z12cc rfl rfl rfl) rfl ?_
    refine TL.alloc rfl .u Tryz.zeroValue23 rfl (fun b13 => ?_)
    refine TL.st0 (cs' := #[.bool x9.null, .string (bsOf x9.data)]) rfl .u rfl rfl Tryz.sizeOf23 rfl rfl rfl rfl ?_
    refine TL.nil (X.seq (T.seq (T.region rfl ?_)))
    refine TL.q rfl .u (Ex.bS (us := [.bool x9.null, .string (bsOf x9.data)]) 0 rfl Tryz.isAgg23 Tryz.sizeOf23 rfl rfl rfl) rfl ?_
    obtain ⟨x14, hx15, h⟩ := Option.bind_eq_some_iff.1 h
    refine TL.ce rfl .u (.fn Tryz.call45 rfl) (gRight_spec x9 _ hx15) (fun _ hs => (RX.reads_triv _ _)) rfl ?_
    refine TL.run ft_record_ok [2] rfl rfl ?_
    by_cases c16 : x14 = true
    · replace h := ifT c16 h
      refine TL.nil (X.seq ?_)
      refine T.no rfl (bn_f c16) ?_
      refine T.skip (X.blk (X.seq (T.region rfl ?_)))
      refine TL.q rfl .u (Ex.add rfl rfl (by omega)) rfl ?_
      refine TL.run ft_record_ok [1] rfl rfl ?_
      exact TL.nil (X.back (m' := m8) [1] (by omega) ⟨y3, k4 + 1, by omega, rfl, rfl, h⟩ (by rfl) (by rfl))
    · replace h := ifF c16 h
      replace c16 := eq_false_of_ne_true c16
      refine TL.nil (X.seq ?_)
      refine T.yes rfl (bn_t c16) ?_
      refine T.seq (T.region rfl ?_)
      refine TL.run ft_record_ok [0] rfl rfl ?_
      obtain rfl := Option.some.inj h
      replace h := hO7
      clear hO7
      try dsimp only at h
      obtain rfl := Option.some.inj h
      exact TL.nil (X.seq (T.ret (X.rb (X.rs (X.rs (X.rb (X.rs (X.done1 [1] Tryz.results76 (RV.tm rfl) ⟨rfl, rfl, rfl⟩ (by rfl) (.inl rfl)))))))))
def f_record_Right_l1 : List Hd → Int → Option (Lp Int Int)
  | [], y12 => some (Lp.go y12)
  | x18 :: xs, y12 => (f_record_rights [x18.fValue]).bind fun x24 => if x24 = true then (f_record_Right_l1 xs y12) else some (Lp.ret 4)
def f_record_Right (a0 : Rec) : Option (Int) := if a0.fOffset < 0 then some 11 else ((gFits a0.fOffset 4).bind fun x5 => if x5 = true then ((f_record_rights [a0.fKey, a0.fValue]).bind fun x9 => if x9 = true then ((f_record_Right_l1 a0.fHeaders 0).bind fun e => match e with | .ret r => some r | .go y27 => some 0) else some 4) else some 11)
set_option maxRecDepth 100000 in
set_option maxHeartbeats 4000000 in
theorem f_record_Right_spec (a0 : Rec) (A1 : Option Addr) (c2 : Nat) (r : Int) (h : f_record_Right a0 = some r) : SpecX Tryz.prog 59 #[.agg #[.int .i64 a0.fTime, .int .i64 a0.fOffset, .bool a0.fKey.null, .string (bsOf a0.fKey.data), .bool a0.fValue.null, .string (bsOf a0.fValue.data), .slice A1 a0.fHeaders.length c2]] (RX.of (sliceRd 3 Hd_rd) [.slice A1 a0.fHeaders.length c2] a0.fHeaders) (EmpR) (fun v A' N => v = .int .i64 r ∧ A' = EmpR ∧ N = []) := by
  refine enterA Tryz.func59 rfl Tryz.ntmps59 rfl ?_
  intro F w hX
  unfold f_record_Right at h
  refine T.seq (T.region rfl ?_)
  refine TL.box rfl .u rfl rfl (fun b3 => ?_)
  refine TL.run ft_record_ok [1] rfl rfl ?_
  refine TL.nil (X.seq (T.seq (T.seq (T.region rfl ?_))))
  by_cases c4 : a0.fOffset < 0
  · replace h := ifT c4 h
    refine TL.rb ft_record_ok nt_record_ok 0 rfl 4 rfl rfl ?_
    refine TL.hv 8 rfl (decide_eq_true c4) ?_
    refine TL.rw ft_record_ok 5 rfl ?_
    refine TL.nil (X.seq ?_)
    refine T.yes rfl rfl ?_
    refine T.seq (T.region rfl ?_)
    refine TL.run ft_record_ok [0] rfl rfl ?_
    obtain rfl := Option.some.inj h
    exact TL.nil (X.seq (T.ret (X.rs (X.done1 [1] Tryz.results59 (RV.tm rfl) ⟨rfl, rfl, rfl⟩ (by rfl) (.inl rfl)))))
  · replace h := ifF c4 h
    refine TL.rb ft_record_ok nt_record_ok 0 rfl 4 rfl rfl ?_
    refine TL.hv 8 rfl (decide_eq_false c4) ?_
    obtain ⟨x5, hx6, h⟩ := Option.bind_eq_some_iff.1 h
    refine TL.rb ft_record_ok nt_record_ok 0 rfl 2 rfl rfl ?_
    refine TL.ce rfl (.g rfl rfl rfl) (.fn Tryz.call40 rfl) (SpecX.pure (fun w => gFits_spec a0.fOffset 4 _ hx6 w)) (fun _ _ => RX.reads_triv _ _) rfl ?_
    refine TL.rw ft_record_ok 2 rfl ?_
    by_cases c7 : x5 = true
    · replace h := ifT c7 h
      refine TL.nil (X.seq ?_)
      refine T.no rfl (bn_f c7) ?_
      refine T.skip (X.seq (T.seq (T.seq (T.region rfl ?_))))
      refine TL.run ft_record_ok [0] rfl rfl ?_
      refine TL.q rfl .u (Ex.bS (us := [.bool a0.fKey.null, .string (bsOf a0.fKey.data)]) 0 rfl Tryz.isAgg23 Tryz.sizeOf23 rfl rfl rfl) rfl ?_
      refine TL.run ft_record_ok [2] rfl rfl ?_
      refine TL.q rfl .u (Ex.bS (us := [.bool a0.fValue.null, .string (bsOf a0.fValue.data)]) 0 rfl Tryz.isAgg23 Tryz.sizeOf23 rfl rfl rfl) rfl ?_
      refine TL.lit (cells := #[.bool a0.fKey.null, .string (bsOf a0.fKey.data), .bool a0.fValue.null, .string (bsOf a0.fValue.data)]) rfl .u sok_record_156_2 rfl (by kernel_rfl) rfl (fun b8 => ?_)
      refine TL.rowOf (us := [.bool a0.fKey.null, .string (bsOf a0.fKey.data), .bool a0.fValue.null, .string (bsOf a0.fValue.data)]) (xs := [a0.fKey, a0.fValue]) (E := Bl_rd) (z := 2) rfl (Nat.le_of_ble_eq_true rfl) (fun _ => ⟨rfl, rfl, ⟨rfl, rfl, rfl⟩⟩) ?_
      obtain ⟨x9, hx10, h⟩ := Option.bind_eq_some_iff.1 h
      refine TL.ce rfl .u (.fn Tryz.call76 rfl) (f_record_rights_spec [a0.fKey, a0.fValue] _ _ _ hx10) (fun _ hs => (SrcE.res 0 hs rfl (fun w G h => own_reads (by decide) w G h))) rfl ?_
      refine TL.run ft_record_ok [6] rfl rfl ?_
      by_cases c11 : x9 = true
      · replace h := ifT c11 h
        refine TL.nil (X.seq ?_)
        refine T.no rfl (bn_f c11) ?_
        refine T.skip (X.seq (T.seq (T.seq (T.region rfl ?_))))
        refine TL.rb ft_record_ok nt_record_ok 1 rfl 2 rfl rfl ?_
        refine TL.q rfl .u (Ex.lenS rfl Tryz.runUnderlying88) rfl ?_
        refine TL.run ft_record_ok [3] rfl rfl ?_
        refine TL.nil (X.seq (T.block ?_))
        obtain ⟨E14, hE15, hO16⟩ := Option.bind_eq_some_iff.1 h
        have hk20len := RX.len_le hX
        refine T.lp (fun m e Rs => ∃ (y12 : Int) (k13 : Nat), k13 + m = a0.fHeaders.length ∧ e = [(2, .int .i64 y12), (22, .slice A1 a0.fHeaders.length c2), (23, .int .i64 (a0.fHeaders.length : Int)), (24, .int .i64 (k13 : Int))] ∧ Rs = [OwnR 23 2 Bl_rd (.slice (some ⟨b8, 0, none⟩) 2 2) [a0.fKey, a0.fValue], BlkR b3 90 #[.int .i64 a0.fTime, .int .i64 a0.fOffset, .bool a0.fKey.null, .string (bsOf a0.fKey.data), .bool a0.fValue.null, .string (bsOf a0.fValue.data), .slice A1 a0.fHeaders.length c2], EmpR] ∧ f_record_Right_l1 (a0.fHeaders.drop k13) y12 = some E14) (a0.fHeaders.length) [0, 0, 0] ⟨0, 0, by simp, rfl, rfl, by rw [List.drop_zero]; exact hE15⟩ (by rfl) (by rfl) ?_
        rintro m17 _ _ ⟨y12, k13, hk20, rfl, rfl, hl19⟩
        clear hE15 h
        cases m17 with
        | zero =>
          have h := hl19
          clear hl19
          rw [List.drop_of_length_le (by omega), f_record_Right_l1] at h
          have hk20ge : ¬ ((k13 : Int) < (a0.fHeaders.length : Int)) := by omega
          refine T.seq (T.region rfl ?_)
          refine TL.run ft_record_ok [0] rfl rfl ?_
          refine TL.nil (X.seq (T.seq ?_))
          refine T.no rfl (decide_eq_false hk20ge) ?_
          obtain rfl := Option.some.inj h
          replace h := hO16
          clear hO16
          try dsimp only at h
          refine T.exit (X.exs (X.exs (X.ex (X.seq (T.seq (T.region rfl ?_))))))
          refine TL.run ft_record_ok [0] rfl rfl ?_
          obtain rfl := Option.some.inj h
          exact TL.nil (X.seq (T.ret (X.done1 [2] Tryz.results59 (RV.tm rfl) ⟨rfl, rfl, rfl⟩ (by rfl) (.inl rfl))))
        | succ m17 =>
          have h := hl19
          clear hl19
          obtain ⟨x18, hxx18⟩ : ∃ x, a0.fHeaders[k13]? = some x := ⟨_, List.getElem?_eq_getElem (by omega)⟩
          rw [drop_cons hxx18, f_record_Right_l1] at h
          have hk20lt : (k13 : Int) < (a0.fHeaders.length : Int) := by omega
          refine T.seq (T.region rfl ?_)
          refine TL.run ft_record_ok [0] rfl rfl ?_
          refine TL.nil (X.seq (T.seq ?_))
          refine T.yes rfl (decide_eq_true hk20lt) ?_
          obtain ⟨gz21, oz21, rfl, z21cs, z21cl, z21cc, z21nf, z21r⟩ := RX.elem (by decide) hX hxx18
          obtain ⟨z21S, z21r, z21rr⟩ := z21r
          obtain rfl : z21cs = [.string (bsOf x18.fKey), .bool x18.fValue.null, .string (bsOf x18.fValue.data)] := z21r
          refine T.skip (X.seq (T.seq (T.block (T.seq (T.region rfl ?_)))))
          refine TL.q rfl .u (Ex.ixS (k := k13) rfl rfl rfl Tryz.runUnderlying88 Tryz.sizeOf103 (List.getElem?_eq_some_iff.1 hxx18).1) rfl ?_
          refine TL.q rfl .u (Ex.oS (us := [.string (bsOf x18.fKey), .bool x18.fValue.null, .string (bsOf x18.fValue.data)]) 0 rfl Tryz.isAgg103 Tryz.sizeOf103 z21nf z21cc rfl rfl rfl) rfl ?_
          refine TL.alloc rfl .u Tryz.zeroValue103 rfl (fun b22 => ?_)
          refine TL.st0 (cs' := #[.string (bsOf x18.fKey), .bool x18.fValue.null, .string (bsOf x18.fValue.data)]) rfl .u rfl rfl Tryz.sizeOf103 rfl rfl rfl rfl ?_
          refine TL.nil (X.seq (T.seq (T.region rfl ?_)))
          refine TL.run ft_record_ok [0] rfl rfl ?_
          refine TL.q rfl .u (Ex.bS (us := [.bool x18.fValue.null, .string (bsOf x18.fValue.data)]) 0 rfl Tryz.isAgg23 Tryz.sizeOf23 rfl rfl rfl) rfl ?_
          refine TL.lit (cells := #[.bool x18.fValue.null, .string (bsOf x18.fValue.data)]) rfl .u sok_record_156_1 rfl (by rfl) rfl (fun b23 => ?_)
          refine TL.rowOf (us := [.bool x18.fValue.null, .string (bsOf x18.fValue.data)]) (xs := [x18.fValue]) (E := Bl_rd) (z := 2) rfl (Nat.le_of_ble_eq_true rfl) (fun _ => ⟨rfl, rfl, rfl⟩) ?_
          obtain ⟨x24, hx25, h⟩ := Option.bind_eq_some_iff.1 h
          refine TL.ce rfl .u (.fn Tryz.call76 rfl) (f_record_rights_spec [x18.fValue] _ _ _ hx25) (fun _ hs => (SrcE.res 0 hs rfl (fun w G h => own_reads (by decide) w G h))) rfl ?_
          refine TL.run ft_record_ok [4] rfl rfl ?_
          by_cases c26 : x24 = true
          · replace h := ifT c26 h
            refine TL.nil (X.seq ?_)
            refine T.no rfl (bn_f c26) ?_
            refine T.skip (X.blk (X.seq (T.region rfl ?_)))
            refine TL.q rfl .u (Ex.add rfl rfl (by omega)) rfl ?_
            refine TL.run ft_record_ok [1] rfl rfl ?_
            exact TL.nil (X.back (m' := m17) [2, 2, 2] (by omega) ⟨y12, k13 + 1, by omega, rfl, rfl, h⟩ (by rfl) (by rfl))
          · replace h := ifF c26 h
            replace c26 := eq_false_of_ne_true c26
            refine TL.nil (X.seq ?_)
            refine T.yes rfl (bn_t c26) ?_
            refine T.seq (T.region rfl ?_)
            refine TL.run ft_record_ok [0] rfl rfl ?_
            obtain rfl := Option.some.inj h
            replace h := hO16
            clear hO16
            try dsimp only at h
            obtain rfl := Option.some.inj h
            exact TL.nil (X.seq (T.ret (X.rb (X.rs (X.rs (X.rb (X.rs (X.done1 [4] Tryz.results59 (RV.tm rfl) ⟨rfl, rfl, rfl⟩ (by rfl) (.inl rfl)))))))))
      · replace h := ifF c11 h
        replace c11 := eq_false_of_ne_true c11
        refine TL.nil (X.seq ?_)
        refine T.yes rfl (bn_t c11) ?_
        refine T.seq (T.region rfl ?_)
        refine TL.run ft_record_ok [0] rfl rfl ?_
        obtain rfl := Option.some.inj h
        exact TL.nil (X.seq (T.ret (X.rs (X.done1 [2] Tryz.results59 (RV.tm rfl) ⟨rfl, rfl, rfl⟩ (by rfl) (.inl rfl)))))
    · replace h := ifF c7 h
      replace c7 := eq_false_of_ne_true c7
      refine TL.nil (X.seq ?_)
      refine T.yes rfl (bn_t c7) ?_
      refine T.seq (T.region rfl ?_)
      refine TL.run ft_record_ok [0] rfl rfl ?_
      obtain rfl := Option.some.inj h
      exact TL.nil (X.seq (T.ret (X.rs (X.done1 [1] Tryz.results59 (RV.tm rfl) ⟨rfl, rfl, rfl⟩ (by rfl) (.inl rfl)))))
def f_record_body (a0 : Rec) : Option (List UInt8 × Int) := (gOByte ([], 0) 0).bind fun st5 => (gPutLong st5 a0.fTime).bind fun st7 => (gPutInt st7 a0.fOffset).bind fun st9 => (gPutVaried st9 a0.fKey).bind fun st11 => (gPutVaried st11 a0.fValue).bind fun st13 => (f_header_Write st13 a0.fHeaders).bind fun st15 => (gOText st15).bind fun (x17, x18, st19) => some (x17, x18)
set_option maxRecDepth 100000 in
set_option maxHeartbeats 4000000 in
theorem f_record_body_spec (a0 : Rec) (A1 : Option Addr) (c2 : Nat) (r : List UInt8 × Int) (h : f_record_body a0 = some r) : SpecX Tryz.prog 62 #[.agg #[.int .i64 a0.fTime, .int .i64 a0.fOffset, .bool a0.fKey.null, .string (bsOf a0.fKey.data), .bool a0.fValue.null, .string (bsOf a0.fValue.data), .slice A1 a0.fHeaders.length c2]] (RX.of (sliceRd 3 Hd_rd) [.slice A1 a0.fHeaders.length c2] a0.fHeaders) (EmpR) (fun v A' N => v = .tuple #[.string (bsOf r.1), .int .i64 r.2] ∧ A' = EmpR ∧ N = []) := by
  refine enterA Tryz.func62 rfl Tryz.ntmps62 rfl ?_
  intro F w hX
  unfold f_record_body at h
  refine T.seq (T.region rfl ?_)
  refine TL.box rfl .u rfl rfl (fun b3 => ?_)
  refine TL.run ft_record_ok [1, 2] rfl rfl ?_
  refine TL.nil (X.seq (T.seq (T.region rfl ?_)))
  refine TL.newout rfl .u Tryz.zeroValue44 rfl (fun b4 => ?_)
  obtain ⟨st5, hx6, h⟩ := Option.bind_eq_some_iff.1 h
  refine TL.nil (X.seq (T.seq (T.region rfl ?_)))
  refine TL.c0 rfl .u (.fn Tryz.call51 rfl) (gOByte_spec b4 ([], 0) 0 _ hx6) (fun _ hs => (Src.triv _)) rfl ?_
  refine TL.nil (X.seq (T.seq (T.region rfl ?_)))
  obtain ⟨st7, hx8, h⟩ := Option.bind_eq_some_iff.1 h
  refine TL.rb ft_record_ok nt_record_ok 1 rfl 2 rfl rfl ?_
  refine TL.c0 rfl .u (.fn Tryz.call79 rfl) (gPutLong_spec b4 st5 a0.fTime _ hx8) (fun _ hs => (Src.triv _)) rfl ?_
  refine TL.nil (X.seq (T.seq (T.region rfl ?_)))
  obtain ⟨st9, hx10, h⟩ := Option.bind_eq_some_iff.1 h
  refine TL.rb ft_record_ok nt_record_ok 1 rfl 2 rfl rfl ?_
  refine TL.c0 rfl .u (.fn Tryz.call80 rfl) (gPutInt_spec b4 st7 a0.fOffset _ hx10) (fun _ hs => (Src.triv _)) rfl ?_
  refine TL.nil (X.seq (T.seq (T.region rfl ?_)))
  refine TL.run ft_record_ok [0] rfl rfl ?_
  refine TL.q rfl .u (Ex.bS (us := [.bool a0.fKey.null, .string (bsOf a0.fKey.data)]) 1 rfl Tryz.isAgg23 Tryz.sizeOf23 rfl rfl rfl) rfl ?_
  obtain ⟨st11, hx12, h⟩ := Option.bind_eq_some_iff.1 h
  refine TL.c0 rfl .u (.fn Tryz.call81 rfl) (gPutVaried_spec b4 st9 a0.fKey _ hx12) (fun _ hs => (Src.triv _)) rfl ?_
  refine TL.nil (X.seq (T.seq (T.region rfl ?_)))
  refine TL.run ft_record_ok [0] rfl rfl ?_
  refine TL.q rfl .u (Ex.bS (us := [.bool a0.fValue.null, .string (bsOf a0.fValue.data)]) 1 rfl Tryz.isAgg23 Tryz.sizeOf23 rfl rfl rfl) rfl ?_
  obtain ⟨st13, hx14, h⟩ := Option.bind_eq_some_iff.1 h
  refine TL.c0 rfl .u (.fn Tryz.call81 rfl) (gPutVaried_spec b4 st11 a0.fValue _ hx14) (fun _ hs => (Src.triv _)) rfl ?_
  refine TL.nil (X.seq (T.seq (T.region rfl ?_)))
  obtain ⟨st15, hx16, h⟩ := Option.bind_eq_some_iff.1 h
  refine TL.rb ft_record_ok nt_record_ok 1 rfl 2 rfl rfl ?_
  refine TL.c0 rfl .u (.fn Tryz.call82 rfl) (f_header_Write_spec b4 st13 a0.fHeaders _ _ _ hx16) (fun _ hs => (Src.old hs hX)) rfl ?_
  obtain ⟨⟨x17, x18, st19⟩, hx20, h⟩ := Option.bind_eq_some_iff.1 h
  try dsimp only at h
  refine TL.nil (X.seq (T.seq (T.region rfl ?_)))
  refine TL.c0 rfl .u (.fn Tryz.call11 rfl) (gOText_spec b4 st15 _ hx20) (fun _ hs => (Src.triv _)) rfl ?_
  refine TL.run ft_record_ok [1, 2, 3, 4] rfl rfl ?_
  obtain rfl := Option.some.inj h
  exact TL.nil (X.seq (T.ret (X.done2 [2] Tryz.results62 (RV.tm rfl) (RV.tm rfl) ⟨rfl, rfl, rfl⟩ (by rfl) (.inl rfl))))
def f_record_Write (st : List UInt8 × Int) (a1 : Rec) : Option (List UInt8 × Int) := (f_record_Right a1).bind fun x4 => if x4 = 0 then ((f_record_body a1).bind fun (x7, x8) => if x8 = 0 then ((gPutName st x7).bind fun st11 => some st11) else ((gOFail st x8).bind fun st13 => some st13)) else ((gOFail st x4).bind fun st15 => some st15)
set_option maxRecDepth 100000 in
set_option maxHeartbeats 4000000 in
theorem f_record_Write_spec (g : Nat) (st : List UInt8 × Int) (a1 : Rec) (A1 : Option Addr) (c2 : Nat) (r : List UInt8 × Int) (h : f_record_Write st a1 = some r) : SpecX Tryz.prog 33 #[.pointer (some ⟨g, 0, none⟩), .agg #[.int .i64 a1.fTime, .int .i64 a1.fOffset, .bool a1.fKey.null, .string (bsOf a1.fKey.data), .bool a1.fValue.null, .string (bsOf a1.fValue.data), .slice A1 a1.fHeaders.length c2]] (RX.of (sliceRd 3 Hd_rd) [.slice A1 a1.fHeaders.length c2] a1.fHeaders) (OutR g st) (fun v A' N => v = .tuple #[] ∧ A' = OutR g r ∧ N = []) := by
  refine enterA Tryz.func33 rfl Tryz.ntmps33 rfl ?_
  intro F w hX
  unfold f_record_Write at h
  refine T.seq (T.region rfl ?_)
  refine TL.box rfl .u rfl rfl (fun b3 => ?_)
  refine TL.nil (X.seq (T.seq (T.seq (T.region rfl ?_))))
  refine TL.q rfl .u (Ex.bS (us := [.int .i64 a1.fTime, .int .i64 a1.fOffset, .bool a1.fKey.null, .string (bsOf a1.fKey.data), .bool a1.fValue.null, .string (bsOf a1.fValue.data), .slice A1 a1.fHeaders.length c2]) 0 rfl Tryz.isAgg90 Tryz.sizeOf90 rfl rfl rfl) rfl ?_
  obtain ⟨x4, hx5, h⟩ := Option.bind_eq_some_iff.1 h
  refine TL.ce rfl .u (.fn Tryz.call59 rfl) (f_record_Right_spec a1 _ _ _ hx5) (fun _ hs => (SrcE.old hs hX)) rfl ?_
  refine TL.run ft_record_ok [2] rfl rfl ?_
  refine TL.nil (X.seq (T.seq (T.region rfl ?_)))
  refine TL.run ft_record_ok [0, 1] rfl rfl ?_
  by_cases c6 : x4 = 0
  · replace h := ifT c6 h
    refine TL.nil (X.seq ?_)
    refine T.no rfl (bn_f (decide_eq_true c6)) ?_
    refine T.skip (X.seq (T.seq (T.region rfl ?_)))
    refine TL.q rfl .u (Ex.bS (us := [.int .i64 a1.fTime, .int .i64 a1.fOffset, .bool a1.fKey.null, .string (bsOf a1.fKey.data), .bool a1.fValue.null, .string (bsOf a1.fValue.data), .slice A1 a1.fHeaders.length c2]) 0 rfl Tryz.isAgg90 Tryz.sizeOf90 rfl rfl rfl) rfl ?_
    obtain ⟨⟨x7, x8⟩, hx9, h⟩ := Option.bind_eq_some_iff.1 h
    try dsimp only at h
    refine TL.ce rfl .u (.fn Tryz.call62 rfl) (f_record_body_spec a1 _ _ _ hx9) (fun _ hs => (SrcE.old hs hX)) rfl ?_
    refine TL.run ft_record_ok [2, 3, 4, 5, 6] rfl rfl ?_
    refine TL.nil (X.seq (T.seq (T.seq (T.region rfl ?_))))
    refine TL.run ft_record_ok [0, 1] rfl rfl ?_
    by_cases c10 : x8 = 0
    · replace h := ifT c10 h
      refine TL.nil (X.seq ?_)
      refine T.no rfl (bn_f (decide_eq_true c10)) ?_
      refine T.skip (X.seq (T.region rfl ?_))
      obtain ⟨st11, hx12, h⟩ := Option.bind_eq_some_iff.1 h
      refine TL.run ft_record_ok [0, 1] rfl rfl ?_
      refine TL.c1 rfl .u (.fn Tryz.call63 rfl) (gPutName_spec g st x7 _ hx12) (fun _ hs => (Src.triv _)) rfl ?_
      obtain rfl := Option.some.inj h
      exact TL.nil (X.done0 [1] Tryz.results33 ⟨rfl, rfl, rfl⟩ (by rfl) (.inr rfl))
    · replace h := ifF c10 h
      refine TL.nil (X.seq ?_)
      refine T.yes rfl (bn_t (decide_eq_false c10)) ?_
      refine T.seq (T.region rfl ?_)
      obtain ⟨st13, hx14, h⟩ := Option.bind_eq_some_iff.1 h
      refine TL.run ft_record_ok [0, 1] rfl rfl ?_
      refine TL.c1 rfl .u (.fn Tryz.call22 rfl) (gOFail_spec g st x8 _ hx14) (fun _ hs => (Src.triv _)) rfl ?_
      obtain rfl := Option.some.inj h
      exact TL.nil (X.seq (T.ret (X.rs (X.done0 [1] Tryz.results33 ⟨rfl, rfl, rfl⟩ (by rfl) (.inl rfl)))))
  · replace h := ifF c6 h
    refine TL.nil (X.seq ?_)
    refine T.yes rfl (bn_t (decide_eq_false c6)) ?_
    refine T.seq (T.region rfl ?_)
    obtain ⟨st15, hx16, h⟩ := Option.bind_eq_some_iff.1 h
    refine TL.run ft_record_ok [0, 1] rfl rfl ?_
    refine TL.c1 rfl .u (.fn Tryz.call22 rfl) (gOFail_spec g st x4 _ hx16) (fun _ hs => (Src.triv _)) rfl ?_
    obtain rfl := Option.some.inj h
    exact TL.nil (X.seq (T.ret (X.rs (X.done0 [1] Tryz.results33 ⟨rfl, rfl, rfl⟩ (by rfl) (.inl rfl)))))
end Go.Proofs.YtlhgogjcaegehaaGreat.Sl
namespace Go.Proofs.YtlhgogjcaegehaaGreat.Sl
open Go.RowKit
set_option linter.unusedVariables false
set_option linter.unusedSimpArgs false
set_option maxRecDepth 100000
def ft_cursitorref06 : FTab := [(23, 0, 0), (23, 1, 1), (103, 1, 1)]
theorem ft_cursitorref06_ok : (ft_cursitorref06).OK Tryz.prog := ⟨FOK.mk Tryz.runUnderlying23 rfl Tryz.sizeOf4 rfl, FOK.mk Tryz.runUnderlying23 rfl Tryz.sizeOf9 rfl, FOK.mk Tryz.runUnderlying103 rfl Tryz.sizeOf23 rfl, trivial⟩
def f_r06_Right_l1 (a0 : List Hd) : Nat → Bool → Nat → Option (Lp Bool (Bool × Nat))
  | 0, _, _ => none
  | m8 + 1, y3, k4 => if (k4 : Int) < (a0.length : Int) then ((a0[k4]?).bind fun x13 => if x13.fValue.null = true then (if x13.fValue.data = [] then (if -9223372036854775808 ≤ ((k4 : Int) + 1) ∧ ((k4 : Int) + 1) ≤ 9223372036854775807 then (f_r06_Right_l1 a0 m8 y3 (k4 + 1)) else none) else some (Lp.ret false)) else (if -9223372036854775808 ≤ ((k4 : Int) + 1) ∧ ((k4 : Int) + 1) ≤ 9223372036854775807 then (f_r06_Right_l1 a0 m8 y3 (k4 + 1)) else none)) else (some (Lp.go (y3, k4)))
def f_r06_Right (a0 : List Hd) : Option (Bool) := (f_r06_Right_l1 a0 (((a0.length : Int)).toNat + 1) false 0).bind fun e => match e with | .ret r => some r | .go (y20, k21) => some true
set_option maxRecDepth 100000 in
set_option maxHeartbeats 4000000 in
theorem f_r06_Right_spec (a0 : List Hd) (A1 : Option Addr) (c2 : Nat) (r : Bool) (h : f_r06_Right a0 = some r) : SpecX Tryz.prog 86 #[.slice A1 a0.length c2] (RX.of (sliceRd 3 Hd_rd) [.slice A1 a0.length c2] a0) (EmpR) (fun v A' N => v = .bool r ∧ A' = EmpR ∧ N = []) := by
  refine enterA Tryz.func86 rfl Tryz.ntmps86 rfl ?_
  intro F w hX
  unfold f_r06_Right at h
  refine T.seq (T.region rfl ?_)
  refine TL.run ft_cursitorref06_ok [0] rfl rfl ?_
  refine TL.nil (X.seq (T.seq (T.seq (T.region rfl ?_))))
  refine TL.run ft_cursitorref06_ok [0] rfl rfl ?_
  refine TL.nil (X.seq (T.block ?_))
  obtain ⟨E5, hE6, hO7⟩ := Option.bind_eq_some_iff.1 h
  refine T.lp (fun m e Rs => ∃ (y3 : Bool) (k4 : Nat), e = [(0, .slice A1 a0.length c2), (2, .bool y3), (3, .int .i64 (k4 : Int))] ∧ Rs = [EmpR] ∧ f_r06_Right_l1 a0 m y3 k4 = some E5) (((a0.length : Int)).toNat + 1) [0] ⟨false, 0, rfl, rfl, by exact hE6⟩ (by rfl) (by rfl) ?_
  rintro m8 _ _ ⟨y3, k4, rfl, rfl, hl10⟩
  clear hE6 h
  cases m8 with
  | zero =>
    rw [f_r06_Right_l1] at hl10
    cases hl10
  | succ m8 =>
    have h := hl10
    clear hl10
    rw [f_r06_Right_l1] at h
    refine T.seq (T.seq (T.region rfl ?_))
    refine TL.run ft_cursitorref06_ok [0, 1] rfl rfl ?_
    refine TL.q rfl .u (Ex.lenS rfl Tryz.runUnderlying88) rfl ?_
    refine TL.run ft_cursitorref06_ok [3] rfl rfl ?_
    by_cases c12 : (k4 : Int) < (a0.length : Int)
    · replace h := ifT c12 h
      refine TL.nil (X.seq ?_)
      refine T.yes rfl (decide_eq_true c12) ?_
      refine T.skip (X.seq (T.seq (T.block (T.seq (T.region rfl ?_)))))
      obtain ⟨x13, hx14, h⟩ := Option.bind_eq_some_iff.1 h
      obtain ⟨gz15, oz15, rfl, z15cs, z15cl, z15cc, z15nf, z15r⟩ := RX.elem (by decide) hX hx14
      obtain ⟨z15S, z15r, z15rr⟩ := z15r
      obtain rfl : z15cs = [.string (bsOf x13.fKey), .bool x13.fValue.null, .string (bsOf x13.fValue.data)] := z15r
      refine TL.run ft_cursitorref06_ok [0, 1] rfl rfl ?_
      refine TL.q rfl .u (Ex.ixS (k := k4) rfl rfl rfl Tryz.runUnderlying88 Tryz.sizeOf103 (List.getElem?_eq_some_iff.1 hx14).1) rfl ?_
      refine TL.run ft_cursitorref06_ok [3, 4] rfl rfl ?_
      refine TL.q rfl .u (Ex.o1 1 rfl Tryz.isAgg4 z15nf z15cc rfl rfl) rfl ?_
      by_cases c16 : x13.fValue.null = true
      · replace h := ifT c16 h
        refine TL.run ft_cursitorref06_ok [6] rfl rfl ?_
        refine TL.hv 16 rfl c16 ?_
        refine TL.rw ft_cursitorref06_ok 2 rfl ?_
        refine TL.q rfl (.g rfl rfl rfl) (Ex.ixS (k := k4) rfl rfl rfl Tryz.runUnderlying88 Tryz.sizeOf103 (List.getElem?_eq_some_iff.1 hx14).1) rfl ?_
        refine TL.rw ft_cursitorref06_ok 2 rfl ?_
        refine TL.q rfl (.g rfl rfl rfl) (Ex.o1 2 rfl Tryz.isAgg9 z15nf z15cc rfl rfl) rfl ?_
        refine TL.q rfl (.g rfl rfl rfl) (Ex.sNe rfl (m := []) rfl) rfl ?_
        refine TL.rw ft_cursitorref06_ok 1 rfl ?_
        by_cases c17 : x13.fValue.data = []
        · replace h := ifT c17 h
          refine TL.nil (X.seq ?_)
          refine T.no rfl (bn_f (decide_eq_true c17)) ?_
          refine T.skip (X.blk (X.seq (T.region rfl ?_)))
          replace h := guard_some h
          obtain ⟨c18, h⟩ := h
          refine TL.run ft_cursitorref06_ok [0] rfl rfl ?_
          refine TL.q rfl .u (Ex.add rfl rfl c18) rfl ?_
          refine TL.run ft_cursitorref06_ok [2] rfl rfl ?_
          exact TL.nil (X.back (m' := m8) [0] (by omega) ⟨y3, k4 + 1, rfl, rfl, h⟩ (by rfl) (by rfl))
        · replace h := ifF c17 h
          refine TL.nil (X.seq ?_)
          refine T.yes rfl (bn_t (decide_eq_false c17)) ?_
          refine T.seq (T.region rfl ?_)
          refine TL.run ft_cursitorref06_ok [0] rfl rfl ?_
          obtain rfl := Option.some.inj h
          replace h := hO7
          clear hO7
          try dsimp only at h
          obtain rfl := Option.some.inj h
          exact TL.nil (X.seq (T.ret (X.rb (X.rs (X.rs (X.rb (X.rs (X.done1 [0] Tryz.results86 (RV.tm rfl) ⟨rfl, rfl, rfl⟩ (by rfl) (.inl rfl)))))))))
      · replace h := ifF c16 h
        replace c16 := eq_false_of_ne_true c16
        refine TL.run ft_cursitorref06_ok [6] rfl rfl ?_
        refine TL.hv 16 rfl c16 ?_
        refine TL.rw ft_cursitorref06_ok 8 rfl ?_
        refine TL.nil (X.seq ?_)
        refine T.no rfl rfl ?_
        refine T.skip (X.blk (X.seq (T.region rfl ?_)))
        replace h := guard_some h
        obtain ⟨c19, h⟩ := h
        refine TL.run ft_cursitorref06_ok [0] rfl rfl ?_
        refine TL.q rfl .u (Ex.add rfl rfl c19) rfl ?_
        refine TL.run ft_cursitorref06_ok [2] rfl rfl ?_
        exact TL.nil (X.back (m' := m8) [0] (by omega) ⟨y3, k4 + 1, rfl, rfl, h⟩ (by rfl) (by rfl))
    · replace h := ifF c12 h
      refine TL.nil (X.seq ?_)
      refine T.no rfl (decide_eq_false c12) ?_
      obtain rfl := Option.some.inj h
      replace h := hO7
      clear hO7
      try dsimp only at h
      refine T.exit (X.exs (X.exs (X.ex (X.seq (T.seq (T.region rfl ?_))))))
      refine TL.run ft_cursitorref06_ok [0] rfl rfl ?_
      obtain rfl := Option.some.inj h
      exact TL.nil (X.seq (T.ret (X.done1 [0] Tryz.results86 (RV.tm rfl) ⟨rfl, rfl, rfl⟩ (by rfl) (.inl rfl))))
end Go.Proofs.YtlhgogjcaegehaaGreat.Sl
namespace Go.Proofs.YtlhgogjcaegehaaGreat.Sl
open Go.RowKit
set_option linter.unusedVariables false
set_option linter.unusedSimpArgs false
set_option maxRecDepth 100000
def ft_cursitorref07 : FTab := [(23, 0, 0), (23, 1, 1), (90, 1, 1), (90, 2, 2), (90, 3, 4), (90, 4, 6)]
theorem ft_cursitorref07_ok : (ft_cursitorref07).OK Tryz.prog := ⟨FOK.mk Tryz.runUnderlying23 rfl Tryz.sizeOf4 rfl, FOK.mk Tryz.runUnderlying23 rfl Tryz.sizeOf9 rfl, FOK.mk Tryz.runUnderlying90 rfl Tryz.sizeOf3 rfl, FOK.mk Tryz.runUnderlying90 rfl Tryz.sizeOf23 rfl, FOK.mk Tryz.runUnderlying90 rfl Tryz.sizeOf23 rfl, FOK.mk Tryz.runUnderlying90 rfl Tryz.sizeOf88 rfl, trivial⟩
def nt_cursitorref07 : List Nat := [3, 4, 9, 88]
theorem nt_cursitorref07_ok : NOK Tryz.prog nt_cursitorref07 := ⟨Tryz.isAgg3, Tryz.isAgg4, Tryz.isAgg9, Tryz.isAgg88, trivial⟩
def f_r07_odd (a0 : Bl) : Option (Bool) := if a0.null = true then (if a0.data = [] then some false else some true) else some false
set_option maxRecDepth 100000 in
set_option maxHeartbeats 4000000 in
theorem f_r07_odd_spec (a0 : Bl) (r : Bool) (h : f_r07_odd a0 = some r) : SpecX Tryz.prog 85 #[.agg #[.bool a0.null, .string (bsOf a0.data)]] .triv (EmpR) (fun v A' N => v = .bool r ∧ A' = EmpR ∧ N = []) := by
  refine enterA Tryz.func85 rfl Tryz.ntmps85 rfl ?_
  intro F w hX
  unfold f_r07_odd at h
  refine T.seq (T.region rfl ?_)
  refine TL.box rfl .u rfl rfl (fun b1 => ?_)
  refine TL.run ft_cursitorref07_ok [1] rfl rfl ?_
  refine TL.nil (X.seq (T.seq (T.region rfl ?_)))
  by_cases c2 : a0.null = true
  · replace h := ifT c2 h
    refine TL.rb ft_cursitorref07_ok nt_cursitorref07_ok 0 rfl 3 rfl rfl ?_
    refine TL.hv 5 rfl c2 ?_
    refine TL.rb ft_cursitorref07_ok nt_cursitorref07_ok 0 rfl 2 rfl rfl ?_
    refine TL.q rfl (.g rfl rfl rfl) (Ex.sNe rfl (m := []) rfl) rfl ?_
    refine TL.rw ft_cursitorref07_ok 2 rfl ?_
    by_cases c3 : a0.data = []
    · replace h := ifT c3 h
      obtain rfl := Option.some.inj h
      exact TL.nil (X.seq (T.ret (X.done1 [1] Tryz.results85 (RV.tm (v := .bool false) (congrArg (fun b => some (Value.bool b)) (bn_f (decide_eq_true c3)))) ⟨rfl, rfl, rfl⟩ (by rfl) (.inl rfl))))
    · replace h := ifF c3 h
      obtain rfl := Option.some.inj h
      exact TL.nil (X.seq (T.ret (X.done1 [1] Tryz.results85 (RV.tm (v := .bool true) (congrArg (fun b => some (Value.bool b)) (bn_t (decide_eq_false c3)))) ⟨rfl, rfl, rfl⟩ (by rfl) (.inl rfl))))
  · replace h := ifF c2 h
    replace c2 := eq_false_of_ne_true c2
    refine TL.rb ft_cursitorref07_ok nt_cursitorref07_ok 0 rfl 3 rfl rfl ?_
    refine TL.hv 5 rfl c2 ?_
    refine TL.rw ft_cursitorref07_ok 5 rfl ?_
    obtain rfl := Option.some.inj h
    exact TL.nil (X.seq (T.ret (X.done1 [1] Tryz.results85 (RV.tm rfl) ⟨rfl, rfl, rfl⟩ (by rfl) (.inl rfl))))
def f_r07_Right (a0 : Rec) : Option (Int) := if a0.fOffset < 0 then some 11 else (if a0.fOffset > 2147483647 then some 11 else ((f_r07_odd a0.fKey).bind fun x6 => if x6 = true then some 4 else ((f_r07_odd a0.fValue).bind fun x9 => if x9 = true then some 4 else ((f_r06_Right a0.fHeaders).bind fun x12 => if x12 = true then some 0 else some 4))))
set_option maxRecDepth 100000 in
set_option maxHeartbeats 4000000 in
theorem f_r07_Right_spec (a0 : Rec) (A1 : Option Addr) (c2 : Nat) (r : Int) (h : f_r07_Right a0 = some r) : SpecX Tryz.prog 70 #[.agg #[.int .i64 a0.fTime, .int .i64 a0.fOffset, .bool a0.fKey.null, .string (bsOf a0.fKey.data), .bool a0.fValue.null, .string (bsOf a0.fValue.data), .slice A1 a0.fHeaders.length c2]] (RX.of (sliceRd 3 Hd_rd) [.slice A1 a0.fHeaders.length c2] a0.fHeaders) (EmpR) (fun v A' N => v = .int .i64 r ∧ A' = EmpR ∧ N = []) := by
  refine enterA Tryz.func70 rfl Tryz.ntmps70 rfl ?_
  intro F w hX
  unfold f_r07_Right at h
  refine T.seq (T.region rfl ?_)
  refine TL.box rfl .u rfl rfl (fun b3 => ?_)
  refine TL.run ft_cursitorref07_ok [1] rfl rfl ?_
  refine TL.nil (X.seq (T.seq (T.seq (T.region rfl ?_))))
  by_cases c4 : a0.fOffset < 0
  · replace h := ifT c4 h
    refine TL.rb ft_cursitorref07_ok nt_cursitorref07_ok 0 rfl 4 rfl rfl ?_
    refine TL.hv 6 rfl (decide_eq_true c4) ?_
    refine TL.rw ft_cursitorref07_ok 4 rfl ?_
    refine TL.nil (X.seq ?_)
    refine T.yes rfl rfl ?_
    refine T.seq (T.region rfl ?_)
    refine TL.run ft_cursitorref07_ok [0] rfl rfl ?_
    obtain rfl := Option.some.inj h
    exact TL.nil (X.seq (T.ret (X.rs (X.done1 [1] Tryz.results70 (RV.tm rfl) ⟨rfl, rfl, rfl⟩ (by rfl) (.inl rfl)))))
  · replace h := ifF c4 h
    refine TL.rb ft_cursitorref07_ok nt_cursitorref07_ok 0 rfl 4 rfl rfl ?_
    refine TL.hv 6 rfl (decide_eq_false c4) ?_
    refine TL.rb ft_cursitorref07_ok nt_cursitorref07_ok 0 rfl 4 rfl rfl ?_
    by_cases c5 : a0.fOffset > 2147483647
    · replace h := ifT c5 h
      refine TL.nil (X.seq ?_)
      refine T.yes rfl (decide_eq_true c5) ?_
      refine T.seq (T.region rfl ?_)
      refine TL.run ft_cursitorref07_ok [0] rfl rfl ?_
      obtain rfl := Option.some.inj h
      exact TL.nil (X.seq (T.ret (X.rs (X.done1 [1] Tryz.results70 (RV.tm rfl) ⟨rfl, rfl, rfl⟩ (by rfl) (.inl rfl)))))
    · replace h := ifF c5 h
      refine TL.nil (X.seq ?_)
      refine T.no rfl (decide_eq_false c5) ?_
      refine T.skip (X.seq (T.seq (T.seq (T.region rfl ?_))))
      refine TL.run ft_cursitorref07_ok [0] rfl rfl ?_
      refine TL.q rfl .u (Ex.bS (us := [.bool a0.fKey.null, .string (bsOf a0.fKey.data)]) 0 rfl Tryz.isAgg23 Tryz.sizeOf23 rfl rfl rfl) rfl ?_
      obtain ⟨x6, hx7, h⟩ := Option.bind_eq_some_iff.1 h
      refine TL.ce rfl .u (.fn Tryz.call85 rfl) (f_r07_odd_spec a0.fKey _ hx7) (fun _ hs => (RX.reads_triv _ _)) rfl ?_
      by_cases c8 : x6 = true
      · replace h := ifT c8 h
        refine TL.run ft_cursitorref07_ok [3] rfl rfl ?_
        refine TL.hv 14 rfl c8 ?_
        refine TL.rw ft_cursitorref07_ok 10 rfl ?_
        refine TL.nil (X.seq ?_)
        refine T.yes rfl rfl ?_
        refine T.seq (T.region rfl ?_)
        refine TL.run ft_cursitorref07_ok [0] rfl rfl ?_
        obtain rfl := Option.some.inj h
        exact TL.nil (X.seq (T.ret (X.rs (X.done1 [1] Tryz.results70 (RV.tm rfl) ⟨rfl, rfl, rfl⟩ (by rfl) (.inl rfl)))))
      · replace h := ifF c8 h
        replace c8 := eq_false_of_ne_true c8
        refine TL.run ft_cursitorref07_ok [3] rfl rfl ?_
        refine TL.hv 14 rfl c8 ?_
        refine TL.rw ft_cursitorref07_ok 1 rfl ?_
        refine TL.q rfl (.g rfl rfl rfl) (Ex.bS (us := [.bool a0.fValue.null, .string (bsOf a0.fValue.data)]) 0 rfl Tryz.isAgg23 Tryz.sizeOf23 rfl rfl rfl) rfl ?_
        obtain ⟨x9, hx10, h⟩ := Option.bind_eq_some_iff.1 h
        refine TL.ce rfl (.g rfl rfl rfl) (.fn Tryz.call85 rfl) (f_r07_odd_spec a0.fValue _ hx10) (fun _ hs => (RX.reads_triv _ _)) rfl ?_
        by_cases c11 : x9 = true
        · replace h := ifT c11 h
          refine TL.rw ft_cursitorref07_ok 2 rfl ?_
          refine TL.hv 19 rfl c11 ?_
          refine TL.rw ft_cursitorref07_ok 5 rfl ?_
          refine TL.nil (X.seq ?_)
          refine T.yes rfl rfl ?_
          refine T.seq (T.region rfl ?_)
          refine TL.run ft_cursitorref07_ok [0] rfl rfl ?_
          obtain rfl := Option.some.inj h
          exact TL.nil (X.seq (T.ret (X.rs (X.done1 [1] Tryz.results70 (RV.tm rfl) ⟨rfl, rfl, rfl⟩ (by rfl) (.inl rfl)))))
        · replace h := ifF c11 h
          replace c11 := eq_false_of_ne_true c11
          refine TL.rw ft_cursitorref07_ok 2 rfl ?_
          refine TL.hv 19 rfl c11 ?_
          obtain ⟨x12, hx13, h⟩ := Option.bind_eq_some_iff.1 h
          refine TL.rb ft_cursitorref07_ok nt_cursitorref07_ok 0 rfl 2 rfl rfl ?_
          refine TL.ce rfl (.g rfl rfl rfl) (.fn Tryz.call86 rfl) (f_r06_Right_spec a0.fHeaders _ _ _ hx13) (fun _ hs => (SrcE.old hs hX)) rfl ?_
          refine TL.rw ft_cursitorref07_ok 2 rfl ?_
          by_cases c14 : x12 = true
          · replace h := ifT c14 h
            refine TL.nil (X.seq ?_)
            refine T.no rfl (bn_f c14) ?_
            refine T.skip (X.seq (T.seq (T.region rfl ?_)))
            refine TL.run ft_cursitorref07_ok [0] rfl rfl ?_
            obtain rfl := Option.some.inj h
            exact TL.nil (X.seq (T.ret (X.done1 [1] Tryz.results70 (RV.tm rfl) ⟨rfl, rfl, rfl⟩ (by rfl) (.inl rfl))))
          · replace h := ifF c14 h
            replace c14 := eq_false_of_ne_true c14
            refine TL.nil (X.seq ?_)
            refine T.yes rfl (bn_t c14) ?_
            refine T.seq (T.region rfl ?_)
            refine TL.run ft_cursitorref07_ok [0] rfl rfl ?_
            obtain rfl := Option.some.inj h
            exact TL.nil (X.seq (T.ret (X.rs (X.done1 [1] Tryz.results70 (RV.tm rfl) ⟨rfl, rfl, rfl⟩ (by rfl) (.inl rfl)))))
end Go.Proofs.YtlhgogjcaegehaaGreat.Sl
namespace Go.Proofs.YtlhgogjcaegehaaGreat.Sl
open Go.RowKit
set_option linter.unusedVariables false
set_option linter.unusedSimpArgs false
theorem b_at_drop {α : Type} {l : List α} {k : Nat} {x : α} {t : List α} (h : l.drop k = x :: t) : l[k]? = some x ∧ l.drop (k + 1) = t ∧ l.length = k + 1 + t.length := by
  have hl := congrArg List.length h
  rw [List.length_drop, List.length_cons] at hl
  refine ⟨?_, ?_, by omega⟩
  · have := congrArg (fun z => z[0]?) h
    simpa using this
  · rw [← List.drop_drop, h]
    rfl
theorem b_nil_drop {α : Type} {l : List α} {k : Nat} (h : l.drop k = []) : l.length ≤ k := List.drop_eq_nil_iff.1 h
def brAll (l : List Hd) : Bool := l.all fun h => bright h.fValue
def rightR (r : Rec) : Int := if r.fOffset < 0 ∨ r.fOffset > 2147483647 then 11 else if (bright r.fKey && bright r.fValue && brAll r.fHeaders) = true then 0 else 4
theorem rights_loop (y : Bool) : ∀ l : List Bl, f_record_rights_l1 l y = some (if l.all bright = true then .go y else .ret false)
  | [] => rfl
  | b :: l => by
    rw [f_record_rights_l1, gRight_eq, Option.bind_some, List.all_cons, rights_loop y l]
    cases bright b <;> rfl
theorem rights_eq (l : List Bl) : f_record_rights l = some (l.all bright) := by
  unfold f_record_rights
  rw [rights_loop]
  cases l.all bright <;> rfl
theorem rightH_loop (y : Int) : ∀ l : List Hd, f_record_Right_l1 l y = some (if brAll l = true then .go y else .ret 4)
  | [] => rfl
  | h :: l => by
    rw [f_record_Right_l1, rights_eq, Option.bind_some, rightH_loop y l]
    unfold brAll
    rw [List.all_cons, List.all_cons, List.all_nil, Bool.and_true]
    cases bright h.fValue <;> rfl
theorem record_right (r : Rec) (hw : wI r.fOffset) : f_record_Right r = some (rightR r) := by
  unfold f_record_Right rightR
  by_cases h : r.fOffset < 0
  · rw [if_pos h, if_pos (.inl h)]
  rw [if_neg h, gFits_eq _ _ hw, fits_4, Option.bind_some]
  by_cases h2 : r.fOffset > 2147483647
  · rw [if_neg (by simp; omega), if_pos (.inr h2)]
  rw [if_pos (by simp; omega), if_neg (by omega), rights_eq, Option.bind_some, rightH_loop]
  simp only [List.all_cons, List.all_nil, Bool.and_true]
  cases bright r.fKey <;> cases bright r.fValue <;> cases brAll r.fHeaders <;> rfl
theorem odd_eq (b : Bl) : f_r07_odd b = some (!bright b) := by
  unfold f_r07_odd bright
  obtain ⟨n, d⟩ := b
  cases n
  · rfl
  · cases d <;> simp
theorem r06_loop (a0 : List Hd) (hb : a0.length ≤ 1000000) (y : Bool) : ∀ (l : List Hd) (k fuel : Nat), a0.drop k = l → l.length < fuel → ∃ z, f_r06_Right_l1 a0 fuel y k = some (if brAll l = true then .go (y, z) else .ret false)
  | [], k, fuel + 1, h, hf => by
    have := b_nil_drop h
    exact ⟨k, by rw [f_r06_Right_l1, if_neg (by omega)]; rfl⟩
  | x :: l, k, fuel + 1, h, hf => by
    obtain ⟨h1, h2, h3⟩ := b_at_drop h
    rw [List.length_cons] at hf
    obtain ⟨z, hz⟩ := r06_loop a0 hb y l (k + 1) fuel h2 (by omega)
    rw [f_r06_Right_l1, if_pos (by omega), h1, Option.bind_some]
    have e : brAll (x :: l) = (bright x.fValue && brAll l) := rfl
    rw [e]
    by_cases hn : x.fValue.null = true
    · rw [if_pos hn]
      by_cases hd : x.fValue.data = []
      · rw [if_pos hd, if_pos (by omega), hz]
        have : bright x.fValue = true := by unfold bright; rw [hd]; simp
        rw [this, Bool.true_and]
        exact ⟨z, rfl⟩
      · rw [if_neg hd]
        have : bright x.fValue = false := by unfold bright; rw [hn]; simp [hd]
        rw [this]
        exact ⟨0, rfl⟩
    · rw [if_neg hn, if_pos (by omega), hz]
      have : bright x.fValue = true := by unfold bright; simp [hn]
      rw [this, Bool.true_and]
      exact ⟨z, rfl⟩
theorem r06_right (a0 : List Hd) (hb : a0.length ≤ 1000000) : f_r06_Right a0 = some (brAll a0) := by
  unfold f_r06_Right
  obtain ⟨z, hz⟩ := r06_loop a0 hb false a0 0 (((a0.length : Int)).toNat + 1) rfl (by omega)
  rw [hz]
  cases brAll a0 <;> rfl
theorem r07_right (r : Rec) (hb : r.fHeaders.length ≤ 1000000) : f_r07_Right r = some (rightR r) := by
  unfold f_r07_Right rightR
  by_cases h : r.fOffset < 0
  · rw [if_pos h, if_pos (.inl h)]
  rw [if_neg h]
  by_cases h2 : r.fOffset > 2147483647
  · rw [if_pos h2, if_pos (.inr h2)]
  rw [if_neg h2, if_neg (by omega), odd_eq, odd_eq, r06_right _ hb]
  cases bright r.fKey <;> cases bright r.fValue <;> cases brAll r.fHeaders <;> rfl
end Go.Proofs.YtlhgogjcaegehaaGreat.Sl
namespace Go.Proofs.YtlhgogjcaegehaaGreat.Sl
open Go.RowKit
set_option linter.unusedVariables false
set_option linter.unusedSimpArgs false
def bitAt (n : Int) (i : Nat) : Bool := decide (n / 2 ^ i % 2 = 1)
def acheck (n : Int) : Int := if n % 8 ≠ 0 then 9 else if n < 0 ∨ 63 < n ∨ (bitAt n 5 = true ∧ bitAt n 4 = false) then 8 else 0
end Go.Proofs.YtlhgogjcaegehaaGreat.Sl
namespace Go.Proofs.YtlhgogjcaegehaaGreat.Sl
open Go.RowKit
set_option linter.unusedVariables false
set_option linter.unusedSimpArgs false
def ofBits (a t c : Bool) : Int := (if a then 8 else 0) + (if t then 16 else 0) + (if c then 32 else 0)
theorem below_alloc {w W : World} (h : Below w.heap.size w W) (o : Obj) : Below w.heap.size w (W.alloc o) := h.alloc h.size o
set_option maxRecDepth 100000 in
set_option maxHeartbeats 4000000 in
theorem Of_any (i0 i1 i5 i6 i7 i8 i9 i10 : Int) (a t c : Bool) (A : Option Addr) (n k : Nat) (w : World) :
    Calls Tryz.prog 34 #[.agg #[.int .i64 i0, .int .i64 i1, .bool a, .bool t, .bool c, .int .i64 i5, .int .i64 i6, .int .i64 i7, .int .i64 i8, .int .i64 i9, .int .i64 i10, .slice A n k]] w fun e w' =>
      e = .returned (.int .i64 (ofBits a t c)) ∧ Below w.heap.size w w' := by
  have ix : ∀ (x0 x1 x2 x3 x4 x5: Value), (∀ w : World, (Instr.index 126 (.agg #[x0, x1, x2, x3, x4, x5]) (.int .i64 0)).run Tryz.prog w = .ok (.agg #[x0,x1]) w) ∧ (∀ w : World, (Instr.index 126 (.agg #[x0, x1, x2, x3, x4, x5]) (.int .i64 1)).run Tryz.prog w = .ok (.agg #[x2,x3]) w) ∧ (∀ w : World, (Instr.index 126 (.agg #[x0, x1, x2, x3, x4, x5]) (.int .i64 2)).run Tryz.prog w = .ok (.agg #[x4,x5]) w) := fun _ _ _ _ _ _ => ⟨fun _ => by kernel_rfl, fun _ => by kernel_rfl, fun _ => by kernel_rfl⟩
  cases a <;> cases t <;> cases c <;>
  · go_enter Tryz.func34, Tryz.ntmps34
    go_wp2_with fail
    refine wp_loop_rounds 4 ?_
    rw [rounds_succ]
    go_wp2_with fail
    rw [rounds_succ]
    go_wp2_with fail
    rw [rounds_succ]
    go_wp2_with fail
    rw [rounds_succ]
    go_wp2_with fail
    go_ret
    exact ⟨rfl, by repeat (first | exact Below.refl _ _ | refine below_alloc ?_ _)⟩
theorem Of_spec (i0 i1 i5 i6 i7 i8 i9 i10 : Int) (a t c : Bool) (A : Option Addr) (n k : Nat) :
    Spec0 Tryz.prog 34 #[.agg #[.int .i64 i0, .int .i64 i1, .bool a, .bool t, .bool c, .int .i64 i5, .int .i64 i6, .int .i64 i7, .int .i64 i8, .int .i64 i9, .int .i64 i10, .slice A n k]] (fun v N => v = .int .i64 (ofBits a t c) ∧ N = []) := by
  intro w
  refine (Of_any i0 i1 i5 i6 i7 i8 i9 i10 a t c A n k w).mono ?_
  rintro e w' ⟨rfl, hb⟩
  exact ⟨_, _, rfl, ⟨rfl, rfl⟩, Fr.of_below hb, trivial⟩
end Go.Proofs.YtlhgogjcaegehaaGreat.Sl
namespace Go.Proofs.YtlhgogjcaegehaaGreat.Sl
open Go.RowKit
set_option linter.unusedVariables false
def gAOf (b : Bat) : Option Int := some (ofBits b.fAppend b.fTxn b.fControl)
theorem gAOf_eq (b : Bat) : gAOf b = some (ofBits b.fAppend b.fTxn b.fControl) := rfl
theorem gAOf_spec (b : Bat) (A : Option Addr) (c : Nat) (r : Int) (h : gAOf b = some r) : SpecX Tryz.prog 34 #[.agg #[.int .i64 b.fBase, .int .i64 b.fLeader, .bool b.fAppend, .bool b.fTxn, .bool b.fControl, .int .i64 b.fLast, .int .i64 b.fFirst, .int .i64 b.fMax, .int .i64 b.fProducer, .int .i64 b.fEpoch, .int .i64 b.fSequence, .slice A b.fRecords.length c]]
    (RX.of (sliceRd 7 Rec_rd) [.slice A b.fRecords.length c] b.fRecords) EmpR (fun u A' N => u = .int .i64 r ∧ A' = EmpR ∧ N = []) := by
  obtain rfl := Option.some.inj h
  exact SpecX.of_spec0_2 (Of_spec _ _ _ _ _ _ _ _ _ _ _ _ _ _)
end Go.Proofs.YtlhgogjcaegehaaGreat.Sl
namespace Go.Proofs.YtlhgogjcaegehaaGreat.Sl
open Go.RowKit
set_option linter.unusedVariables false
set_option linter.unusedSimpArgs false
set_option maxRecDepth 100000
def ft_control : FTab := [(23, 0, 0), (23, 1, 1), (90, 1, 1), (90, 2, 2), (90, 3, 4), (90, 4, 6)]
theorem ft_control_ok : (ft_control).OK Tryz.prog := ⟨FOK.mk Tryz.runUnderlying23 rfl Tryz.sizeOf4 rfl, FOK.mk Tryz.runUnderlying23 rfl Tryz.sizeOf9 rfl, FOK.mk Tryz.runUnderlying90 rfl Tryz.sizeOf3 rfl, FOK.mk Tryz.runUnderlying90 rfl Tryz.sizeOf23 rfl, FOK.mk Tryz.runUnderlying90 rfl Tryz.sizeOf23 rfl, FOK.mk Tryz.runUnderlying90 rfl Tryz.sizeOf88 rfl, trivial⟩
def nt_control : List Nat := [3, 4, 9, 88]
theorem nt_control_ok : NOK Tryz.prog nt_control := ⟨Tryz.isAgg3, Tryz.isAgg4, Tryz.isAgg9, Tryz.isAgg88, trivial⟩
def f_control_version (st : I)  : Option (I) := (gInt st 2).bind fun (x1, st2) => if x1 = 0 then some st2 else ((gIFail st2 7).bind fun st5 => some st5)
set_option maxRecDepth 100000 in
set_option maxHeartbeats 4000000 in
theorem f_control_version_spec (g : Nat) (st : I)  (r : I) (h : f_control_version st  = some r) : SpecX Tryz.prog 91 #[.pointer (some ⟨g, 0, none⟩)] .triv (InR g st) (fun v A' N => v = .tuple #[] ∧ A' = InR g r ∧ N = []) := by
  refine enterA Tryz.func91 rfl Tryz.ntmps91 rfl ?_
  intro F w hX
  unfold f_control_version at h
  refine T.seq (T.region rfl ?_)
  obtain ⟨⟨x1, st2⟩, hx3, h⟩ := Option.bind_eq_some_iff.1 h
  try dsimp only at h
  refine TL.run ft_control_ok [0] rfl rfl ?_
  refine TL.c0 rfl .u (.fn Tryz.call92 rfl) (gInt_spec g st 2 _ hx3) (fun _ hs => (Src.triv _)) rfl ?_
  refine TL.run ft_control_ok [2] rfl rfl ?_
  by_cases c4 : x1 = 0
  · replace h := ifT c4 h
    refine TL.nil (X.seq ?_)
    refine T.no rfl (bn_f (decide_eq_true c4)) ?_
    obtain rfl := Option.some.inj h
    exact T.skip (X.done0 [0] Tryz.results91 ⟨rfl, rfl, rfl⟩ (by rfl) (.inr rfl))
  · replace h := ifF c4 h
    refine TL.nil (X.seq ?_)
    refine T.yes rfl (bn_t (decide_eq_false c4)) ?_
    refine T.region rfl ?_
    obtain ⟨st5, hx6, h⟩ := Option.bind_eq_some_iff.1 h
    refine TL.run ft_control_ok [0] rfl rfl ?_
    refine TL.c0 rfl .u (.fn Tryz.call93 rfl) (gIFail_spec g st2 7 _ hx6) (fun _ hs => (Src.triv _)) rfl ?_
    obtain rfl := Option.some.inj h
    exact TL.nil (X.done0 [0] Tryz.results91 ⟨rfl, rfl, rfl⟩ (by rfl) (.inr rfl))
def f_control_ReadKey (a0 : List UInt8) : Option (Int × Int) := (gNew a0).bind fun st1 => (f_control_version st1).bind fun st4 => (gInt st4 2).bind fun (x6, st7) => if x6 = 0 then ((gClose st7).bind fun (x10, st11) => if x10 = 0 then some (x6, 0) else some (0, x10)) else (if x6 = 1 then ((gClose st7).bind fun (x15, st16) => if x15 = 0 then some (x6, 0) else some (0, x15)) else ((gIFail st7 12).bind fun st19 => (gClose st19).bind fun (x21, st22) => if x21 = 0 then some (x6, 0) else some (0, x21)))
set_option maxRecDepth 100000 in
set_option maxHeartbeats 4000000 in
theorem f_control_ReadKey_spec (a0 : List UInt8) (r : Int × Int) (h : f_control_ReadKey a0 = some r) : SpecX Tryz.prog 77 #[.string (bsOf a0)] .triv (EmpR) (fun v A' N => v = .tuple #[.int .i64 r.1, .int .i64 r.2] ∧ A' = EmpR ∧ N = []) := by
  refine enterA Tryz.func77 rfl Tryz.ntmps77 rfl ?_
  intro F w hX
  unfold f_control_ReadKey at h
  refine T.seq (T.region rfl ?_)
  refine TL.run ft_control_ok [0, 1] rfl rfl ?_
  refine TL.nil (X.seq (T.seq (T.region rfl ?_)))
  obtain ⟨st1, hx2, h⟩ := Option.bind_eq_some_iff.1 h
  refine TL.run ft_control_ok [0] rfl rfl ?_
  refine TL.cge rfl .u (.fn Tryz.call90 rfl) (gNew_spec a0 _ hx2) (fun _ hs => (RX.reads_triv _ _)) rfl ?_
  rintro _ _ _ ⟨b3, rfl, rfl, rfl⟩
  refine TL.sel [0, 0] rfl ?_
  refine TL.run ft_control_ok [2] rfl rfl ?_
  refine TL.nil (X.seq (T.seq (T.region rfl ?_)))
  obtain ⟨st4, hx5, h⟩ := Option.bind_eq_some_iff.1 h
  refine TL.run ft_control_ok [0] rfl rfl ?_
  refine TL.c0 rfl .u (.fn Tryz.call91 rfl) (f_control_version_spec b3 st1 _ hx5) (fun _ hs => (Src.triv _)) rfl ?_
  refine TL.nil (X.seq (T.seq (T.region rfl ?_)))
  obtain ⟨⟨x6, st7⟩, hx8, h⟩ := Option.bind_eq_some_iff.1 h
  try dsimp only at h
  refine TL.run ft_control_ok [0] rfl rfl ?_
  refine TL.c0 rfl .u (.fn Tryz.call92 rfl) (gInt_spec b3 st4 2 _ hx8) (fun _ hs => (Src.triv _)) rfl ?_
  refine TL.run ft_control_ok [2] rfl rfl ?_
  refine TL.nil (X.seq (T.seq (T.seq (T.region rfl ?_))))
  by_cases c9 : x6 = 0
  · replace h := ifT c9 h
    refine TL.run ft_control_ok [0, 1, 2] rfl rfl ?_
    refine TL.hv 15 rfl (bn_f (decide_eq_true c9)) ?_
    refine TL.rw ft_control_ok 3 rfl ?_
    refine TL.nil (X.seq ?_)
    refine T.no rfl rfl ?_
    refine T.skip (X.seq (T.seq (T.seq (T.region rfl ?_))))
    obtain ⟨⟨x10, st11⟩, hx12, h⟩ := Option.bind_eq_some_iff.1 h
    try dsimp only at h
    refine TL.run ft_control_ok [0] rfl rfl ?_
    refine TL.c0 rfl .u (.fn Tryz.call94 rfl) (gClose_spec b3 st7 _ hx12) (fun _ hs => (Src.triv _)) rfl ?_
    refine TL.run ft_control_ok [2] rfl rfl ?_
    refine TL.nil (X.seq (T.seq (T.region rfl ?_)))
    refine TL.run ft_control_ok [0, 1] rfl rfl ?_
    by_cases c13 : x10 = 0
    · replace h := ifT c13 h
      refine TL.nil (X.seq ?_)
      refine T.no rfl (bn_f (decide_eq_true c13)) ?_
      refine T.skip (X.seq (T.seq (T.region rfl ?_)))
      refine TL.run ft_control_ok [0, 1, 2] rfl rfl ?_
      obtain rfl := Option.some.inj h
      exact TL.nil (X.seq (T.ret (X.done2 [1] Tryz.results77 (RV.tm rfl) (RV.tm rfl) ⟨rfl, rfl, rfl⟩ (by rfl) (.inl rfl))))
    · replace h := ifF c13 h
      refine TL.nil (X.seq ?_)
      refine T.yes rfl (bn_t (decide_eq_false c13)) ?_
      refine T.seq (T.region rfl ?_)
      refine TL.run ft_control_ok [0, 1, 2] rfl rfl ?_
      obtain rfl := Option.some.inj h
      exact TL.nil (X.seq (T.ret (X.rs (X.done2 [1] Tryz.results77 (RV.tm rfl) (RV.tm rfl) ⟨rfl, rfl, rfl⟩ (by rfl) (.inl rfl)))))
  · replace h := ifF c9 h
    refine TL.run ft_control_ok [0, 1, 2] rfl rfl ?_
    refine TL.hv 15 rfl (bn_t (decide_eq_false c9)) ?_
    refine TL.rw ft_control_ok 3 rfl ?_
    by_cases c14 : x6 = 1
    · replace h := ifT c14 h
      refine TL.nil (X.seq ?_)
      refine T.no rfl (bn_f (decide_eq_true c14)) ?_
      refine T.skip (X.seq (T.seq (T.seq (T.region rfl ?_))))
      obtain ⟨⟨x15, st16⟩, hx17, h⟩ := Option.bind_eq_some_iff.1 h
      try dsimp only at h
      refine TL.run ft_control_ok [0] rfl rfl ?_
      refine TL.c0 rfl .u (.fn Tryz.call94 rfl) (gClose_spec b3 st7 _ hx17) (fun _ hs => (Src.triv _)) rfl ?_
      refine TL.run ft_control_ok [2] rfl rfl ?_
      refine TL.nil (X.seq (T.seq (T.region rfl ?_)))
      refine TL.run ft_control_ok [0, 1] rfl rfl ?_
      by_cases c18 : x15 = 0
      · replace h := ifT c18 h
        refine TL.nil (X.seq ?_)
        refine T.no rfl (bn_f (decide_eq_true c18)) ?_
        refine T.skip (X.seq (T.seq (T.region rfl ?_)))
        refine TL.run ft_control_ok [0, 1, 2] rfl rfl ?_
        obtain rfl := Option.some.inj h
        exact TL.nil (X.seq (T.ret (X.done2 [1] Tryz.results77 (RV.tm rfl) (RV.tm rfl) ⟨rfl, rfl, rfl⟩ (by rfl) (.inl rfl))))
      · replace h := ifF c18 h
        refine TL.nil (X.seq ?_)
        refine T.yes rfl (bn_t (decide_eq_false c18)) ?_
        refine T.seq (T.region rfl ?_)
        refine TL.run ft_control_ok [0, 1, 2] rfl rfl ?_
        obtain rfl := Option.some.inj h
        exact TL.nil (X.seq (T.ret (X.rs (X.done2 [1] Tryz.results77 (RV.tm rfl) (RV.tm rfl) ⟨rfl, rfl, rfl⟩ (by rfl) (.inl rfl)))))
    · replace h := ifF c14 h
      refine TL.nil (X.seq ?_)
      refine T.yes rfl (bn_t (decide_eq_false c14)) ?_
      refine T.region rfl ?_
      obtain ⟨st19, hx20, h⟩ := Option.bind_eq_some_iff.1 h
      refine TL.run ft_control_ok [0] rfl rfl ?_
      refine TL.c0 rfl .u (.fn Tryz.call93 rfl) (gIFail_spec b3 st7 12 _ hx20) (fun _ hs => (Src.triv _)) rfl ?_
      refine TL.nil (X.seq (T.seq (T.seq (T.region rfl ?_))))
      obtain ⟨⟨x21, st22⟩, hx23, h⟩ := Option.bind_eq_some_iff.1 h
      try dsimp only at h
      refine TL.run ft_control_ok [0] rfl rfl ?_
      refine TL.c0 rfl .u (.fn Tryz.call94 rfl) (gClose_spec b3 st19 _ hx23) (fun _ hs => (Src.triv _)) rfl ?_
      refine TL.run ft_control_ok [2] rfl rfl ?_
      refine TL.nil (X.seq (T.seq (T.region rfl ?_)))
      refine TL.run ft_control_ok [0, 1] rfl rfl ?_
      by_cases c24 : x21 = 0
      · replace h := ifT c24 h
        refine TL.nil (X.seq ?_)
        refine T.no rfl (bn_f (decide_eq_true c24)) ?_
        refine T.skip (X.seq (T.seq (T.region rfl ?_)))
        refine TL.run ft_control_ok [0, 1, 2] rfl rfl ?_
        obtain rfl := Option.some.inj h
        exact TL.nil (X.seq (T.ret (X.done2 [1] Tryz.results77 (RV.tm rfl) (RV.tm rfl) ⟨rfl, rfl, rfl⟩ (by rfl) (.inl rfl))))
      · replace h := ifF c24 h
        refine TL.nil (X.seq ?_)
        refine T.yes rfl (bn_t (decide_eq_false c24)) ?_
        refine T.seq (T.region rfl ?_)
        refine TL.run ft_control_ok [0, 1, 2] rfl rfl ?_
        obtain rfl := Option.some.inj h
        exact TL.nil (X.seq (T.ret (X.rs (X.done2 [1] Tryz.results77 (RV.tm rfl) (RV.tm rfl) ⟨rfl, rfl, rfl⟩ (by rfl) (.inl rfl)))))
def f_control_ReadValue (a0 : List UInt8) : Option (Int × Int) := (gNew a0).bind fun st1 => (f_control_version st1).bind fun st4 => (gInt st4 4).bind fun (x6, st7) => if x6 < 0 then ((gIFail st7 11).bind fun st10 => (gClose st10).bind fun (x12, st13) => if x12 = 0 then some (x6, 0) else some (0, x12)) else ((gClose st7).bind fun (x16, st17) => if x16 = 0 then some (x6, 0) else some (0, x16))
set_option maxRecDepth 100000 in
set_option maxHeartbeats 4000000 in
theorem f_control_ReadValue_spec (a0 : List UInt8) (r : Int × Int) (h : f_control_ReadValue a0 = some r) : SpecX Tryz.prog 78 #[.string (bsOf a0)] .triv (EmpR) (fun v A' N => v = .tuple #[.int .i64 r.1, .int .i64 r.2] ∧ A' = EmpR ∧ N = []) := by
  refine enterA Tryz.func78 rfl Tryz.ntmps78 rfl ?_
  intro F w hX
  unfold f_control_ReadValue at h
  refine T.seq (T.region rfl ?_)
  refine TL.run ft_control_ok [0, 1] rfl rfl ?_
  refine TL.nil (X.seq (T.seq (T.region rfl ?_)))
  obtain ⟨st1, hx2, h⟩ := Option.bind_eq_some_iff.1 h
  refine TL.run ft_control_ok [0] rfl rfl ?_
  refine TL.cge rfl .u (.fn Tryz.call90 rfl) (gNew_spec a0 _ hx2) (fun _ hs => (RX.reads_triv _ _)) rfl ?_
  rintro _ _ _ ⟨b3, rfl, rfl, rfl⟩
  refine TL.sel [0, 0] rfl ?_
  refine TL.run ft_control_ok [2] rfl rfl ?_
  refine TL.nil (X.seq (T.seq (T.region rfl ?_)))
  obtain ⟨st4, hx5, h⟩ := Option.bind_eq_some_iff.1 h
  refine TL.run ft_control_ok [0] rfl rfl ?_
  refine TL.c0 rfl .u (.fn Tryz.call91 rfl) (f_control_version_spec b3 st1 _ hx5) (fun _ hs => (Src.triv _)) rfl ?_
  refine TL.nil (X.seq (T.seq (T.region rfl ?_)))
  obtain ⟨⟨x6, st7⟩, hx8, h⟩ := Option.bind_eq_some_iff.1 h
  try dsimp only at h
  refine TL.run ft_control_ok [0] rfl rfl ?_
  refine TL.c0 rfl .u (.fn Tryz.call92 rfl) (gInt_spec b3 st4 4 _ hx8) (fun _ hs => (Src.triv _)) rfl ?_
  refine TL.run ft_control_ok [2] rfl rfl ?_
  refine TL.nil (X.seq (T.seq (T.seq (T.region rfl ?_))))
  refine TL.run ft_control_ok [0, 1] rfl rfl ?_
  by_cases c9 : x6 < 0
  · replace h := ifT c9 h
    refine TL.nil (X.seq ?_)
    refine T.yes rfl (decide_eq_true c9) ?_
    refine T.region rfl ?_
    obtain ⟨st10, hx11, h⟩ := Option.bind_eq_some_iff.1 h
    refine TL.run ft_control_ok [0] rfl rfl ?_
    refine TL.c0 rfl .u (.fn Tryz.call93 rfl) (gIFail_spec b3 st7 11 _ hx11) (fun _ hs => (Src.triv _)) rfl ?_
    refine TL.nil (X.seq (T.seq (T.seq (T.region rfl ?_))))
    obtain ⟨⟨x12, st13⟩, hx14, h⟩ := Option.bind_eq_some_iff.1 h
    try dsimp only at h
    refine TL.run ft_control_ok [0] rfl rfl ?_
    refine TL.c0 rfl .u (.fn Tryz.call94 rfl) (gClose_spec b3 st10 _ hx14) (fun _ hs => (Src.triv _)) rfl ?_
    refine TL.run ft_control_ok [2] rfl rfl ?_
    refine TL.nil (X.seq (T.seq (T.region rfl ?_)))
    refine TL.run ft_control_ok [0, 1] rfl rfl ?_
    by_cases c15 : x12 = 0
    · replace h := ifT c15 h
      refine TL.nil (X.seq ?_)
      refine T.no rfl (bn_f (decide_eq_true c15)) ?_
      refine T.skip (X.seq (T.seq (T.region rfl ?_)))
      refine TL.run ft_control_ok [0, 1, 2] rfl rfl ?_
      obtain rfl := Option.some.inj h
      exact TL.nil (X.seq (T.ret (X.done2 [1] Tryz.results78 (RV.tm rfl) (RV.tm rfl) ⟨rfl, rfl, rfl⟩ (by rfl) (.inl rfl))))
    · replace h := ifF c15 h
      refine TL.nil (X.seq ?_)
      refine T.yes rfl (bn_t (decide_eq_false c15)) ?_
      refine T.seq (T.region rfl ?_)
      refine TL.run ft_control_ok [0, 1, 2] rfl rfl ?_
      obtain rfl := Option.some.inj h
      exact TL.nil (X.seq (T.ret (X.rs (X.done2 [1] Tryz.results78 (RV.tm rfl) (RV.tm rfl) ⟨rfl, rfl, rfl⟩ (by rfl) (.inl rfl)))))
  · replace h := ifF c9 h
    refine TL.nil (X.seq ?_)
    refine T.no rfl (decide_eq_false c9) ?_
    refine T.skip (X.seq (T.seq (T.seq (T.region rfl ?_))))
    obtain ⟨⟨x16, st17⟩, hx18, h⟩ := Option.bind_eq_some_iff.1 h
    try dsimp only at h
    refine TL.run ft_control_ok [0] rfl rfl ?_
    refine TL.c0 rfl .u (.fn Tryz.call94 rfl) (gClose_spec b3 st7 _ hx18) (fun _ hs => (Src.triv _)) rfl ?_
    refine TL.run ft_control_ok [2] rfl rfl ?_
    refine TL.nil (X.seq (T.seq (T.region rfl ?_)))
    refine TL.run ft_control_ok [0, 1] rfl rfl ?_
    by_cases c19 : x16 = 0
    · replace h := ifT c19 h
      refine TL.nil (X.seq ?_)
      refine T.no rfl (bn_f (decide_eq_true c19)) ?_
      refine T.skip (X.seq (T.seq (T.region rfl ?_)))
      refine TL.run ft_control_ok [0, 1, 2] rfl rfl ?_
      obtain rfl := Option.some.inj h
      exact TL.nil (X.seq (T.ret (X.done2 [1] Tryz.results78 (RV.tm rfl) (RV.tm rfl) ⟨rfl, rfl, rfl⟩ (by rfl) (.inl rfl))))
    · replace h := ifF c19 h
      refine TL.nil (X.seq ?_)
      refine T.yes rfl (bn_t (decide_eq_false c19)) ?_
      refine T.seq (T.region rfl ?_)
      refine TL.run ft_control_ok [0, 1, 2] rfl rfl ?_
      obtain rfl := Option.some.inj h
      exact TL.nil (X.seq (T.ret (X.rs (X.done2 [1] Tryz.results78 (RV.tm rfl) (RV.tm rfl) ⟨rfl, rfl, rfl⟩ (by rfl) (.inl rfl)))))
def f_control_Read (a0 : Rec) : Option (Int × Int × Int) := if a0.fKey.null = true then some (0, 0, 12) else (if a0.fValue.null = true then some (0, 0, 12) else (if (a0.fHeaders.length : Int) > 0 then some (0, 0, 12) else (if a0.fOffset = 0 then ((f_control_ReadKey a0.fKey.data).bind fun (x8, x9) => if x9 = 0 then ((f_control_ReadValue a0.fValue.data).bind fun (x12, x13) => if x13 = 0 then some (x8, x12, 0) else some (0, 0, x13)) else some (0, 0, x9)) else some (0, 0, 12))))
set_option maxRecDepth 100000 in
set_option maxHeartbeats 4000000 in
theorem f_control_Read_spec (a0 : Rec) (A1 : Option Addr) (c2 : Nat) (r : Int × Int × Int) (h : f_control_Read a0 = some r) : SpecX Tryz.prog 60 #[.agg #[.int .i64 a0.fTime, .int .i64 a0.fOffset, .bool a0.fKey.null, .string (bsOf a0.fKey.data), .bool a0.fValue.null, .string (bsOf a0.fValue.data), .slice A1 a0.fHeaders.length c2]] (RX.of (sliceRd 3 Hd_rd) [.slice A1 a0.fHeaders.length c2] a0.fHeaders) (EmpR) (fun v A' N => v = .tuple #[.int .i64 r.1, .int .i64 r.2.1, .int .i64 r.2.2] ∧ A' = EmpR ∧ N = []) := by
  refine enterA Tryz.func60 rfl Tryz.ntmps60 rfl ?_
  intro F w hX
  unfold f_control_Read at h
  refine T.seq (T.region rfl ?_)
  refine TL.box rfl .u rfl rfl (fun b3 => ?_)
  refine TL.run ft_control_ok [1, 2, 3] rfl rfl ?_
  refine TL.nil (X.seq (T.seq (T.seq (T.region rfl ?_))))
  by_cases c4 : a0.fKey.null = true
  · replace h := ifT c4 h
    refine TL.rb ft_control_ok nt_control_ok 0 rfl 4 rfl rfl ?_
    refine TL.hv 8 rfl c4 ?_
    refine TL.rw ft_control_ok 15 rfl ?_
    refine TL.nil (X.seq ?_)
    refine T.yes rfl rfl ?_
    refine T.seq (T.region rfl ?_)
    refine TL.run ft_control_ok [0, 1, 2] rfl rfl ?_
    obtain rfl := Option.some.inj h
    exact TL.nil (X.seq (T.ret (X.rs (X.done3 [1] Tryz.results60 (RV.tm rfl) (RV.tm rfl) (RV.tm rfl) ⟨rfl, rfl, rfl⟩ (by rfl) (.inl rfl)))))
  · replace h := ifF c4 h
    replace c4 := eq_false_of_ne_true c4
    refine TL.rb ft_control_ok nt_control_ok 0 rfl 4 rfl rfl ?_
    refine TL.hv 8 rfl c4 ?_
    by_cases c5 : a0.fValue.null = true
    · replace h := ifT c5 h
      refine TL.rb ft_control_ok nt_control_ok 0 rfl 5 rfl rfl ?_
      refine TL.hv 13 rfl c5 ?_
      refine TL.rw ft_control_ok 10 rfl ?_
      refine TL.nil (X.seq ?_)
      refine T.yes rfl rfl ?_
      refine T.seq (T.region rfl ?_)
      refine TL.run ft_control_ok [0, 1, 2] rfl rfl ?_
      obtain rfl := Option.some.inj h
      exact TL.nil (X.seq (T.ret (X.rs (X.done3 [1] Tryz.results60 (RV.tm rfl) (RV.tm rfl) (RV.tm rfl) ⟨rfl, rfl, rfl⟩ (by rfl) (.inl rfl)))))
    · replace h := ifF c5 h
      replace c5 := eq_false_of_ne_true c5
      refine TL.rb ft_control_ok nt_control_ok 0 rfl 5 rfl rfl ?_
      refine TL.hv 13 rfl c5 ?_
      refine TL.rb ft_control_ok nt_control_ok 0 rfl 2 rfl rfl ?_
      refine TL.q rfl (.g rfl rfl rfl) (Ex.lenS rfl Tryz.runUnderlying88) rfl ?_
      by_cases c6 : (a0.fHeaders.length : Int) > 0
      · replace h := ifT c6 h
        refine TL.rw ft_control_ok 3 rfl ?_
        refine TL.hv 19 rfl (decide_eq_true c6) ?_
        refine TL.rw ft_control_ok 4 rfl ?_
        refine TL.nil (X.seq ?_)
        refine T.yes rfl rfl ?_
        refine T.seq (T.region rfl ?_)
        refine TL.run ft_control_ok [0, 1, 2] rfl rfl ?_
        obtain rfl := Option.some.inj h
        exact TL.nil (X.seq (T.ret (X.rs (X.done3 [1] Tryz.results60 (RV.tm rfl) (RV.tm rfl) (RV.tm rfl) ⟨rfl, rfl, rfl⟩ (by rfl) (.inl rfl)))))
      · replace h := ifF c6 h
        refine TL.rw ft_control_ok 3 rfl ?_
        refine TL.hv 19 rfl (decide_eq_false c6) ?_
        refine TL.rb ft_control_ok nt_control_ok 0 rfl 4 rfl rfl ?_
        by_cases c7 : a0.fOffset = 0
        · replace h := ifT c7 h
          refine TL.nil (X.seq ?_)
          refine T.no rfl (bn_f (decide_eq_true c7)) ?_
          refine T.skip (X.seq (T.seq (T.seq (T.region rfl ?_))))
          obtain ⟨⟨x8, x9⟩, hx10, h⟩ := Option.bind_eq_some_iff.1 h
          try dsimp only at h
          refine TL.rb ft_control_ok nt_control_ok 0 rfl 3 rfl rfl ?_
          refine TL.ce rfl .u (.fn Tryz.call77 rfl) (f_control_ReadKey_spec a0.fKey.data _ hx10) (fun _ hs => (RX.reads_triv _ _)) rfl ?_
          refine TL.run ft_control_ok [4, 5, 6, 7, 8] rfl rfl ?_
          refine TL.nil (X.seq (T.seq (T.region rfl ?_)))
          refine TL.run ft_control_ok [0, 1] rfl rfl ?_
          by_cases c11 : x9 = 0
          · replace h := ifT c11 h
            refine TL.nil (X.seq ?_)
            refine T.no rfl (bn_f (decide_eq_true c11)) ?_
            refine T.skip (X.seq (T.seq (T.seq (T.region rfl ?_))))
            obtain ⟨⟨x12, x13⟩, hx14, h⟩ := Option.bind_eq_some_iff.1 h
            try dsimp only at h
            refine TL.rb ft_control_ok nt_control_ok 0 rfl 3 rfl rfl ?_
            refine TL.ce rfl .u (.fn Tryz.call78 rfl) (f_control_ReadValue_spec a0.fValue.data _ hx14) (fun _ hs => (RX.reads_triv _ _)) rfl ?_
            refine TL.run ft_control_ok [4, 5, 6, 7, 8] rfl rfl ?_
            refine TL.nil (X.seq (T.seq (T.region rfl ?_)))
            refine TL.run ft_control_ok [0, 1] rfl rfl ?_
            by_cases c15 : x13 = 0
            · replace h := ifT c15 h
              refine TL.nil (X.seq ?_)
              refine T.no rfl (bn_f (decide_eq_true c15)) ?_
              refine T.skip (X.seq (T.seq (T.region rfl ?_)))
              refine TL.run ft_control_ok [0, 1, 2, 3, 4] rfl rfl ?_
              obtain rfl := Option.some.inj h
              exact TL.nil (X.seq (T.ret (X.done3 [1] Tryz.results60 (RV.tm rfl) (RV.tm rfl) (RV.tm rfl) ⟨rfl, rfl, rfl⟩ (by rfl) (.inl rfl))))
            · replace h := ifF c15 h
              refine TL.nil (X.seq ?_)
              refine T.yes rfl (bn_t (decide_eq_false c15)) ?_
              refine T.seq (T.region rfl ?_)
              refine TL.run ft_control_ok [0, 1, 2, 3] rfl rfl ?_
              obtain rfl := Option.some.inj h
              exact TL.nil (X.seq (T.ret (X.rs (X.done3 [1] Tryz.results60 (RV.tm rfl) (RV.tm rfl) (RV.tm rfl) ⟨rfl, rfl, rfl⟩ (by rfl) (.inl rfl)))))
          · replace h := ifF c11 h
            refine TL.nil (X.seq ?_)
            refine T.yes rfl (bn_t (decide_eq_false c11)) ?_
            refine T.seq (T.region rfl ?_)
            refine TL.run ft_control_ok [0, 1, 2, 3] rfl rfl ?_
            obtain rfl := Option.some.inj h
            exact TL.nil (X.seq (T.ret (X.rs (X.done3 [1] Tryz.results60 (RV.tm rfl) (RV.tm rfl) (RV.tm rfl) ⟨rfl, rfl, rfl⟩ (by rfl) (.inl rfl)))))
        · replace h := ifF c7 h
          refine TL.nil (X.seq ?_)
          refine T.yes rfl (bn_t (decide_eq_false c7)) ?_
          refine T.seq (T.region rfl ?_)
          refine TL.run ft_control_ok [0, 1, 2] rfl rfl ?_
          obtain rfl := Option.some.inj h
          exact TL.nil (X.seq (T.ret (X.rs (X.done3 [1] Tryz.results60 (RV.tm rfl) (RV.tm rfl) (RV.tm rfl) ⟨rfl, rfl, rfl⟩ (by rfl) (.inl rfl)))))
end Go.Proofs.YtlhgogjcaegehaaGreat.Sl
