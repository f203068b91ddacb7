/- Structs held against each other; elements of rows that are resources (no program in it). -/
import Derived.Test.YtdlpmcbglmgpiaaNe
namespace Go.Proofs.Ytdlpmcbglmgpiaa.Sl
open Go.RowKit
set_option linter.unusedVariables false
set_option linter.unusedSimpArgs false
def eqV : Value → Value → Option Bool
  | .int k a, .int k' b => if k = k' then some (decide (a = b)) else none
  | .bool a, .bool b => some (decide (a = b))
  | .string a, .string b => some (decide (a.toList = b.toList))
  | _, _ => none
def eqL : List Value → List Value → Option Bool
  | [], [] => some true
  | x :: xs, y :: ys => match eqV x y with
    | some true => eqL xs ys
    | some false => some false
    | none => none
  | _, _ => none
theorem eqV_i {k : IntKind} {a b : Int} (h : a = b) : eqV (.int k a) (.int k b) = some true := by simp [eqV, h]
theorem eqV_in {k : IntKind} {a b : Int} (h : ¬ a = b) : eqV (.int k a) (.int k b) = some false := by simp [eqV, h]
theorem eqV_b {a b : Bool} (h : a = b) : eqV (.bool a) (.bool b) = some true := by simp [eqV, h]
theorem eqV_bn {a b : Bool} (h : ¬ a = b) : eqV (.bool a) (.bool b) = some false := by simp [eqV, h]
theorem eqV_s {l m : List UInt8} (h : l = m) : eqV (.string (bsOf l)) (.string (bsOf m)) = some true := by simp [eqV, h]
theorem eqV_sn {l m : List UInt8} (h : ¬ l = m) : eqV (.string (bsOf l)) (.string (bsOf m)) = some false := by simp [eqV, bsOf_toList, h]
theorem eqL_t {x y : Value} {xs ys : List Value} {b : Bool} (h : eqV x y = some true) (r : eqL xs ys = some b) : eqL (x :: xs) (y :: ys) = some b := by simp [eqL, h, r]
theorem eqL_f {x y : Value} {xs ys : List Value} (h : eqV x y = some false) : eqL (x :: xs) (y :: ys) = some false := by simp [eqL, h]
theorem eqL_append : ∀ {xs ys xs' ys' : List Value} {b : Bool}, xs.length = ys.length → eqL (xs ++ xs') (ys ++ ys') = some b → ∃ c, eqL xs ys = some c ∧ (if c then eqL xs' ys' else some false) = some b
  | [], [], xs', ys', b, _, h => ⟨true, rfl, by simpa using h⟩
  | x :: xs, y :: ys, xs', ys', b, hl, h => by
    simp only [List.cons_append, eqL] at h ⊢
    cases hv : eqV x y with
    | none => rw [hv] at h; cases h
    | some c =>
      cases c with
      | true =>
        rw [hv] at h
        exact eqL_append (by simpa using hl) h
      | false =>
        rw [hv] at h
        exact ⟨false, rfl, by simpa using h⟩
def okD : TypeDesc → Value → Bool
  | .int _, .int _ _ => true
  | .bool, .bool _ => true
  | .string, .string _ => true
  | _, _ => false
def oksD : List TypeDesc → List Value → Bool
  | [], [] => true
  | d :: ds, v :: vs => okD d v && oksD ds vs
  | _, _ => false
theorem oksD_length : ∀ {ds : List TypeDesc} {vs : List Value}, oksD ds vs = true → vs.length = ds.length
  | [], [], _ => rfl
  | d :: ds, v :: vs, h => by
    simp only [oksD, Bool.and_eq_true] at h
    simp [oksD_length h.2]
theorem oksD_app : ∀ {ds ds' : List TypeDesc} {vs : List Value}, oksD (ds ++ ds') vs = true → oksD ds (vs.take ds.length) = true ∧ oksD ds' (vs.drop ds.length) = true
  | [], ds', vs, h => by simpa [oksD] using h
  | d :: ds, ds', [], h => by simp [oksD] at h
  | d :: ds, ds', v :: vs, h => by
    simp only [List.cons_append, oksD, Bool.and_eq_true] at h
    have := oksD_app h.2
    simp [oksD, h.1, this]
/-- What is held against each other cell by cell. -/
def mkV (agg : Bool) (xs : List Value) : Value := if agg then .agg xs.toArray else xs.headD undef
structure Flat (P : Program) (k : Nat) (t : TypeId) (ds : List TypeDesc) (agg : Bool) : Prop where
  ia : ∀ w, (isAgg t).run P w = .ok agg w
  sz : ∀ w, (sizeOf t).run P w = .ok ds.length w
  one : agg = false → ds.length = 1
  eq : ∀ (d : Nat) (xs ys : List Value) (b : Bool) (w : World), k ≤ d → oksD ds xs = true → oksD ds ys = true → eqL xs ys = some b → (Op.equalIn d t (mkV agg xs) (mkV agg ys)).run P w = .ok b w
section
variable {P : Program} {t : TypeId}
theorem eqL_one {x y : Value} {b : Bool} (h : eqL [x] [y] = some b) : eqV x y = some b := by
  simp only [eqL] at h
  cases hv : eqV x y with
  | none => rw [hv] at h; cases h
  | some c => cases c <;> (rw [hv] at h; exact h)
theorem len1 {xs : List Value} (h : xs.length = 1) : ∃ x, xs = [x] := by
  match xs, h with
  | [x], _ => exact ⟨x, rfl⟩
theorem equal_one {d0 : TypeDesc} (hu : P.underlying t = some d0) (d : Nat) (x y : Value) (b : Bool) (w : World) (hx : okD d0 x = true) (hy : okD d0 y = true) (h : eqV x y = some b) : (Op.equalIn (d + 1) t x y).run P w = .ok b w := by
  cases d0 <;> cases x <;> first | (simp [okD] at hx; done) | skip
  all_goals cases y <;> first | (simp [okD] at hy; done) | skip
  · simp only [eqV, Option.some.injEq] at h
    subst h
    rw [run_equalIn_bool' w d t _ _ hu]
    rfl
  · rename_i q k a k' b'
    simp only [eqV] at h
    split at h
    · rename_i hk
      subst hk
      injection h with h
      subst h
      rw [run_equalIn_int w d t k _ a b' hu]
      rfl
    · cases h
  · simp only [eqV, Option.some.injEq] at h
    subst h
    rw [run_equalIn_string w d t _ _ hu]
    congr 1
    rename_i p q
    by_cases hpq : p.toList = q.toList <;> simp [hpq]
theorem Flat.one_ {d0 : TypeDesc} (ia : ∀ w, (isAgg t).run P w = .ok false w) (sz : ∀ w, (sizeOf t).run P w = .ok 1 w) (hu : P.underlying t = some d0) : Flat P 1 t [d0] false := by
  refine ⟨ia, sz, fun _ => rfl, ?_⟩
  intro d xs ys b w hd hx hy h
  obtain ⟨x, rfl⟩ := len1 (by simpa using oksD_length hx)
  obtain ⟨y, rfl⟩ := len1 (by simpa using oksD_length hy)
  obtain ⟨d, rfl⟩ : ∃ d', d = d' + 1 := ⟨d - 1, by omega⟩
  exact equal_one hu d x y b w (by simpa [oksD] using hx) (by simpa [oksD] using hy) (eqL_one h)
/-- Fields, one behind the other. -/
def FlatFs (P : Program) (k : Nat) : Nat → List Field → List TypeDesc → Prop
  | _, [], ds => ds = []
  | off, f :: fs, ds => f.name ≠ "_" ∧ f.offset = off ∧ ∃ d1 d2 agg, ds = d1 ++ d2 ∧ Flat P k f.type d1 agg ∧ FlatFs P k (off + d1.length) fs d2
theorem part_run {ty : TypeId} {ds : List TypeDesc} {agg : Bool} {k : Nat} (hf : Flat P k ty ds agg) (xs : List Value) (off : Nat) (w : World) (hl : off + ds.length ≤ xs.length) : (part ty xs.toArray off).run P w = .ok (mkV agg ((xs.drop off).take ds.length)) w := by
  cases agg with
  | true =>
    have h1 := hf.ia w
    simp only [part, Sem.run_bind, h1, Result.andThen_ok, if_true, hf.sz w, Sem.run_pure, mkV]
    congr 2
    apply Array.ext'
    simp [List.extract_eq_take_drop]
  | false =>
    have h1 := hf.ia w
    have h2 := hf.one rfl
    have h3 : off < xs.length := by omega
    have h4 : ((xs.drop off).take 1).headD undef = xs[off] := by
      rw [List.drop_eq_getElem_cons h3]
      rfl
    simp only [part, Sem.run_bind, h1, Result.andThen_ok, Bool.false_eq_true, if_false, mkV, h2, h4]
    simp [h3]
theorem fields_run {k : Nat} : ∀ {fs : List Field} {ds : List TypeDesc} {off : Nat}, FlatFs P k off fs ds → ∀ (d : Nat) (xs ys : List Value) (b : Bool) (w : World), k ≤ d → xs.length = off + ds.length → ys.length = off + ds.length →
    oksD ds (xs.drop off) = true → oksD ds (ys.drop off) = true → eqL (xs.drop off) (ys.drop off) = some b → (Op.eqFields d xs.toArray ys.toArray fs).run P w = .ok b w
  | [], ds, off, hf, d, xs, ys, b, w, hd, hx, hy, ox, oy, h => by
    obtain rfl : ds = [] := hf
    rw [List.drop_of_length_le (by simp at hx; omega), List.drop_of_length_le (by simp at hy; omega)] at h
    injection h with h
    subst h
    rfl
  | f :: fs, ds, off, hf, d, xs, ys, b, w, hd, hx, hy, ox, oy, h => by
    obtain ⟨hn, ho, d1, d2, agg, rfl, hF, hr⟩ := hf
    rw [List.length_append] at hx hy
    have ox' := oksD_app ox
    have oy' := oksD_app oy
    have e1 : xs.drop off = (xs.drop off).take d1.length ++ xs.drop (off + d1.length) := by rw [← List.drop_drop, List.take_append_drop]
    have e2 : ys.drop off = (ys.drop off).take d1.length ++ ys.drop (off + d1.length) := by rw [← List.drop_drop, List.take_append_drop]
    rw [e1, e2] at h
    obtain ⟨c, h1, h2⟩ := eqL_append (by simp; omega) h
    have p1 := part_run hF xs off w (by omega)
    have p2 := part_run hF ys off w (by omega)
    have q1 := hF.eq d _ _ c w hd ox'.1 oy'.1 h1
    simp only [Op.eqFields, hn, ne_eq, not_false_eq_true, if_true, Sem.run_bind, ho, p1, Result.andThen_ok, p2, q1, Sem.run_ite]
    cases c with
    | false =>
      simp only [Bool.false_eq_true, if_false] at h2
      injection h2 with h2
      subst h2
      rfl
    | true =>
      simp only [if_true] at h2
      have h3 := fields_run hr d xs ys b w hd (by omega) (by omega) (by rw [← List.drop_drop]; exact ox'.2) (by rw [← List.drop_drop]; exact oy'.2) h2
      simpa using h3
theorem Flat.struct {k : Nat} {fs : Array Field} {ds : List TypeDesc} (ia : ∀ w, (isAgg t).run P w = .ok true w) {z : Nat} (sz : ∀ w, (sizeOf t).run P w = .ok z w) (hz : ds.length = z) (hu : P.underlying t = some (.struct fs)) (hp : P.stoodInHeld t = false) (hf : FlatFs P k 0 fs.toList ds) : Flat P (k + 1) t ds true := by
  subst hz
  refine ⟨ia, sz, fun h => (by cases h), ?_⟩
  intro d xs ys b w hd hx hy h
  obtain ⟨d, rfl⟩ : ∃ d', d = d' + 1 := ⟨d - 1, by omega⟩
  have e : P.fieldsOf t = fs := by simp [Program.fieldsOf, hu]
  simp only [mkV, if_true]
  rw [run_equalIn_agg w d t _ _ (by rw [e]; exact hu) hp, e]
  exact fields_run hf d xs ys b w (by omega) (by simpa using oksD_length hx) (by simpa using oksD_length hy) hx hy h
theorem Flat.mono {k k' : Nat} {ds : List TypeDesc} {agg : Bool} (h : Flat P k t ds agg) (hk : k ≤ k') : Flat P k' t ds agg := ⟨h.ia, h.sz, h.one, fun d xs ys b w hd => h.eq d xs ys b w (by omega)⟩
end
section
variable {P : Program} {n : Nat} {F0 : Nat → Prop} {w0 : World} {e : Env} {Rs Rf : List Res} {Q : Exit → Act → World → Prop} {ops : Array Oper} {d : Option Tmp} {i : Nat} {ty t t' el : TypeId} {pos : String} {af : Array Edge} {gd : Option (Nat × Bool)} {v v' : Value} {x y : Operand} {l : List Nat} {lo : Sch} {c : Code} {S : World → Prop}
theorem Ex.aEq {k : Nat} {ds : List TypeDesc} {us vs : List Value} {b : Bool} (hF : Flat P k t ds true) (hk : Nat.ble k 10000 = true) (hG : P.eqGuardType P.depth t = false) (hx : e.ev x = some (.agg us.toArray)) (hy : e.ev y = some (.agg vs.toArray)) (ou : oksD ds us = true) (ov : oksD ds vs = true) (h : eqL us vs = some b) :
    Ex P n e S ⟨d, .binOp .eql t x y t', ty, pos, af, gd⟩ (.bool b) := by
  intro a w ha _
  have h1 := hF.eq 10000 us vs b w (Nat.le_of_ble_eq_true hk) ou ov h
  simp only [mkV, if_true] at h1
  simp only [execOp, ha.ev hx, ha.ev hy, Sem.run_bind]
  rw [run_eqGuard_agg w .eql t x y _ _ hG]
  simp only [Result.andThen_ok]
  rw [run_eql_struct w t _ _, h1]
  rfl
theorem Ex.aNe {k : Nat} {ds : List TypeDesc} {us vs : List Value} {b : Bool} (hF : Flat P k t ds true) (hk : Nat.ble k 10000 = true) (hG : P.eqGuardType P.depth t = false) (hx : e.ev x = some (.agg us.toArray)) (hy : e.ev y = some (.agg vs.toArray)) (ou : oksD ds us = true) (ov : oksD ds vs = true) (h : eqL us vs = some b) :
    Ex P n e S ⟨d, .binOp .neq t x y t', ty, pos, af, gd⟩ (.bool (!b)) := by
  intro a w ha _
  have h1 := hF.eq 10000 us vs b w (Nat.le_of_ble_eq_true hk) ou ov h
  simp only [mkV, if_true] at h1
  simp only [execOp, ha.ev hx, ha.ev hy, Sem.run_bind]
  rw [run_eqGuard_agg w .neq t x y _ _ hG]
  simp only [Result.andThen_ok]
  rw [run_neq_struct w t _ _, h1]
  rfl
theorem Wd.gu {op : Op} {j k : Nat} {want : Bool} (hj : (ops[j]?).bind (·.dst) = some k) (hv : e.get k = some undef) : Wd n ops e ⟨d, op, ty, pos, af, some (j, want)⟩ false := by
  intro a h
  simp only [Region.wanted, yielded, hj, Option.bind_some, h.at_ k _ hv]
  rfl
theorem SOK.mk0 {T : Nat} {z : Nat} (hu : ∀ w, (underlying t).run P w = .ok (.slice T) w) (hz : ∀ w, (sizeOf T).run P w = .ok z w) : SOK P t T 0 z #[] := by
  intro parts cells w h
  have e0 : ∀ f : Nat → Value, Array.map f (Array.range 0) = #[] := by intro f; simp
  simp only [Instr.buildSlice, Sem.run_bind, hu, hz, Result.andThen_ok, Nat.zero_mul, Sem.run_pure]
  simp [e0, h, newRow]
end
/-! An element of a row that is a resource -/
/-- A resource, and what cells of it say. -/
def RowK {α : Type} (B : Res) (E : Rd α) (g q : Nat) (cs : List Value) (x : α) : Res where
  P := fun w G => B.P w G ∧ G g ∧ (∀ j, j < cs.length → w.cell? ⟨g, q + j, none⟩ = cs[j]?) ∧ E.P w G cs x
  lt := fun h => B.lt h.1
  move := fun {w w' G} h hm => ⟨B.move h.1 hm, h.2.1, fun j hj => by
    rw [← h.2.2.1 j hj]
    simp only [World.cell?, hm g h.2.1], E.move h.2.2.2 hm⟩
section
variable {P : Program} {n : Nat} {F0 : Nat → Prop} {w0 w : World} {e : Env} {Rs Rf : List Res} {Q : Exit → Act → World → Prop} {ops : Array Oper} {d : Option Tmp} {i : Nat} {ty t t' el : TypeId} {pos : String} {af : Array Edge} {gd : Option (Nat × Bool)} {v v' : Value} {y z : Operand} {l : List Nat} {lo : Sch} {c : Code} {S : World → Prop}
variable {α : Type} {E : Rd α} {B : Res} {A : Option Addr} {m cp size k : Nat} {xs : List α} {x : α}
theorem foc_P {G : Nat → Prop} (hG : B.P w G) (hB : (RX.of (sliceRd size E) [.slice A m cp] xs).P w G) (hp : 0 < size) (hx : xs[k]? = some x) : ∃ g o cs, A = some ⟨g, o, none⟩ ∧ cs.length = size ∧ (∃ S, E.P w S cs x) ∧ (RowK B E g (o + k * size) cs x).P w G := by
  rcases hB with ⟨h, rfl⟩ | ⟨a, cap, h, _, _, hb, h2⟩
  · simp at hx
  · injection h with h
    injection h with h3 h4 h5
    subst h3
    have hl : 0 < xs.length := by have := (List.getElem?_eq_some_iff.1 hx).1; omega
    obtain ⟨cs0, k1, k2, _⟩ := h2 0 xs[0] (List.getElem?_eq_getElem hl)
    have k3 := k2 0 hp
    rw [List.getElem?_eq_getElem (by omega)] at k3
    have k4 : a.add (0 * size + 0) = a := by simp [Addr.add]
    rw [k4] at k3
    have k5 := spot_none k3
    obtain ⟨cs, k6, k7, k8⟩ := h2 k x hx
    refine ⟨a.block, a.off, cs, by rw [← k5], k6, ⟨G, k8⟩, hG, hb hl, fun j hj => ?_, k8⟩
    rw [← k7 j (by omega), k5, WideShapes.add_plain, Nat.add_assoc]
theorem St.foc (i : Nat) (h : St F0 w0 Rs w) (hi : Rs[i]? = some B) (hB : ∀ w G, B.P w G → (RX.of (sliceRd size E) [.slice A m cp] xs).P w G) (hp : 0 < size) (hx : xs[k]? = some x) :
    ∃ g o cs, A = some ⟨g, o, none⟩ ∧ cs.length = size ∧ (∃ w S, E.P w S cs x) ∧ St F0 w0 (Rs.set i (RowK B E g (o + k * size) cs x)) w := by
  obtain ⟨f, hs⟩ := h
  obtain ⟨G, h1, h2, h3⟩ := Sep.pick i hi hs
  obtain ⟨g, o, cs, k1, k2, ⟨S, k3⟩, k4⟩ := foc_P h1 (hB w G h1) hp hx
  exact ⟨g, o, cs, k1, k2, ⟨w, S, k3⟩, f, Sep.back i hi k4 h2 h3⟩
theorem T.foc (i : Nat) (hi : Rs[i]? = some B) (hB : ∀ w G, B.P w G → (RX.of (sliceRd size E) [.slice A m cp] xs).P w G) (hp : 0 < size) (hx : xs[k]? = some x)
    (h : ∀ g o cs, A = some ⟨g, o, none⟩ → cs.length = size → (∃ w S, E.P w S cs x) → T P n F0 w0 e (Rs.set i (RowK B E g (o + k * size) cs x)) c Q) : T P n F0 w0 e Rs c Q := by
  intro a w ha hs
  obtain ⟨g, o, cs, k1, k2, k3, k4⟩ := hs.foc i hi hB hp hx
  exact h g o cs k1 k2 k3 a w ha k4
theorem TL.foc (i : Nat) (hi : Rs[i]? = some B) (hB : ∀ w G, B.P w G → (RX.of (sliceRd size E) [.slice A m cp] xs).P w G) (hp : 0 < size) (hx : xs[k]? = some x)
    (h : ∀ g o cs, A = some ⟨g, o, none⟩ → cs.length = size → (∃ w S, E.P w S cs x) → TL P n F0 w0 ops l e (Rs.set i (RowK B E g (o + k * size) cs x)) Q) : TL P n F0 w0 ops l e Rs Q := by
  intro a w ha hs
  obtain ⟨g, o, cs, k1, k2, k3, k4⟩ := hs.foc i hi hB hp hx
  exact h g o cs k1 k2 k3 a w ha k4
theorem St.unf {q g : Nat} {cs : List Value} (i : Nat) (h : St F0 w0 Rs w) (hi : Rs[i]? = some (RowK B E g q cs x)) : St F0 w0 (Rs.set i B) w := h.weaken i hi (fun G hG => hG.1)
theorem T.unf {q g : Nat} {cs : List Value} (i : Nat) (hi : Rs[i]? = some (RowK B E g q cs x)) (h : T P n F0 w0 e (Rs.set i B) c Q) : T P n F0 w0 e Rs c Q := fun a w ha hs => h a w ha (hs.unf i hi)
theorem TL.unf {q g : Nat} {cs : List Value} (i : Nat) (hi : Rs[i]? = some (RowK B E g q cs x)) (h : TL P n F0 w0 ops l e (Rs.set i B) Q) : TL P n F0 w0 ops l e Rs Q := fun a w ha hs => h a w ha (hs.unf i hi)
theorem X.unf {q g : Nat} {cs : List Value} {o : Exit} (i : Nat) (hi : Rs[i]? = some (RowK B E g q cs x)) (h : X n F0 w0 e (Rs.set i B) o Q) : X n F0 w0 e Rs o Q := fun a w ha hs => h a w ha (hs.unf i hi)
theorem Ex.k1 {q g : Nat} {cs : List Value} (i j : Nat) (hy : e.ev y = some (.pointer (some ⟨g, q + j, none⟩))) (ha : ∀ w, (isAgg t).run P w = .ok false w) (hi : Rs[i]? = some B) (hB : ∀ w G, B.P w G → ∀ j, j < cs.length → w.cell? ⟨g, q + j, none⟩ = cs[j]?) (hv : cs[j]? = some v) : Ex P n e (St F0 w0 Rs) ⟨d, .load t y, ty, pos, af, gd⟩ v :=
  Ex.ld1 hy ha (fun w hw => by
    obtain ⟨G, h1, _⟩ := hw.get i hi
    exact (hB w G h1 j (List.getElem?_eq_some_iff.1 hv).1).trans hv)
theorem Ex.kS {q g z' : Nat} {cs us : List Value} (i kk : Nat) (hy : e.ev y = some (.pointer (some ⟨g, q + kk, none⟩))) (ha : ∀ w, (isAgg t).run P w = .ok true w) (hz : ∀ w, (sizeOf t).run P w = .ok z' w) (hi : Rs[i]? = some B) (hB : ∀ w G, B.P w G → ∀ j, j < cs.length → w.cell? ⟨g, q + j, none⟩ = cs[j]?)
    (hv : (cs.drop kk).take z' = us) (hl : Nat.beq us.length z' = true) : Ex P n e (St F0 w0 Rs) ⟨d, .load t y, ty, pos, af, gd⟩ (.agg us.toArray) := by
  refine Ex.ldS hy ha hz (Nat.eq_of_beq_eq_true hl) (fun w hw j u hj => ?_)
  obtain ⟨G, h1, _⟩ := hw.get i hi
  have h2 : (⟨g, q + kk, none⟩ : Addr).add j = ⟨g, q + (kk + j), none⟩ := by unfold Addr.add; split <;> simp_all [Nat.add_assoc]
  rw [h2]
  subst hv
  rw [List.getElem?_take] at hj
  split at hj
  · rw [List.getElem?_drop] at hj
    exact (hB w G h1 (kk + j) (List.getElem?_eq_some_iff.1 hj).1).trans hj
  · cases hj
end
end Go.Proofs.Ytdlpmcbglmgpiaa.Sl
