/- txnParts_holds: part 1. -/
import Derived.Laws.BytesString
import Derived.Laws.Cells
import Derived.Laws.MakeOwn
import Derived.Laws.CopyRow
import Derived.Lib.ConvBytes
import Derived.Test.YtpiiopppbgpbpaaK0
namespace Go.Proofs.Ytpiiopppbgpbpaa.Sl
open Go.RowKit
set_option linter.unusedVariables false
set_option linter.unusedSimpArgs false
theorem bn_t {b : Bool} (h : b = false) : (!b) = true := by rw [h]; rfl
theorem bn_f {b : Bool} (h : b = true) : (!b) = false := by rw [h]; rfl
theorem ifT {α : Type} {c : Prop} [Decidable c] {x y z : α} (hc : c) (h : (if c then x else y) = z) : x = z := by rwa [if_pos hc] at h
theorem ifF {α : Type} {c : Prop} [Decidable c] {x y z : α} (hc : ¬ c) (h : (if c then x else y) = z) : y = z := by rwa [if_neg hc] at h
section
variable {P : Program} {n : Nat} {F0 : Nat → Prop} {w0 : World} {e : Env} {Rs Rf : List Res} {Q : Exit → Act → World → Prop} {ops : Array Oper} {i d : Nat} {ty t t' el : TypeId} {pos : String} {af : Array Edge} {gd : Option (Nat × Bool)} {v v' : Value} {x y : Operand} {l : List Nat} {lo : Sch} {c : Code} {S : World → Prop}
theorem Ex.bEq {d : Option Tmp} {a b p q : Bool} (hx : e.ev x = some (.bool a)) (ha : a = p) (hy : e.ev y = some (.bool b)) (hb : b = q) (hu : ∀ w, (underlying t).run P w = .ok .bool w) : Ex P n e S ⟨d, .binOp .eql t x y t', ty, pos, af, gd⟩ (.bool (p == q)) := by
  intro A w h _
  subst ha hb
  have h1 : ∀ k, (Op.equalIn (k + 1) t (.bool a) (.bool b)).run P w = .ok (a == b) w := by
    intro k
    simp only [Op.equalIn, Sem.run_bind, hu, Result.andThen_ok]
    rfl
  have h2 : (Op.equal t (.bool a) (.bool b)).run P w = .ok (a == b) w := h1 9999
  have h4 : (binOp .eql t (.bool a) (.bool b)).run P w = .ok (.bool (a == b)) w := by
    simp only [binOp, Sem.run_bind, h2, Result.andThen_ok, Sem.run_pure]
  simp only [execOp, h.ev hx, h.ev hy, eqGuard]
  simp [h4]
theorem Ex.bNe {d : Option Tmp} {a b p q : Bool} (hx : e.ev x = some (.bool a)) (ha : a = p) (hy : e.ev y = some (.bool b)) (hb : b = q) (hu : ∀ w, (underlying t).run P w = .ok .bool w) : Ex P n e S ⟨d, .binOp .neq t x y t', ty, pos, af, gd⟩ (.bool (!(p == q))) := by
  intro A w h _
  subst ha hb
  have h1 : ∀ k, (Op.equalIn (k + 1) t (.bool a) (.bool b)).run P w = .ok (a == b) w := by
    intro k
    simp only [Op.equalIn, Sem.run_bind, hu, Result.andThen_ok]
    rfl
  have h2 : (Op.equal t (.bool a) (.bool b)).run P w = .ok (a == b) w := h1 9999
  have h4 : (binOp .neq t (.bool a) (.bool b)).run P w = .ok (.bool (!(a == b))) w := by
    simp only [binOp, Sem.run_bind, h2, Result.andThen_ok, Sem.run_pure]
  simp only [execOp, h.ev hx, h.ev hy, eqGuard]
  simp [h4]
theorem TL.sel (is : List Nat) {Rs' : List Res} (hr : Sel Rs is Rs') (h : TL P n F0 w0 ops l e Rs' Q) : TL P n F0 w0 ops l e Rs Q := fun a w ha hs => h a w ha (hs.sel is hr)
theorem TD.sel (is : List Nat) {Rs' : List Res} (hr : Sel Rs is Rs') (h : TD P n F0 w0 ops lo Rf e Rs' Q) : TD P n F0 w0 ops lo Rf e Rs Q := fun a w ha hs => h a w ha (hs.sel is hr)
theorem T.sel (is : List Nat) {Rs' : List Res} (hr : Sel Rs is Rs') (h : T P n F0 w0 e Rs' c Q) : T P n F0 w0 e Rs c Q := fun a w ha hs => h a w ha (hs.sel is hr)
theorem X.sel {z : Exit} (is : List Nat) {Rs' : List Res} (hr : Sel Rs is Rs') (h : X n F0 w0 e Rs' z Q) : X n F0 w0 e Rs z Q := fun a w ha hs => h a w ha (hs.sel is hr)
theorem Has.as {a : Act} (ha : Has n e a) (hv : e.get d = some v) (h : v = v') : Has n ((d, v') :: e) a := ha.sub (fun t u hu => by
  simp only [Env.get] at hu
  cases hb : Nat.beq d t with
  | true =>
    rw [hb] at hu
    obtain rfl := Nat.eq_of_beq_eq_true hb
    injection hu with hu
    rw [hv, h, hu]
  | false => rw [hb] at hu; exact hu)
theorem TL.as (hv : e.get d = some v) (h : v = v') (k : TL P n F0 w0 ops l ((d, v') :: e) Rs Q) : TL P n F0 w0 ops l e Rs Q := fun a w ha hs => k a w (ha.as hv h) hs
theorem TD.as (hv : e.get d = some v) (h : v = v') (k : TD P n F0 w0 ops lo Rf ((d, v') :: e) Rs Q) : TD P n F0 w0 ops lo Rf e Rs Q := fun a w ha hs => k a w (ha.as hv h) hs
theorem TL.nilrow {α : Type} (T' : TypeId) (size : Nat) (E : Rd α) (h : TL P n F0 w0 ops l e (OwnR T' size E (.slice none 0 0) [] :: Rs) Q) : TL P n F0 w0 ops l e Rs Q := fun a w ha hs => h a w ha (OwnR.nil T' size E hs)
theorem TD.nilrow {α : Type} (T' : TypeId) (size : Nat) (E : Rd α) (h : TD P n F0 w0 ops lo Rf e (OwnR T' size E (.slice none 0 0) [] :: Rs) Q) : TD P n F0 w0 ops lo Rf e Rs Q := fun a w ha hs => h a w ha (OwnR.nil T' size E hs)
theorem OutR.of_blk {b : Nat} {w : World} {G : Nat → Prop} (h : (BlkR b 42 #[.slice none 0 0, .int .i64 0]).P w G) : (OutR b ([], 0)).P w G := by
  obtain ⟨h1, h2⟩ := h
  exact ⟨_, h1, World.ownsRow_nil _ _ _ _, fun k => by simp [h2 k, Value.ownBlock]⟩
theorem TL.newout {zv : Value} (ho : ops[i]? = some ⟨some d, .alloc t, ty, pos, af, gd⟩) (hw : Wd n ops e ⟨some d, .alloc t, ty, pos, af, gd⟩ true) (hz : ∀ w, (zeroValue t).run P w = .ok zv w) (hd : Nat.blt d n = true)
    (h : ∀ b, TL P n F0 w0 ops l ((d, .pointer (some ⟨b, 0, none⟩)) :: e) (OutR b ([], 0) :: Rs) Q) (ht : t = 42 := by rfl) (hzv : zv = .agg #[.slice none 0 0, .int .i64 0] := by rfl) : TL P n F0 w0 ops (i :: l) e Rs Q := by
  refine TL.alloc ho hw hz hd (fun b => ?_)
  intro a w ha hs
  subst ht hzv
  exact h b a w ha (hs.weaken 0 rfl (fun G hG => OutR.of_blk hG))
theorem TD.newout {zv : Value} (ho : ops[i]? = some ⟨some d, .alloc t, ty, pos, af, gd⟩) (hw : Wd n ops e ⟨some d, .alloc t, ty, pos, af, gd⟩ true) (hz : ∀ w, (zeroValue t).run P w = .ok zv w) (hd : Nat.blt d n = true) (is : List Nat) (hf : ∀ b, Sel (OutR b ([], 0) :: Rs) is Rf)
    (h : ∀ b, TD P n F0 w0 ops lo Rf ((d, .pointer (some ⟨b, 0, none⟩)) :: e) (OutR b ([], 0) :: Rs) Q) (ht : t = 42 := by rfl) (hzv : zv = .agg #[.slice none 0 0, .int .i64 0] := by rfl) : TD P n F0 w0 ops (.e i lo) Rf e Rs Q := by
  refine TD.ef ho hw (Ef.alloc hz hd) ?_
  rintro _ _ ⟨b, rfl, rfl⟩
  subst ht hzv
  have key : ∀ w, St F0 w0 (BlkR b 42 #[.slice none 0 0, .int .i64 0] :: Rs) w → St F0 w0 (OutR b ([], 0) :: Rs) w := fun w hs => hs.weaken 0 rfl (fun G hG => OutR.of_blk hG)
  exact ⟨Rf, fun w hs => (key w hs).sel is (hf b), fun _ h => h, fun a w ha hs => h b a w ha (key w hs)⟩
section
variable {α : Type} {E : Rd α} {sl : Operand} {T z bytes g ii jj : Nat} {zv : Value} {A : Option Addr} {cp : Nat} {Rs' : List Res} {B : Res}
theorem TL.app1 (ii : Nat) {us : List Value} {u : α} {l : List α} {lr : List Nat} (ho : ops[i]? = some ⟨some d, .call ⟨.builtin .append, #[sl, x], #[t, t]⟩, ty, pos, af, gd⟩) (hw : Wd n ops e ⟨some d, .call ⟨.builtin .append, #[sl, x], #[t, t]⟩, ty, pos, af, gd⟩ true)
    (hu : P.underlying t = some (.slice T)) (hinfo : (P.info? T).map (fun i => (i.zero, i.size, i.bytes)) = some (some zv, z, bytes)) (hzv : zv.cells.size = z) (hp : 0 < z)
    (hs : e.ev sl = some (.slice A l.length cp)) (hx : e.ev x = some (.slice (some ⟨g, 0, none⟩) 1 1)) (hR : Rs = BlkR g T us.toArray :: Rs') (hi : Rs'[ii]? = some (OwnR T z E (.slice A l.length cp) l)) (hl : us.length = z) (hq : us.all (·.oneCell') = true) (hE : ∀ w S, E.P w S us u) (hb : (l.length + 1) * bytes ≤ 140737488355328) (hm : l.length + 1 ≤ 140737488355328) (hd : Nat.blt d n = true)
    (h : ∀ A' c', TL P n F0 w0 ops lr ((d, .slice A' (l ++ [u]).length c') :: e) (Rs'.set ii (OwnR T z E (.slice A' (l ++ [u]).length c') (l ++ [u]))) Q) : TL P n F0 w0 ops (i :: lr) e Rs Q := by
  refine TL.ef ho hw (Ef.app1 ii hu hinfo hzv hp hs hx hR hi hl hq hE hb hm hd) ?_
  rintro _ _ ⟨A', c', rfl, rfl⟩
  exact h A' c'
theorem TD.app1 (ii : Nat) {us : List Value} {u : α} {l : List α} {lr : Sch} (ho : ops[i]? = some ⟨some d, .call ⟨.builtin .append, #[sl, x], #[t, t]⟩, ty, pos, af, gd⟩) (hw : Wd n ops e ⟨some d, .call ⟨.builtin .append, #[sl, x], #[t, t]⟩, ty, pos, af, gd⟩ true)
    (hu : P.underlying t = some (.slice T)) (hinfo : (P.info? T).map (fun i => (i.zero, i.size, i.bytes)) = some (some zv, z, bytes)) (hzv : zv.cells.size = z) (hp : 0 < z)
    (hs : e.ev sl = some (.slice A l.length cp)) (hx : e.ev x = some (.slice (some ⟨g, 0, none⟩) 1 1)) (hR : Rs = BlkR g T us.toArray :: Rs') (hi : Rs'[ii]? = some (OwnR T z E (.slice A l.length cp) l)) (hl : us.length = z) (hq : us.all (·.oneCell') = true) (hE : ∀ w S, E.P w S us u) (hb : (l.length + 1) * bytes ≤ 140737488355328) (hm : l.length + 1 ≤ 140737488355328) (hd : Nat.blt d n = true)
    (is : List Nat) (hf : ∀ A' c', Sel (Rs'.set ii (OwnR T z E (.slice A' (l ++ [u]).length c') (l ++ [u]))) is Rf)
    (h : ∀ A' c', TD P n F0 w0 ops lr Rf ((d, .slice A' (l ++ [u]).length c') :: e) (Rs'.set ii (OwnR T z E (.slice A' (l ++ [u]).length c') (l ++ [u]))) Q) : TD P n F0 w0 ops (.e i lr) Rf e Rs Q := by
  refine TD.ef ho hw (Ef.app1 ii hu hinfo hzv hp hs hx hR hi hl hq hE hb hm hd) ?_
  rintro _ _ ⟨A', c', rfl, rfl⟩
  exact ⟨Rf, fun w hw => hw.sel is (hf A' c'), fun _ h => h, h A' c'⟩
end
variable (P n F0 w0) in
def RV (e : Env) (Rs : List Res) (r : ResultVar) (v : Value) : Prop := ∀ a w, Has n e a → St F0 w0 Rs w → (resv a.tmps r).run P w = .ok v w
theorem RV.tm {k : Nat} (hv : e.get k = some v) : RV P n F0 w0 e Rs (.tmp k) v := by
  intro a w ha hs
  have h2 := ha.at_ k v hv
  simp [resv, h2]
theorem RV.cS (i : Nat) {k b T : Nat} {us : Array Value} {z : Nat} (hk : e.get k = some (.pointer (some ⟨b, 0, none⟩))) (ha : ∀ w, (isAgg t).run P w = .ok true w) (hz : ∀ w, (sizeOf t).run P w = .ok z w) (hi : Rs[i]? = some (BlkR b T us)) (hl : us.size = z) : RV P n F0 w0 e Rs (.cell k t) (.agg us) := by
  intro a w h hs
  have h2 := h.at_ k _ hk
  have hb := hs.blk i hi
  have h3 := run_loadVarS (P := P) (t := t) (w := w) (ad := ⟨b, 0, none⟩) (cs := us.toList) ha (by intro w; rw [hz]; simp [hl]) (fun j u hj => by
    have e1 : (⟨b, 0, none⟩ : Addr).add j = ⟨b, j, none⟩ := by unfold Addr.add; split <;> simp_all
    rw [e1, heap_at hb]
    simpa using hj)
  simp [resv, h2, asAddr, h3]
theorem RV.c1 (i : Nat) {k b T : Nat} {us : Array Value} (hk : e.get k = some (.pointer (some ⟨b, 0, none⟩))) (ha : ∀ w, (isAgg t).run P w = .ok false w) (hi : Rs[i]? = some (BlkR b T us)) (hv : us[0]? = some v) : RV P n F0 w0 e Rs (.cell k t) v := by
  intro a w h hs
  have h2 := h.at_ k _ hk
  have hb := hs.blk i hi
  have h3 := run_loadVar1 (P := P) (t := t) (w := w) (ad := ⟨b, 0, none⟩) ha ((heap_at hb 0).trans hv)
  simp [resv, h2, asAddr, h3]
section
variable {f : Func} {R : Value → Res → List Res → Prop} {A' : Res} {Ns : List Res} {r1 r2 r3 r4 : ResultVar} {v1 v2 v3 v4 : Value} {z : Exit}
theorem X.fin (hR : R v A' Ns) (is : List Nat) (hr : Sel Rs is (A' :: Ns)) (hx : z = .ret ∨ z = .normal) (h : ∀ a w, Has n e a → St F0 w0 Rs w → (results f a.tmps).run P w = .ok v w) : X n F0 w0 e Rs z (bodyPost P f (Post R F0 w0)) := by
  intro a w ha hs
  have h : bodyPost P f (Post R F0 w0) .ret a w := ⟨ha.df, v, h a w ha hs, v, A', Ns, rfl, hR, hs.sel is hr⟩
  rcases hx with rfl | rfl <;> exact h
theorem X.done1 (is : List Nat) (hf : f.results = #[r1]) (h1 : RV P n F0 w0 e Rs r1 v1) (hR : R v1 A' Ns) (hr : Sel Rs is (A' :: Ns)) (hx : z = .ret ∨ z = .normal) : X n F0 w0 e Rs z (bodyPost P f (Post R F0 w0)) :=
  X.fin hR is hr hx (fun a w ha hs => by rw [results_eq, hf]; simp [h1 a w ha hs])
end
theorem BOK.mk {zv : Value} {fs : Array Field} {pl : List (Nat × Nat)} {zs : Array Value} (hz : ∀ w, (zeroValue t).run P w = .ok zv w) (hu : ∀ w, (underlying t).run P w = .ok (.struct fs) w) (hp : ∀ w, (fs.mapM (fun f => do pure (f.offset, ← sizeOf f.type)) : Sem (Array (Nat × Nat))).run P w = .ok pl.toArray w) (hzs : zv.cells = zs := by rfl) : BOK P t zs pl := by
  intro parts cells w h
  subst hzs
  simp only [Instr.build, Sem.run_bind, hz, Result.andThen_ok, hu, hp]
  have h2 : (fun (i : Nat) => (pl.toArray)[i]?) = (fun (i : Nat) => pl[i]?) := by funext i; simp
  simp [h2, h]
theorem SOK.mk {T m z : Nat} {zv : Value} {zs : Array Value} (hu : ∀ w, (underlying t).run P w = .ok (.slice T) w) (hz : ∀ w, (sizeOf T).run P w = .ok z w) (hzv : ∀ w, (zeroValue T).run P w = .ok zv w) (hm : 0 < m * z ∧ m * z ≤ 16777216) (hzs : (Array.range (m * z)).map (fun i => zv.cells[i % zv.cells.size]!) = zs) : SOK P t T m z zs := by
  intro parts cells w h
  have h1 : ¬ (m * z > 2 ^ 24) := by omega
  have h2 : ¬ (m * z = 0) := by omega
  subst hzs
  simp only [Instr.buildSlice, Sem.run_bind, hu, hz, Result.andThen_ok, h1, if_false, h2, hzv, Sem.run_pure]
  simp [h, newRow]
end
end Go.Proofs.Ytpiiopppbgpbpaa.Sl
namespace Go.Proofs.Ytpiiopppbgpbpaa.Sl
open Go.RowKit
set_option linter.unusedVariables false
set_option linter.unusedSimpArgs false
def eqV : Value → Value → Option Bool
  | .int k a, .int k' b => if k = k' then some (decide (a = b)) else none
  | .bool a, .bool b => some (decide (a = b))
  | .string a, .string b => some (decide (a.toList = b.toList))
  | _, _ => none
def eqL : List Value → List Value → Option Bool
  | [], [] => some true
  | x :: xs, y :: ys => match eqV x y with
    | some true => eqL xs ys
    | some false => some false
    | none => none
  | _, _ => none
theorem eqV_i {k : IntKind} {a b : Int} (h : a = b) : eqV (.int k a) (.int k b) = some true := by simp [eqV, h]
theorem eqV_in {k : IntKind} {a b : Int} (h : ¬ a = b) : eqV (.int k a) (.int k b) = some false := by simp [eqV, h]
theorem eqV_b {a b : Bool} (h : a = b) : eqV (.bool a) (.bool b) = some true := by simp [eqV, h]
theorem eqV_bn {a b : Bool} (h : ¬ a = b) : eqV (.bool a) (.bool b) = some false := by simp [eqV, h]
theorem eqV_s {l m : List UInt8} (h : l = m) : eqV (.string (bsOf l)) (.string (bsOf m)) = some true := by simp [eqV, h]
theorem eqV_sn {l m : List UInt8} (h : ¬ l = m) : eqV (.string (bsOf l)) (.string (bsOf m)) = some false := by simp [eqV, bsOf_toList, h]
theorem eqL_t {x y : Value} {xs ys : List Value} {b : Bool} (h : eqV x y = some true) (r : eqL xs ys = some b) : eqL (x :: xs) (y :: ys) = some b := by simp [eqL, h, r]
theorem eqL_f {x y : Value} {xs ys : List Value} (h : eqV x y = some false) : eqL (x :: xs) (y :: ys) = some false := by simp [eqL, h]
theorem eqL_append : ∀ {xs ys xs' ys' : List Value} {b : Bool}, xs.length = ys.length → eqL (xs ++ xs') (ys ++ ys') = some b → ∃ c, eqL xs ys = some c ∧ (if c then eqL xs' ys' else some false) = some b
  | [], [], xs', ys', b, _, h => ⟨true, rfl, by simpa using h⟩
  | x :: xs, y :: ys, xs', ys', b, hl, h => by
    simp only [List.cons_append, eqL] at h ⊢
    cases hv : eqV x y with
    | none => rw [hv] at h; cases h
    | some c =>
      cases c with
      | true =>
        rw [hv] at h
        exact eqL_append (by simpa using hl) h
      | false =>
        rw [hv] at h
        exact ⟨false, rfl, by simpa using h⟩
def okD : TypeDesc → Value → Bool
  | .int _, .int _ _ => true
  | .bool, .bool _ => true
  | .string, .string _ => true
  | _, _ => false
def oksD : List TypeDesc → List Value → Bool
  | [], [] => true
  | d :: ds, v :: vs => okD d v && oksD ds vs
  | _, _ => false
theorem oksD_length : ∀ {ds : List TypeDesc} {vs : List Value}, oksD ds vs = true → vs.length = ds.length
  | [], [], _ => rfl
  | d :: ds, v :: vs, h => by
    simp only [oksD, Bool.and_eq_true] at h
    simp [oksD_length h.2]
theorem oksD_app : ∀ {ds ds' : List TypeDesc} {vs : List Value}, oksD (ds ++ ds') vs = true → oksD ds (vs.take ds.length) = true ∧ oksD ds' (vs.drop ds.length) = true
  | [], ds', vs, h => by simpa [oksD] using h
  | d :: ds, ds', [], h => by simp [oksD] at h
  | d :: ds, ds', v :: vs, h => by
    simp only [List.cons_append, oksD, Bool.and_eq_true] at h
    have := oksD_app h.2
    simp [oksD, h.1, this]
def mkV (agg : Bool) (xs : List Value) : Value := if agg then .agg xs.toArray else xs.headD undef
structure Flat (P : Program) (k : Nat) (t : TypeId) (ds : List TypeDesc) (agg : Bool) : Prop where
  ia : ∀ w, (isAgg t).run P w = .ok agg w
  sz : ∀ w, (sizeOf t).run P w = .ok ds.length w
  one : agg = false → ds.length = 1
  eq : ∀ (d : Nat) (xs ys : List Value) (b : Bool) (w : World), k ≤ d → oksD ds xs = true → oksD ds ys = true → eqL xs ys = some b → (Op.equalIn d t (mkV agg xs) (mkV agg ys)).run P w = .ok b w
section
variable {P : Program} {t : TypeId}
theorem eqL_one {x y : Value} {b : Bool} (h : eqL [x] [y] = some b) : eqV x y = some b := by
  simp only [eqL] at h
  cases hv : eqV x y with
  | none => rw [hv] at h; cases h
  | some c => cases c <;> (rw [hv] at h; exact h)
theorem len1 {xs : List Value} (h : xs.length = 1) : ∃ x, xs = [x] := by
  match xs, h with
  | [x], _ => exact ⟨x, rfl⟩
theorem equal_one {d0 : TypeDesc} (hu : P.underlying t = some d0) (d : Nat) (x y : Value) (b : Bool) (w : World) (hx : okD d0 x = true) (hy : okD d0 y = true) (h : eqV x y = some b) : (Op.equalIn (d + 1) t x y).run P w = .ok b w := by
  cases d0 <;> cases x <;> first | (simp [okD] at hx; done) | skip
  all_goals cases y <;> first | (simp [okD] at hy; done) | skip
  · simp only [eqV, Option.some.injEq] at h
    subst h
    rw [run_equalIn_bool' w d t _ _ hu]
    rfl
  · rename_i q k a k' b'
    simp only [eqV] at h
    split at h
    · rename_i hk
      subst hk
      injection h with h
      subst h
      rw [run_equalIn_int w d t k _ a b' hu]
      rfl
    · cases h
  · simp only [eqV, Option.some.injEq] at h
    subst h
    rw [run_equalIn_string w d t _ _ hu]
    congr 1
    rename_i p q
    by_cases hpq : p.toList = q.toList <;> simp [hpq]
theorem Flat.one_ {d0 : TypeDesc} (ia : ∀ w, (isAgg t).run P w = .ok false w) (sz : ∀ w, (sizeOf t).run P w = .ok 1 w) (hu : P.underlying t = some d0) : Flat P 1 t [d0] false := by
  refine ⟨ia, sz, fun _ => rfl, ?_⟩
  intro d xs ys b w hd hx hy h
  obtain ⟨x, rfl⟩ := len1 (by simpa using oksD_length hx)
  obtain ⟨y, rfl⟩ := len1 (by simpa using oksD_length hy)
  obtain ⟨d, rfl⟩ : ∃ d', d = d' + 1 := ⟨d - 1, by omega⟩
  exact equal_one hu d x y b w (by simpa [oksD] using hx) (by simpa [oksD] using hy) (eqL_one h)
def FlatFs (P : Program) (k : Nat) : Nat → List Field → List TypeDesc → Prop
  | _, [], ds => ds = []
  | off, f :: fs, ds => f.name ≠ "_" ∧ f.offset = off ∧ ∃ d1 d2 agg, ds = d1 ++ d2 ∧ Flat P k f.type d1 agg ∧ FlatFs P k (off + d1.length) fs d2
theorem part_run {ty : TypeId} {ds : List TypeDesc} {agg : Bool} {k : Nat} (hf : Flat P k ty ds agg) (xs : List Value) (off : Nat) (w : World) (hl : off + ds.length ≤ xs.length) : (part ty xs.toArray off).run P w = .ok (mkV agg ((xs.drop off).take ds.length)) w := by
  cases agg with
  | true =>
    have h1 := hf.ia w
    simp only [part, Sem.run_bind, h1, Result.andThen_ok, if_true, hf.sz w, Sem.run_pure, mkV]
    congr 2
    apply Array.ext'
    simp [List.extract_eq_take_drop]
  | false =>
    have h1 := hf.ia w
    have h2 := hf.one rfl
    have h3 : off < xs.length := by omega
    have h4 : ((xs.drop off).take 1).headD undef = xs[off] := by
      rw [List.drop_eq_getElem_cons h3]
      rfl
    simp only [part, Sem.run_bind, h1, Result.andThen_ok, Bool.false_eq_true, if_false, mkV, h2, h4]
    simp [h3]
theorem fields_run {k : Nat} : ∀ {fs : List Field} {ds : List TypeDesc} {off : Nat}, FlatFs P k off fs ds → ∀ (d : Nat) (xs ys : List Value) (b : Bool) (w : World), k ≤ d → xs.length = off + ds.length → ys.length = off + ds.length →
    oksD ds (xs.drop off) = true → oksD ds (ys.drop off) = true → eqL (xs.drop off) (ys.drop off) = some b → (Op.eqFields d xs.toArray ys.toArray fs).run P w = .ok b w
  | [], ds, off, hf, d, xs, ys, b, w, hd, hx, hy, ox, oy, h => by
    obtain rfl : ds = [] := hf
    rw [List.drop_of_length_le (by simp at hx; omega), List.drop_of_length_le (by simp at hy; omega)] at h
    injection h with h
    subst h
    rfl
  | f :: fs, ds, off, hf, d, xs, ys, b, w, hd, hx, hy, ox, oy, h => by
    obtain ⟨hn, ho, d1, d2, agg, rfl, hF, hr⟩ := hf
    rw [List.length_append] at hx hy
    have ox' := oksD_app ox
    have oy' := oksD_app oy
    have e1 : xs.drop off = (xs.drop off).take d1.length ++ xs.drop (off + d1.length) := by rw [← List.drop_drop, List.take_append_drop]
    have e2 : ys.drop off = (ys.drop off).take d1.length ++ ys.drop (off + d1.length) := by rw [← List.drop_drop, List.take_append_drop]
    rw [e1, e2] at h
    obtain ⟨c, h1, h2⟩ := eqL_append (by simp; omega) h
    have p1 := part_run hF xs off w (by omega)
    have p2 := part_run hF ys off w (by omega)
    have q1 := hF.eq d _ _ c w hd ox'.1 oy'.1 h1
    simp only [Op.eqFields, hn, ne_eq, not_false_eq_true, if_true, Sem.run_bind, ho, p1, Result.andThen_ok, p2, q1, Sem.run_ite]
    cases c with
    | false =>
      simp only [Bool.false_eq_true, if_false] at h2
      injection h2 with h2
      subst h2
      rfl
    | true =>
      simp only [if_true] at h2
      have h3 := fields_run hr d xs ys b w hd (by omega) (by omega) (by rw [← List.drop_drop]; exact ox'.2) (by rw [← List.drop_drop]; exact oy'.2) h2
      simpa using h3
theorem Flat.struct {k : Nat} {fs : Array Field} {ds : List TypeDesc} (ia : ∀ w, (isAgg t).run P w = .ok true w) {z : Nat} (sz : ∀ w, (sizeOf t).run P w = .ok z w) (hz : ds.length = z) (hu : P.underlying t = some (.struct fs)) (hp : P.stoodInHeld t = false) (hf : FlatFs P k 0 fs.toList ds) : Flat P (k + 1) t ds true := by
  subst hz
  refine ⟨ia, sz, fun h => (by cases h), ?_⟩
  intro d xs ys b w hd hx hy h
  obtain ⟨d, rfl⟩ : ∃ d', d = d' + 1 := ⟨d - 1, by omega⟩
  have e : P.fieldsOf t = fs := by simp [Program.fieldsOf, hu]
  simp only [mkV, if_true]
  rw [run_equalIn_agg w d t _ _ (by rw [e]; exact hu) hp, e]
  exact fields_run hf d xs ys b w (by omega) (by simpa using oksD_length hx) (by simpa using oksD_length hy) hx hy h
theorem Flat.mono {k k' : Nat} {ds : List TypeDesc} {agg : Bool} (h : Flat P k t ds agg) (hk : k ≤ k') : Flat P k' t ds agg := ⟨h.ia, h.sz, h.one, fun d xs ys b w hd => h.eq d xs ys b w (by omega)⟩
end
section
variable {P : Program} {n : Nat} {F0 : Nat → Prop} {w0 : World} {e : Env} {Rs Rf : List Res} {Q : Exit → Act → World → Prop} {ops : Array Oper} {d : Option Tmp} {i : Nat} {ty t t' el : TypeId} {pos : String} {af : Array Edge} {gd : Option (Nat × Bool)} {v v' : Value} {x y : Operand} {l : List Nat} {lo : Sch} {c : Code} {S : World → Prop}
theorem Ex.aEq {k : Nat} {ds : List TypeDesc} {us vs : List Value} {b : Bool} (hF : Flat P k t ds true) (hk : Nat.ble k 10000 = true) (hG : P.eqGuardType P.depth t = false) (hx : e.ev x = some (.agg us.toArray)) (hy : e.ev y = some (.agg vs.toArray)) (ou : oksD ds us = true) (ov : oksD ds vs = true) (h : eqL us vs = some b) :
    Ex P n e S ⟨d, .binOp .eql t x y t', ty, pos, af, gd⟩ (.bool b) := by
  intro a w ha _
  have h1 := hF.eq 10000 us vs b w (Nat.le_of_ble_eq_true hk) ou ov h
  simp only [mkV, if_true] at h1
  simp only [execOp, ha.ev hx, ha.ev hy, Sem.run_bind]
  rw [run_eqGuard_agg w .eql t x y _ _ hG]
  simp only [Result.andThen_ok]
  rw [run_eql_struct w t _ _, h1]
  rfl
theorem Wd.gu {op : Op} {j k : Nat} {want : Bool} (hj : (ops[j]?).bind (·.dst) = some k) (hv : e.get k = some undef) : Wd n ops e ⟨d, op, ty, pos, af, some (j, want)⟩ false := by
  intro a h
  simp only [Region.wanted, yielded, hj, Option.bind_some, h.at_ k _ hv]
  rfl
end
section
variable {P : Program} {n : Nat} {F0 : Nat → Prop} {w0 w : World} {e : Env} {Rs Rf : List Res} {Q : Exit → Act → World → Prop} {ops : Array Oper} {d : Option Tmp} {i : Nat} {ty t t' el : TypeId} {pos : String} {af : Array Edge} {gd : Option (Nat × Bool)} {v v' : Value} {y z : Operand} {l : List Nat} {lo : Sch} {c : Code} {S : World → Prop}
variable {α : Type} {E : Rd α} {B : Res} {A : Option Addr} {m cp size k : Nat} {xs : List α} {x : α}
theorem Ex.k1 {q g : Nat} {cs : List Value} (i j : Nat) (hy : e.ev y = some (.pointer (some ⟨g, q + j, none⟩))) (ha : ∀ w, (isAgg t).run P w = .ok false w) (hi : Rs[i]? = some B) (hB : ∀ w G, B.P w G → ∀ j, j < cs.length → w.cell? ⟨g, q + j, none⟩ = cs[j]?) (hv : cs[j]? = some v) : Ex P n e (St F0 w0 Rs) ⟨d, .load t y, ty, pos, af, gd⟩ v :=
  Ex.ld1 hy ha (fun w hw => by
    obtain ⟨G, h1, _⟩ := hw.get i hi
    exact (hB w G h1 j (List.getElem?_eq_some_iff.1 hv).1).trans hv)
end
end Go.Proofs.Ytpiiopppbgpbpaa.Sl
namespace Go.Proofs.Ytpiiopppbgpbpaa.Sl
open Go.RowKit
set_option linter.unusedVariables false
set_option linter.unusedSimpArgs false
def RX.blk (b : Nat) (T : TypeId) (cs : Array Value) : RX := ⟨fun w S => w.heap[b]? = some (.cells cs T (0, 0)) ∧ S b, fun h k => ⟨h.1, k _ h.2⟩, fun h k => ⟨(k _ h.2).trans h.1, h.2⟩⟩
section
variable {P : Program} {n : Nat} {F0 : Nat → Prop} {w0 w : World} {e : Env} {Rs Rf : List Res} {Q : Exit → Act → World → Prop} {ops : Array Oper} {d : Option Tmp} {i : Nat} {ty t t' el : TypeId} {pos : String} {af : Array Edge} {gd : Option (Nat × Bool)} {v v' : Value} {x y z : Operand} {l : List Nat} {lo : Sch} {c : Code} {S : World → Prop}
theorem Ex.mkI {fs : Array Field} (hx : e.ev x = some v) (hu : ∀ w, (underlying t).run P w = .ok (.struct fs) w) : Ex P n e S ⟨d, .makeInterface t x, ty, pos, af, gd⟩ (.iface t v) := by
  intro a w ha _
  simp [execOp, ha.ev hx, Instr.makeInterface, hu]
theorem method_val {nm : String} {f : FuncId} {fs : Array Field} {k : Nat} (hn : P.types.size + Made.depth = k + 1) (hm : ((P.info? t).bind fun i => i.methods.find? (·.name == nm)).map (fun m => (m.path.isEmpty, m.func)) = some (true, some (f, false))) (hu : ∀ w, (underlying t).run P w = .ok (.struct fs) w) (u : Value) (w : World) :
    (method (P.types.size + Made.depth) t u nm).run P w = .ok (f, u) w := by
  obtain ⟨m, h1, h2⟩ := Option.map_eq_some_iff.1 hm
  obtain ⟨ti, h3, h4⟩ := Option.bind_eq_some_iff.1 h1
  simp only [Prod.mk.injEq] at h2
  obtain ⟨h5, h6⟩ := h2
  have h7 : m.path.toList = [] := by
    have : m.path = #[] := by simpa using h5
    simp [this]
  rw [hn]
  simp only [method, Sem.run_bind, typeInfo]
  simp [h3, h4, h7, follow, h6, receiverAt, hu, Place.get]
end
end Go.Proofs.Ytpiiopppbgpbpaa.Sl
namespace Go.Proofs.Ytpiiopppbgpbpaa.Sl
open Go.RowKit
set_option linter.unusedVariables false
set_option linter.unusedSimpArgs false
def toBs (xs : List Int) : List UInt8 := xs.map fun n => UInt8.ofNat n.toNat
theorem push_bytes : ∀ (xs : List Int) (l : List UInt8), xs.foldl (fun r n => r.push (UInt8.ofNat n.toNat)) (bsOf l) = bsOf (l ++ toBs xs)
  | [], l => by simp [toBs]
  | x :: xs, l => by
    rw [List.foldl_cons]
    have e : (bsOf l).push (UInt8.ofNat x.toNat) = bsOf (l ++ [UInt8.ofNat x.toNat]) := by simp [bsOf, ByteArray.push]
    rw [e, push_bytes xs]
    simp [toBs]
section
variable {P : Program} {n : Nat} {F0 : Nat → Prop} {w0 w : World} {e : Env} {Rs : List Res} {d : Option Tmp} {ty t t' el : TypeId} {pos : String} {af : Array Edge} {gd : Option (Nat × Bool)} {x y : Operand} {S : World → Prop}
theorem Ex.blkStr {b T m : Nat} {cs : Array Value} {xs : List Int} (i : Nat) (hi : Rs[i]? = some (BlkR b T cs)) (hc : cs = (xs.map (Value.int .u8)).toArray) (hm : xs.length = m) (hx : e.ev x = some (.slice (some ⟨b, 0, none⟩) m m)) (hs : ∀ w, (underlying t).run P w = .ok (.slice el) w) (hd : ∀ w, (underlying t').run P w = .ok .string w) (hel : ∀ w, (underlying el).run P w = .ok (.int .u8) w) :
    Ex P n e (St F0 w0 Rs) ⟨d, .convert t t' x, ty, pos, af, gd⟩ (.string (bsOf (toBs xs))) := by
  subst hm
  intro a w ha hw
  have hl : (loadCells ⟨b, 0, none⟩ xs.length).run P w = .ok (xs.map (Value.int .u8)).toArray w := by
    have := run_loadCells_list (P := P) (w := w) ⟨b, 0, none⟩ (xs.map (Value.int .u8)) (fun j v hj => ?_)
    · rwa [List.length_map] at this
    · have h2 : (⟨b, 0, none⟩ : Addr).add j = ⟨b, j, none⟩ := by unfold Addr.add; split <;> simp_all
      rw [h2, heap_at (hw.blk i hi), hc, List.getElem?_toArray]
      exact hj
  have h4 := run_bytesToString w ⟨b, 0, none⟩ xs.length xs.length xs hl
  have h5 := push_bytes xs []
  rw [List.nil_append] at h5
  have h6 : (Conv.bytesToString (.slice (some ⟨b, 0, none⟩) xs.length xs.length)).run P w = .ok (.string (bsOf (toBs xs))) w := by
    rw [h4]
    exact congrArg (fun s => Result.ok (Value.string s) w) h5
  simp [execOp, ha.ev hx, convert, hs, hd, hel, h6]
end
end Go.Proofs.Ytpiiopppbgpbpaa.Sl
namespace Go.Proofs.Ytpiiopppbgpbpaa.Sl
open Go.RowKit
set_option linter.unusedVariables false
section
variable {P : Program} {n : Nat} {F0 : Nat → Prop} {w0 : World} {e e' : Env} {Rs Rs' : List Res} {Q : Exit → Act → World → Prop} {c : Code} {d : Nat} {v v' : Value}
def JK (n : Nat) (F0 : Nat → Prop) (w0 : World) (R : Env → List Res → Prop) (a : Act) (w : World) : Prop := ∃ e Rs, R e Rs ∧ Has n e a ∧ St F0 w0 Rs w
theorem T.jq (R : Env → List Res → Prop) (h : T P n F0 w0 e Rs c (Exit.then (JK n F0 w0 R) Q)) (k : ∀ e' Rs', R e' Rs' → X n F0 w0 e' Rs' .normal Q) : T P n F0 w0 e Rs c Q := by
  intro a w ha hs
  refine wp_mono (h a w ha hs) ?_
  intro x a' w' hx
  cases x <;> first | exact hx | skip
  obtain ⟨e', Rs', hR, ha', hs'⟩ := hx
  exact k e' Rs' hR a' w' ha' hs'
theorem X.jq {R : Env → List Res → Prop} (is : List Nat) (hR : R e' Rs') (he : Sub e' e) (hr : Sel Rs is Rs') : X n F0 w0 e Rs .normal (Exit.then (JK n F0 w0 R) Q) := fun a w ha hs => ⟨e', Rs', hR, ha.sub he.get, hs.sel is hr⟩
theorem X.as {z : Exit} (hv : e.get d = some v) (h : v = v') (k : X n F0 w0 ((d, v') :: e) Rs z Q) : X n F0 w0 e Rs z Q := fun a w ha hs => k a w (ha.as hv h) hs
end
end Go.Proofs.Ytpiiopppbgpbpaa.Sl
namespace Go.Proofs.Ytpiiopppbgpbpaa.Sl
open Go.RowKit Go.Deep Go.ChangeShapes
set_option linter.unusedVariables false
set_option linter.unusedSimpArgs false
def oldRd {α : Type} (w0 : World) (S : Nat → Prop) (E : Rd α) : Rd α where
  P := fun w G cs x => ∀ W : World, (∀ k, G k → W.heap[k]? = w.heap[k]?) → (∀ k, S k → W.heap[k]? = w0.heap[k]?) → E.P W (fun k => G k ∨ S k) cs x
  mono := fun h hS W h1 h2 => E.mono (h W (fun k hk => h1 k (hS k hk)) h2) (fun k hk => hk.imp (hS k) id)
  move := fun h hm W h1 h2 => h W (fun k hk => (h1 k hk).trans (hm k hk)) h2
def RX.old (w0 : World) (S : Nat → Prop) (X : RX) : RX where
  P := fun w G => ∀ W : World, (∀ k, G k → W.heap[k]? = w.heap[k]?) → (∀ k, S k → W.heap[k]? = w0.heap[k]?) → X.P W (fun k => G k ∨ S k)
  mono := fun h hS W h1 h2 => X.mono (h W (fun k hk => h1 k (hS k hk)) h2) (fun k hk => hk.imp (hS k) id)
  move := fun h hm W h1 h2 => h W (fun k hk => (h1 k hk).trans (hm k hk)) h2
section
variable {α : Type} {w0 w w1 : World} {S G F : Nat → Prop} {E : Rd α} {cs : List Value} {x : α} {X Y : RX} {size : Nat}
end
structure RO where
  α : Type
  E : Rd α
  cs : List Value
  x : α
def RO.res (w0 : World) (S : Nat → Prop) (o : RO) : Res := RdR (oldRd w0 S o.E) o.cs o.x
section
variable {P : Program} {n : Nat} {F0 : Nat → Prop} {w0 w : World} {S : Nat → Prop} {e : Env} {Rs Rs' Rf Bs : List Res} {L : List RO} {B : Res} {Xr Y : RX}
theorem Sep.split : ∀ {Bs Rs : List Res} {w : World} {F : Nat → Prop}, Sep (Bs ++ Rs) w F → ∃ G, Sep Bs w G ∧ (∀ k, G k → F k) ∧ (∀ k, G k → k < w.heap.size) ∧ Sep Rs w (fun k => F k ∧ ¬ G k)
  | [], Rs, w, F, h => ⟨fun _ => False, trivial, fun _ h => h.elim, fun _ h => h.elim, h.mono (fun k hk => ⟨hk, fun h => h⟩)⟩
  | B :: Bs, Rs, w, F, ⟨G1, h1, h2, h3⟩ => by
    obtain ⟨G, k1, k2, k3, k4⟩ := Sep.split h3
    refine ⟨fun k => G1 k ∨ G k, ⟨G1, h1, fun k hk => .inl hk, k1.mono (fun k hk => ⟨.inr hk, (k2 k hk).2⟩)⟩, fun k hk => hk.elim (h2 k) (fun h => (k2 k h).1), fun k hk => hk.elim (B.lt h1 k) (k3 k), k4.mono (fun k hk => ⟨hk.1.1, fun h => h.elim hk.1.2 hk.2⟩)⟩
theorem Sep.each : ∀ {L : List RO} {w1 : World} {S1 F : Nat → Prop}, Sep (L.map (RO.res w1 S1)) w F → ∀ o, o ∈ L → ∃ G, (RdR (oldRd w1 S1 o.E) o.cs o.x).P w G ∧ ∀ k, G k → F k
  | a :: L, w1, S1, F, ⟨G, h1, h2, h3⟩, o, ho => by
    rcases List.mem_cons.1 ho with rfl | ho
    · exact ⟨G, h1, h2⟩
    · obtain ⟨G', k1, k2⟩ := Sep.each h3 o ho
      exact ⟨G', k1, fun k hk => (k2 k hk).1⟩
variable {d : Option Tmp} {ty : TypeId} {pos : String} {af : Array Edge} {gd : Option (Nat × Bool)} {R : Value → Res → List RO → Prop}
variable {Q : Exit → Act → World → Prop} {ops : Array Oper} {i dd : Nat} {cl : Call} {f : FuncId} {vs : List Value}
variable {α : Type} {E : Rd α} {size : Nat} {T : TypeId} {u : Value} {xs : List α}
end
end Go.Proofs.Ytpiiopppbgpbpaa.Sl
namespace Go.Proofs.Ytpiiopppbgpbpaa.Sl
open Go.RowKit
set_option linter.unusedVariables false
set_option linter.unusedSimpArgs false
section
variable {α : Type} {size : Nat} {E : Rd α} {w : World} {S : Nat → Prop}
theorem elems_set : ∀ {xs : List α} {cs new : List Value} {k : Nat} {x x' : α}, elems size E w S cs xs → xs[k]? = some x → new.length = size → E.P w S new x' → elems size E w S (cs.take (k * size) ++ new ++ cs.drop ((k + 1) * size)) (xs.set k x')
  | [], _, _, k, _, _, _, hk, _, _ => by simp at hk
  | y :: ys, cs, new, 0, x, x', ⟨h0, _, h2⟩, _, hn, hx => by
    rw [Nat.zero_mul, List.take_zero, List.nil_append, Nat.zero_add, Nat.one_mul]
    exact ⟨by rw [List.take_append_of_le_length (by omega), List.take_of_length_le (by omega)]; exact hn, by rw [List.take_append_of_le_length (by omega), List.take_of_length_le (by omega)]; exact hx,
      by rw [List.drop_append_of_le_length (by omega), List.drop_of_length_le (by omega)]; exact h2⟩
  | y :: ys, cs, new, k + 1, x, x', ⟨h0, h1, h2⟩, hk, hn, hx => by
    have hle : size ≤ cs.length := by rw [List.length_take] at h0; omega
    have ih := elems_set (k := k) (x := x) h2 (by simpa using hk) hn hx
    have hc : cs = cs.take size ++ cs.drop size := (List.take_append_drop size cs).symm
    have e0 : (cs.take size).length = size := h0
    have e1 : cs.take ((k + 1) * size) = cs.take size ++ (cs.drop size).take (k * size) := by
      conv => lhs; rw [hc]
      rw [List.take_append, e0, show (k + 1) * size - size = k * size by rw [Nat.add_mul]; omega, List.take_of_length_le (by rw [e0, Nat.add_mul]; omega)]
    have e2 : cs.drop ((k + 1 + 1) * size) = (cs.drop size).drop ((k + 1) * size) := by
      rw [List.drop_drop, show size + (k + 1) * size = (k + 1 + 1) * size by rw [Nat.add_mul (k + 1)]; omega]
    rw [e1, e2, List.append_assoc, List.append_assoc, ← List.append_assoc ((cs.drop size).take (k * size))]
    exact ⟨by rw [List.take_append_of_le_length (by omega), List.take_of_length_le (by omega)]; exact h0, by rw [List.take_append_of_le_length (by omega), List.take_of_length_le (by omega)]; exact h1,
      by rw [List.drop_append_of_le_length (by omega), List.drop_of_length_le (by omega), List.nil_append]; exact ih⟩
theorem OwnR.stored {T m c g o k off q : Nat} {G : Nat → Prop} {xs : List α} {x x' : α} {us : List Value} (h : (OwnR T size E (.slice (some ⟨g, o, none⟩) m c) xs).P w G) (hk : xs[k]? = some x) (hq : q = o + k * size + off) (hl : off + us.length ≤ size)
    (hE : ∀ w S cs, cs.length = size → E.P w S cs x → E.P w S (cs.take off ++ us ++ cs.drop (off + us.length)) x') :
    ∃ cur, w.heap[g]? = some (.cells cur T (0, 0)) ∧ q + us.length ≤ cur.size ∧ (∀ k, k = g → G k) ∧ (OwnR T size E (.slice (some ⟨g, o, none⟩) m c) (xs.set k x')).P (w.setRow g (cur.toList.take q ++ us ++ cur.toList.drop (q + us.length)).toArray) G := by
  obtain ⟨cells, S, ⟨hlen, hown⟩, h2, h3, h4, h5⟩ := h
  rcases hown with ⟨hv, _⟩ | ⟨g', cap, cur, hv, hb0, hg, hnc, hcm, hcs, htk⟩
  · cases hv
  injection hv with hv1 hv2 hv3
  injection hv1 with hv1
  injection hv1 with hv4 hv5
  subst hv4 hv5 hv2 hv3
  have hkl : k < xs.length := (List.getElem?_eq_some_iff.1 hk).1
  have hks : (k + 1) * size ≤ xs.length * size := Nat.mul_le_mul_right _ hkl
  have hcap : xs.length * size ≤ c * size := Nat.mul_le_mul_right _ hnc
  have hk1 : (k + 1) * size = k * size + size := by rw [Nat.add_mul, Nat.one_mul]
  have hfit : q + us.length ≤ cur.size := by rw [hcs]; omega
  refine ⟨cur, hg, hfit, fun k hk => by subst hk; exact (h5 _).2 (.inl rfl), ?_⟩
  obtain ⟨c1, c2⟩ := elems_get h2 hk
  have hgS : ¬ S g := h4 g rfl
  have hnew : ((cells.drop (k * size)).take size).take off ++ us ++ ((cells.drop (k * size)).take size).drop (off + us.length) = ((cells.drop (k * size)).take size).take off ++ us ++ ((cells.drop (k * size)).take size).drop (off + us.length) := rfl
  have hset := elems_set h2 hk (new := ((cells.drop (k * size)).take size).take off ++ us ++ ((cells.drop (k * size)).take size).drop (off + us.length)) (by simp only [List.length_append, List.length_take, List.length_drop] at c1 ⊢; omega) (hE w S _ c1 c2)
  have hset' : elems size E (w.setRow g (cur.toList.take q ++ us ++ cur.toList.drop (q + us.length)).toArray) S _ (xs.set k x') := elems_move hset (fun k hk => setRow_other w g k _ (fun e => hgS (e ▸ hk)))
  refine ⟨_, S, ⟨?_, .inr ⟨g, c, _, by rw [List.length_set], hb0, setRow_heap w g cur _ T (0, 0) hg, by rw [List.length_set]; exact hnc, hcm, ?_, ?_⟩⟩, hset', fun k hk => by rw [size_setRow]; exact h3 k hk, h4, h5⟩
  · have := elems_length hset
    exact this
  · simp only [List.size_toArray, List.length_append, List.length_take, List.length_drop, Array.length_toList]
    omega
  · rw [List.length_set]
    have hcl : cur.toList.length = c * size := by simpa using hcs
    have hcells : cells.length = xs.length * size := hlen
    have d1 : (cells.drop (k * size)).take size = (cells.drop (k * size)).take size := rfl
    have hq2 : q + us.length ≤ xs.length * size := by omega
    have r1 : cells.take (k * size) ++ ((cells.drop (k * size)).take size).take off = cells.take q := by
      rw [List.take_take, Nat.min_eq_left (by omega), ← List.take_add, show k * size + off = q by omega]
    have r2 : ((cells.drop (k * size)).take size).drop (off + us.length) ++ cells.drop ((k + 1) * size) = cells.drop (q + us.length) := by
      have e1 : cells.drop ((k + 1) * size) = (cells.drop (k * size)).drop size := by rw [List.drop_drop, hk1]
      have e2 : cells.drop (q + us.length) = (cells.drop (k * size)).drop (off + us.length) := by rw [List.drop_drop, show k * size + (off + us.length) = q + us.length by omega]
      rw [e1, e2, ← List.drop_append_of_le_length (by omega), List.take_append_drop]
    have r3 : cells.take (k * size) ++ (((cells.drop (k * size)).take size).take off ++ us ++ ((cells.drop (k * size)).take size).drop (off + us.length)) ++ cells.drop ((k + 1) * size) = cells.take q ++ us ++ cells.drop (q + us.length) := by
      rw [← r1, ← r2]
      simp only [List.append_assoc]
    rw [r3, ← htk, List.drop_take, List.take_take, Nat.min_eq_left (by omega)]
    have l1 : (cur.toList.take q ++ us).length = q + us.length := by rw [List.length_append, List.length_take]; omega
    rw [List.toList_toArray, List.take_append, l1, List.take_of_length_le (by omega)]
end
section
variable {P : Program} {n : Nat} {F0 : Nat → Prop} {w0 : World} {e : Env} {Rs Rf : List Res} {Q : Exit → Act → World → Prop} {ops : Array Oper} {d : Option Tmp} {i : Nat} {ty t t' el : TypeId} {pos : String} {af : Array Edge} {gd : Option (Nat × Bool)} {v v' : Value} {x y : Operand} {l : List Nat} {lo : Sch} {c : Code} {S : World → Prop}
section
variable {α : Type} {E : Rd α} {T m cp size g o k off q z : Nat} {xs : List α} {u u' : α}
end
section
variable {α : Type} {E : Rd α} {T bytes k : Nat} {zv : Value} {u : α} {m : Int} {kl : IntKind} {d' : Nat}
end
theorem T.blen {α : Type} {E : Rd α} {A : Option Addr} {m cp size : Nat} {xs : List α} {B : Res} (i : Nat) (hi : Rs[i]? = some B) (hB : ∀ w G, B.P w G → (RX.of (sliceRd size E) [.slice A m cp] xs).P w G) (h : xs.length ≤ 9223372036854775807 → T P n F0 w0 e Rs c Q) : T P n F0 w0 e Rs c Q := by
  intro a w ha hs
  refine h ?_ a w ha hs
  obtain ⟨G, hG, _⟩ := hs.get i hi
  rcases hB w G hG with ⟨_, rfl⟩ | ⟨_, cap, _, h1, h2, _⟩
  · simp
  · have : maxLen = 9223372036854775807 := rfl
    omega
end
end Go.Proofs.Ytpiiopppbgpbpaa.Sl
namespace Go.Proofs.Ytpiiopppbgpbpaa.Sl
open Go.RowKit
set_option linter.unusedVariables false
set_option linter.unusedSimpArgs false
section
variable {P : Program} {n : Nat} {F0 : Nat → Prop} {w0 w : World} {e : Env} {Rs Rf : List Res} {Q : Exit → Act → World → Prop} {ops : Array Oper} {d : Option Tmp} {i : Nat} {ty t t' el : TypeId} {pos : String} {af : Array Edge} {gd : Option (Nat × Bool)} {v v' : Value} {x y ix : Operand} {L : List Nat} {lo : Sch} {c : Code} {S : World → Prop}
variable {T g k : Nat} {l : List Int} {u u' : Int}
end
def LW (P : Program) (c : Code) (Q : Exit → Act → World → Prop) (a : Act) (w : World) : Prop := ∀ b k cs, ∃ x a' w', Q x a' w' ∧ Arrives P (lone (b.at a (.code c :: .inLoop c :: k)) cs w) b k cs x a' w'
def TW (P : Program) (n : Nat) (F0 : Nat → Prop) (w0 : World) (e : Env) (Rs : List Res) (c : Code) (Q : Exit → Act → World → Prop) : Prop := ∀ a w, Has n e a → St F0 w0 Rs w → LW P c Q a w
section
variable {P : Program} {n : Nat} {F0 : Nat → Prop} {w0 : World} {e : Env} {Rs : List Res} {Q : Exit → Act → World → Prop} {c : Code}
theorem TW.step (h : T P n F0 w0 e Rs c (Exit.then (LW P c Q) Q)) : TW P n F0 w0 e Rs c Q := by
  intro a w ha hs b k cs
  obtain ⟨x, a₁, w₁, hq, harr⟩ := h a w ha hs b (.inLoop c :: k) cs
  cases x with
  | normal =>
    obtain ⟨x₂, a₂, w₂, hq₂, harr₂⟩ := hq b k cs
    exact ⟨x₂, a₂, w₂, hq₂, .of_steps (Steps.trans harr (.one step_inLoop)) harr₂⟩
  | exit id => exact ⟨_, a₁, w₁, hq, .pass (x := .inLoop c) rfl (fun _ _ => .inl (by simp)) harr⟩
  | goto l => exact ⟨_, a₁, w₁, hq, .pass (x := .inLoop c) rfl (fun _ _ => .inl (by simp)) harr⟩
  | ret => exact ⟨_, a₁, w₁, hq, .pass (x := .inLoop c) rfl (fun _ _ => .inl (by simp)) harr⟩
  | panic ch => exact ⟨_, a₁, w₁, hq, .pass (x := .inLoop c) rfl (fun _ _ => .inl (by simp)) harr⟩
  | outgrown => exact ⟨_, a₁, w₁, hq, .pass (x := .inLoop c) rfl (fun _ _ => .inl (by simp)) harr⟩
end
end Go.Proofs.Ytpiiopppbgpbpaa.Sl
namespace Go.Proofs.Ytpiiopppbgpbpaa.Sl
open Go.RowKit
set_option linter.unusedVariables false
set_option linter.unusedSimpArgs false
def bsI (l : List UInt8) : List Int := l.map fun c => (c.toNat : Int)
theorem bsI_length (l : List UInt8) : (bsI l).length = l.length := by simp [bsI]
def BsR (T b c : Nat) (xs : List Int) : Res where
  P := fun w G => (∃ (cur : Array Value) (lo hi : Nat), w.heap[b]? = some (.cells cur T (lo, hi)) ∧ xs.length ≤ lo ∧ ∀ (j : Nat) (u : Int), xs[j]? = some u → cur[j]? = some (.int .u8 u)) ∧ ∀ k, G k ↔ k = b
  lt := by
    rintro w G ⟨⟨cur, lo, hi, h1, _⟩, h2⟩ k hk
    obtain rfl := (h2 k).1 hk
    exact (Array.getElem?_eq_some_iff.1 h1).1
  move := by
    rintro w w' G ⟨⟨cur, lo, hi, h1, h3⟩, h2⟩ hm
    exact ⟨⟨cur, lo, hi, by rw [hm b ((h2 b).2 rfl)]; exact h1, h3⟩, h2⟩
section
variable {P : Program} {n : Nat} {F0 : Nat → Prop} {w0 w : World} {e : Env} {Rs Rf : List Res} {Q : Exit → Act → World → Prop} {ops : Array Oper} {d : Option Tmp} {i : Nat} {ty t t' el : TypeId} {pos : String} {af : Array Edge} {gd : Option (Nat × Bool)} {v v' : Value} {x y ix : Operand} {L : List Nat} {lo : Sch} {S : World → Prop}
variable {T b c k m : Nat} {xs : List Int} {u u' : Int}
theorem Ef.toBs {l : List UInt8} {el : TypeId} (hx : e.ev x = some (.string (bsOf l))) (hs : P.underlying t = some .string) (hd : P.underlying t' = some (.slice el)) (he : P.underlying el = some (.int .u8)) (hdd : okd d n = true) :
    Ef P n F0 w0 e Rs ⟨d, .convert t t' x, ty, pos, af, gd⟩ (fun e' Rs' => ∃ b c, e' = envput d (.slice (some ⟨b, 0, none⟩) (bsI l).length c) e ∧ Rs' = BsR el b c (bsI l) :: Rs) := by
  intro a w K Q ha hst hk
  have h1 := Lib.run_convert_string_bytes (P := P) w t t' el (bsOf l) hs hd he
  have h2 : (execOp a.eval ⟨d, .convert t t' x, ty, pos, af, gd⟩).run P w = .ok (.value (.slice (some ⟨w.heap.size, 0, none⟩) (bsI l).length (grownCap w (bsOf l).size 0 el))) (Lib.bytesWorld w el (bsOf l)) := by
    rw [bsI_length, ← bsOf_size l]
    simp [execOp, ha.ev hx, h1]
  unfold Oper.wp
  rw [h2]
  refine hk _ _ ⟨_, _, rfl, rfl⟩ _ _ (ha.putd hdd) ?_
  refine hst.grow (Ns := [BsR el w.heap.size (grownCap w (bsOf l).size 0 el) (bsI l)]) ⟨rfl, rfl, rfl, ?_, fun q hq _ => Lib.bytesWorld_at_old w el (bsOf l) q hq⟩ ⟨fun k => k = w.heap.size, ⟨⟨_, _, _, Lib.bytesWorld_at_new w el (bsOf l), ?_, fun j z hj => ?_⟩, fun _ => Iff.rfl⟩, fun k hk => by omega, trivial⟩
  · rw [Lib.bytesWorld_size]; omega
  · rw [bsI_length]
    simp [Lib.bytesCells, bsOf]
  · have hlt : j < l.length := by rw [← bsI_length l]; exact (List.getElem?_eq_some_iff.1 hj).1
    unfold bsI at hj
    rw [List.getElem?_map, List.getElem?_eq_getElem hlt] at hj
    injection hj with hj
    simp [Lib.bytesCells, bsOf, Array.getElem?_append, hlt, ← hj]
theorem TL.toBs {l : List UInt8} {el : TypeId} {d : Nat} (ho : ops[i]? = some ⟨some d, .convert t t' x, ty, pos, af, gd⟩) (hw : Wd n ops e ⟨some d, .convert t t' x, ty, pos, af, gd⟩ true) (hx : e.ev x = some (.string (bsOf l))) (hs : P.underlying t = some .string) (hd : P.underlying t' = some (.slice el)) (he : P.underlying el = some (.int .u8)) (hdd : Nat.blt d n = true)
    (h : ∀ b c, TL P n F0 w0 ops L ((d, .slice (some ⟨b, 0, none⟩) (bsI l).length c) :: e) (BsR el b c (bsI l) :: Rs) Q) : TL P n F0 w0 ops (i :: L) e Rs Q := by
  refine TL.ef ho hw (Ef.toBs hx hs hd he hdd) ?_
  rintro _ _ ⟨b, c, rfl, rfl⟩
  exact h b c
end
end Go.Proofs.Ytpiiopppbgpbpaa.Sl
namespace Go.Proofs.Ytpiiopppbgpbpaa.Sl
open Go.RowKit
set_option linter.unusedVariables false
set_option linter.unusedSimpArgs false
set_option maxRecDepth 100000
def ft_cursitorlaw14 : FTab := [(153, 0, 0), (153, 1, 1)]
theorem ft_cursitorlaw14_ok : (ft_cursitorlaw14).OK Try.prog := ⟨FOK.mk Try.runUnderlying153 rfl Try.sizeOf9 rfl, FOK.mk Try.runUnderlying153 rfl Try.sizeOf25 rfl, trivial⟩
def f_l14_Few_l1 : List Top → Int → Int → Option (Lp Int (Int × Int))
  | [], y3, y4 => some (Lp.go (y3, y4))
  | x10 :: xs, y3, y4 => if -9223372036854775808 ≤ (4 * (x10.fParts.length : Int)) ∧ (4 * (x10.fParts.length : Int)) ≤ 9223372036854775807 then (if -9223372036854775808 ≤ ((x10.fName.length : Int) + (4 * (x10.fParts.length : Int))) ∧ ((x10.fName.length : Int) + (4 * (x10.fParts.length : Int))) ≤ 9223372036854775807 then (if -9223372036854775808 ≤ (((x10.fName.length : Int) + (4 * (x10.fParts.length : Int))) + 6) ∧ (((x10.fName.length : Int) + (4 * (x10.fParts.length : Int))) + 6) ≤ 9223372036854775807 then (if -9223372036854775808 ≤ (y4 + (((x10.fName.length : Int) + (4 * (x10.fParts.length : Int))) + 6)) ∧ (y4 + (((x10.fName.length : Int) + (4 * (x10.fParts.length : Int))) + 6)) ≤ 9223372036854775807 then (if (y4 + (((x10.fName.length : Int) + (4 * (x10.fParts.length : Int))) + 6)) > 1000 then some (Lp.ret 0) else (f_l14_Few_l1 xs y3 (y4 + (((x10.fName.length : Int) + (4 * (x10.fParts.length : Int))) + 6)))) else none) else none) else none) else none
def f_l14_Few (a0 : List Top) : Option (Int) := (f_l14_Few_l1 a0 0 0).bind fun e => match e with | .ret r => some r | .go (y23, y24) => some 1
set_option maxRecDepth 100000 in
set_option maxHeartbeats 4000000 in
theorem f_l14_Few_spec (a0 : List Top) (A1 : Option Addr) (c2 : Nat) (r : Int) (h : f_l14_Few a0 = some r) : SpecX Try.prog 66 #[.slice A1 a0.length c2] (RX.of (sliceRd 2 Top_rd) [.slice A1 a0.length c2] a0) (EmpR) (fun v A' N => v = .int .i64 r ∧ A' = EmpR ∧ N = []) := by
  refine enterA Try.func66 rfl Try.ntmps66 rfl ?_
  intro F w hX
  unfold f_l14_Few at h
  refine T.seq (T.region rfl ?_)
  refine TL.run ft_cursitorlaw14_ok [0] rfl rfl ?_
  refine TL.nil (X.seq (T.seq (T.region rfl ?_)))
  refine TL.run ft_cursitorlaw14_ok [0] rfl rfl ?_
  refine TL.nil (X.seq (T.seq (T.seq (T.region rfl ?_))))
  refine TL.run ft_cursitorlaw14_ok [0] rfl rfl ?_
  refine TL.q rfl .u (Ex.lenS rfl Try.runUnderlying106) rfl ?_
  refine TL.run ft_cursitorlaw14_ok [2] rfl rfl ?_
  refine TL.nil (X.seq (T.block ?_))
  obtain ⟨E6, hE7, hO8⟩ := Option.bind_eq_some_iff.1 h
  have hk12len := RX.len_le hX
  refine T.lp (fun m e Rs => ∃ (y3 : Int) (y4 : Int) (k5 : Nat), k5 + m = a0.length ∧ e = [(2, .int .i64 y3), (3, .int .i64 y4), (6, .slice A1 a0.length c2), (7, .int .i64 (a0.length : Int)), (8, .int .i64 (k5 : Int))] ∧ Rs = [EmpR] ∧ f_l14_Few_l1 (a0.drop k5) y3 y4 = some E6) (a0.length) [0] ⟨0, 0, 0, by simp, rfl, rfl, by rw [List.drop_zero]; exact hE7⟩ (by rfl) (by rfl) ?_
  rintro m9 _ _ ⟨y3, y4, k5, hk12, rfl, rfl, hl11⟩
  clear hE7 h
  cases m9 with
  | zero =>
    have h := hl11
    clear hl11
    rw [List.drop_of_length_le (by omega), f_l14_Few_l1] at h
    have hk12ge : ¬ ((k5 : Int) < (a0.length : Int)) := by omega
    refine T.seq (T.region rfl ?_)
    refine TL.run ft_cursitorlaw14_ok [0] rfl rfl ?_
    refine TL.nil (X.seq (T.seq ?_))
    refine T.no rfl (decide_eq_false hk12ge) ?_
    obtain rfl := Option.some.inj h
    replace h := hO8
    clear hO8
    try dsimp only at h
    refine T.exit (X.exs (X.exs (X.ex (X.seq (T.seq (T.region rfl ?_))))))
    refine TL.run ft_cursitorlaw14_ok [0] rfl rfl ?_
    obtain rfl := Option.some.inj h
    exact TL.nil (X.seq (T.ret (X.done1 [0] Try.results66 (RV.tm rfl) ⟨rfl, rfl, rfl⟩ (by rfl) (.inl rfl))))
  | succ m9 =>
    have h := hl11
    clear hl11
    obtain ⟨x10, hxx10⟩ : ∃ x, a0[k5]? = some x := ⟨_, List.getElem?_eq_getElem (by omega)⟩
    rw [drop_cons hxx10, f_l14_Few_l1] at h
    have hk12lt : (k5 : Int) < (a0.length : Int) := by omega
    refine T.seq (T.region rfl ?_)
    refine TL.run ft_cursitorlaw14_ok [0] rfl rfl ?_
    refine TL.nil (X.seq (T.seq ?_))
    refine T.yes rfl (decide_eq_true hk12lt) ?_
    obtain ⟨gz13, oz13, rfl, z13cs, z13cl, z13cc, z13nf, z13r⟩ := RX.elem (by decide) hX hxx10
    obtain ⟨z13S, z13r, z13rr⟩ := z13r
    obtain ⟨A14, c15, rfl, z13s0⟩ := z13r
    have hX16 : (RX.of (sliceRd 1 intE) [.slice A14 x10.fParts.length c15] x10.fParts).reads w F := ⟨z13S, z13s0, z13rr⟩
    refine T.skip (X.seq (T.seq (T.block (T.seq (T.region rfl ?_)))))
    refine TL.q rfl .u (Ex.ixS (k := k5) rfl rfl rfl Try.runUnderlying106 Try.sizeOf153 (List.getElem?_eq_some_iff.1 hxx10).1) rfl ?_
    refine TL.q rfl .u (Ex.oS (us := [.string (bsOf x10.fName), .slice A14 x10.fParts.length c15]) 0 rfl Try.isAgg153 Try.sizeOf153 z13nf z13cc rfl rfl rfl) rfl ?_
    refine TL.alloc rfl .u Try.zeroValue153 rfl (fun b17 => ?_)
    refine TL.st0 (cs' := #[.string (bsOf x10.fName), .slice A14 x10.fParts.length c15]) rfl .u rfl rfl Try.sizeOf153 rfl rfl rfl rfl ?_
    refine TL.nil (X.seq (T.seq (T.region rfl ?_)))
    refine TL.run ft_cursitorlaw14_ok [0, 1] rfl rfl ?_
    refine TL.q rfl .u (Ex.b1 0 rfl Try.isAgg9 rfl rfl) rfl ?_
    refine TL.q rfl .u (Ex.lenB rfl Try.runUnderlying9) rfl ?_
    refine TL.run ft_cursitorlaw14_ok [4] rfl rfl ?_
    refine TL.q rfl .u (Ex.b1 0 rfl Try.isAgg25 rfl rfl) rfl ?_
    refine TL.q rfl .u (Ex.lenS rfl Try.runUnderlying25) rfl ?_
    replace h := guard_some h
    obtain ⟨c18, h⟩ := h
    refine TL.q rfl .u (Ex.mul rfl rfl c18) rfl ?_
    replace h := guard_some h
    obtain ⟨c19, h⟩ := h
    refine TL.q rfl .u (Ex.add rfl rfl c19) rfl ?_
    replace h := guard_some h
    obtain ⟨c20, h⟩ := h
    refine TL.q rfl .u (Ex.add rfl rfl c20) rfl ?_
    replace h := guard_some h
    obtain ⟨c21, h⟩ := h
    refine TL.q rfl .u (Ex.add rfl rfl c21) rfl ?_
    refine TL.run ft_cursitorlaw14_ok [11] rfl rfl ?_
    refine TL.nil (X.seq (T.seq (T.region rfl ?_)))
    refine TL.run ft_cursitorlaw14_ok [0, 1] rfl rfl ?_
    by_cases c22 : (y4 + (((x10.fName.length : Int) + (4 * (x10.fParts.length : Int))) + 6)) > 1000
    · replace h := ifT c22 h
      refine TL.nil (X.seq ?_)
      refine T.yes rfl (decide_eq_true c22) ?_
      refine T.seq (T.region rfl ?_)
      refine TL.run ft_cursitorlaw14_ok [0] rfl rfl ?_
      obtain rfl := Option.some.inj h
      replace h := hO8
      clear hO8
      try dsimp only at h
      obtain rfl := Option.some.inj h
      exact TL.nil (X.seq (T.ret (X.rb (X.rs (X.rs (X.rb (X.rs (X.done1 [1] Try.results66 (RV.tm rfl) ⟨rfl, rfl, rfl⟩ (by rfl) (.inl rfl)))))))))
    · replace h := ifF c22 h
      refine TL.nil (X.seq ?_)
      refine T.no rfl (decide_eq_false c22) ?_
      refine T.skip (X.blk (X.seq (T.region rfl ?_)))
      refine TL.q rfl .u (Ex.add rfl rfl (by omega)) rfl ?_
      refine TL.run ft_cursitorlaw14_ok [1] rfl rfl ?_
      exact TL.nil (X.back (m' := m9) [1] (by omega) ⟨y3, (y4 + (((x10.fName.length : Int) + (4 * (x10.fParts.length : Int))) + 6)), k5 + 1, by omega, rfl, rfl, h⟩ (by rfl) (by rfl))
end Go.Proofs.Ytpiiopppbgpbpaa.Sl
namespace Go.Proofs.Ytpiiopppbgpbpaa.Sl
open Go.RowKit
set_option linter.unusedVariables false
set_option linter.unusedSimpArgs false
set_option maxRecDepth 100000
def ft_value : FTab := [(153, 0, 0), (153, 1, 1), (156, 0, 0), (156, 1, 1), (156, 2, 2), (156, 3, 3), (156, 4, 4), (156, 5, 5), (156, 6, 6)]
theorem ft_value_ok : (ft_value).OK Try.prog := ⟨FOK.mk Try.runUnderlying153 rfl Try.sizeOf9 rfl, FOK.mk Try.runUnderlying153 rfl Try.sizeOf25 rfl, FOK.mk Try.runUnderlying156 rfl Try.sizeOf3 rfl, FOK.mk Try.runUnderlying156 rfl Try.sizeOf3 rfl, FOK.mk Try.runUnderlying156 rfl Try.sizeOf3 rfl, FOK.mk Try.runUnderlying156 rfl Try.sizeOf3 rfl, FOK.mk Try.runUnderlying156 rfl Try.sizeOf106 rfl, FOK.mk Try.runUnderlying156 rfl Try.sizeOf3 rfl, FOK.mk Try.runUnderlying156 rfl Try.sizeOf3 rfl, trivial⟩
theorem mix_value : Try.prog.follows .mixedOrders = true := by kernel_rfl
theorem sok_value_84_1 : SOK Try.prog 84 9 1 1 #[.string ⟨#[]⟩] := SOK.mk Try.runUnderlying84 Try.sizeOf9 Try.zeroValue9 (by decide) (by kernel_rfl)
theorem inf_value_9 : (Try.prog.info? 9).map (fun i => (i.zero, i.size, i.bytes)) = some (some (.string ⟨#[]⟩), 1, 16) := by kernel_rfl
def f_value_Idle (a0 : Int) : Option (Bool) := if a0 = 0 then some true else (if a0 ≥ 4 then some true else some false)
set_option maxRecDepth 100000 in
set_option maxHeartbeats 4000000 in
theorem f_value_Idle_spec (a0 : Int) (r : Bool) (h : f_value_Idle a0 = some r) : SpecX Try.prog 102 #[.int .i64 a0] .triv (EmpR) (fun v A' N => v = .bool r ∧ A' = EmpR ∧ N = []) := by
  refine enterA Try.func102 rfl Try.ntmps102 rfl ?_
  intro F w hX
  unfold f_value_Idle at h
  refine T.seq (T.region rfl ?_)
  refine TL.run ft_value_ok [0] rfl rfl ?_
  refine TL.nil (X.seq (T.seq (T.region rfl ?_)))
  by_cases c1 : a0 = 0
  · replace h := ifT c1 h
    refine TL.run ft_value_ok [0, 1, 2] rfl rfl ?_
    refine TL.no rfl (.gn rfl rfl (decide_eq_true c1)) rfl ?_
    refine TL.no rfl (.gn rfl rfl (decide_eq_true c1)) rfl ?_
    refine TL.q rfl .u (Ex.py rfl (decide_eq_true c1) rfl) rfl ?_
    refine TL.run ft_value_ok [6] rfl rfl ?_
    obtain rfl := Option.some.inj h
    exact TL.nil (X.seq (T.ret (X.done1 [0] Try.results102 (RV.tm rfl) ⟨rfl, rfl, rfl⟩ (by rfl) (.inl rfl))))
  · replace h := ifF c1 h
    refine TL.run ft_value_ok [0, 1, 2] rfl rfl ?_
    refine TL.q rfl (.g rfl rfl (decide_eq_false c1)) (Ex.ft ft_value_ok rfl) rfl ?_
    refine TL.q rfl (.g rfl rfl (decide_eq_false c1)) (Ex.ft ft_value_ok rfl) rfl ?_
    refine TL.q rfl .u (Ex.pn rfl (decide_eq_false c1) rfl) rfl ?_
    refine TL.run ft_value_ok [6] rfl rfl ?_
    by_cases c2 : a0 ≥ 4
    · replace h := ifT c2 h
      obtain rfl := Option.some.inj h
      exact TL.nil (X.seq (T.ret (X.done1 [0] Try.results102 (RV.tm (v := .bool true) (congrArg (fun b => some (Value.bool b)) (decide_eq_true c2))) ⟨rfl, rfl, rfl⟩ (by rfl) (.inl rfl))))
    · replace h := ifF c2 h
      obtain rfl := Option.some.inj h
      exact TL.nil (X.seq (T.ret (X.done1 [0] Try.results102 (RV.tm (v := .bool false) (congrArg (fun b => some (Value.bool b)) (decide_eq_false c2))) ⟨rfl, rfl, rfl⟩ (by rfl) (.inl rfl))))
def f_value_risingint_l1 (a0 : List Int) : Nat → Bool → Int → Option (Lp Bool (Bool × Int))
  | 0, _, _ => none
  | m8 + 1, y3, y4 => if y4 < (a0.length : Int) then (if -9223372036854775808 ≤ (y4 - 1) ∧ (y4 - 1) ≤ 9223372036854775807 then (if 0 ≤ (y4 - 1) then ((a0[(y4 - 1).toNat]?).bind fun x15 => if 0 ≤ y4 then ((a0[y4.toNat]?).bind fun x19 => if x15 ≥ x19 then some (Lp.ret false) else (if -9223372036854775808 ≤ (y4 + 1) ∧ (y4 + 1) ≤ 9223372036854775807 then (f_value_risingint_l1 a0 m8 y3 (y4 + 1)) else none)) else none) else none) else none) else (some (Lp.go (y3, y4)))
def f_value_risingint (a0 : List Int) : Option (Bool) := (f_value_risingint_l1 a0 ((((a0.length : Int)) - (1)).toNat + 1) false 1).bind fun e => match e with | .ret r => some r | .go (y24, y25) => some true
set_option maxRecDepth 100000 in
set_option maxHeartbeats 4000000 in
theorem f_value_risingint_spec (a0 : List Int) (A1 : Option Addr) (c2 : Nat) (r : Bool) (h : f_value_risingint a0 = some r) : SpecX Try.prog 108 #[.slice A1 a0.length c2] (RX.of (sliceRd 1 intE) [.slice A1 a0.length c2] a0) (EmpR) (fun v A' N => v = .bool r ∧ A' = EmpR ∧ N = []) := by
  refine enterA Try.func108 rfl Try.ntmps108 rfl ?_
  intro F w hX
  unfold f_value_risingint at h
  refine T.seq (T.region rfl ?_)
  refine TL.run ft_value_ok [0] rfl rfl ?_
  refine TL.nil (X.seq (T.seq (T.seq (T.region rfl ?_))))
  refine TL.run ft_value_ok [0] rfl rfl ?_
  refine TL.nil (X.seq (T.block ?_))
  obtain ⟨E5, hE6, hO7⟩ := Option.bind_eq_some_iff.1 h
  refine T.lp (fun m e Rs => ∃ (y3 : Bool) (y4 : Int), e = [(0, .slice A1 a0.length c2), (2, .bool y3), (3, .int .i64 y4)] ∧ Rs = [EmpR] ∧ f_value_risingint_l1 a0 m y3 y4 = some E5) ((((a0.length : Int)) - (1)).toNat + 1) [0] ⟨false, 1, rfl, rfl, by exact hE6⟩ (by rfl) (by rfl) ?_
  rintro m8 _ _ ⟨y3, y4, rfl, rfl, hl10⟩
  clear hE6 h
  cases m8 with
  | zero =>
    rw [f_value_risingint_l1] at hl10
    cases hl10
  | succ m8 =>
    have h := hl10
    clear hl10
    rw [f_value_risingint_l1] at h
    refine T.seq (T.seq (T.region rfl ?_))
    refine TL.run ft_value_ok [0, 1] rfl rfl ?_
    refine TL.q rfl .u (Ex.lenS rfl Try.runUnderlying25) rfl ?_
    refine TL.run ft_value_ok [3] rfl rfl ?_
    by_cases c12 : y4 < (a0.length : Int)
    · replace h := ifT c12 h
      refine TL.nil (X.seq ?_)
      refine T.yes rfl (decide_eq_true c12) ?_
      refine T.skip (X.seq (T.seq (T.block (T.seq (T.draw (.q 0 (.q 1 (.q 2 (.q 3 (.q 4 (.q 5 (.q 6 (.q 7 (.q 8 (.q 9 .nil)))))))))) [0] rfl mix_value (NoP.seq (NoP.blk (NoP.seq (NoP.seq (NoP.blk (NoP.seq np_post)))))) (by kernel_rfl) ?_)))))
      replace h := guard_some h
      obtain ⟨c13, h⟩ := h
      refine TD.run ft_value_ok [0, 1] rfl rfl ?_
      refine TD.q rfl .u (Ex.sub rfl rfl c13) rfl ?_
      replace h := guard_some h
      obtain ⟨c14, h⟩ := h
      obtain ⟨x15, hx16, h⟩ := Option.bind_eq_some_iff.1 h
      obtain ⟨gz17, oz17, rfl, z17cs, z17cl, z17cc, z17nf, z17r⟩ := RX.elem (by decide) hX hx16
      obtain ⟨z17S, z17r, z17rr⟩ := z17r
      obtain rfl : z17cs = [.int .i64 x15] := z17r
      refine TD.q rfl .u (Ex.ixS (k := (y4 - 1).toNat) rfl rfl ((Int.toNat_of_nonneg c14).symm) Try.runUnderlying25 Try.sizeOf3 (List.getElem?_eq_some_iff.1 hx16).1) rfl ?_
      refine TD.q rfl .u (Ex.o1 0 rfl Try.isAgg3 z17nf z17cc rfl rfl) rfl ?_
      replace h := guard_some h
      obtain ⟨c18, h⟩ := h
      obtain ⟨x19, hx20, h⟩ := Option.bind_eq_some_iff.1 h
      obtain ⟨z21cs, z21cl, z21cc, z21nf, z21r⟩ := RX.elem' (by decide) hX hx20
      obtain ⟨z21S, z21r, z21rr⟩ := z21r
      obtain rfl : z21cs = [.int .i64 x19] := z21r
      refine TD.run ft_value_ok [5, 6] rfl rfl ?_
      refine TD.q rfl .u (Ex.ixS (k := y4.toNat) rfl rfl ((Int.toNat_of_nonneg c18).symm) Try.runUnderlying25 Try.sizeOf3 (List.getElem?_eq_some_iff.1 hx20).1) rfl ?_
      refine TD.q rfl .u (Ex.o1 0 rfl Try.isAgg3 z21nf z21cc rfl rfl) rfl ?_
      refine TD.run ft_value_ok [9] rfl rfl ?_
      by_cases c22 : x15 ≥ x19
      · replace h := ifT c22 h
        refine TD.nil (X.seq ?_)
        refine T.yes rfl (decide_eq_true c22) ?_
        refine T.seq (T.region rfl ?_)
        refine TL.run ft_value_ok [0] rfl rfl ?_
        obtain rfl := Option.some.inj h
        replace h := hO7
        clear hO7
        try dsimp only at h
        obtain rfl := Option.some.inj h
        exact TL.nil (X.seq (T.ret (X.rb (X.rs (X.rs (X.rb (X.rs (X.done1 [0] Try.results108 (RV.tm rfl) ⟨rfl, rfl, rfl⟩ (by rfl) (.inl rfl)))))))))
      · replace h := ifF c22 h
        refine TD.nil (X.seq ?_)
        refine T.no rfl (decide_eq_false c22) ?_
        refine T.skip (X.blk (X.seq (T.region rfl ?_)))
        replace h := guard_some h
        obtain ⟨c23, h⟩ := h
        refine TL.run ft_value_ok [0] rfl rfl ?_
        refine TL.q rfl .u (Ex.add rfl rfl c23) rfl ?_
        refine TL.run ft_value_ok [2] rfl rfl ?_
        exact TL.nil (X.back (m' := m8) [0] (by omega) ⟨y3, (y4 + 1), rfl, rfl, h⟩ (by rfl) (by rfl))
    · replace h := ifF c12 h
      refine TL.nil (X.seq ?_)
      refine T.no rfl (decide_eq_false c12) ?_
      obtain rfl := Option.some.inj h
      replace h := hO7
      clear hO7
      try dsimp only at h
      refine T.exit (X.exs (X.exs (X.ex (X.seq (T.seq (T.region rfl ?_))))))
      refine TL.run ft_value_ok [0] rfl rfl ?_
      obtain rfl := Option.some.inj h
      exact TL.nil (X.seq (T.ret (X.done1 [0] Try.results108 (RV.tm rfl) ⟨rfl, rfl, rfl⟩ (by rfl) (.inl rfl))))
def f_value_parts_l1 : List Int → Bool → Option (Lp Bool Bool)
  | [], y3 => some (Lp.go y3)
  | x9 :: xs, y3 => if x9 < 0 then some (Lp.ret false) else ((gFits x9 4).bind fun x14 => if x14 = true then (f_value_parts_l1 xs y3) else some (Lp.ret false))
def f_value_parts (a0 : List Int) : Option (Bool) := (f_value_parts_l1 a0 false).bind fun e => match e with | .ret r => some r | .go y17 => (if (a0.length : Int) > 0 then ((f_value_risingint a0).bind fun x20 => some x20) else some false)
set_option maxRecDepth 100000 in
set_option maxHeartbeats 4000000 in
theorem f_value_parts_spec (a0 : List Int) (A1 : Option Addr) (c2 : Nat) (r : Bool) (h : f_value_parts a0 = some r) : SpecX Try.prog 106 #[.slice A1 a0.length c2] (RX.of (sliceRd 1 intE) [.slice A1 a0.length c2] a0) (EmpR) (fun v A' N => v = .bool r ∧ A' = EmpR ∧ N = []) := by
  refine enterA Try.func106 rfl Try.ntmps106 rfl ?_
  intro F w hX
  unfold f_value_parts at h
  refine T.seq (T.region rfl ?_)
  refine TL.run ft_value_ok [0] rfl rfl ?_
  refine TL.nil (X.seq (T.seq (T.seq (T.region rfl ?_))))
  refine TL.run ft_value_ok [0] rfl rfl ?_
  refine TL.q rfl .u (Ex.lenS rfl Try.runUnderlying25) rfl ?_
  refine TL.run ft_value_ok [2] rfl rfl ?_
  refine TL.nil (X.seq (T.block ?_))
  obtain ⟨E5, hE6, hO7⟩ := Option.bind_eq_some_iff.1 h
  have hk11len := RX.len_le hX
  refine T.lp (fun m e Rs => ∃ (y3 : Bool) (k4 : Nat), k4 + m = a0.length ∧ e = [(0, .slice A1 a0.length c2), (2, .bool y3), (5, .slice A1 a0.length c2), (6, .int .i64 (a0.length : Int)), (7, .int .i64 (k4 : Int))] ∧ Rs = [EmpR] ∧ f_value_parts_l1 (a0.drop k4) y3 = some E5) (a0.length) [0] ⟨false, 0, by simp, rfl, rfl, by rw [List.drop_zero]; exact hE6⟩ (by rfl) (by rfl) ?_
  rintro m8 _ _ ⟨y3, k4, hk11, rfl, rfl, hl10⟩
  clear hE6 h
  cases m8 with
  | zero =>
    have h := hl10
    clear hl10
    rw [List.drop_of_length_le (by omega), f_value_parts_l1] at h
    have hk11ge : ¬ ((k4 : Int) < (a0.length : Int)) := by omega
    refine T.seq (T.region rfl ?_)
    refine TL.run ft_value_ok [0] rfl rfl ?_
    refine TL.nil (X.seq (T.seq ?_))
    refine T.no rfl (decide_eq_false hk11ge) ?_
    obtain rfl := Option.some.inj h
    replace h := hO7
    clear hO7
    try dsimp only at h
    refine T.exit (X.exs (X.exs (X.ex (X.seq (T.seq (T.region rfl ?_))))))
    refine TL.run ft_value_ok [0] rfl rfl ?_
    refine TL.q rfl .u (Ex.lenS rfl Try.runUnderlying25) rfl ?_
    by_cases c22 : (a0.length : Int) > 0
    · replace h := ifT c22 h
      refine TL.run ft_value_ok [2, 3] rfl rfl ?_
      refine TL.q rfl (.g rfl rfl (decide_eq_true c22)) (Ex.ft ft_value_ok rfl) rfl ?_
      obtain ⟨x23, hx24, h⟩ := Option.bind_eq_some_iff.1 h
      refine TL.ce rfl (.g rfl rfl (decide_eq_true c22)) (.fn Try.call108 rfl) (f_value_risingint_spec a0 _ _ _ hx24) (fun _ hs => (SrcE.old hs hX)) rfl ?_
      refine TL.q rfl .u (Ex.py rfl (decide_eq_true c22) rfl) rfl ?_
      refine TL.run ft_value_ok [7] rfl rfl ?_
      obtain rfl := Option.some.inj h
      exact TL.nil (X.seq (T.ret (X.done1 [0] Try.results106 (RV.tm rfl) ⟨rfl, rfl, rfl⟩ (by rfl) (.inl rfl))))
    · replace h := ifF c22 h
      refine TL.run ft_value_ok [2, 3] rfl rfl ?_
      refine TL.no rfl (.gn rfl rfl (decide_eq_false c22)) rfl ?_
      refine TL.no rfl (.gn rfl rfl (decide_eq_false c22)) rfl ?_
      refine TL.q rfl .u (Ex.pn rfl (decide_eq_false c22) rfl) rfl ?_
      refine TL.run ft_value_ok [7] rfl rfl ?_
      obtain rfl := Option.some.inj h
      exact TL.nil (X.seq (T.ret (X.done1 [0] Try.results106 (RV.tm rfl) ⟨rfl, rfl, rfl⟩ (by rfl) (.inl rfl))))
  | succ m8 =>
    have h := hl10
    clear hl10
    obtain ⟨x9, hxx9⟩ : ∃ x, a0[k4]? = some x := ⟨_, List.getElem?_eq_getElem (by omega)⟩
    rw [drop_cons hxx9, f_value_parts_l1] at h
    have hk11lt : (k4 : Int) < (a0.length : Int) := by omega
    refine T.seq (T.region rfl ?_)
    refine TL.run ft_value_ok [0] rfl rfl ?_
    refine TL.nil (X.seq (T.seq ?_))
    refine T.yes rfl (decide_eq_true hk11lt) ?_
    obtain ⟨gz12, oz12, rfl, z12cs, z12cl, z12cc, z12nf, z12r⟩ := RX.elem (by decide) hX hxx9
    obtain ⟨z12S, z12r, z12rr⟩ := z12r
    obtain rfl : z12cs = [.int .i64 x9] := z12r
    refine T.skip (X.seq (T.seq (T.block (T.seq (T.region rfl ?_)))))
    refine TL.q rfl .u (Ex.ixS (k := k4) rfl rfl rfl Try.runUnderlying25 Try.sizeOf3 (List.getElem?_eq_some_iff.1 hxx9).1) rfl ?_
    refine TL.q rfl .u (Ex.o1 0 rfl Try.isAgg3 z12nf z12cc rfl rfl) rfl ?_
    refine TL.run ft_value_ok [2] rfl rfl ?_
    refine TL.nil (X.seq (T.seq (T.region rfl ?_)))
    by_cases c13 : x9 < 0
    · replace h := ifT c13 h
      refine TL.run ft_value_ok [0, 1, 2] rfl rfl ?_
      refine TL.no rfl (.gn rfl rfl (decide_eq_true c13)) rfl ?_
      refine TL.no rfl (.gn rfl rfl (decide_eq_true c13)) rfl ?_
      refine TL.no rfl (.gn rfl rfl (decide_eq_true c13)) rfl ?_
      refine TL.q rfl .u (Ex.py rfl (decide_eq_true c13) rfl) rfl ?_
      refine TL.nil (X.seq ?_)
      refine T.yes rfl rfl ?_
      refine T.seq (T.region rfl ?_)
      refine TL.run ft_value_ok [0] rfl rfl ?_
      obtain rfl := Option.some.inj h
      replace h := hO7
      clear hO7
      try dsimp only at h
      obtain rfl := Option.some.inj h
      exact TL.nil (X.seq (T.ret (X.rb (X.rs (X.rs (X.rb (X.rs (X.done1 [0] Try.results106 (RV.tm rfl) ⟨rfl, rfl, rfl⟩ (by rfl) (.inl rfl)))))))))
    · replace h := ifF c13 h
      refine TL.run ft_value_ok [0, 1, 2] rfl rfl ?_
      refine TL.q rfl (.g rfl rfl (decide_eq_false c13)) (Ex.ft ft_value_ok rfl) rfl ?_
      obtain ⟨x14, hx15, h⟩ := Option.bind_eq_some_iff.1 h
      refine TL.ce rfl (.g rfl rfl (decide_eq_false c13)) (.fn Try.call78 rfl) (SpecX.pure (fun w => gFits_spec x9 4 _ hx15 w)) (fun _ _ => RX.reads_triv _ _) rfl ?_
      refine TL.q rfl (.g rfl rfl (decide_eq_false c13)) (Ex.ft ft_value_ok rfl) rfl ?_
      refine TL.q rfl .u (Ex.pn rfl (decide_eq_false c13) rfl) rfl ?_
      by_cases c16 : x14 = true
      · replace h := ifT c16 h
        refine TL.nil (X.seq ?_)
        refine T.no rfl (bn_f c16) ?_
        refine T.skip (X.blk (X.seq (T.region rfl ?_)))
        refine TL.q rfl .u (Ex.add rfl rfl (by omega)) rfl ?_
        refine TL.run ft_value_ok [1] rfl rfl ?_
        exact TL.nil (X.back (m' := m8) [0] (by omega) ⟨y3, k4 + 1, by omega, rfl, rfl, h⟩ (by rfl) (by rfl))
      · replace h := ifF c16 h
        replace c16 := eq_false_of_ne_true c16
        refine TL.nil (X.seq ?_)
        refine T.yes rfl (bn_t c16) ?_
        refine T.seq (T.region rfl ?_)
        refine TL.run ft_value_ok [0] rfl rfl ?_
        obtain rfl := Option.some.inj h
        replace h := hO7
        clear hO7
        try dsimp only at h
        obtain rfl := Option.some.inj h
        exact TL.nil (X.seq (T.ret (X.rb (X.rs (X.rs (X.rb (X.rs (X.done1 [0] Try.results106 (RV.tm rfl) ⟨rfl, rfl, rfl⟩ (by rfl) (.inl rfl)))))))))
def f_value_risingstring_l1 (a0 : List (List UInt8)) : Nat → Bool → Int → Option (Lp Bool (Bool × Int))
  | 0, _, _ => none
  | m8 + 1, y3, y4 => if y4 < (a0.length : Int) then (if -9223372036854775808 ≤ (y4 - 1) ∧ (y4 - 1) ≤ 9223372036854775807 then (if 0 ≤ (y4 - 1) then ((a0[(y4 - 1).toNat]?).bind fun x15 => if 0 ≤ y4 then ((a0[y4.toNat]?).bind fun x19 => if (Op.bytesLess x15 x19) = true then (if -9223372036854775808 ≤ (y4 + 1) ∧ (y4 + 1) ≤ 9223372036854775807 then (f_value_risingstring_l1 a0 m8 y3 (y4 + 1)) else none) else some (Lp.ret false)) else none) else none) else none) else (some (Lp.go (y3, y4)))
def f_value_risingstring (a0 : List (List UInt8)) : Option (Bool) := (f_value_risingstring_l1 a0 ((((a0.length : Int)) - (1)).toNat + 1) false 1).bind fun e => match e with | .ret r => some r | .go (y24, y25) => some true
set_option maxRecDepth 100000 in
set_option maxHeartbeats 4000000 in
theorem f_value_risingstring_spec (a0 : List (List UInt8)) (A1 : Option Addr) (c2 : Nat) (r : Bool) (h : f_value_risingstring a0 = some r) : SpecX Try.prog 107 #[.slice A1 a0.length c2] (RX.of (sliceRd 1 strE) [.slice A1 a0.length c2] a0) (EmpR) (fun v A' N => v = .bool r ∧ A' = EmpR ∧ N = []) := by
  refine enterA Try.func107 rfl Try.ntmps107 rfl ?_
  intro F w hX
  unfold f_value_risingstring at h
  refine T.seq (T.region rfl ?_)
  refine TL.run ft_value_ok [0] rfl rfl ?_
  refine TL.nil (X.seq (T.seq (T.seq (T.region rfl ?_))))
  refine TL.run ft_value_ok [0] rfl rfl ?_
  refine TL.nil (X.seq (T.block ?_))
  obtain ⟨E5, hE6, hO7⟩ := Option.bind_eq_some_iff.1 h
  refine T.lp (fun m e Rs => ∃ (y3 : Bool) (y4 : Int), e = [(0, .slice A1 a0.length c2), (2, .bool y3), (3, .int .i64 y4)] ∧ Rs = [EmpR] ∧ f_value_risingstring_l1 a0 m y3 y4 = some E5) ((((a0.length : Int)) - (1)).toNat + 1) [0] ⟨false, 1, rfl, rfl, by exact hE6⟩ (by rfl) (by rfl) ?_
  rintro m8 _ _ ⟨y3, y4, rfl, rfl, hl10⟩
  clear hE6 h
  cases m8 with
  | zero =>
    rw [f_value_risingstring_l1] at hl10
    cases hl10
  | succ m8 =>
    have h := hl10
    clear hl10
    rw [f_value_risingstring_l1] at h
    refine T.seq (T.seq (T.region rfl ?_))
    refine TL.run ft_value_ok [0, 1] rfl rfl ?_
    refine TL.q rfl .u (Ex.lenS rfl Try.runUnderlying84) rfl ?_
    refine TL.run ft_value_ok [3] rfl rfl ?_
    by_cases c12 : y4 < (a0.length : Int)
    · replace h := ifT c12 h
      refine TL.nil (X.seq ?_)
      refine T.yes rfl (decide_eq_true c12) ?_
      refine T.skip (X.seq (T.seq (T.block (T.seq (T.draw (.q 0 (.q 1 (.q 2 (.q 3 (.q 4 (.q 5 (.q 6 (.q 7 (.q 8 (.q 9 .nil)))))))))) [0] rfl mix_value (NoP.seq (NoP.blk (NoP.seq (NoP.seq (NoP.blk (NoP.seq np_post)))))) (by kernel_rfl) ?_)))))
      replace h := guard_some h
      obtain ⟨c13, h⟩ := h
      refine TD.run ft_value_ok [0, 1] rfl rfl ?_
      refine TD.q rfl .u (Ex.sub rfl rfl c13) rfl ?_
      replace h := guard_some h
      obtain ⟨c14, h⟩ := h
      obtain ⟨x15, hx16, h⟩ := Option.bind_eq_some_iff.1 h
      obtain ⟨gz17, oz17, rfl, z17cs, z17cl, z17cc, z17nf, z17r⟩ := RX.elem (by decide) hX hx16
      obtain ⟨z17S, z17r, z17rr⟩ := z17r
      obtain rfl : z17cs = [.string (bsOf x15)] := z17r
      refine TD.q rfl .u (Ex.ixS (k := (y4 - 1).toNat) rfl rfl ((Int.toNat_of_nonneg c14).symm) Try.runUnderlying84 Try.sizeOf9 (List.getElem?_eq_some_iff.1 hx16).1) rfl ?_
      refine TD.q rfl .u (Ex.o1 0 rfl Try.isAgg9 z17nf z17cc rfl rfl) rfl ?_
      replace h := guard_some h
      obtain ⟨c18, h⟩ := h
      obtain ⟨x19, hx20, h⟩ := Option.bind_eq_some_iff.1 h
      obtain ⟨z21cs, z21cl, z21cc, z21nf, z21r⟩ := RX.elem' (by decide) hX hx20
      obtain ⟨z21S, z21r, z21rr⟩ := z21r
      obtain rfl : z21cs = [.string (bsOf x19)] := z21r
      refine TD.run ft_value_ok [5, 6] rfl rfl ?_
      refine TD.q rfl .u (Ex.ixS (k := y4.toNat) rfl rfl ((Int.toNat_of_nonneg c18).symm) Try.runUnderlying84 Try.sizeOf9 (List.getElem?_eq_some_iff.1 hx20).1) rfl ?_
      refine TD.q rfl .u (Ex.o1 0 rfl Try.isAgg9 z21nf z21cc rfl rfl) rfl ?_
      refine TD.q rfl .u (Ex.sGe rfl rfl) rfl ?_
      by_cases c22 : (Op.bytesLess x15 x19) = true
      · replace h := ifT c22 h
        refine TD.nil (X.seq ?_)
        refine T.no rfl (bn_f c22) ?_
        refine T.skip (X.blk (X.seq (T.region rfl ?_)))
        replace h := guard_some h
        obtain ⟨c23, h⟩ := h
        refine TL.run ft_value_ok [0] rfl rfl ?_
        refine TL.q rfl .u (Ex.add rfl rfl c23) rfl ?_
        refine TL.run ft_value_ok [2] rfl rfl ?_
        exact TL.nil (X.back (m' := m8) [0] (by omega) ⟨y3, (y4 + 1), rfl, rfl, h⟩ (by rfl) (by rfl))
      · replace h := ifF c22 h
        replace c22 := eq_false_of_ne_true c22
        refine TD.nil (X.seq ?_)
        refine T.yes rfl (bn_t c22) ?_
        refine T.seq (T.region rfl ?_)
        refine TL.run ft_value_ok [0] rfl rfl ?_
        obtain rfl := Option.some.inj h
        replace h := hO7
        clear hO7
        try dsimp only at h
        obtain rfl := Option.some.inj h
        exact TL.nil (X.seq (T.ret (X.rb (X.rs (X.rs (X.rb (X.rs (X.done1 [0] Try.results107 (RV.tm rfl) ⟨rfl, rfl, rfl⟩ (by rfl) (.inl rfl)))))))))
    · replace h := ifF c12 h
      refine TL.nil (X.seq ?_)
      refine T.no rfl (decide_eq_false c12) ?_
      obtain rfl := Option.some.inj h
      replace h := hO7
      clear hO7
      try dsimp only at h
      refine T.exit (X.exs (X.exs (X.ex (X.seq (T.seq (T.region rfl ?_))))))
      refine TL.run ft_value_ok [0] rfl rfl ?_
      obtain rfl := Option.some.inj h
      exact TL.nil (X.seq (T.ret (X.done1 [0] Try.results107 (RV.tm rfl) ⟨rfl, rfl, rfl⟩ (by rfl) (.inl rfl))))
def f_value_topics_l1 : List Top → Bool → List (List UInt8) → Option (Lp Bool (Bool × List (List UInt8)))
  | [], y3, y4 => some (Lp.go (y3, y4))
  | x12 :: xs, y3, y4 => if x12.fName = [] then some (Lp.ret false) else (if (x12.fName.length : Int) > 32767 then some (Lp.ret false) else ((f_value_parts x12.fParts).bind fun x22 => if x22 = true then (if (y4.length + 1) * 16 ≤ 140737488355328 then (f_value_topics_l1 xs y3 (y4 ++ [x12.fName])) else none) else some (Lp.ret false)))
def f_value_topics (a0 : List Top) : Option (Bool) := (f_value_topics_l1 a0 false []).bind fun e => match e with | .ret r => some r | .go (y29, y30) => ((f_value_risingstring y30).bind fun x34 => some x34)
set_option maxRecDepth 100000 in
set_option maxHeartbeats 4000000 in
theorem f_value_topics_spec (a0 : List Top) (A1 : Option Addr) (c2 : Nat) (r : Bool) (h : f_value_topics a0 = some r) : SpecX Try.prog 103 #[.slice A1 a0.length c2] (RX.of (sliceRd 2 Top_rd) [.slice A1 a0.length c2] a0) (EmpR) (fun v A' N => v = .bool r ∧ A' = EmpR ∧ N = []) := by
  refine enterA Try.func103 rfl Try.ntmps103 rfl ?_
  intro F w hX
  unfold f_value_topics at h
  refine T.seq (T.region rfl ?_)
  refine TL.run ft_value_ok [0] rfl rfl ?_
  refine TL.nil (X.seq (T.seq (T.region rfl ?_)))
  refine TL.run ft_value_ok [0] rfl rfl ?_
  refine TL.nil (X.seq (T.seq (T.seq (T.region rfl ?_))))
  refine TL.run ft_value_ok [0] rfl rfl ?_
  refine TL.q rfl .u (Ex.lenS rfl Try.runUnderlying106) rfl ?_
  refine TL.run ft_value_ok [2] rfl rfl ?_
  refine TL.nil (X.seq (T.block ?_))
  refine T.nilrow 9 1 strE ?_
  obtain ⟨E8, hE9, hO10⟩ := Option.bind_eq_some_iff.1 h
  have hk14len := RX.len_le hX
  refine T.lp (fun m e Rs => ∃ (y3 : Bool) (y4 : List (List UInt8)) (A5 : Option Addr) (c6 : Nat) (k7 : Nat), k7 + m = a0.length ∧ e = [(2, .bool y3), (3, .slice A5 y4.length c6), (6, .slice A1 a0.length c2), (7, .int .i64 (a0.length : Int)), (8, .int .i64 (k7 : Int))] ∧ Rs = [OwnR 9 1 strE (.slice A5 y4.length c6) y4, EmpR] ∧ f_value_topics_l1 (a0.drop k7) y3 y4 = some E8) (a0.length) [0, 0] ⟨false, [], none, 0, 0, by simp, rfl, rfl, by rw [List.drop_zero]; exact hE9⟩ (by rfl) (by rfl) ?_
  rintro m11 _ _ ⟨y3, y4, A5, c6, k7, hk14, rfl, rfl, hl13⟩
  clear hE9 h
  cases m11 with
  | zero =>
    have h := hl13
    clear hl13
    rw [List.drop_of_length_le (by omega), f_value_topics_l1] at h
    have hk14ge : ¬ ((k7 : Int) < (a0.length : Int)) := by omega
    refine T.seq (T.region rfl ?_)
    refine TL.run ft_value_ok [0] rfl rfl ?_
    refine TL.nil (X.seq (T.seq ?_))
    refine T.no rfl (decide_eq_false hk14ge) ?_
    obtain rfl := Option.some.inj h
    replace h := hO10
    clear hO10
    try dsimp only at h
    refine T.exit (X.exs (X.exs (X.ex (X.seq (T.seq (T.region rfl ?_))))))
    obtain ⟨x36, hx37, h⟩ := Option.bind_eq_some_iff.1 h
    refine TL.run ft_value_ok [0] rfl rfl ?_
    refine TL.ce rfl .u (.fn Try.call107 rfl) (f_value_risingstring_spec y4 _ _ _ hx37) (fun _ hs => (SrcE.res 0 hs rfl (fun w G h => own_reads (by decide) w G h))) rfl ?_
    refine TL.run ft_value_ok [2] rfl rfl ?_
    obtain rfl := Option.some.inj h
    exact TL.nil (X.seq (T.ret (X.done1 [1] Try.results103 (RV.tm rfl) ⟨rfl, rfl, rfl⟩ (by rfl) (.inl rfl))))
  | succ m11 =>
    have h := hl13
    clear hl13
    obtain ⟨x12, hxx12⟩ : ∃ x, a0[k7]? = some x := ⟨_, List.getElem?_eq_getElem (by omega)⟩
    rw [drop_cons hxx12, f_value_topics_l1] at h
    have hk14lt : (k7 : Int) < (a0.length : Int) := by omega
    refine T.seq (T.region rfl ?_)
    refine TL.run ft_value_ok [0] rfl rfl ?_
    refine TL.nil (X.seq (T.seq ?_))
    refine T.yes rfl (decide_eq_true hk14lt) ?_
    obtain ⟨gz15, oz15, rfl, z15cs, z15cl, z15cc, z15nf, z15r⟩ := RX.elem (by decide) hX hxx12
    obtain ⟨z15S, z15r, z15rr⟩ := z15r
    obtain ⟨A16, c17, rfl, z15s0⟩ := z15r
    have hX18 : (RX.of (sliceRd 1 intE) [.slice A16 x12.fParts.length c17] x12.fParts).reads w F := ⟨z15S, z15s0, z15rr⟩
    refine T.skip (X.seq (T.seq (T.block (T.seq (T.region rfl ?_)))))
    refine TL.q rfl .u (Ex.ixS (k := k7) rfl rfl rfl Try.runUnderlying106 Try.sizeOf153 (List.getElem?_eq_some_iff.1 hxx12).1) rfl ?_
    refine TL.q rfl .u (Ex.oS (us := [.string (bsOf x12.fName), .slice A16 x12.fParts.length c17]) 0 rfl Try.isAgg153 Try.sizeOf153 z15nf z15cc rfl rfl rfl) rfl ?_
    refine TL.alloc rfl .u Try.zeroValue153 rfl (fun b19 => ?_)
    refine TL.st0 (cs' := #[.string (bsOf x12.fName), .slice A16 x12.fParts.length c17]) rfl .u rfl rfl Try.sizeOf153 rfl rfl rfl rfl ?_
    refine TL.nil (X.seq (T.seq (T.seq (T.region rfl ?_))))
    refine TL.run ft_value_ok [0] rfl rfl ?_
    refine TL.q rfl .u (Ex.b1 0 rfl Try.isAgg9 rfl rfl) rfl ?_
    refine TL.q rfl .u (Ex.sEq rfl (m := []) rfl) rfl ?_
    by_cases c20 : x12.fName = []
    · replace h := ifT c20 h
      refine TL.run ft_value_ok [3] rfl rfl ?_
      refine TL.no rfl (.gn rfl rfl (decide_eq_true c20)) rfl ?_
      refine TL.no rfl (.gn rfl rfl (decide_eq_true c20)) rfl ?_
      refine TL.no rfl (.gn rfl rfl (decide_eq_true c20)) rfl ?_
      refine TL.no rfl (.gn rfl rfl (decide_eq_true c20)) rfl ?_
      refine TL.q rfl .u (Ex.py rfl (decide_eq_true c20) rfl) rfl ?_
      refine TL.run ft_value_ok [9] rfl rfl ?_
      refine TL.no rfl (.gn rfl rfl rfl) rfl ?_
      refine TL.no rfl (.gn rfl rfl rfl) rfl ?_
      refine TL.no rfl (.gn rfl rfl rfl) rfl ?_
      refine TL.no rfl (.gn rfl rfl rfl) rfl ?_
      refine TL.q rfl .u (Ex.py rfl rfl rfl) rfl ?_
      refine TL.nil (X.seq ?_)
      refine T.yes rfl rfl ?_
      refine T.seq (T.region rfl ?_)
      refine TL.run ft_value_ok [0] rfl rfl ?_
      obtain rfl := Option.some.inj h
      replace h := hO10
      clear hO10
      try dsimp only at h
      obtain rfl := Option.some.inj h
      exact TL.nil (X.seq (T.ret (X.rs (X.rb (X.rs (X.rs (X.rb (X.rs (X.done1 [2] Try.results103 (RV.tm rfl) ⟨rfl, rfl, rfl⟩ (by rfl) (.inl rfl))))))))))
    · replace h := ifF c20 h
      refine TL.run ft_value_ok [3] rfl rfl ?_
      refine TL.q rfl (.g rfl rfl (decide_eq_false c20)) (Ex.ft ft_value_ok rfl) rfl ?_
      refine TL.q rfl (.g rfl rfl (decide_eq_false c20)) (Ex.b1 0 rfl Try.isAgg9 rfl rfl) rfl ?_
      refine TL.q rfl (.g rfl rfl (decide_eq_false c20)) (Ex.lenB rfl Try.runUnderlying9) rfl ?_
      refine TL.q rfl (.g rfl rfl (decide_eq_false c20)) (Ex.ft ft_value_ok rfl) rfl ?_
      refine TL.q rfl .u (Ex.pn rfl (decide_eq_false c20) rfl) rfl ?_
      by_cases c21 : (x12.fName.length : Int) > 32767
      · replace h := ifT c21 h
        refine TL.run ft_value_ok [9] rfl rfl ?_
        refine TL.no rfl (.gn rfl rfl (decide_eq_true c21)) rfl ?_
        refine TL.no rfl (.gn rfl rfl (decide_eq_true c21)) rfl ?_
        refine TL.no rfl (.gn rfl rfl (decide_eq_true c21)) rfl ?_
        refine TL.no rfl (.gn rfl rfl (decide_eq_true c21)) rfl ?_
        refine TL.q rfl .u (Ex.py rfl (decide_eq_true c21) rfl) rfl ?_
        refine TL.nil (X.seq ?_)
        refine T.yes rfl rfl ?_
        refine T.seq (T.region rfl ?_)
        refine TL.run ft_value_ok [0] rfl rfl ?_
        obtain rfl := Option.some.inj h
        replace h := hO10
        clear hO10
        try dsimp only at h
        obtain rfl := Option.some.inj h
        exact TL.nil (X.seq (T.ret (X.rs (X.rb (X.rs (X.rs (X.rb (X.rs (X.done1 [2] Try.results103 (RV.tm rfl) ⟨rfl, rfl, rfl⟩ (by rfl) (.inl rfl))))))))))
      · replace h := ifF c21 h
        refine TL.run ft_value_ok [9] rfl rfl ?_
        refine TL.q rfl (.g rfl rfl (decide_eq_false c21)) (Ex.ft ft_value_ok rfl) rfl ?_
        refine TL.q rfl (.g rfl rfl (decide_eq_false c21)) (Ex.b1 0 rfl Try.isAgg25 rfl rfl) rfl ?_
        obtain ⟨x22, hx23, h⟩ := Option.bind_eq_some_iff.1 h
        refine TL.ce rfl (.g rfl rfl (decide_eq_false c21)) (.fn Try.call106 rfl) (f_value_parts_spec x12.fParts _ _ _ hx23) (fun _ hs => (SrcE.old hs hX18)) rfl ?_
        refine TL.q rfl (.g rfl rfl (decide_eq_false c21)) (Ex.ft ft_value_ok rfl) rfl ?_
        refine TL.q rfl .u (Ex.pn rfl (decide_eq_false c21) rfl) rfl ?_
        by_cases c24 : x22 = true
        · replace h := ifT c24 h
          refine TL.nil (X.seq ?_)
          refine T.no rfl (bn_f c24) ?_
          refine T.skip (X.seq (T.region rfl ?_))
          refine TL.run ft_value_ok [0, 1] rfl rfl ?_
          refine TL.q rfl .u (Ex.b1 0 rfl Try.isAgg9 rfl rfl) rfl ?_
          refine TL.lit (cells := #[.string (bsOf x12.fName)]) rfl .u sok_value_84_1 rfl (by rfl) rfl (fun b25 => ?_)
          replace h := guard_some h
          obtain ⟨c26, h⟩ := h
          refine TL.app1 1 rfl .u (us := [.string (bsOf x12.fName)]) (u := x12.fName) (l := y4) (E := strE) Try.underlying84 inf_value_9 rfl (by decide) rfl rfl rfl rfl rfl rfl (fun _ _ => rfl) (by have hq := c26; omega) (by have hq := c26; omega) rfl (fun A27 c28 => ?_)
          refine TL.sel [0, 0, 0] rfl ?_
          refine TL.run ft_value_ok [5] rfl rfl ?_
          refine TL.nil (X.blk (X.seq (T.region rfl ?_)))
          refine TL.q rfl .u (Ex.add rfl rfl (by omega)) rfl ?_
          refine TL.run ft_value_ok [1] rfl rfl ?_
          exact TL.nil (X.back (m' := m11) [1, 1] (by omega) ⟨y3, (y4 ++ [x12.fName]), A27, c28, k7 + 1, by omega, rfl, rfl, h⟩ (by rfl) (by rfl))
        · replace h := ifF c24 h
          replace c24 := eq_false_of_ne_true c24
          refine TL.nil (X.seq ?_)
          refine T.yes rfl (bn_t c24) ?_
          refine T.seq (T.region rfl ?_)
          refine TL.run ft_value_ok [0] rfl rfl ?_
          obtain rfl := Option.some.inj h
          replace h := hO10
          clear hO10
          try dsimp only at h
          obtain rfl := Option.some.inj h
          exact TL.nil (X.seq (T.ret (X.rs (X.rb (X.rs (X.rs (X.rb (X.rs (X.done1 [2] Try.results103 (RV.tm rfl) ⟨rfl, rfl, rfl⟩ (by rfl) (.inl rfl))))))))))
def f_value_Check (a0 : Val) : Option (Int) := if a0.fProducer < 0 then some 11 else (if a0.fEpoch < 0 then some 11 else ((gFits a0.fEpoch 2).bind fun x6 => if x6 = true then (if a0.fTimeout < 0 then some 11 else ((gFits a0.fTimeout 4).bind fun x10 => if x10 = true then (if a0.fUpdated < 0 then some 11 else (if a0.fStarted < (-1) then some 11 else (if a0.fState < 0 then some 12 else (if a0.fState ≥ 7 then some 12 else ((f_value_Idle a0.fState).bind fun x17 => if x17 = true then (if (a0.fTopics.length : Int) = 0 then (if a0.fState = 0 then (if a0.fStarted = (-1) then ((f_value_topics a0.fTopics).bind fun x23 => if x23 = true then some 0 else some 13) else some 10) else (if a0.fStarted = (-1) then some 10 else ((f_value_topics a0.fTopics).bind fun x27 => if x27 = true then some 0 else some 13))) else some 10) else (if (a0.fTopics.length : Int) = 0 then some 10 else (if a0.fState = 0 then (if a0.fStarted = (-1) then ((f_value_topics a0.fTopics).bind fun x33 => if x33 = true then some 0 else some 13) else some 10) else (if a0.fStarted = (-1) then some 10 else ((f_value_topics a0.fTopics).bind fun x37 => if x37 = true then some 0 else some 13))))))))) else some 11)) else some 11))
set_option maxRecDepth 100000 in
set_option maxHeartbeats 4000000 in
theorem f_value_Check_spec (a0 : Val) (A1 : Option Addr) (c2 : Nat) (r : Int) (h : f_value_Check a0 = some r) : SpecX Try.prog 97 #[.agg #[.int .i64 a0.fProducer, .int .i64 a0.fEpoch, .int .i64 a0.fTimeout, .int .i64 a0.fState, .slice A1 a0.fTopics.length c2, .int .i64 a0.fUpdated, .int .i64 a0.fStarted]] (RX.of (sliceRd 2 Top_rd) [.slice A1 a0.fTopics.length c2] a0.fTopics) (EmpR) (fun v A' N => v = .int .i64 r ∧ A' = EmpR ∧ N = []) := by
  refine enterA Try.func97 rfl Try.ntmps97 rfl ?_
  intro F w hX
  unfold f_value_Check at h
  refine T.seq (T.region rfl ?_)
  refine TL.box rfl .u rfl rfl (fun b3 => ?_)
  refine TL.run ft_value_ok [1] rfl rfl ?_
  refine TL.nil (X.seq (T.seq (T.block (T.seq (T.region rfl ?_)))))
  refine TL.run ft_value_ok [0] rfl rfl ?_
  refine TL.q rfl .u (Ex.b1 0 rfl Try.isAgg3 rfl rfl) rfl ?_
  by_cases c4 : a0.fProducer < 0
  · replace h := ifT c4 h
    refine TL.run ft_value_ok [2, 3] rfl rfl ?_
    refine TL.no rfl (.gn rfl rfl (decide_eq_true c4)) rfl ?_
    refine TL.no rfl (.gn rfl rfl (decide_eq_true c4)) rfl ?_
    refine TL.no rfl (.gn rfl rfl (decide_eq_true c4)) rfl ?_
    refine TL.q rfl .u (Ex.py rfl (decide_eq_true c4) rfl) rfl ?_
    refine TL.run ft_value_ok [8] rfl rfl ?_
    refine TL.no rfl (.gn rfl rfl rfl) rfl ?_
    refine TL.no rfl (.gn rfl rfl rfl) rfl ?_
    refine TL.no rfl (.gn rfl rfl rfl) rfl ?_
    refine TL.no rfl (.gn rfl rfl rfl) rfl ?_
    refine TL.q rfl .u (Ex.py rfl rfl rfl) rfl ?_
    refine TL.run ft_value_ok [14] rfl rfl ?_
    refine TL.no rfl (.gn rfl rfl rfl) rfl ?_
    refine TL.no rfl (.gn rfl rfl rfl) rfl ?_
    refine TL.no rfl (.gn rfl rfl rfl) rfl ?_
    refine TL.q rfl .u (Ex.py rfl rfl rfl) rfl ?_
    refine TL.run ft_value_ok [19] rfl rfl ?_
    refine TL.no rfl (.gn rfl rfl rfl) rfl ?_
    refine TL.no rfl (.gn rfl rfl rfl) rfl ?_
    refine TL.no rfl (.gn rfl rfl rfl) rfl ?_
    refine TL.no rfl (.gn rfl rfl rfl) rfl ?_
    refine TL.q rfl .u (Ex.py rfl rfl rfl) rfl ?_
    refine TL.run ft_value_ok [25] rfl rfl ?_
    refine TL.no rfl (.gn rfl rfl rfl) rfl ?_
    refine TL.no rfl (.gn rfl rfl rfl) rfl ?_
    refine TL.no rfl (.gn rfl rfl rfl) rfl ?_
    refine TL.q rfl .u (Ex.py rfl rfl rfl) rfl ?_
    refine TL.run ft_value_ok [30] rfl rfl ?_
    refine TL.no rfl (.gn rfl rfl rfl) rfl ?_
    refine TL.no rfl (.gn rfl rfl rfl) rfl ?_
    refine TL.no rfl (.gn rfl rfl rfl) rfl ?_
    refine TL.q rfl .u (Ex.py rfl rfl rfl) rfl ?_
    refine TL.run ft_value_ok [35] rfl rfl ?_
    refine TL.nil (X.seq ?_)
    refine T.yes rfl rfl ?_
    refine T.seq (T.region rfl ?_)
    refine TL.run ft_value_ok [0] rfl rfl ?_
    obtain rfl := Option.some.inj h
    exact TL.nil (X.seq (T.ret (X.rb (X.rs (X.done1 [1] Try.results97 (RV.tm rfl) ⟨rfl, rfl, rfl⟩ (by rfl) (.inl rfl))))))
  · replace h := ifF c4 h
    refine TL.run ft_value_ok [2, 3] rfl rfl ?_
    refine TL.q rfl (.g rfl rfl (decide_eq_false c4)) (Ex.ft ft_value_ok rfl) rfl ?_
    refine TL.q rfl (.g rfl rfl (decide_eq_false c4)) (Ex.b1 0 rfl Try.isAgg3 rfl rfl) rfl ?_
    refine TL.q rfl (.g rfl rfl (decide_eq_false c4)) (Ex.ft ft_value_ok rfl) rfl ?_
    refine TL.q rfl .u (Ex.pn rfl (decide_eq_false c4) rfl) rfl ?_
    by_cases c5 : a0.fEpoch < 0
    · replace h := ifT c5 h
      refine TL.run ft_value_ok [8] rfl rfl ?_
      refine TL.no rfl (.gn rfl rfl (decide_eq_true c5)) rfl ?_
      refine TL.no rfl (.gn rfl rfl (decide_eq_true c5)) rfl ?_
      refine TL.no rfl (.gn rfl rfl (decide_eq_true c5)) rfl ?_
      refine TL.no rfl (.gn rfl rfl (decide_eq_true c5)) rfl ?_
      refine TL.q rfl .u (Ex.py rfl (decide_eq_true c5) rfl) rfl ?_
      refine TL.run ft_value_ok [14] rfl rfl ?_
      refine TL.no rfl (.gn rfl rfl rfl) rfl ?_
      refine TL.no rfl (.gn rfl rfl rfl) rfl ?_
      refine TL.no rfl (.gn rfl rfl rfl) rfl ?_
      refine TL.q rfl .u (Ex.py rfl rfl rfl) rfl ?_
      refine TL.run ft_value_ok [19] rfl rfl ?_
      refine TL.no rfl (.gn rfl rfl rfl) rfl ?_
      refine TL.no rfl (.gn rfl rfl rfl) rfl ?_
      refine TL.no rfl (.gn rfl rfl rfl) rfl ?_
      refine TL.no rfl (.gn rfl rfl rfl) rfl ?_
      refine TL.q rfl .u (Ex.py rfl rfl rfl) rfl ?_
      refine TL.run ft_value_ok [25] rfl rfl ?_
      refine TL.no rfl (.gn rfl rfl rfl) rfl ?_
      refine TL.no rfl (.gn rfl rfl rfl) rfl ?_
      refine TL.no rfl (.gn rfl rfl rfl) rfl ?_
      refine TL.q rfl .u (Ex.py rfl rfl rfl) rfl ?_
      refine TL.run ft_value_ok [30] rfl rfl ?_
      refine TL.no rfl (.gn rfl rfl rfl) rfl ?_
      refine TL.no rfl (.gn rfl rfl rfl) rfl ?_
      refine TL.no rfl (.gn rfl rfl rfl) rfl ?_
      refine TL.q rfl .u (Ex.py rfl rfl rfl) rfl ?_
      refine TL.run ft_value_ok [35] rfl rfl ?_
      refine TL.nil (X.seq ?_)
      refine T.yes rfl rfl ?_
      refine T.seq (T.region rfl ?_)
      refine TL.run ft_value_ok [0] rfl rfl ?_
      obtain rfl := Option.some.inj h
      exact TL.nil (X.seq (T.ret (X.rb (X.rs (X.done1 [1] Try.results97 (RV.tm rfl) ⟨rfl, rfl, rfl⟩ (by rfl) (.inl rfl))))))
    · replace h := ifF c5 h
      refine TL.run ft_value_ok [8] rfl rfl ?_
      refine TL.q rfl (.g rfl rfl (decide_eq_false c5)) (Ex.ft ft_value_ok rfl) rfl ?_
      refine TL.q rfl (.g rfl rfl (decide_eq_false c5)) (Ex.b1 0 rfl Try.isAgg3 rfl rfl) rfl ?_
      obtain ⟨x6, hx7, h⟩ := Option.bind_eq_some_iff.1 h
      refine TL.ce rfl (.g rfl rfl (decide_eq_false c5)) (.fn Try.call78 rfl) (SpecX.pure (fun w => gFits_spec a0.fEpoch 2 _ hx7 w)) (fun _ _ => RX.reads_triv _ _) rfl ?_
      refine TL.q rfl (.g rfl rfl (decide_eq_false c5)) (Ex.ft ft_value_ok rfl) rfl ?_
      refine TL.q rfl .u (Ex.pn rfl (decide_eq_false c5) rfl) rfl ?_
      by_cases c8 : x6 = true
      · replace h := ifT c8 h
        refine TL.run ft_value_ok [14] rfl rfl ?_
        refine TL.q rfl (.g rfl rfl (bn_f c8)) (Ex.ft ft_value_ok rfl) rfl ?_
        refine TL.q rfl (.g rfl rfl (bn_f c8)) (Ex.b1 0 rfl Try.isAgg3 rfl rfl) rfl ?_
        refine TL.q rfl (.g rfl rfl (bn_f c8)) (Ex.ft ft_value_ok rfl) rfl ?_
        refine TL.q rfl .u (Ex.pn rfl (bn_f c8) rfl) rfl ?_
        by_cases c9 : a0.fTimeout < 0
        · replace h := ifT c9 h
          refine TL.run ft_value_ok [19] rfl rfl ?_
          refine TL.no rfl (.gn rfl rfl (decide_eq_true c9)) rfl ?_
          refine TL.no rfl (.gn rfl rfl (decide_eq_true c9)) rfl ?_
          refine TL.no rfl (.gn rfl rfl (decide_eq_true c9)) rfl ?_
          refine TL.no rfl (.gn rfl rfl (decide_eq_true c9)) rfl ?_
          refine TL.q rfl .u (Ex.py rfl (decide_eq_true c9) rfl) rfl ?_
          refine TL.run ft_value_ok [25] rfl rfl ?_
          refine TL.no rfl (.gn rfl rfl rfl) rfl ?_
          refine TL.no rfl (.gn rfl rfl rfl) rfl ?_
          refine TL.no rfl (.gn rfl rfl rfl) rfl ?_
          refine TL.q rfl .u (Ex.py rfl rfl rfl) rfl ?_
          refine TL.run ft_value_ok [30] rfl rfl ?_
          refine TL.no rfl (.gn rfl rfl rfl) rfl ?_
          refine TL.no rfl (.gn rfl rfl rfl) rfl ?_
          refine TL.no rfl (.gn rfl rfl rfl) rfl ?_
          refine TL.q rfl .u (Ex.py rfl rfl rfl) rfl ?_
          refine TL.run ft_value_ok [35] rfl rfl ?_
          refine TL.nil (X.seq ?_)
          refine T.yes rfl rfl ?_
          refine T.seq (T.region rfl ?_)
          refine TL.run ft_value_ok [0] rfl rfl ?_
          obtain rfl := Option.some.inj h
          exact TL.nil (X.seq (T.ret (X.rb (X.rs (X.done1 [1] Try.results97 (RV.tm rfl) ⟨rfl, rfl, rfl⟩ (by rfl) (.inl rfl))))))
        · replace h := ifF c9 h
          refine TL.run ft_value_ok [19] rfl rfl ?_
          refine TL.q rfl (.g rfl rfl (decide_eq_false c9)) (Ex.ft ft_value_ok rfl) rfl ?_
          refine TL.q rfl (.g rfl rfl (decide_eq_false c9)) (Ex.b1 0 rfl Try.isAgg3 rfl rfl) rfl ?_
          obtain ⟨x10, hx11, h⟩ := Option.bind_eq_some_iff.1 h
          refine TL.ce rfl (.g rfl rfl (decide_eq_false c9)) (.fn Try.call78 rfl) (SpecX.pure (fun w => gFits_spec a0.fTimeout 4 _ hx11 w)) (fun _ _ => RX.reads_triv _ _) rfl ?_
          refine TL.q rfl (.g rfl rfl (decide_eq_false c9)) (Ex.ft ft_value_ok rfl) rfl ?_
          refine TL.q rfl .u (Ex.pn rfl (decide_eq_false c9) rfl) rfl ?_
          by_cases c12 : x10 = true
          · replace h := ifT c12 h
            refine TL.run ft_value_ok [25] rfl rfl ?_
            refine TL.q rfl (.g rfl rfl (bn_f c12)) (Ex.ft ft_value_ok rfl) rfl ?_
            refine TL.q rfl (.g rfl rfl (bn_f c12)) (Ex.b1 0 rfl Try.isAgg3 rfl rfl) rfl ?_
            refine TL.q rfl (.g rfl rfl (bn_f c12)) (Ex.ft ft_value_ok rfl) rfl ?_
            refine TL.q rfl .u (Ex.pn rfl (bn_f c12) rfl) rfl ?_
            by_cases c13 : a0.fUpdated < 0
            · replace h := ifT c13 h
              refine TL.run ft_value_ok [30] rfl rfl ?_
              refine TL.no rfl (.gn rfl rfl (decide_eq_true c13)) rfl ?_
              refine TL.no rfl (.gn rfl rfl (decide_eq_true c13)) rfl ?_
              refine TL.no rfl (.gn rfl rfl (decide_eq_true c13)) rfl ?_
              refine TL.q rfl .u (Ex.py rfl (decide_eq_true c13) rfl) rfl ?_
              refine TL.run ft_value_ok [35] rfl rfl ?_
              refine TL.nil (X.seq ?_)
              refine T.yes rfl rfl ?_
              refine T.seq (T.region rfl ?_)
              refine TL.run ft_value_ok [0] rfl rfl ?_
              obtain rfl := Option.some.inj h
              exact TL.nil (X.seq (T.ret (X.rb (X.rs (X.done1 [1] Try.results97 (RV.tm rfl) ⟨rfl, rfl, rfl⟩ (by rfl) (.inl rfl))))))
            · replace h := ifF c13 h
              refine TL.run ft_value_ok [30] rfl rfl ?_
              refine TL.q rfl (.g rfl rfl (decide_eq_false c13)) (Ex.ft ft_value_ok rfl) rfl ?_
              refine TL.q rfl (.g rfl rfl (decide_eq_false c13)) (Ex.b1 0 rfl Try.isAgg3 rfl rfl) rfl ?_
              refine TL.q rfl (.g rfl rfl (decide_eq_false c13)) (Ex.ft ft_value_ok rfl) rfl ?_
              refine TL.q rfl .u (Ex.pn rfl (decide_eq_false c13) rfl) rfl ?_
              refine TL.run ft_value_ok [35] rfl rfl ?_
              by_cases c14 : a0.fStarted < (-1)
              · replace h := ifT c14 h
                refine TL.nil (X.seq ?_)
                refine T.yes rfl (decide_eq_true c14) ?_
                refine T.seq (T.region rfl ?_)
                refine TL.run ft_value_ok [0] rfl rfl ?_
                obtain rfl := Option.some.inj h
                exact TL.nil (X.seq (T.ret (X.rb (X.rs (X.done1 [1] Try.results97 (RV.tm rfl) ⟨rfl, rfl, rfl⟩ (by rfl) (.inl rfl))))))
              · replace h := ifF c14 h
                refine TL.nil (X.seq ?_)
                refine T.no rfl (decide_eq_false c14) ?_
                refine T.seq (T.region rfl ?_)
                refine TL.run ft_value_ok [0] rfl rfl ?_
                refine TL.q rfl .u (Ex.b1 0 rfl Try.isAgg3 rfl rfl) rfl ?_
                by_cases c15 : a0.fState < 0
                · replace h := ifT c15 h
                  refine TL.run ft_value_ok [2, 3] rfl rfl ?_
                  refine TL.no rfl (.gn rfl rfl (decide_eq_true c15)) rfl ?_
                  refine TL.no rfl (.gn rfl rfl (decide_eq_true c15)) rfl ?_
                  refine TL.no rfl (.gn rfl rfl (decide_eq_true c15)) rfl ?_
                  refine TL.q rfl .u (Ex.py rfl (decide_eq_true c15) rfl) rfl ?_
                  refine TL.run ft_value_ok [8] rfl rfl ?_
                  refine TL.nil (X.seq ?_)
                  refine T.yes rfl rfl ?_
                  refine T.seq (T.region rfl ?_)
                  refine TL.run ft_value_ok [0] rfl rfl ?_
                  obtain rfl := Option.some.inj h
                  exact TL.nil (X.seq (T.ret (X.rb (X.rs (X.done1 [1] Try.results97 (RV.tm rfl) ⟨rfl, rfl, rfl⟩ (by rfl) (.inl rfl))))))
                · replace h := ifF c15 h
                  refine TL.run ft_value_ok [2, 3] rfl rfl ?_
                  refine TL.q rfl (.g rfl rfl (decide_eq_false c15)) (Ex.ft ft_value_ok rfl) rfl ?_
                  refine TL.q rfl (.g rfl rfl (decide_eq_false c15)) (Ex.b1 0 rfl Try.isAgg3 rfl rfl) rfl ?_
                  refine TL.q rfl (.g rfl rfl (decide_eq_false c15)) (Ex.ft ft_value_ok rfl) rfl ?_
                  refine TL.q rfl .u (Ex.pn rfl (decide_eq_false c15) rfl) rfl ?_
                  refine TL.run ft_value_ok [8] rfl rfl ?_
                  by_cases c16 : a0.fState ≥ 7
                  · replace h := ifT c16 h
                    refine TL.nil (X.seq ?_)
                    refine T.yes rfl (decide_eq_true c16) ?_
                    refine T.seq (T.region rfl ?_)
                    refine TL.run ft_value_ok [0] rfl rfl ?_
                    obtain rfl := Option.some.inj h
                    exact TL.nil (X.seq (T.ret (X.rb (X.rs (X.done1 [1] Try.results97 (RV.tm rfl) ⟨rfl, rfl, rfl⟩ (by rfl) (.inl rfl))))))
                  · replace h := ifF c16 h
                    refine TL.nil (X.seq ?_)
                    refine T.no rfl (decide_eq_false c16) ?_
                    refine T.seq (T.draw (.q 0 (.q 1 (.q 3 (.q 4 (.q 5 (.q 6 (.e 2 (.q 7 (.q 8 (.q 9 (.q 10 (.q 11 (.q 12 (.q 13 (.q 14 (.q 15 (.q 16 (.q 17 .nil)))))))))))))))))) [0, 0] rfl mix_value (NoP.seq (NoP.blk (NoP.seq np_post))) (by kernel_rfl) ?_)
                    refine TD.run ft_value_ok [0] rfl rfl ?_
                    refine TD.q rfl .u (Ex.b1 0 rfl Try.isAgg3 rfl rfl) rfl ?_
                    refine TD.run ft_value_ok [3] rfl rfl ?_
                    refine TD.q rfl .u (Ex.b1 0 rfl Try.isAgg106 rfl rfl) rfl ?_
                    refine TD.q rfl .u (Ex.lenS rfl Try.runUnderlying106) rfl ?_
                    obtain ⟨x17, hx18, h⟩ := Option.bind_eq_some_iff.1 h
                    refine TD.run ft_value_ok [6] rfl rfl ?_
                    refine TD.ce rfl .u (.fn Try.call102 rfl) (f_value_Idle_spec a0.fState _ hx18) (fun _ hs => (RX.reads_triv _ _)) rfl [0, 0] (rfl) ?_
                    by_cases c19 : x17 = true
                    · replace h := ifT c19 h
                      by_cases c20 : (a0.fTopics.length : Int) = 0
                      · replace h := ifT c20 h
                        refine TD.q rfl .u (Ex.bNe rfl c19 rfl (decide_eq_true c20) Try.runUnderlying4) rfl ?_
                        refine TD.run ft_value_ok [8] rfl rfl ?_
                        refine TD.q rfl (.g rfl rfl rfl) (Ex.ft ft_value_ok rfl) rfl ?_
                        refine TD.q rfl (.g rfl rfl rfl) (Ex.b1 0 rfl Try.isAgg3 rfl rfl) rfl ?_
                        refine TD.q rfl (.g rfl rfl rfl) (Ex.ft ft_value_ok rfl) rfl ?_
                        refine TD.q rfl (.g rfl rfl rfl) (Ex.ft ft_value_ok rfl) rfl ?_
                        refine TD.q rfl (.g rfl rfl rfl) (Ex.b1 0 rfl Try.isAgg3 rfl rfl) rfl ?_
                        refine TD.q rfl (.g rfl rfl rfl) (Ex.ft ft_value_ok rfl) rfl ?_
                        by_cases c21 : a0.fState = 0
                        · replace h := ifT c21 h
                          by_cases c22 : a0.fStarted = (-1)
                          · replace h := ifT c22 h
                            refine TD.q rfl (.g rfl rfl rfl) (Ex.bNe rfl (decide_eq_true c21) rfl (decide_eq_true c22) Try.runUnderlying4) rfl ?_
                            refine TD.q rfl .u (Ex.pn rfl rfl rfl) rfl ?_
                            refine TD.run ft_value_ok [17] rfl rfl ?_
                            refine TD.nil (X.seq ?_)
                            refine T.no rfl rfl ?_
                            refine T.seq (T.region rfl ?_)
                            refine TL.run ft_value_ok [0] rfl rfl ?_
                            refine TL.q rfl .u (Ex.b1 0 rfl Try.isAgg106 rfl rfl) rfl ?_
                            obtain ⟨x23, hx24, h⟩ := Option.bind_eq_some_iff.1 h
                            refine TL.ce rfl .u (.fn Try.call103 rfl) (f_value_topics_spec a0.fTopics _ _ _ hx24) (fun _ hs => (SrcE.old hs hX)) rfl ?_
                            refine TL.run ft_value_ok [3, 4] rfl rfl ?_
                            by_cases c25 : x23 = true
                            · replace h := ifT c25 h
                              refine TL.nil (X.seq ?_)
                              refine T.no rfl (bn_f c25) ?_
                              refine T.skip (X.blk (X.seq (T.seq (T.region rfl ?_))))
                              refine TL.run ft_value_ok [0] rfl rfl ?_
                              obtain rfl := Option.some.inj h
                              exact TL.nil (X.seq (T.ret (X.done1 [1] Try.results97 (RV.tm rfl) ⟨rfl, rfl, rfl⟩ (by rfl) (.inl rfl))))
                            · replace h := ifF c25 h
                              replace c25 := eq_false_of_ne_true c25
                              refine TL.nil (X.seq ?_)
                              refine T.yes rfl (bn_t c25) ?_
                              refine T.seq (T.region rfl ?_)
                              refine TL.run ft_value_ok [0] rfl rfl ?_
                              obtain rfl := Option.some.inj h
                              exact TL.nil (X.seq (T.ret (X.rb (X.rs (X.done1 [1] Try.results97 (RV.tm rfl) ⟨rfl, rfl, rfl⟩ (by rfl) (.inl rfl))))))
                          · replace h := ifF c22 h
                            refine TD.q rfl (.g rfl rfl rfl) (Ex.bNe rfl (decide_eq_true c21) rfl (decide_eq_false c22) Try.runUnderlying4) rfl ?_
                            refine TD.q rfl .u (Ex.pn rfl rfl rfl) rfl ?_
                            refine TD.run ft_value_ok [17] rfl rfl ?_
                            refine TD.nil (X.seq ?_)
                            refine T.yes rfl rfl ?_
                            refine T.seq (T.region rfl ?_)
                            refine TL.run ft_value_ok [0] rfl rfl ?_
                            obtain rfl := Option.some.inj h
                            exact TL.nil (X.seq (T.ret (X.rb (X.rs (X.done1 [1] Try.results97 (RV.tm rfl) ⟨rfl, rfl, rfl⟩ (by rfl) (.inl rfl))))))
                        · replace h := ifF c21 h
                          by_cases c26 : a0.fStarted = (-1)
                          · replace h := ifT c26 h
                            refine TD.q rfl (.g rfl rfl rfl) (Ex.bNe rfl (decide_eq_false c21) rfl (decide_eq_true c26) Try.runUnderlying4) rfl ?_
                            refine TD.q rfl .u (Ex.pn rfl rfl rfl) rfl ?_
                            refine TD.run ft_value_ok [17] rfl rfl ?_
                            refine TD.nil (X.seq ?_)
                            refine T.yes rfl rfl ?_
                            refine T.seq (T.region rfl ?_)
                            refine TL.run ft_value_ok [0] rfl rfl ?_
                            obtain rfl := Option.some.inj h
                            exact TL.nil (X.seq (T.ret (X.rb (X.rs (X.done1 [1] Try.results97 (RV.tm rfl) ⟨rfl, rfl, rfl⟩ (by rfl) (.inl rfl))))))
                          · replace h := ifF c26 h
                            refine TD.q rfl (.g rfl rfl rfl) (Ex.bNe rfl (decide_eq_false c21) rfl (decide_eq_false c26) Try.runUnderlying4) rfl ?_
                            refine TD.q rfl .u (Ex.pn rfl rfl rfl) rfl ?_
                            refine TD.run ft_value_ok [17] rfl rfl ?_
                            refine TD.nil (X.seq ?_)
                            refine T.no rfl rfl ?_
                            refine T.seq (T.region rfl ?_)
                            refine TL.run ft_value_ok [0] rfl rfl ?_
                            refine TL.q rfl .u (Ex.b1 0 rfl Try.isAgg106 rfl rfl) rfl ?_
                            obtain ⟨x27, hx28, h⟩ := Option.bind_eq_some_iff.1 h
                            refine TL.ce rfl .u (.fn Try.call103 rfl) (f_value_topics_spec a0.fTopics _ _ _ hx28) (fun _ hs => (SrcE.old hs hX)) rfl ?_
                            refine TL.run ft_value_ok [3, 4] rfl rfl ?_
                            by_cases c29 : x27 = true
                            · replace h := ifT c29 h
                              refine TL.nil (X.seq ?_)
                              refine T.no rfl (bn_f c29) ?_
                              refine T.skip (X.blk (X.seq (T.seq (T.region rfl ?_))))
                              refine TL.run ft_value_ok [0] rfl rfl ?_
                              obtain rfl := Option.some.inj h
                              exact TL.nil (X.seq (T.ret (X.done1 [1] Try.results97 (RV.tm rfl) ⟨rfl, rfl, rfl⟩ (by rfl) (.inl rfl))))
                            · replace h := ifF c29 h
                              replace c29 := eq_false_of_ne_true c29
                              refine TL.nil (X.seq ?_)
                              refine T.yes rfl (bn_t c29) ?_
                              refine T.seq (T.region rfl ?_)
                              refine TL.run ft_value_ok [0] rfl rfl ?_
                              obtain rfl := Option.some.inj h
                              exact TL.nil (X.seq (T.ret (X.rb (X.rs (X.done1 [1] Try.results97 (RV.tm rfl) ⟨rfl, rfl, rfl⟩ (by rfl) (.inl rfl))))))
                      · replace h := ifF c20 h
                        refine TD.q rfl .u (Ex.bNe rfl c19 rfl (decide_eq_false c20) Try.runUnderlying4) rfl ?_
                        refine TD.run ft_value_ok [8] rfl rfl ?_
                        refine TD.no rfl (.gn rfl rfl rfl) rfl ?_
                        refine TD.no rfl (.gn rfl rfl rfl) rfl ?_
                        refine TD.no rfl (.gn rfl rfl rfl) rfl ?_
                        refine TD.no rfl (.gn rfl rfl rfl) rfl ?_
                        refine TD.no rfl (.gn rfl rfl rfl) rfl ?_
                        refine TD.no rfl (.gn rfl rfl rfl) rfl ?_
                        refine TD.no rfl (.gn rfl rfl rfl) rfl ?_
                        refine TD.q rfl .u (Ex.py rfl rfl rfl) rfl ?_
                        refine TD.run ft_value_ok [17] rfl rfl ?_
                        refine TD.nil (X.seq ?_)
                        refine T.yes rfl rfl ?_
                        refine T.seq (T.region rfl ?_)
                        refine TL.run ft_value_ok [0] rfl rfl ?_
                        obtain rfl := Option.some.inj h
                        exact TL.nil (X.seq (T.ret (X.rb (X.rs (X.done1 [1] Try.results97 (RV.tm rfl) ⟨rfl, rfl, rfl⟩ (by rfl) (.inl rfl))))))
                    · replace h := ifF c19 h
                      replace c19 := eq_false_of_ne_true c19
                      by_cases c30 : (a0.fTopics.length : Int) = 0
                      · replace h := ifT c30 h
                        refine TD.q rfl .u (Ex.bNe rfl c19 rfl (decide_eq_true c30) Try.runUnderlying4) rfl ?_
                        refine TD.run ft_value_ok [8] rfl rfl ?_
                        refine TD.no rfl (.gn rfl rfl rfl) rfl ?_
                        refine TD.no rfl (.gn rfl rfl rfl) rfl ?_
                        refine TD.no rfl (.gn rfl rfl rfl) rfl ?_
                        refine TD.no rfl (.gn rfl rfl rfl) rfl ?_
                        refine TD.no rfl (.gn rfl rfl rfl) rfl ?_
                        refine TD.no rfl (.gn rfl rfl rfl) rfl ?_
                        refine TD.no rfl (.gn rfl rfl rfl) rfl ?_
                        refine TD.q rfl .u (Ex.py rfl rfl rfl) rfl ?_
                        refine TD.run ft_value_ok [17] rfl rfl ?_
                        refine TD.nil (X.seq ?_)
                        refine T.yes rfl rfl ?_
                        refine T.seq (T.region rfl ?_)
                        refine TL.run ft_value_ok [0] rfl rfl ?_
                        obtain rfl := Option.some.inj h
                        exact TL.nil (X.seq (T.ret (X.rb (X.rs (X.done1 [1] Try.results97 (RV.tm rfl) ⟨rfl, rfl, rfl⟩ (by rfl) (.inl rfl))))))
                      · replace h := ifF c30 h
                        refine TD.q rfl .u (Ex.bNe rfl c19 rfl (decide_eq_false c30) Try.runUnderlying4) rfl ?_
                        refine TD.run ft_value_ok [8] rfl rfl ?_
                        refine TD.q rfl (.g rfl rfl rfl) (Ex.ft ft_value_ok rfl) rfl ?_
                        refine TD.q rfl (.g rfl rfl rfl) (Ex.b1 0 rfl Try.isAgg3 rfl rfl) rfl ?_
                        refine TD.q rfl (.g rfl rfl rfl) (Ex.ft ft_value_ok rfl) rfl ?_
                        refine TD.q rfl (.g rfl rfl rfl) (Ex.ft ft_value_ok rfl) rfl ?_
                        refine TD.q rfl (.g rfl rfl rfl) (Ex.b1 0 rfl Try.isAgg3 rfl rfl) rfl ?_
                        refine TD.q rfl (.g rfl rfl rfl) (Ex.ft ft_value_ok rfl) rfl ?_
                        by_cases c31 : a0.fState = 0
                        · replace h := ifT c31 h
                          by_cases c32 : a0.fStarted = (-1)
                          · replace h := ifT c32 h
                            refine TD.q rfl (.g rfl rfl rfl) (Ex.bNe rfl (decide_eq_true c31) rfl (decide_eq_true c32) Try.runUnderlying4) rfl ?_
                            refine TD.q rfl .u (Ex.pn rfl rfl rfl) rfl ?_
                            refine TD.run ft_value_ok [17] rfl rfl ?_
                            refine TD.nil (X.seq ?_)
                            refine T.no rfl rfl ?_
                            refine T.seq (T.region rfl ?_)
                            refine TL.run ft_value_ok [0] rfl rfl ?_
                            refine TL.q rfl .u (Ex.b1 0 rfl Try.isAgg106 rfl rfl) rfl ?_
                            obtain ⟨x33, hx34, h⟩ := Option.bind_eq_some_iff.1 h
                            refine TL.ce rfl .u (.fn Try.call103 rfl) (f_value_topics_spec a0.fTopics _ _ _ hx34) (fun _ hs => (SrcE.old hs hX)) rfl ?_
                            refine TL.run ft_value_ok [3, 4] rfl rfl ?_
                            by_cases c35 : x33 = true
                            · replace h := ifT c35 h
                              refine TL.nil (X.seq ?_)
                              refine T.no rfl (bn_f c35) ?_
                              refine T.skip (X.blk (X.seq (T.seq (T.region rfl ?_))))
                              refine TL.run ft_value_ok [0] rfl rfl ?_
                              obtain rfl := Option.some.inj h
                              exact TL.nil (X.seq (T.ret (X.done1 [1] Try.results97 (RV.tm rfl) ⟨rfl, rfl, rfl⟩ (by rfl) (.inl rfl))))
                            · replace h := ifF c35 h
                              replace c35 := eq_false_of_ne_true c35
                              refine TL.nil (X.seq ?_)
                              refine T.yes rfl (bn_t c35) ?_
                              refine T.seq (T.region rfl ?_)
                              refine TL.run ft_value_ok [0] rfl rfl ?_
                              obtain rfl := Option.some.inj h
                              exact TL.nil (X.seq (T.ret (X.rb (X.rs (X.done1 [1] Try.results97 (RV.tm rfl) ⟨rfl, rfl, rfl⟩ (by rfl) (.inl rfl))))))
                          · replace h := ifF c32 h
                            refine TD.q rfl (.g rfl rfl rfl) (Ex.bNe rfl (decide_eq_true c31) rfl (decide_eq_false c32) Try.runUnderlying4) rfl ?_
                            refine TD.q rfl .u (Ex.pn rfl rfl rfl) rfl ?_
                            refine TD.run ft_value_ok [17] rfl rfl ?_
                            refine TD.nil (X.seq ?_)
                            refine T.yes rfl rfl ?_
                            refine T.seq (T.region rfl ?_)
                            refine TL.run ft_value_ok [0] rfl rfl ?_
                            obtain rfl := Option.some.inj h
                            exact TL.nil (X.seq (T.ret (X.rb (X.rs (X.done1 [1] Try.results97 (RV.tm rfl) ⟨rfl, rfl, rfl⟩ (by rfl) (.inl rfl))))))
                        · replace h := ifF c31 h
                          by_cases c36 : a0.fStarted = (-1)
                          · replace h := ifT c36 h
                            refine TD.q rfl (.g rfl rfl rfl) (Ex.bNe rfl (decide_eq_false c31) rfl (decide_eq_true c36) Try.runUnderlying4) rfl ?_
                            refine TD.q rfl .u (Ex.pn rfl rfl rfl) rfl ?_
                            refine TD.run ft_value_ok [17] rfl rfl ?_
                            refine TD.nil (X.seq ?_)
                            refine T.yes rfl rfl ?_
                            refine T.seq (T.region rfl ?_)
                            refine TL.run ft_value_ok [0] rfl rfl ?_
                            obtain rfl := Option.some.inj h
                            exact TL.nil (X.seq (T.ret (X.rb (X.rs (X.done1 [1] Try.results97 (RV.tm rfl) ⟨rfl, rfl, rfl⟩ (by rfl) (.inl rfl))))))
                          · replace h := ifF c36 h
                            refine TD.q rfl (.g rfl rfl rfl) (Ex.bNe rfl (decide_eq_false c31) rfl (decide_eq_false c36) Try.runUnderlying4) rfl ?_
                            refine TD.q rfl .u (Ex.pn rfl rfl rfl) rfl ?_
                            refine TD.run ft_value_ok [17] rfl rfl ?_
                            refine TD.nil (X.seq ?_)
                            refine T.no rfl rfl ?_
                            refine T.seq (T.region rfl ?_)
                            refine TL.run ft_value_ok [0] rfl rfl ?_
                            refine TL.q rfl .u (Ex.b1 0 rfl Try.isAgg106 rfl rfl) rfl ?_
                            obtain ⟨x37, hx38, h⟩ := Option.bind_eq_some_iff.1 h
                            refine TL.ce rfl .u (.fn Try.call103 rfl) (f_value_topics_spec a0.fTopics _ _ _ hx38) (fun _ hs => (SrcE.old hs hX)) rfl ?_
                            refine TL.run ft_value_ok [3, 4] rfl rfl ?_
                            by_cases c39 : x37 = true
                            · replace h := ifT c39 h
                              refine TL.nil (X.seq ?_)
                              refine T.no rfl (bn_f c39) ?_
                              refine T.skip (X.blk (X.seq (T.seq (T.region rfl ?_))))
                              refine TL.run ft_value_ok [0] rfl rfl ?_
                              obtain rfl := Option.some.inj h
                              exact TL.nil (X.seq (T.ret (X.done1 [1] Try.results97 (RV.tm rfl) ⟨rfl, rfl, rfl⟩ (by rfl) (.inl rfl))))
                            · replace h := ifF c39 h
                              replace c39 := eq_false_of_ne_true c39
                              refine TL.nil (X.seq ?_)
                              refine T.yes rfl (bn_t c39) ?_
                              refine T.seq (T.region rfl ?_)
                              refine TL.run ft_value_ok [0] rfl rfl ?_
                              obtain rfl := Option.some.inj h
                              exact TL.nil (X.seq (T.ret (X.rb (X.rs (X.done1 [1] Try.results97 (RV.tm rfl) ⟨rfl, rfl, rfl⟩ (by rfl) (.inl rfl))))))
          · replace h := ifF c12 h
            replace c12 := eq_false_of_ne_true c12
            refine TL.run ft_value_ok [25] rfl rfl ?_
            refine TL.no rfl (.gn rfl rfl (bn_t c12)) rfl ?_
            refine TL.no rfl (.gn rfl rfl (bn_t c12)) rfl ?_
            refine TL.no rfl (.gn rfl rfl (bn_t c12)) rfl ?_
            refine TL.q rfl .u (Ex.py rfl (bn_t c12) rfl) rfl ?_
            refine TL.run ft_value_ok [30] rfl rfl ?_
            refine TL.no rfl (.gn rfl rfl rfl) rfl ?_
            refine TL.no rfl (.gn rfl rfl rfl) rfl ?_
            refine TL.no rfl (.gn rfl rfl rfl) rfl ?_
            refine TL.q rfl .u (Ex.py rfl rfl rfl) rfl ?_
            refine TL.run ft_value_ok [35] rfl rfl ?_
            refine TL.nil (X.seq ?_)
            refine T.yes rfl rfl ?_
            refine T.seq (T.region rfl ?_)
            refine TL.run ft_value_ok [0] rfl rfl ?_
            obtain rfl := Option.some.inj h
            exact TL.nil (X.seq (T.ret (X.rb (X.rs (X.done1 [1] Try.results97 (RV.tm rfl) ⟨rfl, rfl, rfl⟩ (by rfl) (.inl rfl))))))
      · replace h := ifF c8 h
        replace c8 := eq_false_of_ne_true c8
        refine TL.run ft_value_ok [14] rfl rfl ?_
        refine TL.no rfl (.gn rfl rfl (bn_t c8)) rfl ?_
        refine TL.no rfl (.gn rfl rfl (bn_t c8)) rfl ?_
        refine TL.no rfl (.gn rfl rfl (bn_t c8)) rfl ?_
        refine TL.q rfl .u (Ex.py rfl (bn_t c8) rfl) rfl ?_
        refine TL.run ft_value_ok [19] rfl rfl ?_
        refine TL.no rfl (.gn rfl rfl rfl) rfl ?_
        refine TL.no rfl (.gn rfl rfl rfl) rfl ?_
        refine TL.no rfl (.gn rfl rfl rfl) rfl ?_
        refine TL.no rfl (.gn rfl rfl rfl) rfl ?_
        refine TL.q rfl .u (Ex.py rfl rfl rfl) rfl ?_
        refine TL.run ft_value_ok [25] rfl rfl ?_
        refine TL.no rfl (.gn rfl rfl rfl) rfl ?_
        refine TL.no rfl (.gn rfl rfl rfl) rfl ?_
        refine TL.no rfl (.gn rfl rfl rfl) rfl ?_
        refine TL.q rfl .u (Ex.py rfl rfl rfl) rfl ?_
        refine TL.run ft_value_ok [30] rfl rfl ?_
        refine TL.no rfl (.gn rfl rfl rfl) rfl ?_
        refine TL.no rfl (.gn rfl rfl rfl) rfl ?_
        refine TL.no rfl (.gn rfl rfl rfl) rfl ?_
        refine TL.q rfl .u (Ex.py rfl rfl rfl) rfl ?_
        refine TL.run ft_value_ok [35] rfl rfl ?_
        refine TL.nil (X.seq ?_)
        refine T.yes rfl rfl ?_
        refine T.seq (T.region rfl ?_)
        refine TL.run ft_value_ok [0] rfl rfl ?_
        obtain rfl := Option.some.inj h
        exact TL.nil (X.seq (T.ret (X.rb (X.rs (X.done1 [1] Try.results97 (RV.tm rfl) ⟨rfl, rfl, rfl⟩ (by rfl) (.inl rfl))))))
end Go.Proofs.Ytpiiopppbgpbpaa.Sl
namespace Go.Proofs.Ytpiiopppbgpbpaa.Sl
open Go.RowKit
set_option linter.unusedVariables false
set_option linter.unusedSimpArgs false
set_option maxRecDepth 100000
def ft_cursitorref14 : FTab := [(153, 0, 0), (153, 1, 1)]
theorem ft_cursitorref14_ok : (ft_cursitorref14).OK Try.prog := ⟨FOK.mk Try.runUnderlying153 rfl Try.sizeOf9 rfl, FOK.mk Try.runUnderlying153 rfl Try.sizeOf25 rfl, trivial⟩
theorem mix_cursitorref14 : Try.prog.follows .mixedOrders = true := by kernel_rfl
def f_r14_less_l1 (a0 : List UInt8) (a1 : List UInt8) : Nat → Bool → Nat → Option (Lp Bool (Bool × Nat))
  | 0, _, _ => none
  | m6 + 1, y1, k2 => if (k2 : Int) < (a0.length : Int) then (if (k2 : Int) < (a1.length : Int) then ((a0[k2]?).bind fun ch12 => (a1[k2]?).bind fun ch14 => if (ch12.toNat : Int) = (ch14.toNat : Int) then (if -9223372036854775808 ≤ ((k2 : Int) + 1) ∧ ((k2 : Int) + 1) ≤ 9223372036854775807 then (f_r14_less_l1 a0 a1 m6 y1 (k2 + 1)) else none) else (if (ch12.toNat : Int) < (ch14.toNat : Int) then some (Lp.ret true) else some (Lp.ret false))) else (some (Lp.go (y1, k2)))) else (some (Lp.go (y1, k2)))
def f_r14_less (a0 : List UInt8) (a1 : List UInt8) : Option (Bool) := (f_r14_less_l1 a0 a1 (((a1.length : Int)).toNat + 1) false 0).bind fun e => match e with | .ret r => some r | .go (y21, k22) => (if (a0.length : Int) < (a1.length : Int) then some true else some false)
set_option maxRecDepth 100000 in
set_option maxHeartbeats 4000000 in
theorem f_r14_less_spec (a0 : List UInt8) (a1 : List UInt8) (r : Bool) (h : f_r14_less a0 a1 = some r) : SpecX Try.prog 96 #[.string (bsOf a0), .string (bsOf a1)] .triv (EmpR) (fun v A' N => v = .bool r ∧ A' = EmpR ∧ N = []) := by
  refine enterA Try.func96 rfl Try.ntmps96 rfl ?_
  intro F w hX
  unfold f_r14_less at h
  refine T.seq (T.region rfl ?_)
  refine TL.run ft_cursitorref14_ok [0] rfl rfl ?_
  refine TL.nil (X.seq (T.seq (T.seq (T.region rfl ?_))))
  refine TL.run ft_cursitorref14_ok [0] rfl rfl ?_
  refine TL.nil (X.seq (T.block ?_))
  obtain ⟨E3, hE4, hO5⟩ := Option.bind_eq_some_iff.1 h
  refine T.lp (fun m e Rs => ∃ (y1 : Bool) (k2 : Nat), e = [(0, .string (bsOf a0)), (1, .string (bsOf a1)), (4, .bool y1), (5, .int .i64 (k2 : Int))] ∧ Rs = [EmpR] ∧ f_r14_less_l1 a0 a1 m y1 k2 = some E3) (((a1.length : Int)).toNat + 1) [0] ⟨false, 0, rfl, rfl, by exact hE4⟩ (by rfl) (by rfl) ?_
  rintro m6 _ _ ⟨y1, k2, rfl, rfl, hl8⟩
  clear hE4 h
  cases m6 with
  | zero =>
    rw [f_r14_less_l1] at hl8
    cases hl8
  | succ m6 =>
    have h := hl8
    clear hl8
    rw [f_r14_less_l1] at h
    refine T.seq (T.seq (T.region rfl ?_))
    refine TL.run ft_cursitorref14_ok [0, 1] rfl rfl ?_
    refine TL.q rfl .u (Ex.lenB rfl Try.runUnderlying9) rfl ?_
    by_cases c10 : (k2 : Int) < (a0.length : Int)
    · replace h := ifT c10 h
      refine TL.run ft_cursitorref14_ok [3, 4] rfl rfl ?_
      refine TL.q rfl (.g rfl rfl (decide_eq_true c10)) (Ex.ft ft_cursitorref14_ok rfl) rfl ?_
      refine TL.q rfl (.g rfl rfl (decide_eq_true c10)) (Ex.ft ft_cursitorref14_ok rfl) rfl ?_
      refine TL.q rfl (.g rfl rfl (decide_eq_true c10)) (Ex.lenB rfl Try.runUnderlying9) rfl ?_
      refine TL.q rfl (.g rfl rfl (decide_eq_true c10)) (Ex.ft ft_cursitorref14_ok rfl) rfl ?_
      refine TL.q rfl .u (Ex.py rfl (decide_eq_true c10) rfl) rfl ?_
      by_cases c11 : (k2 : Int) < (a1.length : Int)
      · replace h := ifT c11 h
        refine TL.nil (X.seq ?_)
        refine T.yes rfl (decide_eq_true c11) ?_
        refine T.skip (X.seq (T.seq (T.block (T.seq (T.draw (.q 0 (.q 1 (.q 2 (.q 3 (.q 4 (.q 5 (.q 6 .nil))))))) [0] rfl mix_cursitorref14 (NoP.seq (NoP.blk (NoP.seq (NoP.seq (NoP.blk (NoP.seq np_post)))))) (by kernel_rfl) ?_)))))
        obtain ⟨ch12, hc13, h⟩ := Option.bind_eq_some_iff.1 h
        refine TD.run ft_cursitorref14_ok [0, 1] rfl rfl ?_
        refine TD.q rfl .u (Ex.sIx rfl rfl rfl Try.underlying9 hc13) rfl ?_
        obtain ⟨ch14, hc15, h⟩ := Option.bind_eq_some_iff.1 h
        refine TD.run ft_cursitorref14_ok [3, 4] rfl rfl ?_
        refine TD.q rfl .u (Ex.sIx rfl rfl rfl Try.underlying9 hc15) rfl ?_
        refine TD.run ft_cursitorref14_ok [6] rfl rfl ?_
        by_cases c16 : (ch12.toNat : Int) = (ch14.toNat : Int)
        · replace h := ifT c16 h
          refine TD.nil (X.seq ?_)
          refine T.no rfl (bn_f (decide_eq_true c16)) ?_
          refine T.skip (X.blk (X.seq (T.region rfl ?_)))
          replace h := guard_some h
          obtain ⟨c17, h⟩ := h
          refine TL.run ft_cursitorref14_ok [0] rfl rfl ?_
          refine TL.q rfl .u (Ex.add rfl rfl c17) rfl ?_
          refine TL.run ft_cursitorref14_ok [2] rfl rfl ?_
          exact TL.nil (X.back (m' := m6) [0] (by omega) ⟨y1, k2 + 1, rfl, rfl, h⟩ (by rfl) (by rfl))
        · replace h := ifF c16 h
          refine TD.nil (X.seq ?_)
          refine T.yes rfl (bn_t (decide_eq_false c16)) ?_
          refine T.seq (T.draw (.q 0 (.q 1 (.q 2 (.q 3 (.q 4 (.q 5 (.q 6 (.q 7 .nil)))))))) [0] rfl mix_cursitorref14 (NoP.seq (NoP.blk (NoP.seq (NoP.seq (NoP.blk (NoP.seq np_post)))))) (by kernel_rfl) ?_)
          refine TD.run ft_cursitorref14_ok [0, 1] rfl rfl ?_
          refine TD.q rfl .u (Ex.sIx rfl rfl rfl Try.underlying9 hc13) rfl ?_
          refine TD.run ft_cursitorref14_ok [3, 4] rfl rfl ?_
          refine TD.q rfl .u (Ex.sIx rfl rfl rfl Try.underlying9 hc15) rfl ?_
          refine TD.run ft_cursitorref14_ok [6, 7] rfl rfl ?_
          by_cases c18 : (ch12.toNat : Int) < (ch14.toNat : Int)
          · replace h := ifT c18 h
            obtain rfl := Option.some.inj h
            replace h := hO5
            clear hO5
            try dsimp only at h
            obtain rfl := Option.some.inj h
            exact TD.nil (X.seq (T.ret (X.rb (X.rs (X.rs (X.rb (X.rs (X.done1 [0] Try.results96 (RV.tm (v := .bool true) (congrArg (fun b => some (Value.bool b)) (decide_eq_true c18))) ⟨rfl, rfl, rfl⟩ (by rfl) (.inl rfl)))))))))
          · replace h := ifF c18 h
            obtain rfl := Option.some.inj h
            replace h := hO5
            clear hO5
            try dsimp only at h
            obtain rfl := Option.some.inj h
            exact TD.nil (X.seq (T.ret (X.rb (X.rs (X.rs (X.rb (X.rs (X.done1 [0] Try.results96 (RV.tm (v := .bool false) (congrArg (fun b => some (Value.bool b)) (decide_eq_false c18))) ⟨rfl, rfl, rfl⟩ (by rfl) (.inl rfl)))))))))
      · replace h := ifF c11 h
        refine TL.nil (X.seq ?_)
        refine T.no rfl (decide_eq_false c11) ?_
        obtain rfl := Option.some.inj h
        replace h := hO5
        clear hO5
        try dsimp only at h
        refine T.exit (X.exs (X.exs (X.ex (X.seq (T.seq (T.region rfl ?_))))))
        refine TL.run ft_cursitorref14_ok [0] rfl rfl ?_
        refine TL.q rfl .u (Ex.lenB rfl Try.runUnderlying9) rfl ?_
        refine TL.run ft_cursitorref14_ok [2] rfl rfl ?_
        refine TL.q rfl .u (Ex.lenB rfl Try.runUnderlying9) rfl ?_
        refine TL.run ft_cursitorref14_ok [4, 5] rfl rfl ?_
        by_cases c19 : (a0.length : Int) < (a1.length : Int)
        · replace h := ifT c19 h
          obtain rfl := Option.some.inj h
          exact TL.nil (X.seq (T.ret (X.done1 [0] Try.results96 (RV.tm (v := .bool true) (congrArg (fun b => some (Value.bool b)) (decide_eq_true c19))) ⟨rfl, rfl, rfl⟩ (by rfl) (.inl rfl))))
        · replace h := ifF c19 h
          obtain rfl := Option.some.inj h
          exact TL.nil (X.seq (T.ret (X.done1 [0] Try.results96 (RV.tm (v := .bool false) (congrArg (fun b => some (Value.bool b)) (decide_eq_false c19))) ⟨rfl, rfl, rfl⟩ (by rfl) (.inl rfl))))
    · replace h := ifF c10 h
      refine TL.run ft_cursitorref14_ok [3, 4] rfl rfl ?_
      refine TL.no rfl (.gn rfl rfl (decide_eq_false c10)) rfl ?_
      refine TL.no rfl (.gn rfl rfl (decide_eq_false c10)) rfl ?_
      refine TL.no rfl (.gn rfl rfl (decide_eq_false c10)) rfl ?_
      refine TL.no rfl (.gn rfl rfl (decide_eq_false c10)) rfl ?_
      refine TL.q rfl .u (Ex.pn rfl (decide_eq_false c10) rfl) rfl ?_
      refine TL.nil (X.seq ?_)
      refine T.no rfl rfl ?_
      obtain rfl := Option.some.inj h
      replace h := hO5
      clear hO5
      try dsimp only at h
      refine T.exit (X.exs (X.exs (X.ex (X.seq (T.seq (T.region rfl ?_))))))
      refine TL.run ft_cursitorref14_ok [0] rfl rfl ?_
      refine TL.q rfl .u (Ex.lenB rfl Try.runUnderlying9) rfl ?_
      refine TL.run ft_cursitorref14_ok [2] rfl rfl ?_
      refine TL.q rfl .u (Ex.lenB rfl Try.runUnderlying9) rfl ?_
      refine TL.run ft_cursitorref14_ok [4, 5] rfl rfl ?_
      by_cases c20 : (a0.length : Int) < (a1.length : Int)
      · replace h := ifT c20 h
        obtain rfl := Option.some.inj h
        exact TL.nil (X.seq (T.ret (X.done1 [0] Try.results96 (RV.tm (v := .bool true) (congrArg (fun b => some (Value.bool b)) (decide_eq_true c20))) ⟨rfl, rfl, rfl⟩ (by rfl) (.inl rfl))))
      · replace h := ifF c20 h
        obtain rfl := Option.some.inj h
        exact TL.nil (X.seq (T.ret (X.done1 [0] Try.results96 (RV.tm (v := .bool false) (congrArg (fun b => some (Value.bool b)) (decide_eq_false c20))) ⟨rfl, rfl, rfl⟩ (by rfl) (.inl rfl))))
def f_r14_Rise_l2 (x13 : Top) : Nat → Bool → Nat → Option (Lp Bool (Bool × Nat))
  | 0, _, _ => none
  | m39 + 1, y34, k35 => if (k35 : Int) < (x13.fParts.length : Int) then ((x13.fParts[k35]?).bind fun x44 => if x44 < 0 then some (Lp.ret false) else (if x44 > 2147483647 then some (Lp.ret false) else (if (k35 : Int) > 0 then (if -9223372036854775808 ≤ ((k35 : Int) - 1) ∧ ((k35 : Int) - 1) ≤ 9223372036854775807 then (if 0 ≤ ((k35 : Int) - 1) then ((x13.fParts[((k35 : Int) - 1).toNat]?).bind fun x52 => if x52 ≥ x44 then some (Lp.ret false) else (if -9223372036854775808 ≤ ((k35 : Int) + 1) ∧ ((k35 : Int) + 1) ≤ 9223372036854775807 then (f_r14_Rise_l2 x13 m39 y34 (k35 + 1)) else none)) else none) else none) else (if -9223372036854775808 ≤ ((k35 : Int) + 1) ∧ ((k35 : Int) + 1) ≤ 9223372036854775807 then (f_r14_Rise_l2 x13 m39 y34 (k35 + 1)) else none)))) else (some (Lp.go (y34, k35)))
def f_r14_Rise_l3 (x13 : Top) : Nat → Bool → Nat → Option (Lp Bool (Bool × Nat))
  | 0, _, _ => none
  | m67 + 1, y62, k63 => if (k63 : Int) < (x13.fParts.length : Int) then ((x13.fParts[k63]?).bind fun x72 => if x72 < 0 then some (Lp.ret false) else (if x72 > 2147483647 then some (Lp.ret false) else (if (k63 : Int) > 0 then (if -9223372036854775808 ≤ ((k63 : Int) - 1) ∧ ((k63 : Int) - 1) ≤ 9223372036854775807 then (if 0 ≤ ((k63 : Int) - 1) then ((x13.fParts[((k63 : Int) - 1).toNat]?).bind fun x80 => if x80 ≥ x72 then some (Lp.ret false) else (if -9223372036854775808 ≤ ((k63 : Int) + 1) ∧ ((k63 : Int) + 1) ≤ 9223372036854775807 then (f_r14_Rise_l3 x13 m67 y62 (k63 + 1)) else none)) else none) else none) else (if -9223372036854775808 ≤ ((k63 : Int) + 1) ∧ ((k63 : Int) + 1) ≤ 9223372036854775807 then (f_r14_Rise_l3 x13 m67 y62 (k63 + 1)) else none)))) else (some (Lp.go (y62, k63)))
def f_r14_Rise_l1 (a0 : List Top) : Nat → Bool → Nat → Option (Lp Bool (Bool × Nat))
  | 0, _, _ => none
  | m8 + 1, y3, k4 => if (k4 : Int) < (a0.length : Int) then ((a0[k4]?).bind fun x13 => if (x13.fName.length : Int) < 1 then some (Lp.ret false) else (if (x13.fName.length : Int) > 32767 then some (Lp.ret false) else (if (x13.fParts.length : Int) < 1 then some (Lp.ret false) else (if (k4 : Int) > 0 then (if -9223372036854775808 ≤ ((k4 : Int) - 1) ∧ ((k4 : Int) - 1) ≤ 9223372036854775807 then (if 0 ≤ ((k4 : Int) - 1) then ((a0[((k4 : Int) - 1).toNat]?).bind fun x25 => (f_r14_less x25.fName x13.fName).bind fun x31 => if x31 = true then ((f_r14_Rise_l2 x13 (((x13.fParts.length : Int)).toNat + 1) y3 0).bind fun e => match e with | .ret r => some (Lp.ret r) | .go (y59, k60) => (if -9223372036854775808 ≤ ((k4 : Int) + 1) ∧ ((k4 : Int) + 1) ≤ 9223372036854775807 then (f_r14_Rise_l1 a0 m8 y59 (k4 + 1)) else none)) else some (Lp.ret false)) else none) else none) else ((f_r14_Rise_l3 x13 (((x13.fParts.length : Int)).toNat + 1) y3 0).bind fun e => match e with | .ret r => some (Lp.ret r) | .go (y87, k88) => (if -9223372036854775808 ≤ ((k4 : Int) + 1) ∧ ((k4 : Int) + 1) ≤ 9223372036854775807 then (f_r14_Rise_l1 a0 m8 y87 (k4 + 1)) else none)))))) else (some (Lp.go (y3, k4)))
theorem f_r14_Rise_l1_z (a0 : List Top) (u1 : Bool) (u2 : Nat) : f_r14_Rise_l1 a0 0 u1 u2 = none := rfl
theorem f_r14_Rise_l1_s (a0 : List Top) (m8 : Nat) (y3 : Bool) (k4 : Nat) : f_r14_Rise_l1 a0 (m8 + 1) y3 k4 = (if (k4 : Int) < (a0.length : Int) then ((a0[k4]?).bind fun x13 => if (x13.fName.length : Int) < 1 then some (Lp.ret false) else (if (x13.fName.length : Int) > 32767 then some (Lp.ret false) else (if (x13.fParts.length : Int) < 1 then some (Lp.ret false) else (if (k4 : Int) > 0 then (if -9223372036854775808 ≤ ((k4 : Int) - 1) ∧ ((k4 : Int) - 1) ≤ 9223372036854775807 then (if 0 ≤ ((k4 : Int) - 1) then ((a0[((k4 : Int) - 1).toNat]?).bind fun x25 => (f_r14_less x25.fName x13.fName).bind fun x31 => if x31 = true then ((f_r14_Rise_l2 x13 (((x13.fParts.length : Int)).toNat + 1) y3 0).bind fun e => match e with | .ret r => some (Lp.ret r) | .go (y59, k60) => (if -9223372036854775808 ≤ ((k4 : Int) + 1) ∧ ((k4 : Int) + 1) ≤ 9223372036854775807 then (f_r14_Rise_l1 a0 m8 y59 (k4 + 1)) else none)) else some (Lp.ret false)) else none) else none) else ((f_r14_Rise_l3 x13 (((x13.fParts.length : Int)).toNat + 1) y3 0).bind fun e => match e with | .ret r => some (Lp.ret r) | .go (y87, k88) => (if -9223372036854775808 ≤ ((k4 : Int) + 1) ∧ ((k4 : Int) + 1) ≤ 9223372036854775807 then (f_r14_Rise_l1 a0 m8 y87 (k4 + 1)) else none)))))) else (some (Lp.go (y3, k4)))) := rfl
def f_r14_Rise (a0 : List Top) : Option (Bool) := (f_r14_Rise_l1 a0 (((a0.length : Int)).toNat + 1) false 0).bind fun e => match e with | .ret r => some r | .go (y90, k91) => some true
set_option maxRecDepth 100000 in
set_option maxHeartbeats 4000000 in
theorem f_r14_Rise_spec (a0 : List Top) (A1 : Option Addr) (c2 : Nat) (r : Bool) (h : f_r14_Rise a0 = some r) : SpecX Try.prog 67 #[.slice A1 a0.length c2] (RX.of (sliceRd 2 Top_rd) [.slice A1 a0.length c2] a0) (EmpR) (fun v A' N => v = .bool r ∧ A' = EmpR ∧ N = []) := by
  refine enterA Try.func67 rfl Try.ntmps67 rfl ?_
  intro F w hX
  unfold f_r14_Rise at h
  refine T.seq (T.region rfl ?_)
  refine TL.run ft_cursitorref14_ok [0] rfl rfl ?_
  refine TL.nil (X.seq (T.seq (T.seq (T.region rfl ?_))))
  refine TL.run ft_cursitorref14_ok [0] rfl rfl ?_
  refine TL.nil (X.seq (T.block ?_))
  obtain ⟨E5, hE6, hO7⟩ := Option.bind_eq_some_iff.1 h
  refine T.lp (fun m e Rs => ∃ (y3 : Bool) (k4 : Nat), e = [(0, .slice A1 a0.length c2), (2, .bool y3), (3, .int .i64 (k4 : Int))] ∧ Rs = [EmpR] ∧ f_r14_Rise_l1 a0 m y3 k4 = some E5) (((a0.length : Int)).toNat + 1) [0] ⟨false, 0, rfl, rfl, by exact hE6⟩ (by rfl) (by rfl) ?_
  rintro m8 _ _ ⟨y3, k4, rfl, rfl, hl10⟩
  clear hE6 h
  cases m8 with
  | zero =>
    rw [f_r14_Rise_l1_z] at hl10
    cases hl10
  | succ m8 =>
    have h := hl10
    clear hl10
    rw [f_r14_Rise_l1_s] at h
    refine T.seq (T.seq (T.region rfl ?_))
    refine TL.run ft_cursitorref14_ok [0, 1] rfl rfl ?_
    refine TL.q rfl .u (Ex.lenS rfl Try.runUnderlying106) rfl ?_
    refine TL.run ft_cursitorref14_ok [3] rfl rfl ?_
    by_cases c12 : (k4 : Int) < (a0.length : Int)
    · replace h := ifT c12 h
      refine TL.nil (X.seq ?_)
      refine T.yes rfl (decide_eq_true c12) ?_
      refine T.skip (X.seq (T.seq (T.block (T.seq (T.seq (T.region rfl ?_))))))
      obtain ⟨x13, hx14, h⟩ := Option.bind_eq_some_iff.1 h
      obtain ⟨gz15, oz15, rfl, z15cs, z15cl, z15cc, z15nf, z15r⟩ := RX.elem (by decide) hX hx14
      obtain ⟨z15S, z15r, z15rr⟩ := z15r
      obtain ⟨A16, c17, rfl, z15s0⟩ := z15r
      have hX18 : (RX.of (sliceRd 1 intE) [.slice A16 x13.fParts.length c17] x13.fParts).reads w F := ⟨z15S, z15s0, z15rr⟩
      refine TL.run ft_cursitorref14_ok [0, 1] rfl rfl ?_
      refine TL.q rfl .u (Ex.ixS (k := k4) rfl rfl rfl Try.runUnderlying106 Try.sizeOf153 (List.getElem?_eq_some_iff.1 hx14).1) rfl ?_
      refine TL.run ft_cursitorref14_ok [3] rfl rfl ?_
      refine TL.q rfl .u (Ex.o1 0 rfl Try.isAgg9 z15nf z15cc rfl rfl) rfl ?_
      refine TL.q rfl .u (Ex.lenB rfl Try.runUnderlying9) rfl ?_
      by_cases c19 : (x13.fName.length : Int) < 1
      · replace h := ifT c19 h
        refine TL.run ft_cursitorref14_ok [6, 7] rfl rfl ?_
        refine TL.no rfl (.gn rfl rfl (decide_eq_true c19)) rfl ?_
        refine TL.no rfl (.gn rfl rfl (decide_eq_true c19)) rfl ?_
        refine TL.no rfl (.gn rfl rfl (decide_eq_true c19)) rfl ?_
        refine TL.no rfl (.gn rfl rfl (decide_eq_true c19)) rfl ?_
        refine TL.no rfl (.gn rfl rfl (decide_eq_true c19)) rfl ?_
        refine TL.no rfl (.gn rfl rfl (decide_eq_true c19)) rfl ?_
        refine TL.no rfl (.gn rfl rfl (decide_eq_true c19)) rfl ?_
        refine TL.q rfl .u (Ex.py rfl (decide_eq_true c19) rfl) rfl ?_
        refine TL.run ft_cursitorref14_ok [16] rfl rfl ?_
        refine TL.no rfl (.gn rfl rfl rfl) rfl ?_
        refine TL.no rfl (.gn rfl rfl rfl) rfl ?_
        refine TL.no rfl (.gn rfl rfl rfl) rfl ?_
        refine TL.no rfl (.gn rfl rfl rfl) rfl ?_
        refine TL.no rfl (.gn rfl rfl rfl) rfl ?_
        refine TL.no rfl (.gn rfl rfl rfl) rfl ?_
        refine TL.no rfl (.gn rfl rfl rfl) rfl ?_
        refine TL.q rfl .u (Ex.py rfl rfl rfl) rfl ?_
        refine TL.nil (X.seq ?_)
        refine T.yes rfl rfl ?_
        refine T.seq (T.region rfl ?_)
        refine TL.run ft_cursitorref14_ok [0] rfl rfl ?_
        obtain rfl := Option.some.inj h
        replace h := hO7
        clear hO7
        try dsimp only at h
        obtain rfl := Option.some.inj h
        exact TL.nil (X.seq (T.ret (X.rs (X.rb (X.rs (X.rs (X.rb (X.rs (X.done1 [0] Try.results67 (RV.tm rfl) ⟨rfl, rfl, rfl⟩ (by rfl) (.inl rfl))))))))))
      · replace h := ifF c19 h
        refine TL.run ft_cursitorref14_ok [6, 7] rfl rfl ?_
        refine TL.q rfl (.g rfl rfl (decide_eq_false c19)) (Ex.ft ft_cursitorref14_ok rfl) rfl ?_
        refine TL.q rfl (.g rfl rfl (decide_eq_false c19)) (Ex.ft ft_cursitorref14_ok rfl) rfl ?_
        refine TL.q rfl (.g rfl rfl (decide_eq_false c19)) (Ex.ixS (k := k4) rfl rfl rfl Try.runUnderlying106 Try.sizeOf153 (List.getElem?_eq_some_iff.1 hx14).1) rfl ?_
        refine TL.q rfl (.g rfl rfl (decide_eq_false c19)) (Ex.ft ft_cursitorref14_ok rfl) rfl ?_
        refine TL.q rfl (.g rfl rfl (decide_eq_false c19)) (Ex.o1 0 rfl Try.isAgg9 z15nf z15cc rfl rfl) rfl ?_
        refine TL.q rfl (.g rfl rfl (decide_eq_false c19)) (Ex.lenB rfl Try.runUnderlying9) rfl ?_
        refine TL.q rfl (.g rfl rfl (decide_eq_false c19)) (Ex.ft ft_cursitorref14_ok rfl) rfl ?_
        refine TL.q rfl .u (Ex.pn rfl (decide_eq_false c19) rfl) rfl ?_
        by_cases c20 : (x13.fName.length : Int) > 32767
        · replace h := ifT c20 h
          refine TL.run ft_cursitorref14_ok [16] rfl rfl ?_
          refine TL.no rfl (.gn rfl rfl (decide_eq_true c20)) rfl ?_
          refine TL.no rfl (.gn rfl rfl (decide_eq_true c20)) rfl ?_
          refine TL.no rfl (.gn rfl rfl (decide_eq_true c20)) rfl ?_
          refine TL.no rfl (.gn rfl rfl (decide_eq_true c20)) rfl ?_
          refine TL.no rfl (.gn rfl rfl (decide_eq_true c20)) rfl ?_
          refine TL.no rfl (.gn rfl rfl (decide_eq_true c20)) rfl ?_
          refine TL.no rfl (.gn rfl rfl (decide_eq_true c20)) rfl ?_
          refine TL.q rfl .u (Ex.py rfl (decide_eq_true c20) rfl) rfl ?_
          refine TL.nil (X.seq ?_)
          refine T.yes rfl rfl ?_
          refine T.seq (T.region rfl ?_)
          refine TL.run ft_cursitorref14_ok [0] rfl rfl ?_
          obtain rfl := Option.some.inj h
          replace h := hO7
          clear hO7
          try dsimp only at h
          obtain rfl := Option.some.inj h
          exact TL.nil (X.seq (T.ret (X.rs (X.rb (X.rs (X.rs (X.rb (X.rs (X.done1 [0] Try.results67 (RV.tm rfl) ⟨rfl, rfl, rfl⟩ (by rfl) (.inl rfl))))))))))
        · replace h := ifF c20 h
          refine TL.run ft_cursitorref14_ok [16] rfl rfl ?_
          refine TL.q rfl (.g rfl rfl (decide_eq_false c20)) (Ex.ft ft_cursitorref14_ok rfl) rfl ?_
          refine TL.q rfl (.g rfl rfl (decide_eq_false c20)) (Ex.ft ft_cursitorref14_ok rfl) rfl ?_
          refine TL.q rfl (.g rfl rfl (decide_eq_false c20)) (Ex.ixS (k := k4) rfl rfl rfl Try.runUnderlying106 Try.sizeOf153 (List.getElem?_eq_some_iff.1 hx14).1) rfl ?_
          refine TL.q rfl (.g rfl rfl (decide_eq_false c20)) (Ex.ft ft_cursitorref14_ok rfl) rfl ?_
          refine TL.q rfl (.g rfl rfl (decide_eq_false c20)) (Ex.o1 1 rfl Try.isAgg25 z15nf z15cc rfl rfl) rfl ?_
          refine TL.q rfl (.g rfl rfl (decide_eq_false c20)) (Ex.lenS rfl Try.runUnderlying25) rfl ?_
          refine TL.q rfl (.g rfl rfl (decide_eq_false c20)) (Ex.ft ft_cursitorref14_ok rfl) rfl ?_
          refine TL.q rfl .u (Ex.pn rfl (decide_eq_false c20) rfl) rfl ?_
          by_cases c21 : (x13.fParts.length : Int) < 1
          · replace h := ifT c21 h
            refine TL.nil (X.seq ?_)
            refine T.yes rfl (decide_eq_true c21) ?_
            refine T.seq (T.region rfl ?_)
            refine TL.run ft_cursitorref14_ok [0] rfl rfl ?_
            obtain rfl := Option.some.inj h
            replace h := hO7
            clear hO7
            try dsimp only at h
            obtain rfl := Option.some.inj h
            exact TL.nil (X.seq (T.ret (X.rs (X.rb (X.rs (X.rs (X.rb (X.rs (X.done1 [0] Try.results67 (RV.tm rfl) ⟨rfl, rfl, rfl⟩ (by rfl) (.inl rfl))))))))))
          · replace h := ifF c21 h
            refine TL.nil (X.seq ?_)
            refine T.no rfl (decide_eq_false c21) ?_
            refine T.skip (X.seq (T.seq (T.seq (T.draw (.q 0 (.q 1 (.q 2 (.q 3 (.q 4 (.q 5 (.q 6 (.q 7 (.q 8 (.q 9 (.q 10 (.q 11 (.q 12 (.q 13 (.e 14 (.q 15 (.q 16 .nil))))))))))))))))) [0] rfl mix_cursitorref14 (NoP.seq (NoP.seq (NoP.blk (NoP.seq (NoP.seq (NoP.blk (NoP.seq np_post))))))) (by kernel_rfl) ?_))))
            by_cases c22 : (k4 : Int) > 0
            · replace h := ifT c22 h
              refine TD.run ft_cursitorref14_ok [0, 1, 2] rfl rfl ?_
              refine TD.q rfl (.g rfl rfl (decide_eq_true c22)) (Ex.ft ft_cursitorref14_ok rfl) rfl ?_
              refine TD.q rfl (.g rfl rfl (decide_eq_true c22)) (Ex.ft ft_cursitorref14_ok rfl) rfl ?_
              replace h := guard_some h
              obtain ⟨c23, h⟩ := h
              refine TD.q rfl (.g rfl rfl (decide_eq_true c22)) (Ex.sub rfl rfl c23) rfl ?_
              replace h := guard_some h
              obtain ⟨c24, h⟩ := h
              obtain ⟨x25, hx26, h⟩ := Option.bind_eq_some_iff.1 h
              obtain ⟨z27cs, z27cl, z27cc, z27nf, z27r⟩ := RX.elem' (by decide) hX hx26
              obtain ⟨z27S, z27r, z27rr⟩ := z27r
              obtain ⟨A28, c29, rfl, z27s0⟩ := z27r
              have hX30 : (RX.of (sliceRd 1 intE) [.slice A28 x25.fParts.length c29] x25.fParts).reads w F := ⟨z27S, z27s0, z27rr⟩
              refine TD.q rfl (.g rfl rfl (decide_eq_true c22)) (Ex.ixS (k := ((k4 : Int) - 1).toNat) rfl rfl ((Int.toNat_of_nonneg c24).symm) Try.runUnderlying106 Try.sizeOf153 (List.getElem?_eq_some_iff.1 hx26).1) rfl ?_
              refine TD.q rfl (.g rfl rfl (decide_eq_true c22)) (Ex.ft ft_cursitorref14_ok rfl) rfl ?_
              refine TD.q rfl (.g rfl rfl (decide_eq_true c22)) (Ex.o1 0 rfl Try.isAgg9 z27nf z27cc rfl rfl) rfl ?_
              refine TD.q rfl (.g rfl rfl (decide_eq_true c22)) (Ex.ft ft_cursitorref14_ok rfl) rfl ?_
              refine TD.q rfl (.g rfl rfl (decide_eq_true c22)) (Ex.ft ft_cursitorref14_ok rfl) rfl ?_
              refine TD.q rfl (.g rfl rfl (decide_eq_true c22)) (Ex.ixS (k := k4) rfl rfl rfl Try.runUnderlying106 Try.sizeOf153 (List.getElem?_eq_some_iff.1 hx14).1) rfl ?_
              refine TD.q rfl (.g rfl rfl (decide_eq_true c22)) (Ex.ft ft_cursitorref14_ok rfl) rfl ?_
              refine TD.q rfl (.g rfl rfl (decide_eq_true c22)) (Ex.o1 0 rfl Try.isAgg9 z15nf z15cc rfl rfl) rfl ?_
              obtain ⟨x31, hx32, h⟩ := Option.bind_eq_some_iff.1 h
              refine TD.ce rfl (.g rfl rfl (decide_eq_true c22)) (.fn Try.call96 rfl) (f_r14_less_spec x25.fName x13.fName _ hx32) (fun _ hs => (RX.reads_triv _ _)) rfl [0] (rfl) ?_
              refine TD.q rfl (.g rfl rfl (decide_eq_true c22)) (Ex.ft ft_cursitorref14_ok rfl) rfl ?_
              refine TD.q rfl .u (Ex.py rfl (decide_eq_true c22) rfl) rfl ?_
              by_cases c33 : x31 = true
              · replace h := ifT c33 h
                refine TD.nil (X.seq ?_)
                refine T.no rfl (bn_f c33) ?_
                refine T.skip (X.seq (T.seq (T.region rfl ?_)))
                refine TL.run ft_cursitorref14_ok [0] rfl rfl ?_
                refine TL.nil (X.seq (T.block ?_))
                obtain ⟨E36, hE37, hO38⟩ := Option.bind_eq_some_iff.1 h
                refine T.lp (fun m e Rs => ∃ (y34 : Bool) (k35 : Nat), e = [(0, .slice (some ⟨gz15, oz15, none⟩) a0.length c2), (2, .bool y34), (3, .int .i64 (k4 : Int)), (4, .int .i64 (k35 : Int))] ∧ Rs = [EmpR] ∧ f_r14_Rise_l2 x13 m y34 k35 = some E36) (((x13.fParts.length : Int)).toNat + 1) [0] ⟨y3, 0, rfl, rfl, by exact hE37⟩ (by rfl) (by rfl) ?_
                rintro m39 _ _ ⟨y34, k35, rfl, rfl, hl41⟩
                clear hE37 h
                cases m39 with
                | zero =>
                  rw [f_r14_Rise_l2] at hl41
                  cases hl41
                | succ m39 =>
                  have h := hl41
                  clear hl41
                  rw [f_r14_Rise_l2] at h
                  refine T.seq (T.seq (T.region rfl ?_))
                  refine TL.run ft_cursitorref14_ok [0, 1, 2] rfl rfl ?_
                  refine TL.q rfl .u (Ex.ixS (k := k4) rfl rfl rfl Try.runUnderlying106 Try.sizeOf153 (List.getElem?_eq_some_iff.1 hx14).1) rfl ?_
                  refine TL.run ft_cursitorref14_ok [4] rfl rfl ?_
                  refine TL.q rfl .u (Ex.o1 1 rfl Try.isAgg25 z15nf z15cc rfl rfl) rfl ?_
                  refine TL.q rfl .u (Ex.lenS rfl Try.runUnderlying25) rfl ?_
                  refine TL.run ft_cursitorref14_ok [7] rfl rfl ?_
                  by_cases c43 : (k35 : Int) < (x13.fParts.length : Int)
                  · replace h := ifT c43 h
                    refine TL.nil (X.seq ?_)
                    refine T.yes rfl (decide_eq_true c43) ?_
                    refine T.skip (X.seq (T.seq (T.block (T.seq (T.region rfl ?_)))))
                    refine TL.run ft_cursitorref14_ok [0, 1] rfl rfl ?_
                    refine TL.q rfl .u (Ex.ixS (k := k4) rfl rfl rfl Try.runUnderlying106 Try.sizeOf153 (List.getElem?_eq_some_iff.1 hx14).1) rfl ?_
                    refine TL.run ft_cursitorref14_ok [3] rfl rfl ?_
                    refine TL.q rfl .u (Ex.o1 1 rfl Try.isAgg25 z15nf z15cc rfl rfl) rfl ?_
                    obtain ⟨x44, hx45, h⟩ := Option.bind_eq_some_iff.1 h
                    obtain ⟨gz46, oz46, rfl, z46cs, z46cl, z46cc, z46nf, z46r⟩ := RX.elem (by decide) hX18 hx45
                    obtain ⟨z46S, z46r, z46rr⟩ := z46r
                    obtain rfl : z46cs = [.int .i64 x44] := z46r
                    refine TL.run ft_cursitorref14_ok [5] rfl rfl ?_
                    refine TL.q rfl .u (Ex.ixS (k := k35) rfl rfl rfl Try.runUnderlying25 Try.sizeOf3 (List.getElem?_eq_some_iff.1 hx45).1) rfl ?_
                    refine TL.q rfl .u (Ex.o1 0 rfl Try.isAgg3 z46nf z46cc rfl rfl) rfl ?_
                    refine TL.run ft_cursitorref14_ok [8] rfl rfl ?_
                    refine TL.nil (X.seq (T.seq (T.region rfl ?_)))
                    by_cases c47 : x44 < 0
                    · replace h := ifT c47 h
                      refine TL.run ft_cursitorref14_ok [0, 1, 2] rfl rfl ?_
                      refine TL.no rfl (.gn rfl rfl (decide_eq_true c47)) rfl ?_
                      refine TL.no rfl (.gn rfl rfl (decide_eq_true c47)) rfl ?_
                      refine TL.q rfl .u (Ex.py rfl (decide_eq_true c47) rfl) rfl ?_
                      refine TL.run ft_cursitorref14_ok [6] rfl rfl ?_
                      refine TL.no rfl (.gn rfl rfl rfl) rfl ?_
                      refine TL.no rfl (.gn rfl rfl rfl) rfl ?_
                      refine TL.no rfl (.gn rfl rfl rfl) rfl ?_
                      refine TL.no rfl (.gu rfl rfl) rfl ?_
                      refine TL.no rfl (.gu rfl rfl) rfl ?_
                      refine TL.no rfl (.gu rfl rfl) rfl ?_
                      refine TL.no rfl (.gu rfl rfl) rfl ?_
                      refine TL.no rfl (.gu rfl rfl) rfl ?_
                      refine TL.no rfl (.gu rfl rfl) rfl ?_
                      refine TL.no rfl (.gu rfl rfl) rfl ?_
                      refine TL.no rfl (.gu rfl rfl) rfl ?_
                      refine TL.no rfl (.gu rfl rfl) rfl ?_
                      refine TL.no rfl (.gu rfl rfl) rfl ?_
                      refine TL.no rfl (.gu rfl rfl) rfl ?_
                      refine TL.no rfl (.gn rfl rfl rfl) rfl ?_
                      refine TL.q rfl .u (Ex.py rfl rfl rfl) rfl ?_
                      refine TL.nil (X.seq ?_)
                      refine T.yes rfl rfl ?_
                      refine T.seq (T.region rfl ?_)
                      refine TL.run ft_cursitorref14_ok [0] rfl rfl ?_
                      obtain rfl := Option.some.inj h
                      replace h := hO38
                      clear hO38
                      try dsimp only at h
                      obtain rfl := Option.some.inj h
                      replace h := hO7
                      clear hO7
                      try dsimp only at h
                      obtain rfl := Option.some.inj h
                      exact TL.nil (X.seq (T.ret (X.rb (X.rs (X.rs (X.rb (X.rb (X.rs (X.rs (X.rb (X.rs (X.done1 [0] Try.results67 (RV.tm rfl) ⟨rfl, rfl, rfl⟩ (by rfl) (.inl rfl)))))))))))))
                    · replace h := ifF c47 h
                      refine TL.run ft_cursitorref14_ok [0, 1, 2] rfl rfl ?_
                      refine TL.q rfl (.g rfl rfl (decide_eq_false c47)) (Ex.ft ft_cursitorref14_ok rfl) rfl ?_
                      refine TL.q rfl (.g rfl rfl (decide_eq_false c47)) (Ex.ft ft_cursitorref14_ok rfl) rfl ?_
                      refine TL.q rfl .u (Ex.pn rfl (decide_eq_false c47) rfl) rfl ?_
                      by_cases c48 : x44 > 2147483647
                      · replace h := ifT c48 h
                        refine TL.run ft_cursitorref14_ok [6] rfl rfl ?_
                        refine TL.no rfl (.gn rfl rfl (decide_eq_true c48)) rfl ?_
                        refine TL.no rfl (.gn rfl rfl (decide_eq_true c48)) rfl ?_
                        refine TL.no rfl (.gn rfl rfl (decide_eq_true c48)) rfl ?_
                        refine TL.no rfl (.gu rfl rfl) rfl ?_
                        refine TL.no rfl (.gu rfl rfl) rfl ?_
                        refine TL.no rfl (.gu rfl rfl) rfl ?_
                        refine TL.no rfl (.gu rfl rfl) rfl ?_
                        refine TL.no rfl (.gu rfl rfl) rfl ?_
                        refine TL.no rfl (.gu rfl rfl) rfl ?_
                        refine TL.no rfl (.gu rfl rfl) rfl ?_
                        refine TL.no rfl (.gu rfl rfl) rfl ?_
                        refine TL.no rfl (.gu rfl rfl) rfl ?_
                        refine TL.no rfl (.gu rfl rfl) rfl ?_
                        refine TL.no rfl (.gu rfl rfl) rfl ?_
                        refine TL.no rfl (.gn rfl rfl (decide_eq_true c48)) rfl ?_
                        refine TL.q rfl .u (Ex.py rfl (decide_eq_true c48) rfl) rfl ?_
                        refine TL.nil (X.seq ?_)
                        refine T.yes rfl rfl ?_
                        refine T.seq (T.region rfl ?_)
                        refine TL.run ft_cursitorref14_ok [0] rfl rfl ?_
                        obtain rfl := Option.some.inj h
                        replace h := hO38
                        clear hO38
                        try dsimp only at h
                        obtain rfl := Option.some.inj h
                        replace h := hO7
                        clear hO7
                        try dsimp only at h
                        obtain rfl := Option.some.inj h
                        exact TL.nil (X.seq (T.ret (X.rb (X.rs (X.rs (X.rb (X.rb (X.rs (X.rs (X.rb (X.rs (X.done1 [0] Try.results67 (RV.tm rfl) ⟨rfl, rfl, rfl⟩ (by rfl) (.inl rfl)))))))))))))
                      · replace h := ifF c48 h
                        refine TL.run ft_cursitorref14_ok [6] rfl rfl ?_
                        refine TL.q rfl (.g rfl rfl (decide_eq_false c48)) (Ex.ft ft_cursitorref14_ok rfl) rfl ?_
                        refine TL.q rfl (.g rfl rfl (decide_eq_false c48)) (Ex.ft ft_cursitorref14_ok rfl) rfl ?_
                        refine TL.q rfl (.g rfl rfl (decide_eq_false c48)) (Ex.ft ft_cursitorref14_ok rfl) rfl ?_
                        by_cases c49 : (k35 : Int) > 0
                        · replace h := ifT c49 h
                          refine TL.q rfl (.g rfl rfl (decide_eq_true c49)) (Ex.ft ft_cursitorref14_ok rfl) rfl ?_
                          refine TL.q rfl (.g rfl rfl (decide_eq_true c49)) (Ex.ft ft_cursitorref14_ok rfl) rfl ?_
                          refine TL.q rfl (.g rfl rfl (decide_eq_true c49)) (Ex.ixS (k := k4) rfl rfl rfl Try.runUnderlying106 Try.sizeOf153 (List.getElem?_eq_some_iff.1 hx14).1) rfl ?_
                          refine TL.q rfl (.g rfl rfl (decide_eq_true c49)) (Ex.ft ft_cursitorref14_ok rfl) rfl ?_
                          refine TL.q rfl (.g rfl rfl (decide_eq_true c49)) (Ex.o1 1 rfl Try.isAgg25 z15nf z15cc rfl rfl) rfl ?_
                          refine TL.q rfl (.g rfl rfl (decide_eq_true c49)) (Ex.ft ft_cursitorref14_ok rfl) rfl ?_
                          replace h := guard_some h
                          obtain ⟨c50, h⟩ := h
                          refine TL.q rfl (.g rfl rfl (decide_eq_true c49)) (Ex.sub rfl rfl c50) rfl ?_
                          replace h := guard_some h
                          obtain ⟨c51, h⟩ := h
                          obtain ⟨x52, hx53, h⟩ := Option.bind_eq_some_iff.1 h
                          obtain ⟨z54cs, z54cl, z54cc, z54nf, z54r⟩ := RX.elem' (by decide) hX18 hx53
                          obtain ⟨z54S, z54r, z54rr⟩ := z54r
                          obtain rfl : z54cs = [.int .i64 x52] := z54r
                          refine TL.q rfl (.g rfl rfl (decide_eq_true c49)) (Ex.ixS (k := ((k35 : Int) - 1).toNat) rfl rfl ((Int.toNat_of_nonneg c51).symm) Try.runUnderlying25 Try.sizeOf3 (List.getElem?_eq_some_iff.1 hx53).1) rfl ?_
                          refine TL.q rfl (.g rfl rfl (decide_eq_true c49)) (Ex.o1 0 rfl Try.isAgg3 z54nf z54cc rfl rfl) rfl ?_
                          refine TL.q rfl (.g rfl rfl (decide_eq_true c49)) (Ex.ft ft_cursitorref14_ok rfl) rfl ?_
                          refine TL.q rfl (.g rfl rfl (decide_eq_true c49)) (Ex.ft ft_cursitorref14_ok rfl) rfl ?_
                          refine TL.q rfl (.g rfl rfl (decide_eq_false c48)) (Ex.py rfl (decide_eq_true c49) rfl) rfl ?_
                          refine TL.q rfl .u (Ex.pn rfl (decide_eq_false c48) rfl) rfl ?_
                          by_cases c55 : x52 ≥ x44
                          · replace h := ifT c55 h
                            refine TL.nil (X.seq ?_)
                            refine T.yes rfl (decide_eq_true c55) ?_
                            refine T.seq (T.region rfl ?_)
                            refine TL.run ft_cursitorref14_ok [0] rfl rfl ?_
                            obtain rfl := Option.some.inj h
                            replace h := hO38
                            clear hO38
                            try dsimp only at h
                            obtain rfl := Option.some.inj h
                            replace h := hO7
                            clear hO7
                            try dsimp only at h
                            obtain rfl := Option.some.inj h
                            exact TL.nil (X.seq (T.ret (X.rb (X.rs (X.rs (X.rb (X.rb (X.rs (X.rs (X.rb (X.rs (X.done1 [0] Try.results67 (RV.tm rfl) ⟨rfl, rfl, rfl⟩ (by rfl) (.inl rfl)))))))))))))
                          · replace h := ifF c55 h
                            refine TL.nil (X.seq ?_)
                            refine T.no rfl (decide_eq_false c55) ?_
                            refine T.skip (X.blk (X.seq (T.region rfl ?_)))
                            replace h := guard_some h
                            obtain ⟨c56, h⟩ := h
                            refine TL.run ft_cursitorref14_ok [0] rfl rfl ?_
                            refine TL.q rfl .u (Ex.add rfl rfl c56) rfl ?_
                            refine TL.run ft_cursitorref14_ok [2] rfl rfl ?_
                            exact TL.nil (X.back (m' := m39) [0] (by omega) ⟨y34, k35 + 1, rfl, rfl, h⟩ (by rfl) (by rfl))
                        · replace h := ifF c49 h
                          refine TL.no rfl (.gn rfl rfl (decide_eq_false c49)) rfl ?_
                          refine TL.no rfl (.gn rfl rfl (decide_eq_false c49)) rfl ?_
                          refine TL.no rfl (.gn rfl rfl (decide_eq_false c49)) rfl ?_
                          refine TL.no rfl (.gn rfl rfl (decide_eq_false c49)) rfl ?_
                          refine TL.no rfl (.gn rfl rfl (decide_eq_false c49)) rfl ?_
                          refine TL.no rfl (.gn rfl rfl (decide_eq_false c49)) rfl ?_
                          refine TL.no rfl (.gn rfl rfl (decide_eq_false c49)) rfl ?_
                          refine TL.no rfl (.gn rfl rfl (decide_eq_false c49)) rfl ?_
                          refine TL.no rfl (.gn rfl rfl (decide_eq_false c49)) rfl ?_
                          refine TL.no rfl (.gn rfl rfl (decide_eq_false c49)) rfl ?_
                          refine TL.no rfl (.gn rfl rfl (decide_eq_false c49)) rfl ?_
                          refine TL.q rfl (.g rfl rfl (decide_eq_false c48)) (Ex.pn rfl (decide_eq_false c49) rfl) rfl ?_
                          refine TL.q rfl .u (Ex.pn rfl (decide_eq_false c48) rfl) rfl ?_
                          refine TL.nil (X.seq ?_)
                          refine T.no rfl rfl ?_
                          refine T.skip (X.blk (X.seq (T.region rfl ?_)))
                          replace h := guard_some h
                          obtain ⟨c57, h⟩ := h
                          refine TL.run ft_cursitorref14_ok [0] rfl rfl ?_
                          refine TL.q rfl .u (Ex.add rfl rfl c57) rfl ?_
                          refine TL.run ft_cursitorref14_ok [2] rfl rfl ?_
                          exact TL.nil (X.back (m' := m39) [0] (by omega) ⟨y34, k35 + 1, rfl, rfl, h⟩ (by rfl) (by rfl))
                  · replace h := ifF c43 h
                    refine TL.nil (X.seq ?_)
                    refine T.no rfl (decide_eq_false c43) ?_
                    obtain rfl := Option.some.inj h
                    replace h := hO38
                    clear hO38
                    try dsimp only at h
                    refine T.exit (X.exs (X.exs (X.ex (X.blk (X.seq (T.region rfl ?_))))))
                    replace h := guard_some h
                    obtain ⟨c58, h⟩ := h
                    refine TL.run ft_cursitorref14_ok [0] rfl rfl ?_
                    refine TL.q rfl .u (Ex.add rfl rfl c58) rfl ?_
                    refine TL.run ft_cursitorref14_ok [2] rfl rfl ?_
                    exact TL.nil (X.back (m' := m8) [0] (by omega) ⟨y34, k4 + 1, rfl, rfl, h⟩ (by rfl) (by rfl))
              · replace h := ifF c33 h
                replace c33 := eq_false_of_ne_true c33
                refine TD.nil (X.seq ?_)
                refine T.yes rfl (bn_t c33) ?_
                refine T.seq (T.region rfl ?_)
                refine TL.run ft_cursitorref14_ok [0] rfl rfl ?_
                obtain rfl := Option.some.inj h
                replace h := hO7
                clear hO7
                try dsimp only at h
                obtain rfl := Option.some.inj h
                exact TL.nil (X.seq (T.ret (X.rs (X.rb (X.rs (X.rs (X.rb (X.rs (X.done1 [0] Try.results67 (RV.tm rfl) ⟨rfl, rfl, rfl⟩ (by rfl) (.inl rfl))))))))))
            · replace h := ifF c22 h
              refine TD.run ft_cursitorref14_ok [0, 1, 2] rfl rfl ?_
              refine TD.no rfl (.gn rfl rfl (decide_eq_false c22)) rfl ?_
              refine TD.no rfl (.gn rfl rfl (decide_eq_false c22)) rfl ?_
              refine TD.no rfl (.gn rfl rfl (decide_eq_false c22)) rfl ?_
              refine TD.no rfl (.gn rfl rfl (decide_eq_false c22)) rfl ?_
              refine TD.no rfl (.gn rfl rfl (decide_eq_false c22)) rfl ?_
              refine TD.no rfl (.gn rfl rfl (decide_eq_false c22)) rfl ?_
              refine TD.no rfl (.gn rfl rfl (decide_eq_false c22)) rfl ?_
              refine TD.no rfl (.gn rfl rfl (decide_eq_false c22)) rfl ?_
              refine TD.no rfl (.gn rfl rfl (decide_eq_false c22)) rfl ?_
              refine TD.no rfl (.gn rfl rfl (decide_eq_false c22)) rfl ?_
              refine TD.no rfl (.gn rfl rfl (decide_eq_false c22)) rfl ?_
              refine TD.noe rfl (.gn rfl rfl (decide_eq_false c22)) rfl [0] rfl ?_
              refine TD.no rfl (.gn rfl rfl (decide_eq_false c22)) rfl ?_
              refine TD.q rfl .u (Ex.pn rfl (decide_eq_false c22) rfl) rfl ?_
              refine TD.nil (X.seq ?_)
              refine T.no rfl rfl ?_
              refine T.skip (X.seq (T.seq (T.region rfl ?_)))
              refine TL.run ft_cursitorref14_ok [0] rfl rfl ?_
              refine TL.nil (X.seq (T.block ?_))
              obtain ⟨E64, hE65, hO66⟩ := Option.bind_eq_some_iff.1 h
              refine T.lp (fun m e Rs => ∃ (y62 : Bool) (k63 : Nat), e = [(0, .slice (some ⟨gz15, oz15, none⟩) a0.length c2), (2, .bool y62), (3, .int .i64 (k4 : Int)), (4, .int .i64 (k63 : Int))] ∧ Rs = [EmpR] ∧ f_r14_Rise_l3 x13 m y62 k63 = some E64) (((x13.fParts.length : Int)).toNat + 1) [0] ⟨y3, 0, rfl, rfl, by exact hE65⟩ (by rfl) (by rfl) ?_
              rintro m67 _ _ ⟨y62, k63, rfl, rfl, hl69⟩
              clear hE65 h
              cases m67 with
              | zero =>
                rw [f_r14_Rise_l3] at hl69
                cases hl69
              | succ m67 =>
                have h := hl69
                clear hl69
                rw [f_r14_Rise_l3] at h
                refine T.seq (T.seq (T.region rfl ?_))
                refine TL.run ft_cursitorref14_ok [0, 1, 2] rfl rfl ?_
                refine TL.q rfl .u (Ex.ixS (k := k4) rfl rfl rfl Try.runUnderlying106 Try.sizeOf153 (List.getElem?_eq_some_iff.1 hx14).1) rfl ?_
                refine TL.run ft_cursitorref14_ok [4] rfl rfl ?_
                refine TL.q rfl .u (Ex.o1 1 rfl Try.isAgg25 z15nf z15cc rfl rfl) rfl ?_
                refine TL.q rfl .u (Ex.lenS rfl Try.runUnderlying25) rfl ?_
                refine TL.run ft_cursitorref14_ok [7] rfl rfl ?_
                by_cases c71 : (k63 : Int) < (x13.fParts.length : Int)
                · replace h := ifT c71 h
                  refine TL.nil (X.seq ?_)
                  refine T.yes rfl (decide_eq_true c71) ?_
                  refine T.skip (X.seq (T.seq (T.block (T.seq (T.region rfl ?_)))))
                  refine TL.run ft_cursitorref14_ok [0, 1] rfl rfl ?_
                  refine TL.q rfl .u (Ex.ixS (k := k4) rfl rfl rfl Try.runUnderlying106 Try.sizeOf153 (List.getElem?_eq_some_iff.1 hx14).1) rfl ?_
                  refine TL.run ft_cursitorref14_ok [3] rfl rfl ?_
                  refine TL.q rfl .u (Ex.o1 1 rfl Try.isAgg25 z15nf z15cc rfl rfl) rfl ?_
                  obtain ⟨x72, hx73, h⟩ := Option.bind_eq_some_iff.1 h
                  obtain ⟨gz74, oz74, rfl, z74cs, z74cl, z74cc, z74nf, z74r⟩ := RX.elem (by decide) hX18 hx73
                  obtain ⟨z74S, z74r, z74rr⟩ := z74r
                  obtain rfl : z74cs = [.int .i64 x72] := z74r
                  refine TL.run ft_cursitorref14_ok [5] rfl rfl ?_
                  refine TL.q rfl .u (Ex.ixS (k := k63) rfl rfl rfl Try.runUnderlying25 Try.sizeOf3 (List.getElem?_eq_some_iff.1 hx73).1) rfl ?_
                  refine TL.q rfl .u (Ex.o1 0 rfl Try.isAgg3 z74nf z74cc rfl rfl) rfl ?_
                  refine TL.run ft_cursitorref14_ok [8] rfl rfl ?_
                  refine TL.nil (X.seq (T.seq (T.region rfl ?_)))
                  by_cases c75 : x72 < 0
                  · replace h := ifT c75 h
                    refine TL.run ft_cursitorref14_ok [0, 1, 2] rfl rfl ?_
                    refine TL.no rfl (.gn rfl rfl (decide_eq_true c75)) rfl ?_
                    refine TL.no rfl (.gn rfl rfl (decide_eq_true c75)) rfl ?_
                    refine TL.q rfl .u (Ex.py rfl (decide_eq_true c75) rfl) rfl ?_
                    refine TL.run ft_cursitorref14_ok [6] rfl rfl ?_
                    refine TL.no rfl (.gn rfl rfl rfl) rfl ?_
                    refine TL.no rfl (.gn rfl rfl rfl) rfl ?_
                    refine TL.no rfl (.gn rfl rfl rfl) rfl ?_
                    refine TL.no rfl (.gu rfl rfl) rfl ?_
                    refine TL.no rfl (.gu rfl rfl) rfl ?_
                    refine TL.no rfl (.gu rfl rfl) rfl ?_
                    refine TL.no rfl (.gu rfl rfl) rfl ?_
                    refine TL.no rfl (.gu rfl rfl) rfl ?_
                    refine TL.no rfl (.gu rfl rfl) rfl ?_
                    refine TL.no rfl (.gu rfl rfl) rfl ?_
                    refine TL.no rfl (.gu rfl rfl) rfl ?_
                    refine TL.no rfl (.gu rfl rfl) rfl ?_
                    refine TL.no rfl (.gu rfl rfl) rfl ?_
                    refine TL.no rfl (.gu rfl rfl) rfl ?_
                    refine TL.no rfl (.gn rfl rfl rfl) rfl ?_
                    refine TL.q rfl .u (Ex.py rfl rfl rfl) rfl ?_
                    refine TL.nil (X.seq ?_)
                    refine T.yes rfl rfl ?_
                    refine T.seq (T.region rfl ?_)
                    refine TL.run ft_cursitorref14_ok [0] rfl rfl ?_
                    obtain rfl := Option.some.inj h
                    replace h := hO66
                    clear hO66
                    try dsimp only at h
                    obtain rfl := Option.some.inj h
                    replace h := hO7
                    clear hO7
                    try dsimp only at h
                    obtain rfl := Option.some.inj h
                    exact TL.nil (X.seq (T.ret (X.rb (X.rs (X.rs (X.rb (X.rb (X.rs (X.rs (X.rb (X.rs (X.done1 [0] Try.results67 (RV.tm rfl) ⟨rfl, rfl, rfl⟩ (by rfl) (.inl rfl)))))))))))))
                  · replace h := ifF c75 h
                    refine TL.run ft_cursitorref14_ok [0, 1, 2] rfl rfl ?_
                    refine TL.q rfl (.g rfl rfl (decide_eq_false c75)) (Ex.ft ft_cursitorref14_ok rfl) rfl ?_
                    refine TL.q rfl (.g rfl rfl (decide_eq_false c75)) (Ex.ft ft_cursitorref14_ok rfl) rfl ?_
                    refine TL.q rfl .u (Ex.pn rfl (decide_eq_false c75) rfl) rfl ?_
                    by_cases c76 : x72 > 2147483647
                    · replace h := ifT c76 h
                      refine TL.run ft_cursitorref14_ok [6] rfl rfl ?_
                      refine TL.no rfl (.gn rfl rfl (decide_eq_true c76)) rfl ?_
                      refine TL.no rfl (.gn rfl rfl (decide_eq_true c76)) rfl ?_
                      refine TL.no rfl (.gn rfl rfl (decide_eq_true c76)) rfl ?_
                      refine TL.no rfl (.gu rfl rfl) rfl ?_
                      refine TL.no rfl (.gu rfl rfl) rfl ?_
                      refine TL.no rfl (.gu rfl rfl) rfl ?_
                      refine TL.no rfl (.gu rfl rfl) rfl ?_
                      refine TL.no rfl (.gu rfl rfl) rfl ?_
                      refine TL.no rfl (.gu rfl rfl) rfl ?_
                      refine TL.no rfl (.gu rfl rfl) rfl ?_
                      refine TL.no rfl (.gu rfl rfl) rfl ?_
                      refine TL.no rfl (.gu rfl rfl) rfl ?_
                      refine TL.no rfl (.gu rfl rfl) rfl ?_
                      refine TL.no rfl (.gu rfl rfl) rfl ?_
                      refine TL.no rfl (.gn rfl rfl (decide_eq_true c76)) rfl ?_
                      refine TL.q rfl .u (Ex.py rfl (decide_eq_true c76) rfl) rfl ?_
                      refine TL.nil (X.seq ?_)
                      refine T.yes rfl rfl ?_
                      refine T.seq (T.region rfl ?_)
                      refine TL.run ft_cursitorref14_ok [0] rfl rfl ?_
                      obtain rfl := Option.some.inj h
                      replace h := hO66
                      clear hO66
                      try dsimp only at h
                      obtain rfl := Option.some.inj h
                      replace h := hO7
                      clear hO7
                      try dsimp only at h
                      obtain rfl := Option.some.inj h
                      exact TL.nil (X.seq (T.ret (X.rb (X.rs (X.rs (X.rb (X.rb (X.rs (X.rs (X.rb (X.rs (X.done1 [0] Try.results67 (RV.tm rfl) ⟨rfl, rfl, rfl⟩ (by rfl) (.inl rfl)))))))))))))
                    · replace h := ifF c76 h
                      refine TL.run ft_cursitorref14_ok [6] rfl rfl ?_
                      refine TL.q rfl (.g rfl rfl (decide_eq_false c76)) (Ex.ft ft_cursitorref14_ok rfl) rfl ?_
                      refine TL.q rfl (.g rfl rfl (decide_eq_false c76)) (Ex.ft ft_cursitorref14_ok rfl) rfl ?_
                      refine TL.q rfl (.g rfl rfl (decide_eq_false c76)) (Ex.ft ft_cursitorref14_ok rfl) rfl ?_
                      by_cases c77 : (k63 : Int) > 0
                      · replace h := ifT c77 h
                        refine TL.q rfl (.g rfl rfl (decide_eq_true c77)) (Ex.ft ft_cursitorref14_ok rfl) rfl ?_
                        refine TL.q rfl (.g rfl rfl (decide_eq_true c77)) (Ex.ft ft_cursitorref14_ok rfl) rfl ?_
                        refine TL.q rfl (.g rfl rfl (decide_eq_true c77)) (Ex.ixS (k := k4) rfl rfl rfl Try.runUnderlying106 Try.sizeOf153 (List.getElem?_eq_some_iff.1 hx14).1) rfl ?_
                        refine TL.q rfl (.g rfl rfl (decide_eq_true c77)) (Ex.ft ft_cursitorref14_ok rfl) rfl ?_
                        refine TL.q rfl (.g rfl rfl (decide_eq_true c77)) (Ex.o1 1 rfl Try.isAgg25 z15nf z15cc rfl rfl) rfl ?_
                        refine TL.q rfl (.g rfl rfl (decide_eq_true c77)) (Ex.ft ft_cursitorref14_ok rfl) rfl ?_
                        replace h := guard_some h
                        obtain ⟨c78, h⟩ := h
                        refine TL.q rfl (.g rfl rfl (decide_eq_true c77)) (Ex.sub rfl rfl c78) rfl ?_
                        replace h := guard_some h
                        obtain ⟨c79, h⟩ := h
                        obtain ⟨x80, hx81, h⟩ := Option.bind_eq_some_iff.1 h
                        obtain ⟨z82cs, z82cl, z82cc, z82nf, z82r⟩ := RX.elem' (by decide) hX18 hx81
                        obtain ⟨z82S, z82r, z82rr⟩ := z82r
                        obtain rfl : z82cs = [.int .i64 x80] := z82r
                        refine TL.q rfl (.g rfl rfl (decide_eq_true c77)) (Ex.ixS (k := ((k63 : Int) - 1).toNat) rfl rfl ((Int.toNat_of_nonneg c79).symm) Try.runUnderlying25 Try.sizeOf3 (List.getElem?_eq_some_iff.1 hx81).1) rfl ?_
                        refine TL.q rfl (.g rfl rfl (decide_eq_true c77)) (Ex.o1 0 rfl Try.isAgg3 z82nf z82cc rfl rfl) rfl ?_
                        refine TL.q rfl (.g rfl rfl (decide_eq_true c77)) (Ex.ft ft_cursitorref14_ok rfl) rfl ?_
                        refine TL.q rfl (.g rfl rfl (decide_eq_true c77)) (Ex.ft ft_cursitorref14_ok rfl) rfl ?_
                        refine TL.q rfl (.g rfl rfl (decide_eq_false c76)) (Ex.py rfl (decide_eq_true c77) rfl) rfl ?_
                        refine TL.q rfl .u (Ex.pn rfl (decide_eq_false c76) rfl) rfl ?_
                        by_cases c83 : x80 ≥ x72
                        · replace h := ifT c83 h
                          refine TL.nil (X.seq ?_)
                          refine T.yes rfl (decide_eq_true c83) ?_
                          refine T.seq (T.region rfl ?_)
                          refine TL.run ft_cursitorref14_ok [0] rfl rfl ?_
                          obtain rfl := Option.some.inj h
                          replace h := hO66
                          clear hO66
                          try dsimp only at h
                          obtain rfl := Option.some.inj h
                          replace h := hO7
                          clear hO7
                          try dsimp only at h
                          obtain rfl := Option.some.inj h
                          exact TL.nil (X.seq (T.ret (X.rb (X.rs (X.rs (X.rb (X.rb (X.rs (X.rs (X.rb (X.rs (X.done1 [0] Try.results67 (RV.tm rfl) ⟨rfl, rfl, rfl⟩ (by rfl) (.inl rfl)))))))))))))
                        · replace h := ifF c83 h
                          refine TL.nil (X.seq ?_)
                          refine T.no rfl (decide_eq_false c83) ?_
                          refine T.skip (X.blk (X.seq (T.region rfl ?_)))
                          replace h := guard_some h
                          obtain ⟨c84, h⟩ := h
                          refine TL.run ft_cursitorref14_ok [0] rfl rfl ?_
                          refine TL.q rfl .u (Ex.add rfl rfl c84) rfl ?_
                          refine TL.run ft_cursitorref14_ok [2] rfl rfl ?_
                          exact TL.nil (X.back (m' := m67) [0] (by omega) ⟨y62, k63 + 1, rfl, rfl, h⟩ (by rfl) (by rfl))
                      · replace h := ifF c77 h
                        refine TL.no rfl (.gn rfl rfl (decide_eq_false c77)) rfl ?_
                        refine TL.no rfl (.gn rfl rfl (decide_eq_false c77)) rfl ?_
                        refine TL.no rfl (.gn rfl rfl (decide_eq_false c77)) rfl ?_
                        refine TL.no rfl (.gn rfl rfl (decide_eq_false c77)) rfl ?_
                        refine TL.no rfl (.gn rfl rfl (decide_eq_false c77)) rfl ?_
                        refine TL.no rfl (.gn rfl rfl (decide_eq_false c77)) rfl ?_
                        refine TL.no rfl (.gn rfl rfl (decide_eq_false c77)) rfl ?_
                        refine TL.no rfl (.gn rfl rfl (decide_eq_false c77)) rfl ?_
                        refine TL.no rfl (.gn rfl rfl (decide_eq_false c77)) rfl ?_
                        refine TL.no rfl (.gn rfl rfl (decide_eq_false c77)) rfl ?_
                        refine TL.no rfl (.gn rfl rfl (decide_eq_false c77)) rfl ?_
                        refine TL.q rfl (.g rfl rfl (decide_eq_false c76)) (Ex.pn rfl (decide_eq_false c77) rfl) rfl ?_
                        refine TL.q rfl .u (Ex.pn rfl (decide_eq_false c76) rfl) rfl ?_
                        refine TL.nil (X.seq ?_)
                        refine T.no rfl rfl ?_
                        refine T.skip (X.blk (X.seq (T.region rfl ?_)))
                        replace h := guard_some h
                        obtain ⟨c85, h⟩ := h
                        refine TL.run ft_cursitorref14_ok [0] rfl rfl ?_
                        refine TL.q rfl .u (Ex.add rfl rfl c85) rfl ?_
                        refine TL.run ft_cursitorref14_ok [2] rfl rfl ?_
                        exact TL.nil (X.back (m' := m67) [0] (by omega) ⟨y62, k63 + 1, rfl, rfl, h⟩ (by rfl) (by rfl))
                · replace h := ifF c71 h
                  refine TL.nil (X.seq ?_)
                  refine T.no rfl (decide_eq_false c71) ?_
                  obtain rfl := Option.some.inj h
                  replace h := hO66
                  clear hO66
                  try dsimp only at h
                  refine T.exit (X.exs (X.exs (X.ex (X.blk (X.seq (T.region rfl ?_))))))
                  replace h := guard_some h
                  obtain ⟨c86, h⟩ := h
                  refine TL.run ft_cursitorref14_ok [0] rfl rfl ?_
                  refine TL.q rfl .u (Ex.add rfl rfl c86) rfl ?_
                  refine TL.run ft_cursitorref14_ok [2] rfl rfl ?_
                  exact TL.nil (X.back (m' := m8) [0] (by omega) ⟨y62, k4 + 1, rfl, rfl, h⟩ (by rfl) (by rfl))
    · replace h := ifF c12 h
      refine TL.nil (X.seq ?_)
      refine T.no rfl (decide_eq_false c12) ?_
      obtain rfl := Option.some.inj h
      replace h := hO7
      clear hO7
      try dsimp only at h
      refine T.exit (X.exs (X.exs (X.ex (X.seq (T.seq (T.region rfl ?_))))))
      refine TL.run ft_cursitorref14_ok [0] rfl rfl ?_
      obtain rfl := Option.some.inj h
      exact TL.nil (X.seq (T.ret (X.done1 [0] Try.results67 (RV.tm rfl) ⟨rfl, rfl, rfl⟩ (by rfl) (.inl rfl))))
end Go.Proofs.Ytpiiopppbgpbpaa.Sl
namespace Go.Proofs.Ytpiiopppbgpbpaa.Sl
open Go.RowKit
set_option linter.unusedVariables false
set_option linter.unusedSimpArgs false
theorem at_drop {α : Type} {l : List α} {k : Nat} {x : α} {t : List α} (h : l.drop k = x :: t) : l[k]? = some x ∧ l.drop (k + 1) = t ∧ l.length = k + 1 + t.length := by
  have hl := congrArg List.length h
  rw [List.length_drop, List.length_cons] at hl
  refine ⟨?_, ?_, by omega⟩
  · have := congrArg (fun z => z[0]?) h
    simpa using this
  · rw [← List.drop_drop, h]
    rfl
theorem nil_drop {α : Type} {l : List α} {k : Nat} (h : l.drop k = []) : l.length ≤ k := List.drop_eq_nil_iff.1 h
def up {α : Type} (lt : α → α → Bool) : Option α → List α → Bool
  | _, [] => true
  | none, x :: t => up lt (some x) t
  | some p, x :: t => lt p x && up lt (some x) t
def ltI (a b : Int) : Bool := decide (a < b)
theorem rint_loop (a0 : List Int) (hb : a0.length ≤ 140737488355328) : ∀ (t : List Int) (p : Int) (k fuel : Nat) (y : Bool), a0.drop k = p :: t → t.length < fuel → ∃ z, f_value_risingint_l1 a0 fuel y ((k : Int) + 1) = some (if up ltI (some p) t = true then .go (y, z) else .ret false)
  | [], p, k, fuel + 1, y, h, hf => by
    obtain ⟨h1, h2, h3⟩ := at_drop h
    refine ⟨(k : Int) + 1, ?_⟩
    rw [f_value_risingint_l1, if_neg (by simp only [List.length_nil] at h3; omega)]
    rfl
  | x :: t, p, k, fuel + 1, y, h, hf => by
    obtain ⟨h1, h2, h3⟩ := at_drop h
    obtain ⟨g1, g2, g3⟩ := at_drop h2
    rw [List.length_cons] at hf h3
    obtain ⟨z, hz⟩ := rint_loop a0 hb t x (k + 1) fuel y h2 (by omega)
    rw [f_value_risingint_l1, if_pos (by omega), if_pos (by omega), if_pos (by omega), show ((k : Int) + 1 - 1).toNat = k by omega, h1]
    rw [Option.bind_some]
    rw [if_pos (by omega), show ((k : Int) + 1).toNat = k + 1 by omega, g1]
    rw [Option.bind_some]
    by_cases hc : p < x
    · rw [if_neg (by omega), if_pos (by omega)]
      refine ⟨z, ?_⟩
      rw [show ((k : Int) + 1 + 1) = ((k + 1 : Nat) : Int) + 1 by omega, hz]
      simp only [up, ltI, hc, decide_true, Bool.true_and]
    · rw [if_pos (by omega)]
      refine ⟨0, ?_⟩
      simp only [up, ltI, hc, decide_false, Bool.false_and, Bool.false_eq_true, if_false]
theorem rint_eq (a0 : List Int) (hb : a0.length ≤ 140737488355328) : f_value_risingint a0 = some (up ltI none a0) := by
  unfold f_value_risingint
  cases a0 with
  | nil => rfl
  | cons x t =>
    obtain ⟨z, hz⟩ := rint_loop (x :: t) hb t x 0 ((((x :: t).length : Int) - 1).toNat + 1) false rfl (by simp only [List.length_cons]; omega)
    rw [show (((0 : Nat) : Int) + 1) = 1 from rfl] at hz
    rw [hz]
    simp only [up]
    cases up ltI (some x) t <;> rfl
theorem rstr_loop (a0 : List (List UInt8)) (hb : a0.length ≤ 140737488355328) : ∀ (t : List (List UInt8)) (p : List UInt8) (k fuel : Nat) (y : Bool), a0.drop k = p :: t → t.length < fuel → ∃ z, f_value_risingstring_l1 a0 fuel y ((k : Int) + 1) = some (if up Op.bytesLess (some p) t = true then .go (y, z) else .ret false)
  | [], p, k, fuel + 1, y, h, hf => by
    obtain ⟨h1, h2, h3⟩ := at_drop h
    refine ⟨(k : Int) + 1, ?_⟩
    rw [f_value_risingstring_l1, if_neg (by simp only [List.length_nil] at h3; omega)]
    rfl
  | x :: t, p, k, fuel + 1, y, h, hf => by
    obtain ⟨h1, h2, h3⟩ := at_drop h
    obtain ⟨g1, g2, g3⟩ := at_drop h2
    rw [List.length_cons] at hf h3
    obtain ⟨z, hz⟩ := rstr_loop a0 hb t x (k + 1) fuel y h2 (by omega)
    rw [f_value_risingstring_l1, if_pos (by omega), if_pos (by omega), if_pos (by omega), show ((k : Int) + 1 - 1).toNat = k by omega, h1]
    simp only [Option.bind_some]
    rw [if_pos (by omega), show ((k : Int) + 1).toNat = k + 1 by omega, g1]
    simp only [Option.bind_some]
    by_cases hc : Op.bytesLess p x = true
    · rw [if_pos hc, if_pos (by omega)]
      refine ⟨z, ?_⟩
      rw [show ((k : Int) + 1 + 1) = ((k + 1 : Nat) : Int) + 1 by omega, hz]
      simp only [up, hc, Bool.true_and]
    · rw [if_neg hc]
      refine ⟨0, ?_⟩
      simp only [up, hc, Bool.false_and, Bool.false_eq_true, if_false]
theorem rstr_eq (a0 : List (List UInt8)) (hb : a0.length ≤ 140737488355328) : f_value_risingstring a0 = some (up Op.bytesLess none a0) := by
  unfold f_value_risingstring
  cases a0 with
  | nil => rfl
  | cons x t =>
    obtain ⟨z, hz⟩ := rstr_loop (x :: t) hb t x 0 ((((x :: t).length : Int) - 1).toNat + 1) false rfl (by simp only [List.length_cons]; omega)
    rw [show (((0 : Nat) : Int) + 1) = 1 from rfl] at hz
    rw [hz]
    simp only [up]
    cases up Op.bytesLess (some x) t <;> rfl
def okn (n : Int) : Bool := decide (0 ≤ n) && decide (n ≤ 2147483647)
def okps (l : List Int) : Bool := l.all okn && up ltI none l && !l.isEmpty
def oktB (t : Top) : Bool := !t.fName.isEmpty && decide (t.fName.length ≤ 32767) && okps t.fParts
def okts (l : List Top) : Bool := l.all oktB && up Op.bytesLess none (l.map (·.fName))
theorem parts_loop (y : Bool) : ∀ l : List Int, (∀ n, n ∈ l → wI n) → f_value_parts_l1 l y = some (if l.all okn = true then .go y else .ret false)
  | [], h => rfl
  | n :: l, h => by
    have hn := h n (.head _)
    rw [f_value_parts_l1, gFits_eq _ _ hn, fits_4, List.all_cons]
    by_cases h1 : n < 0
    · have : okn n = false := by unfold okn; simp; omega
      rw [if_pos h1, this]
      rfl
    · rw [if_neg h1, Option.bind_some]
      by_cases h2 : n ≤ 2147483647
      · have : okn n = true := by unfold okn; simp; omega
        rw [if_pos (by simp; omega), parts_loop y l (fun m hm => h m (.tail _ hm)), this, Bool.true_and]
      · have : okn n = false := by unfold okn; simp; omega
        rw [if_neg (by simp; omega), this]
        rfl
theorem parts_eq (l : List Int) (hw : wL wI l) : f_value_parts l = some (okps l) := by
  unfold f_value_parts okps
  rw [parts_loop false l hw.2]
  cases hall : l.all okn with
  | false => rfl
  | true =>
    simp only [if_true, Option.bind_some, Bool.true_and]
    cases l with
    | nil => rfl
    | cons x t =>
      rw [if_pos (by simp only [List.length_cons]; omega), rint_eq _ (by have := hw.1; omega)]
      simp
theorem vtopics_loop (y : Bool) : ∀ (l : List Top) (acc : List (List UInt8)), (∀ t, t ∈ l → wf_Top t) → acc.length + l.length ≤ 1000000 → f_value_topics_l1 l y acc = some (if l.all oktB = true then .go (y, acc ++ l.map (·.fName)) else .ret false)
  | [], acc, h, hl => by simp [f_value_topics_l1]
  | t :: l, acc, h, hl => by
    have ht := h t (.head _)
    rw [List.length_cons] at hl
    rw [f_value_topics_l1, parts_eq _ ht.2, List.all_cons]
    by_cases h1 : t.fName = []
    · have : oktB t = false := by simp [oktB, h1]
      rw [if_pos h1, this]
      rfl
    · rw [if_neg h1]
      by_cases h2 : (t.fName.length : Int) > 32767
      · have : oktB t = false := by simp [oktB, show ¬ t.fName.length ≤ 32767 by omega]
        rw [if_pos h2, this]
        rfl
      · rw [if_neg h2, Option.bind_some]
        have hne : t.fName.isEmpty = false := by cases hh : t.fName with | nil => exact absurd hh h1 | cons c u => rfl
        have ho : oktB t = okps t.fParts := by simp [oktB, hne, show t.fName.length ≤ 32767 by omega]
        rw [ho]
        cases hp : okps t.fParts with
        | false => rfl
        | true =>
          rw [if_pos rfl, if_pos (by omega), vtopics_loop y l _ (fun u hu => h u (.tail _ hu)) (by rw [List.length_append]; simp only [List.length_cons, List.length_nil]; omega), Bool.true_and, List.map_cons, List.append_assoc]
          rfl
theorem vtopics_eq (l : List Top) (hw : ∀ t, t ∈ l → wf_Top t) (hl : l.length ≤ 1000000) : f_value_topics l = some (okts l) := by
  unfold f_value_topics okts
  rw [vtopics_loop false l [] hw (by simpa using hl)]
  cases hall : l.all oktB with
  | false => rfl
  | true =>
    simp only [if_true, Option.bind_some, Bool.true_and, List.nil_append]
    rw [rstr_eq _ (by rw [List.length_map]; omega)]
    rfl
theorem less_loop (a b : List UInt8) (ha : a.length ≤ 1000000) (y : Bool) : ∀ (u v : List UInt8) (k fuel : Nat), a.drop k = u → b.drop k = v → v.length < fuel → k ≤ a.length → k ≤ b.length → (∃ r, f_r14_less_l1 a b fuel y k = some (.ret r) ∧ r = Op.bytesLess u v) ∨ (∃ z, f_r14_less_l1 a b fuel y k = some (.go z) ∧ Op.bytesLess u v = decide (a.length < b.length))
  | [], v, k, fuel + 1, hu, hv, hf, h1, h2 => by
    have := nil_drop hu
    right
    refine ⟨(y, k), by rw [f_r14_less_l1, if_neg (by omega)], ?_⟩
    cases v with
    | nil =>
      have := nil_drop hv
      simp [Op.bytesLess]
      omega
    | cons c v =>
      have := (at_drop hv).2.2
      simp [Op.bytesLess]
      omega
  | c :: u, [], k, fuel + 1, hu, hv, hf, h1, h2 => by
    have g1 := nil_drop hv
    have g2 := (at_drop hu).2.2
    right
    refine ⟨(y, k), by rw [f_r14_less_l1, if_pos (by omega), if_neg (by omega)], ?_⟩
    simp [Op.bytesLess]
    omega
  | c :: u, d :: v, k, fuel + 1, hu, hv, hf, h1, h2 => by
    obtain ⟨u1, u2, u3⟩ := at_drop hu
    obtain ⟨v1, v2, v3⟩ := at_drop hv
    rw [List.length_cons] at hf
    rw [f_r14_less_l1, if_pos (by omega), if_pos (by omega), u1, v1]
    simp only [Option.bind_some]
    by_cases hc : (c.toNat : Int) = (d.toNat : Int)
    · have hcd : c = d := UInt8.toNat_inj.1 (by omega)
      rw [if_pos hc, if_pos (by omega)]
      have := less_loop a b ha y u v (k + 1) fuel u2 v2 (by omega) (by omega) (by omega)
      have hb : Op.bytesLess (c :: u) (d :: v) = Op.bytesLess u v := by
        rw [hcd]
        simp [Op.bytesLess]
      rw [hb]
      exact this
    · rw [if_neg hc]
      left
      have hcd : c ≠ d := fun h => hc (by rw [h])
      by_cases hl : (c.toNat : Int) < (d.toNat : Int)
      · refine ⟨true, by rw [if_pos hl], ?_⟩
        have : c < d := UInt8.lt_iff_toNat_lt.2 (by omega)
        simp [Op.bytesLess, this]
      · refine ⟨false, by rw [if_neg hl], ?_⟩
        have : ¬ c < d := fun h => hl (by have := UInt8.lt_iff_toNat_lt.1 h; omega)
        simp [Op.bytesLess, this, hcd]
theorem less_eq (a b : List UInt8) (ha : a.length ≤ 1000000) : f_r14_less a b = some (Op.bytesLess a b) := by
  unfold f_r14_less
  rcases less_loop a b ha false a b 0 (((b.length : Int)).toNat + 1) rfl rfl (by omega) (Nat.zero_le _) (Nat.zero_le _) with ⟨r, h1, h2⟩ | ⟨z, h1, h2⟩
  · rw [show ((0 : Nat)) = 0 from rfl] at h1
    rw [h1, h2]
    rfl
  · rw [h1, h2]
    simp only [Option.bind_some]
    by_cases h : a.length < b.length
    · rw [if_pos (by omega)]
      simp [h]
    · rw [if_neg (by omega)]
      simp [h]
theorem rise_l3 (x : Top) : ∀ (fuel : Nat) (y : Bool) (k : Nat), f_r14_Rise_l3 x fuel y k = f_r14_Rise_l2 x fuel y k
  | 0, y, k => rfl
  | fuel + 1, y, k => by
    rw [f_r14_Rise_l3, f_r14_Rise_l2]
    simp only [rise_l3 x fuel]
theorem rise_l2 (x : Top) (hb : x.fParts.length ≤ 1000000) (y : Bool) : ∀ (t : List Int) (p : Option Int) (k fuel : Nat), x.fParts.drop k = t → t.length < fuel → (k = 0 → p = none) → (0 < k → x.fParts[k - 1]? = p ∧ p ≠ none) → ∃ z, f_r14_Rise_l2 x fuel y k = some (if (t.all okn && up ltI p t) = true then .go (y, z) else .ret false)
  | [], p, k, fuel + 1, h, hf, h0, h1 => by
    have := nil_drop h
    refine ⟨k, ?_⟩
    rw [f_r14_Rise_l2, if_neg (by omega)]
    cases p <;> rfl
  | n :: t, p, k, fuel + 1, h, hf, h0, h1 => by
    obtain ⟨g1, g2, g3⟩ := at_drop h
    rw [List.length_cons] at hf
    obtain ⟨z, hz⟩ := rise_l2 x hb y t (some n) (k + 1) fuel g2 (by omega) (fun h => absurd h (by omega)) (fun _ => ⟨g1, by simp⟩)
    rw [f_r14_Rise_l2, if_pos (by omega), g1]
    simp only [Option.bind_some]
    rw [List.all_cons]
    by_cases c1 : n < 0
    · refine ⟨0, ?_⟩
      rw [if_pos c1, if_neg]
      simp only [okn, Bool.and_eq_true, decide_eq_true_eq]
      omega
    by_cases c2 : n > 2147483647
    · refine ⟨0, ?_⟩
      rw [if_neg c1, if_pos c2, if_neg]
      simp only [okn, Bool.and_eq_true, decide_eq_true_eq]
      omega
    rw [if_neg c1, if_neg c2]
    have ho : okn n = true := by simp only [okn, Bool.and_eq_true, decide_eq_true_eq]; omega
    rcases Nat.eq_zero_or_pos k with hk | hk
    · obtain rfl := h0 hk
      refine ⟨z, ?_⟩
      rw [if_neg (by omega), if_pos (by omega), hz, ho, Bool.true_and, show up ltI none (n :: t) = up ltI (some n) t from rfl]
    · obtain ⟨e1, e2⟩ := h1 hk
      rw [if_pos (by omega), if_pos (by omega), if_pos (by omega), show ((k : Int) - 1).toNat = k - 1 by omega, e1]
      cases p with
      | none => exact absurd rfl e2
      | some q =>
        simp only [Option.bind_some]
        by_cases hc : q < n
        · refine ⟨z, ?_⟩
          rw [if_neg (by omega), if_pos (by omega), hz, ho, Bool.true_and]
          simp only [up, ltI, hc, decide_true, Bool.true_and]
        · refine ⟨0, ?_⟩
          rw [if_pos (by omega), if_neg]
          simp only [up, ltI, hc, decide_false, Bool.false_and, Bool.and_false, Bool.false_eq_true, not_false_eq_true]
theorem rise_l1 (a0 : List Top) (hb : a0.length ≤ 1000000) (hw : ∀ t, t ∈ a0 → t.fParts.length ≤ 1000000 ∧ t.fName.length ≤ 1000000) (y : Bool) : ∀ (t : List Top) (p : Option Top) (k fuel : Nat), a0.drop k = t → t.length < fuel → (k = 0 → p = none) → (0 < k → a0[k - 1]? = p ∧ p ≠ none) → ∃ z, f_r14_Rise_l1 a0 fuel y k = some (if (t.all oktB && up Op.bytesLess (p.map (·.fName)) (t.map (·.fName))) = true then .go (y, z) else .ret false)
  | [], p, k, fuel + 1, h, hf, h0, h1 => by
    have := nil_drop h
    refine ⟨k, ?_⟩
    rw [f_r14_Rise_l1, if_neg (by omega)]
    cases p <;> rfl
  | x :: t, p, k, fuel + 1, h, hf, h0, h1 => by
    obtain ⟨g1, g2, g3⟩ := at_drop h
    have hx := hw x (List.mem_of_getElem? g1)
    rw [List.length_cons] at hf
    obtain ⟨z, hz⟩ := rise_l1 a0 hb hw y t (some x) (k + 1) fuel g2 (by omega) (fun h => absurd h (by omega)) (fun _ => ⟨g1, by simp⟩)
    rw [f_r14_Rise_l1, if_pos (by omega), g1, Option.bind_some]
    rw [List.all_cons, List.map_cons]
    by_cases c1 : (x.fName.length : Int) < 1
    · refine ⟨0, ?_⟩
      have : x.fName = [] := List.length_eq_zero_iff.1 (by omega)
      rw [if_pos c1, if_neg]
      simp [oktB, this]
    by_cases c2 : (x.fName.length : Int) > 32767
    · refine ⟨0, ?_⟩
      rw [if_neg c1, if_pos c2, if_neg]
      simp [oktB, show ¬ x.fName.length ≤ 32767 by omega]
    by_cases c3 : (x.fParts.length : Int) < 1
    · refine ⟨0, ?_⟩
      have : x.fParts = [] := List.length_eq_zero_iff.1 (by omega)
      rw [if_neg c1, if_neg c2, if_pos c3, if_neg]
      simp [oktB, okps, this]
    rw [if_neg c1, if_neg c2, if_neg c3]
    have hne : x.fName.isEmpty = false := by cases hh : x.fName with | nil => rw [hh] at c1; simp at c1 | cons c u => rfl
    have hnp : x.fParts.isEmpty = false := by cases hh : x.fParts with | nil => rw [hh] at c3; simp at c3 | cons c u => rfl
    have ho : oktB x = (x.fParts.all okn && up ltI none x.fParts) := by
      simp [oktB, okps, hne, hnp, show x.fName.length ≤ 32767 by omega]
    obtain ⟨z2, hz2⟩ := rise_l2 x hx.1 y x.fParts none 0 (((x.fParts.length : Int)).toNat + 1) rfl (by omega) (fun _ => rfl) (fun h => absurd h (by omega))
    rw [ho]
    rcases Nat.eq_zero_or_pos k with hk | hk
    · obtain rfl := h0 hk
      rw [if_neg (by omega), rise_l3, hz2]
      cases hq : (x.fParts.all okn && up ltI none x.fParts) with
      | false => exact ⟨0, by simp⟩
      | true =>
        refine ⟨z, ?_⟩
        rw [if_pos rfl, Option.bind_some, Bool.true_and]
        simp only
        rw [if_pos (by omega), hz, show (none : Option Top).map (·.fName) = none from rfl, show up Op.bytesLess none (x.fName :: t.map (·.fName)) = up Op.bytesLess (some x.fName) (t.map (·.fName)) from rfl]
        rfl
    · obtain ⟨e1, e2⟩ := h1 hk
      rw [if_pos (by omega), if_pos (by omega), if_pos (by omega), show ((k : Int) - 1).toNat = k - 1 by omega, e1]
      cases p with
      | none => exact absurd rfl e2
      | some q =>
        rw [Option.bind_some]
        rw [less_eq _ _ (hw q (List.mem_of_getElem? e1)).2]
        rw [Option.bind_some, show (some q).map (·.fName) = some q.fName from rfl, show up Op.bytesLess (some q.fName) (x.fName :: t.map (·.fName)) = (Op.bytesLess q.fName x.fName && up Op.bytesLess (some x.fName) (t.map (·.fName))) from rfl]
        cases hc : Op.bytesLess q.fName x.fName with
        | false => exact ⟨0, by simp⟩
        | true =>
          rw [if_pos rfl, hz2]
          cases hq : (x.fParts.all okn && up ltI none x.fParts) with
          | false => exact ⟨0, by simp⟩
          | true =>
            refine ⟨z, ?_⟩
            rw [if_pos rfl, Option.bind_some, Bool.true_and]
            simp only
            rw [if_pos (by omega), hz]
            rfl
theorem rise_eq (a0 : List Top) (hb : a0.length ≤ 1000000) (hw : ∀ t, t ∈ a0 → t.fParts.length ≤ 1000000 ∧ t.fName.length ≤ 1000000) : f_r14_Rise a0 = some (okts a0) := by
  unfold f_r14_Rise okts
  obtain ⟨z, hz⟩ := rise_l1 a0 hb hw false a0 none 0 (((a0.length : Int)).toNat + 1) rfl (by omega) (fun _ => rfl) (fun h => absurd h (by omega))
  rw [show (none : Option Top).map (·.fName) = none from rfl] at hz
  rw [hz]
  cases (a0.all oktB && up Op.bytesLess none (a0.map (·.fName))) <;> rfl
end Go.Proofs.Ytpiiopppbgpbpaa.Sl
namespace Go.Proofs.Ytpiiopppbgpbpaa.Sl
open Go.RowKit
set_option linter.unusedVariables false
set_option linter.unusedSimpArgs false
def wT (t : Top) : Nat := t.fName.length + 4 * t.fParts.length + 6
def wTs : List Top → Nat
  | [] => 0
  | t :: l => wT t + wTs l
theorem few_loop (y : Int) : ∀ (l : List Top) (acc : Int), (∀ t, t ∈ l → wf_Top t) → 0 ≤ acc → acc ≤ 1000 → (f_l14_Few_l1 l y acc = some (.ret 0)) ∨ (∃ z, f_l14_Few_l1 l y acc = some (.go z) ∧ acc + wTs l ≤ 1000)
  | [], acc, hw, h0, h1 => .inr ⟨_, rfl, by simp [wTs]; omega⟩
  | t :: l, acc, hw, h0, h1 => by
    have ht := hw t (.head _)
    have ht1 : t.fName.length ≤ 140737488351232 := ht.1
    have ht2 : t.fParts.length ≤ 140737488351232 := ht.2.1
    rw [f_l14_Few_l1, if_pos (by omega), if_pos (by omega), if_pos (by omega), if_pos (by omega)]
    by_cases hc : (acc + (((t.fName.length : Int) + (4 * (t.fParts.length : Int))) + 6)) > 1000
    · rw [if_pos hc]
      exact .inl rfl
    · rw [if_neg hc]
      rcases few_loop y l _ (fun u hu => hw u (.tail _ hu)) (by omega) (show acc + (((t.fName.length : Int) + (4 * (t.fParts.length : Int))) + 6) ≤ 1000 by omega) with h | ⟨z, h, h2⟩
      · exact .inl h
      · exact .inr ⟨z, h, by simp only [wTs, wT]; omega⟩
theorem few_eq (l : List Top) (hw : ∀ t, t ∈ l → wf_Top t) : (f_l14_Few l = some 0) ∨ (f_l14_Few l = some 1 ∧ wTs l ≤ 1000) := by
  unfold f_l14_Few
  rcases few_loop 0 l 0 hw (by decide) (by decide) with h | ⟨z, h, h2⟩
  · exact .inl (by rw [h]; rfl)
  · exact .inr ⟨by rw [h]; rfl, by omega⟩
theorem wTs_len : ∀ l : List Top, l.length * 6 ≤ wTs l
  | [] => by simp [wTs]
  | t :: l => by have := wTs_len l; simp only [wTs, wT, List.length_cons]; omega
theorem wTs_mem : ∀ (l : List Top) (t : Top), t ∈ l → wT t ≤ wTs l
  | u :: l, t, h => by
    rcases List.mem_cons.1 h with rfl | h
    · simp only [wTs]; omega
    · have := wTs_mem l t h; simp only [wTs]; omega
end Go.Proofs.Ytpiiopppbgpbpaa.Sl
namespace Go.Proofs.Ytpiiopppbgpbpaa.Sl
open Go.RowKit
set_option linter.unusedVariables false
set_option linter.unusedSimpArgs false
theorem fits_2 (n : Int) : fits n 2 = decide (-32768 ≤ n ∧ n ≤ 32767) := by
  rw [Bool.eq_iff_iff]
  unfold fits
  simp only [Bool.and_eq_true, decide_eq_true_eq]
  have : (2 : Int) ^ (8 * (2 : Int).toNat - 1) = 32768 := by decide
  omega
def badR (v : Val) : Prop := v.fProducer < 0 ∨ v.fEpoch < 0 ∨ v.fEpoch > 32767 ∨ v.fTimeout < 0 ∨ v.fTimeout > 2147483647 ∨ v.fUpdated < 0 ∨ v.fStarted < -1
def badC (v : Val) : Prop := ¬ ((1 ≤ v.fState ∧ v.fState ≤ 3) ↔ 0 < (v.fTopics.length : Int)) ∨ ¬ (v.fState = 0 ↔ v.fStarted = -1)
open Classical in
noncomputable def chkV (v : Val) : Int := if badR v then 11 else if v.fState < 0 ∨ v.fState > 6 then 12 else if badC v then 10 else if okts v.fTopics = true then 0 else 13
set_option maxHeartbeats 4000000 in
theorem vcheck_eq (v : Val) (hw : wf_Val v) (hl : v.fTopics.length ≤ 1000000) : f_value_Check v = some (chkV v) := by
  unfold f_value_Check chkV
  rw [vtopics_eq _ hw.2.2.2.2.1.2 hl, gFits_eq _ _ hw.2.1, gFits_eq _ _ hw.2.2.1, fits_2, fits_4]
  generalize okts v.fTopics = b
  by_cases hr : badR v
  · rw [if_pos hr]
    unfold badR at hr
    by_cases c1 : v.fProducer < 0
    · rw [if_pos c1]
    rw [if_neg c1]
    by_cases c2 : v.fEpoch < 0
    · rw [if_pos c2]
    rw [if_neg c2, Option.bind_some]
    by_cases c3 : -32768 ≤ v.fEpoch ∧ v.fEpoch ≤ 32767
    · rw [if_pos (decide_eq_true c3)]
      by_cases c4 : v.fTimeout < 0
      · rw [if_pos c4]
      rw [if_neg c4, Option.bind_some]
      by_cases c5 : -2147483648 ≤ v.fTimeout ∧ v.fTimeout ≤ 2147483647
      · rw [if_pos (decide_eq_true c5)]
        by_cases c6 : v.fUpdated < 0
        · rw [if_pos c6]
        rw [if_neg c6, if_pos (by omega)]
      · rw [if_neg (by simp only [decide_eq_true_eq]; exact c5)]
    · rw [if_neg (by simp only [decide_eq_true_eq]; exact c3)]
  rw [if_neg hr]
  unfold badR at hr
  rw [if_neg (by omega), if_neg (by omega), Option.bind_some, if_pos (decide_eq_true (by omega)), if_neg (by omega), Option.bind_some, if_pos (decide_eq_true (by omega)), if_neg (by omega), if_neg (by omega)]
  unfold f_value_Idle
  by_cases hs : v.fState < 0 ∨ v.fState > 6
  · rw [if_pos hs]
    by_cases c1 : v.fState < 0
    · rw [if_pos c1]
    · rw [if_neg c1, if_pos (by omega)]
  rw [if_neg hs, if_neg (by omega), if_neg (by omega)]
  by_cases hc : badC v
  · rw [if_pos hc]
    unfold badC at hc
    by_cases c0 : v.fState = 0
    · rw [if_pos c0, Option.bind_some, if_pos rfl]
      by_cases c1 : (v.fTopics.length : Int) = 0
      · rw [if_pos c1, if_pos c0, if_neg (by omega)]
      · rw [if_neg c1]
    · rw [if_neg c0]
      by_cases c4 : v.fState ≥ 4
      · rw [if_pos c4, Option.bind_some, if_pos rfl]
        by_cases c1 : (v.fTopics.length : Int) = 0
        · rw [if_pos c1, if_neg c0, if_pos (by omega)]
        · rw [if_neg c1]
      · rw [if_neg c4, Option.bind_some, if_neg (by decide)]
        by_cases c1 : (v.fTopics.length : Int) = 0
        · rw [if_pos c1]
        · rw [if_neg c1, if_neg c0, if_pos (by omega)]
  rw [if_neg hc]
  unfold badC at hc
  by_cases c0 : v.fState = 0
  · rw [if_pos c0, Option.bind_some, if_pos rfl, if_pos (by omega), if_pos c0, if_pos (by omega)]
    cases b <;> rfl
  · rw [if_neg c0]
    by_cases c4 : v.fState ≥ 4
    · rw [if_pos c4, Option.bind_some, if_pos rfl, if_pos (by omega), if_neg c0, if_neg (by omega)]
      cases b <;> rfl
    · rw [if_neg c4, Option.bind_some, if_neg (by decide), if_neg (by omega), if_neg c0, if_neg (by omega)]
      cases b <;> rfl
end Go.Proofs.Ytpiiopppbgpbpaa.Sl
namespace Go.Proofs.Ytpiiopppbgpbpaa.Sl
open Go.RowKit
set_option linter.unusedVariables false
set_option linter.unusedSimpArgs false
set_option maxRecDepth 100000
def ft_txn : FTab := [(149, 0, 0), (149, 1, 1), (149, 2, 2), (149, 3, 3)]
theorem ft_txn_ok : (ft_txn).OK Try.prog := ⟨FOK.mk Try.runUnderlying149 rfl Try.sizeOf9 rfl, FOK.mk Try.runUnderlying149 rfl Try.sizeOf3 rfl, FOK.mk Try.runUnderlying149 rfl Try.sizeOf3 rfl, FOK.mk Try.runUnderlying149 rfl Try.sizeOf4 rfl, trivial⟩
theorem meth_txn_149_Check (v : Value) (w : World) : (method (Try.prog.types.size + Made.depth) 149 v "Check").run Try.prog w = .ok (101, v) w := method_val (k := Try.prog.types.size + Made.depth - 1) (by kernel_rfl) (by kernel_rfl) Try.runUnderlying149 v w
theorem bok_txn_149 : BOK Try.prog 149 #[.string ⟨#[]⟩, .int .i64 0, .int .i64 0, .bool false] [(0, 1), (1, 1), (2, 1), (3, 1)] := BOK.mk Try.zeroValue149 Try.runUnderlying149 (by intro w; simp)
theorem bok_txn_156 : BOK Try.prog 156 #[.int .i64 0, .int .i64 0, .int .i64 0, .int .i64 0, .slice none 0 0, .int .i64 0, .int .i64 0] [(0, 1), (1, 1), (2, 1), (3, 1), (4, 1), (5, 1), (6, 1)] := BOK.mk Try.zeroValue156 Try.runUnderlying156 (by intro w; simp)
def f_txn_Who (a0 : Int) (a1 : Int) : Option (Bool) := (if a0 ≥ 0 then (if a1 ≥ 0 then ((gFits a1 2).bind fun x9 => some x9) else some false) else some false).bind fun y5 => some y5
set_option maxRecDepth 100000 in
set_option maxHeartbeats 4000000 in
theorem f_txn_Who_spec (a0 : Int) (a1 : Int) (r : Bool) (h : f_txn_Who a0 a1 = some r) : SpecX Try.prog 68 #[.int .i64 a0, .int .i64 a1] .triv (EmpR) (fun v A' N => v = .bool r ∧ A' = EmpR ∧ N = []) := by
  refine enterA Try.func68 rfl Try.ntmps68 rfl ?_
  intro F w hX
  unfold f_txn_Who at h
  refine T.seq (T.region rfl ?_)
  refine TL.run ft_txn_ok [0] rfl rfl ?_
  refine TL.nil (X.seq (T.seq ?_))
  obtain ⟨y5, h, hk6⟩ := Option.bind_eq_some_iff.1 h
  refine T.jq (fun e Rs => e = [(4, .bool y5)] ∧ Rs = [EmpR]) ?_ ?_
  · clear hk6
    refine T.region rfl ?_
    by_cases c7 : a0 ≥ 0
    · replace h := ifT c7 h
      refine TL.run ft_txn_ok [0, 1, 2] rfl rfl ?_
      refine TL.q rfl (.g rfl rfl (decide_eq_true c7)) (Ex.ft ft_txn_ok rfl) rfl ?_
      refine TL.q rfl (.g rfl rfl (decide_eq_true c7)) (Ex.ft ft_txn_ok rfl) rfl ?_
      refine TL.q rfl .u (Ex.py rfl (decide_eq_true c7) rfl) rfl ?_
      by_cases c8 : a1 ≥ 0
      · replace h := ifT c8 h
        refine TL.run ft_txn_ok [6] rfl rfl ?_
        refine TL.q rfl (.g rfl rfl (decide_eq_true c8)) (Ex.ft ft_txn_ok rfl) rfl ?_
        obtain ⟨x9, hx10, h⟩ := Option.bind_eq_some_iff.1 h
        refine TL.ce rfl (.g rfl rfl (decide_eq_true c8)) (.fn Try.call78 rfl) (SpecX.pure (fun w => gFits_spec a1 2 _ hx10 w)) (fun _ _ => RX.reads_triv _ _) rfl ?_
        refine TL.q rfl .u (Ex.py rfl (decide_eq_true c8) rfl) rfl ?_
        refine TL.run ft_txn_ok [10] rfl rfl ?_
        cases h
        exact TL.nil (X.jq [0] ⟨rfl, rfl⟩ (by rfl) (by rfl))
      · replace h := ifF c8 h
        refine TL.run ft_txn_ok [6] rfl rfl ?_
        refine TL.no rfl (.gn rfl rfl (decide_eq_false c8)) rfl ?_
        refine TL.no rfl (.gn rfl rfl (decide_eq_false c8)) rfl ?_
        refine TL.q rfl .u (Ex.pn rfl (decide_eq_false c8) rfl) rfl ?_
        refine TL.run ft_txn_ok [10] rfl rfl ?_
        cases h
        exact TL.nil (X.jq [0] ⟨rfl, rfl⟩ (by rfl) (by rfl))
    · replace h := ifF c7 h
      refine TL.run ft_txn_ok [0, 1, 2] rfl rfl ?_
      refine TL.no rfl (.gn rfl rfl (decide_eq_false c7)) rfl ?_
      refine TL.no rfl (.gn rfl rfl (decide_eq_false c7)) rfl ?_
      refine TL.q rfl .u (Ex.pn rfl (decide_eq_false c7) rfl) rfl ?_
      refine TL.run ft_txn_ok [6] rfl rfl ?_
      refine TL.no rfl (.gn rfl rfl rfl) rfl ?_
      refine TL.no rfl (.gn rfl rfl rfl) rfl ?_
      refine TL.q rfl .u (Ex.pn rfl rfl rfl) rfl ?_
      refine TL.run ft_txn_ok [10] rfl rfl ?_
      cases h
      exact TL.nil (X.jq [0] ⟨rfl, rfl⟩ (by rfl) (by rfl))
  · rintro _ _ ⟨rfl, rfl⟩
    clear h
    have h := hk6
    clear hk6
    try dsimp only at h
    obtain rfl := Option.some.inj h
    exact X.seq (T.ret (X.done1 [0] Try.results68 (RV.tm rfl) ⟨rfl, rfl, rfl⟩ (by rfl) (.inl rfl)))
def f_txn_Rise (a0 : List Top) : Option (Int) := if (a0.length : Int) = 0 then some 10 else ((f_value_Check (⟨0, 0, 0, 1, a0, 0, 0⟩ : Val)).bind fun x5 => some x5)
set_option maxRecDepth 100000 in
set_option maxHeartbeats 4000000 in
theorem f_txn_Rise_spec (a0 : List Top) (A1 : Option Addr) (c2 : Nat) (r : Int) (h : f_txn_Rise a0 = some r) : SpecX Try.prog 69 #[.slice A1 a0.length c2] (RX.of (sliceRd 2 Top_rd) [.slice A1 a0.length c2] a0) (EmpR) (fun v A' N => v = .int .i64 r ∧ A' = EmpR ∧ N = []) := by
  refine enterA Try.func69 rfl Try.ntmps69 rfl ?_
  intro F w hX
  unfold f_txn_Rise at h
  refine T.seq (T.region rfl ?_)
  refine TL.run ft_txn_ok [0] rfl rfl ?_
  refine TL.nil (X.seq (T.seq (T.seq (T.region rfl ?_))))
  refine TL.run ft_txn_ok [0] rfl rfl ?_
  refine TL.q rfl .u (Ex.lenS rfl Try.runUnderlying106) rfl ?_
  refine TL.run ft_txn_ok [2] rfl rfl ?_
  by_cases c3 : (a0.length : Int) = 0
  · replace h := ifT c3 h
    refine TL.nil (X.seq ?_)
    refine T.yes rfl (decide_eq_true c3) ?_
    refine T.seq (T.region rfl ?_)
    refine TL.run ft_txn_ok [0] rfl rfl ?_
    obtain rfl := Option.some.inj h
    exact TL.nil (X.seq (T.ret (X.rs (X.done1 [0] Try.results69 (RV.tm rfl) ⟨rfl, rfl, rfl⟩ (by rfl) (.inl rfl)))))
  · replace h := ifF c3 h
    refine TL.nil (X.seq ?_)
    refine T.no rfl (decide_eq_false c3) ?_
    refine T.skip (X.seq (T.seq (T.region rfl ?_)))
    refine TL.run ft_txn_ok [0] rfl rfl ?_
    refine TL.q rfl .u (Ex.bld (cells := #[.int .i64 0, .int .i64 0, .int .i64 0, .int .i64 1, .slice A1 a0.length c2, .int .i64 0, .int .i64 0]) bok_txn_156 rfl (by kernel_rfl)) rfl ?_
    refine TL.alloc rfl .u Try.zeroValue156 rfl (fun b4 => ?_)
    refine TL.st0 (cs' := #[.int .i64 0, .int .i64 0, .int .i64 0, .int .i64 1, .slice A1 a0.length c2, .int .i64 0, .int .i64 0]) rfl .u rfl rfl Try.sizeOf156 rfl rfl rfl rfl ?_
    refine TL.nil (X.seq (T.seq (T.region rfl ?_)))
    refine TL.q rfl .u (Ex.bS (us := [.int .i64 0, .int .i64 0, .int .i64 0, .int .i64 1, .slice A1 a0.length c2, .int .i64 0, .int .i64 0]) 0 rfl Try.isAgg156 Try.sizeOf156 rfl rfl rfl) rfl ?_
    obtain ⟨x5, hx6, h⟩ := Option.bind_eq_some_iff.1 h
    refine TL.ce rfl .u (.fn Try.call97 rfl) (f_value_Check_spec (⟨0, 0, 0, 1, a0, 0, 0⟩ : Val) _ _ _ hx6) (fun _ hs => (SrcE.old hs hX)) rfl ?_
    refine TL.run ft_txn_ok [2] rfl rfl ?_
    obtain rfl := Option.some.inj h
    exact TL.nil (X.seq (T.ret (X.done1 [1] Try.results69 (RV.tm rfl) ⟨rfl, rfl, rfl⟩ (by rfl) (.inl rfl))))
def f_txn_PutBool (st : List UInt8 × Int) (a1 : Bool) : Option (List UInt8 × Int) := (if a1 = true then ((gOByte st 1).bind fun st9 => some st9) else ((gOByte st 0).bind fun st11 => some st11)).bind fun st6 => some st6
set_option maxRecDepth 100000 in
set_option maxHeartbeats 4000000 in
theorem f_txn_PutBool_spec (g : Nat) (st : List UInt8 × Int) (a1 : Bool) (r : List UInt8 × Int) (h : f_txn_PutBool st a1 = some r) : SpecX Try.prog 71 #[.pointer (some ⟨g, 0, none⟩), .bool a1] .triv (OutR g st) (fun v A' N => v = .tuple #[] ∧ A' = OutR g r ∧ N = []) := by
  refine enterA Try.func71 rfl Try.ntmps71 rfl ?_
  intro F w hX
  unfold f_txn_PutBool at h
  refine T.seq (T.region rfl ?_)
  refine TL.run ft_txn_ok [0] rfl rfl ?_
  refine TL.nil (X.seq ?_)
  obtain ⟨st6, h, hk7⟩ := Option.bind_eq_some_iff.1 h
  refine T.jq (fun e Rs => e = [] ∧ Rs = [OutR g st6]) ?_ ?_
  · clear hk7
    by_cases c8 : a1 = true
    · replace h := ifT c8 h
      refine T.yes rfl c8 ?_
      refine T.region rfl ?_
      obtain ⟨st9, hx10, h⟩ := Option.bind_eq_some_iff.1 h
      refine TL.run ft_txn_ok [0] rfl rfl ?_
      refine TL.c0 rfl .u (.fn Try.call79 rfl) (gOByte_spec g st 1 _ hx10) (fun _ hs => (Src.triv _)) rfl ?_
      cases h
      exact TL.nil (X.jq [0] ⟨rfl, rfl⟩ (by rfl) (by rfl))
    · replace h := ifF c8 h
      replace c8 := eq_false_of_ne_true c8
      refine T.no rfl c8 ?_
      refine T.region rfl ?_
      obtain ⟨st11, hx12, h⟩ := Option.bind_eq_some_iff.1 h
      refine TL.run ft_txn_ok [0] rfl rfl ?_
      refine TL.c0 rfl .u (.fn Try.call79 rfl) (gOByte_spec g st 0 _ hx12) (fun _ hs => (Src.triv _)) rfl ?_
      cases h
      exact TL.nil (X.jq [0] ⟨rfl, rfl⟩ (by rfl) (by rfl))
  · rintro _ _ ⟨rfl, rfl⟩
    clear h
    have h := hk7
    clear hk7
    try dsimp only at h
    obtain rfl := Option.some.inj h
    exact X.done0 [0] Try.results71 ⟨rfl, rfl, rfl⟩ (by rfl) (.inr rfl)
def f_txn_fail (st : List UInt8 × Int) (a1 : Int) : Option (Bool × (List UInt8 × Int)) := (if a1 = 0 then some st else ((gOFail st a1).bind fun st7 => some st7)).bind fun st4 => if a1 = 0 then some (false, st4) else some (true, st4)
set_option maxRecDepth 100000 in
set_option maxHeartbeats 4000000 in
theorem f_txn_fail_spec (g : Nat) (st : List UInt8 × Int) (a1 : Int) (r : Bool × (List UInt8 × Int)) (h : f_txn_fail st a1 = some r) : SpecX Try.prog 104 #[.pointer (some ⟨g, 0, none⟩), .int .i64 a1] .triv (OutR g st) (fun v A' N => v = .bool r.1 ∧ A' = OutR g r.2 ∧ N = []) := by
  refine enterA Try.func104 rfl Try.ntmps104 rfl ?_
  intro F w hX
  unfold f_txn_fail at h
  refine T.seq (T.region rfl ?_)
  refine TL.run ft_txn_ok [0] rfl rfl ?_
  refine TL.nil (X.seq (T.seq (T.seq (T.region rfl ?_))))
  refine TL.run ft_txn_ok [0, 1] rfl rfl ?_
  refine TL.nil (X.seq ?_)
  obtain ⟨st4, h, hk5⟩ := Option.bind_eq_some_iff.1 h
  refine T.jq (fun e Rs => e = [(1, .int .i64 a1), (4, .bool false)] ∧ Rs = [OutR g st4]) ?_ ?_
  · clear hk5
    by_cases c6 : a1 = 0
    · replace h := ifT c6 h
      refine T.no rfl (bn_f (decide_eq_true c6)) ?_
      cases h
      exact T.skip (X.jq [0] ⟨rfl, rfl⟩ (by rfl) (by rfl))
    · replace h := ifF c6 h
      refine T.yes rfl (bn_t (decide_eq_false c6)) ?_
      refine T.region rfl ?_
      obtain ⟨st7, hx8, h⟩ := Option.bind_eq_some_iff.1 h
      refine TL.run ft_txn_ok [0, 1] rfl rfl ?_
      refine TL.c0 rfl .u (.fn Try.call74 rfl) (gOFail_spec g st a1 _ hx8) (fun _ hs => (Src.triv _)) rfl ?_
      cases h
      exact TL.nil (X.jq [0] ⟨rfl, rfl⟩ (by rfl) (by rfl))
  · rintro _ _ ⟨rfl, rfl⟩
    clear h
    have h := hk5
    clear hk5
    try dsimp only at h
    refine X.seq (T.seq (T.region rfl ?_))
    refine TL.run ft_txn_ok [0, 1, 2] rfl rfl ?_
    by_cases c9 : a1 = 0
    · replace h := ifT c9 h
      obtain rfl := Option.some.inj h
      exact TL.nil (X.seq (T.ret (X.done1 [0] Try.results104 (RV.tm (v := .bool false) (congrArg (fun b => some (Value.bool b)) (bn_f (decide_eq_true c9)))) ⟨rfl, rfl, rfl⟩ (by rfl) (.inl rfl))))
    · replace h := ifF c9 h
      obtain rfl := Option.some.inj h
      exact TL.nil (X.seq (T.ret (X.done1 [0] Try.results104 (RV.tm (v := .bool true) (congrArg (fun b => some (Value.bool b)) (bn_t (decide_eq_false c9)))) ⟨rfl, rfl, rfl⟩ (by rfl) (.inl rfl))))
def f_txn_EndCheck (a0 : TxnEnd) : Option (Int) := (gKRight a0.fID).bind fun x2 => if x2 = true then ((f_txn_Who a0.fProducer a0.fEpoch).bind fun x5 => if x5 = true then some 0 else some 11) else some 4
set_option maxRecDepth 100000 in
set_option maxHeartbeats 4000000 in
theorem f_txn_EndCheck_spec (a0 : TxnEnd) (r : Int) (h : f_txn_EndCheck a0 = some r) : SpecX Try.prog 101 #[.agg #[.string (bsOf a0.fID), .int .i64 a0.fProducer, .int .i64 a0.fEpoch, .bool a0.fCommit]] .triv (EmpR) (fun v A' N => v = .int .i64 r ∧ A' = EmpR ∧ N = []) := by
  refine enterA Try.func101 rfl Try.ntmps101 rfl ?_
  intro F w hX
  unfold f_txn_EndCheck at h
  refine T.seq (T.region rfl ?_)
  refine TL.box rfl .u rfl rfl (fun b1 => ?_)
  refine TL.run ft_txn_ok [1] rfl rfl ?_
  refine TL.nil (X.seq (T.seq (T.block (T.seq (T.region rfl ?_)))))
  refine TL.run ft_txn_ok [0] rfl rfl ?_
  refine TL.q rfl .u (Ex.b1 0 rfl Try.isAgg9 rfl rfl) rfl ?_
  obtain ⟨x2, hx3, h⟩ := Option.bind_eq_some_iff.1 h
  refine TL.ce rfl .u (.fn Try.call105 rfl) (SpecX.pure (fun w => gKRight_spec a0.fID _ hx3 w)) (fun _ _ => RX.reads_triv _ _) rfl ?_
  refine TL.run ft_txn_ok [3, 4] rfl rfl ?_
  by_cases c4 : x2 = true
  · replace h := ifT c4 h
    refine TL.nil (X.seq ?_)
    refine T.no rfl (bn_f c4) ?_
    refine T.seq (T.region rfl ?_)
    refine TL.run ft_txn_ok [0] rfl rfl ?_
    refine TL.q rfl .u (Ex.b1 0 rfl Try.isAgg3 rfl rfl) rfl ?_
    refine TL.run ft_txn_ok [2] rfl rfl ?_
    refine TL.q rfl .u (Ex.b1 0 rfl Try.isAgg3 rfl rfl) rfl ?_
    obtain ⟨x5, hx6, h⟩ := Option.bind_eq_some_iff.1 h
    refine TL.ce rfl .u (.fn Try.call68 rfl) (f_txn_Who_spec a0.fProducer a0.fEpoch _ hx6) (fun _ hs => (RX.reads_triv _ _)) rfl ?_
    refine TL.run ft_txn_ok [5, 6] rfl rfl ?_
    by_cases c7 : x5 = true
    · replace h := ifT c7 h
      refine TL.nil (X.seq ?_)
      refine T.no rfl (bn_f c7) ?_
      refine T.skip (X.blk (X.seq (T.seq (T.region rfl ?_))))
      refine TL.run ft_txn_ok [0] rfl rfl ?_
      obtain rfl := Option.some.inj h
      exact TL.nil (X.seq (T.ret (X.done1 [1] Try.results101 (RV.tm rfl) ⟨rfl, rfl, rfl⟩ (by rfl) (.inl rfl))))
    · replace h := ifF c7 h
      replace c7 := eq_false_of_ne_true c7
      refine TL.nil (X.seq ?_)
      refine T.yes rfl (bn_t c7) ?_
      refine T.seq (T.region rfl ?_)
      refine TL.run ft_txn_ok [0] rfl rfl ?_
      obtain rfl := Option.some.inj h
      exact TL.nil (X.seq (T.ret (X.rb (X.rs (X.done1 [1] Try.results101 (RV.tm rfl) ⟨rfl, rfl, rfl⟩ (by rfl) (.inl rfl))))))
  · replace h := ifF c4 h
    replace c4 := eq_false_of_ne_true c4
    refine TL.nil (X.seq ?_)
    refine T.yes rfl (bn_t c4) ?_
    refine T.seq (T.region rfl ?_)
    refine TL.run ft_txn_ok [0] rfl rfl ?_
    obtain rfl := Option.some.inj h
    exact TL.nil (X.seq (T.ret (X.rb (X.rs (X.done1 [1] Try.results101 (RV.tm rfl) ⟨rfl, rfl, rfl⟩ (by rfl) (.inl rfl))))))
def f_txn_wrong_TxnEnd (st : List UInt8 × Int) (a1 : TxnEnd) : Option (Bool × (List UInt8 × Int)) := (f_txn_EndCheck a1).bind fun x1 => (f_txn_fail st x1).bind fun (x3, st4) => some (x3, st4)
set_option maxRecDepth 100000 in
set_option maxHeartbeats 4000000 in
theorem f_txn_wrong_TxnEnd_spec (g : Nat) (st : List UInt8 × Int) (a1 : TxnEnd) (r : Bool × (List UInt8 × Int)) (h : f_txn_wrong_TxnEnd st a1 = some r) : SpecX Try.prog 99 #[.pointer (some ⟨g, 0, none⟩), .iface 149 (.agg #[.string (bsOf a1.fID), .int .i64 a1.fProducer, .int .i64 a1.fEpoch, .bool a1.fCommit])] .triv (OutR g st) (fun v A' N => v = .bool r.1 ∧ A' = OutR g r.2 ∧ N = []) := by
  refine enterA Try.func99 rfl Try.ntmps99 rfl ?_
  intro F w hX
  unfold f_txn_wrong_TxnEnd at h
  refine T.seq (T.region rfl ?_)
  refine TL.run ft_txn_ok [0] rfl rfl ?_
  refine TL.nil (X.seq (T.seq (T.region rfl ?_)))
  obtain ⟨x1, hx2, h⟩ := Option.bind_eq_some_iff.1 h
  refine TL.run ft_txn_ok [0, 1] rfl rfl ?_
  refine TL.ce rfl .u (.inv rfl (meth_txn_149_Check _) Try.call101 rfl) (f_txn_EndCheck_spec a1 _ hx2) (fun _ hs => (RX.reads_triv _ _)) rfl ?_
  obtain ⟨⟨x3, st4⟩, hx5, h⟩ := Option.bind_eq_some_iff.1 h
  try dsimp only at h
  refine TL.c0 rfl .u (.fn Try.call104 rfl) (f_txn_fail_spec g st x1 _ hx5) (fun _ hs => (Src.triv _)) rfl ?_
  refine TL.run ft_txn_ok [4] rfl rfl ?_
  obtain rfl := Option.some.inj h
  exact TL.nil (X.seq (T.ret (X.done1 [0] Try.results99 (RV.tm rfl) ⟨rfl, rfl, rfl⟩ (by rfl) (.inl rfl))))
def f_txn_EndWrite (st : List UInt8 × Int) (a0 : TxnEnd) : Option (List UInt8 × Int) := (f_txn_wrong_TxnEnd st a0).bind fun (x2, st3) => if x2 = true then some st3 else ((gPutText st3 a0.fID).bind fun st6 => (gOInt st6 a0.fProducer 8).bind fun st8 => (gOInt st8 a0.fEpoch 2).bind fun st10 => (f_txn_PutBool st10 a0.fCommit).bind fun st12 => some st12)
set_option maxRecDepth 100000 in
set_option maxHeartbeats 4000000 in
theorem f_txn_EndWrite_spec (g : Nat) (st : List UInt8 × Int) (a0 : TxnEnd) (r : List UInt8 × Int) (h : f_txn_EndWrite st a0 = some r) : SpecX Try.prog 94 #[.agg #[.string (bsOf a0.fID), .int .i64 a0.fProducer, .int .i64 a0.fEpoch, .bool a0.fCommit], .pointer (some ⟨g, 0, none⟩)] .triv (OutR g st) (fun v A' N => v = .tuple #[] ∧ A' = OutR g r ∧ N = []) := by
  refine enterA Try.func94 rfl Try.ntmps94 rfl ?_
  intro F w hX
  unfold f_txn_EndWrite at h
  refine T.seq (T.region rfl ?_)
  refine TL.box rfl .u rfl rfl (fun b1 => ?_)
  refine TL.nil (X.seq (T.seq (T.seq (T.region rfl ?_))))
  refine TL.run ft_txn_ok [0] rfl rfl ?_
  refine TL.q rfl .u (Ex.bS (us := [.string (bsOf a0.fID), .int .i64 a0.fProducer, .int .i64 a0.fEpoch, .bool a0.fCommit]) 0 rfl Try.isAgg149 Try.sizeOf149 rfl rfl rfl) rfl ?_
  refine TL.q rfl .u (Ex.mkI rfl Try.runUnderlying149) rfl ?_
  obtain ⟨⟨x2, st3⟩, hx4, h⟩ := Option.bind_eq_some_iff.1 h
  try dsimp only at h
  refine TL.c1 rfl .u (.fn Try.call99 rfl) (f_txn_wrong_TxnEnd_spec g st a0 _ hx4) (fun _ hs => (Src.triv _)) rfl ?_
  by_cases c5 : x2 = true
  · replace h := ifT c5 h
    refine TL.nil (X.seq ?_)
    refine T.yes rfl c5 ?_
    obtain rfl := Option.some.inj h
    exact T.ret (X.rs (X.done0 [1] Try.results94 ⟨rfl, rfl, rfl⟩ (by rfl) (.inl rfl)))
  · replace h := ifF c5 h
    replace c5 := eq_false_of_ne_true c5
    refine TL.nil (X.seq ?_)
    refine T.no rfl c5 ?_
    refine T.skip (X.seq (T.seq (T.region rfl ?_)))
    refine TL.run ft_txn_ok [0, 1] rfl rfl ?_
    refine TL.q rfl .u (Ex.b1 0 rfl Try.isAgg9 rfl rfl) rfl ?_
    obtain ⟨st6, hx7, h⟩ := Option.bind_eq_some_iff.1 h
    refine TL.c1 rfl .u (.fn Try.call42 rfl) (gPutText_spec g st3 a0.fID _ hx7) (fun _ hs => (Src.triv _)) rfl ?_
    refine TL.nil (X.seq (T.seq (T.region rfl ?_)))
    refine TL.run ft_txn_ok [0, 1] rfl rfl ?_
    refine TL.q rfl .u (Ex.b1 0 rfl Try.isAgg3 rfl rfl) rfl ?_
    obtain ⟨st8, hx9, h⟩ := Option.bind_eq_some_iff.1 h
    refine TL.c1 rfl .u (.fn Try.call34 rfl) (gOInt_spec g st6 a0.fProducer 8 _ hx9) (fun _ hs => (Src.triv _)) rfl ?_
    refine TL.nil (X.seq (T.seq (T.region rfl ?_)))
    refine TL.run ft_txn_ok [0, 1] rfl rfl ?_
    refine TL.q rfl .u (Ex.b1 0 rfl Try.isAgg3 rfl rfl) rfl ?_
    obtain ⟨st10, hx11, h⟩ := Option.bind_eq_some_iff.1 h
    refine TL.c1 rfl .u (.fn Try.call34 rfl) (gOInt_spec g st8 a0.fEpoch 2 _ hx11) (fun _ hs => (Src.triv _)) rfl ?_
    refine TL.nil (X.seq (T.region rfl ?_))
    refine TL.run ft_txn_ok [0, 1] rfl rfl ?_
    refine TL.q rfl .u (Ex.b1 0 rfl Try.isAgg4 rfl rfl) rfl ?_
    obtain ⟨st12, hx13, h⟩ := Option.bind_eq_some_iff.1 h
    refine TL.c1 rfl .u (.fn Try.call71 rfl) (f_txn_PutBool_spec g st10 a0.fCommit _ hx13) (fun _ hs => (Src.triv _)) rfl ?_
    obtain rfl := Option.some.inj h
    exact TL.nil (X.done0 [1] Try.results94 ⟨rfl, rfl, rfl⟩ (by rfl) (.inr rfl))
def f_txn_Bool (st : I)  : Option (Bool × I) := (gInt st 1).bind fun (x1, st2) => (if x1 = 0 then some false else (if x1 = 1 then some false else some true)).bind fun y5 => (if y5 = true then ((gIFail st2 11).bind fun st15 => some st15) else some st2).bind fun st12 => if x1 = 1 then some (true, st12) else some (false, st12)
set_option maxRecDepth 100000 in
set_option maxHeartbeats 4000000 in
theorem f_txn_Bool_spec (g : Nat) (st : I)  (r : Bool × I) (h : f_txn_Bool st  = some r) : SpecX Try.prog 70 #[.pointer (some ⟨g, 0, none⟩)] .triv (InR g st) (fun v A' N => v = .bool r.1 ∧ A' = InR g r.2 ∧ N = []) := by
  refine enterA Try.func70 rfl Try.ntmps70 rfl ?_
  intro F w hX
  unfold f_txn_Bool at h
  refine T.seq (T.region rfl ?_)
  refine TL.run ft_txn_ok [0] rfl rfl ?_
  refine TL.nil (X.seq (T.seq (T.region rfl ?_)))
  obtain ⟨⟨x1, st2⟩, hx3, h⟩ := Option.bind_eq_some_iff.1 h
  try dsimp only at h
  refine TL.run ft_txn_ok [0] rfl rfl ?_
  refine TL.c0 rfl .u (.fn Try.call37 rfl) (gInt_spec g st 1 _ hx3) (fun _ hs => (Src.triv _)) rfl ?_
  refine TL.run ft_txn_ok [2] rfl rfl ?_
  refine TL.nil (X.seq (T.seq (T.seq ?_)))
  obtain ⟨y5, h, hk6⟩ := Option.bind_eq_some_iff.1 h
  refine T.jq (fun e Rs => e = [(0, .pointer (some ⟨g, 0, none⟩)), (2, .bool false), (3, .int .i64 x1), (11, .bool y5)] ∧ Rs = [InR g st2]) ?_ ?_
  · clear hk6
    refine T.region rfl ?_
    by_cases c7 : x1 = 0
    · replace h := ifT c7 h
      refine TL.run ft_txn_ok [0, 1, 2] rfl rfl ?_
      refine TL.no rfl (.gn rfl rfl (bn_f (decide_eq_true c7))) rfl ?_
      refine TL.no rfl (.gn rfl rfl (bn_f (decide_eq_true c7))) rfl ?_
      refine TL.q rfl .u (Ex.pn rfl (bn_f (decide_eq_true c7)) rfl) rfl ?_
      cases h
      exact TL.nil (X.jq [0] ⟨rfl, rfl⟩ (by rfl) (by rfl))
    · replace h := ifF c7 h
      refine TL.run ft_txn_ok [0, 1, 2] rfl rfl ?_
      refine TL.q rfl (.g rfl rfl (bn_t (decide_eq_false c7))) (Ex.ft ft_txn_ok rfl) rfl ?_
      refine TL.q rfl (.g rfl rfl (bn_t (decide_eq_false c7))) (Ex.ft ft_txn_ok rfl) rfl ?_
      refine TL.q rfl .u (Ex.py rfl (bn_t (decide_eq_false c7)) rfl) rfl ?_
      by_cases c8 : x1 = 1
      · replace h := ifT c8 h
        cases h
        exact TL.nil (X.as (d := 11) (v' := .bool false) rfl (congrArg Value.bool (bn_f (decide_eq_true c8))) (X.jq [0] ⟨rfl, rfl⟩ (by rfl) (by rfl)))
      · replace h := ifF c8 h
        cases h
        exact TL.nil (X.as (d := 11) (v' := .bool true) rfl (congrArg Value.bool (bn_t (decide_eq_false c8))) (X.jq [0] ⟨rfl, rfl⟩ (by rfl) (by rfl)))
  · rintro _ _ ⟨rfl, rfl⟩
    clear h
    have h := hk6
    clear hk6
    try dsimp only at h
    refine X.seq ?_
    obtain ⟨st12, h, hk13⟩ := Option.bind_eq_some_iff.1 h
    refine T.jq (fun e Rs => e = [(2, .bool false), (3, .int .i64 x1)] ∧ Rs = [InR g st12]) ?_ ?_
    · clear hk13
      by_cases c14 : y5 = true
      · replace h := ifT c14 h
        refine T.yes rfl c14 ?_
        refine T.region rfl ?_
        obtain ⟨st15, hx16, h⟩ := Option.bind_eq_some_iff.1 h
        refine TL.run ft_txn_ok [0] rfl rfl ?_
        refine TL.c0 rfl .u (.fn Try.call61 rfl) (gIFail_spec g st2 11 _ hx16) (fun _ hs => (Src.triv _)) rfl ?_
        cases h
        exact TL.nil (X.jq [0] ⟨rfl, rfl⟩ (by rfl) (by rfl))
      · replace h := ifF c14 h
        replace c14 := eq_false_of_ne_true c14
        refine T.no rfl c14 ?_
        cases h
        exact T.skip (X.jq [0] ⟨rfl, rfl⟩ (by rfl) (by rfl))
    · rintro _ _ ⟨rfl, rfl⟩
      clear h
      have h := hk13
      clear hk13
      try dsimp only at h
      refine X.seq (T.seq (T.region rfl ?_))
      refine TL.run ft_txn_ok [0, 1, 2] rfl rfl ?_
      by_cases c17 : x1 = 1
      · replace h := ifT c17 h
        obtain rfl := Option.some.inj h
        exact TL.nil (X.seq (T.ret (X.done1 [0] Try.results70 (RV.tm (v := .bool true) (congrArg (fun b => some (Value.bool b)) (decide_eq_true c17))) ⟨rfl, rfl, rfl⟩ (by rfl) (.inl rfl))))
      · replace h := ifF c17 h
        obtain rfl := Option.some.inj h
        exact TL.nil (X.seq (T.ret (X.done1 [0] Try.results70 (RV.tm (v := .bool false) (congrArg (fun b => some (Value.bool b)) (decide_eq_false c17))) ⟨rfl, rfl, rfl⟩ (by rfl) (.inl rfl))))
def f_txn_closed_txn_EndCheck (st : I) (a1_0 : TxnEnd) : Option (Bool × I) := (gErr st).bind fun (x1, st2) => if x1 = 0 then ((f_txn_EndCheck a1_0).bind fun x5 => if x5 = 0 then some (true, st2) else ((gIFail st2 x5).bind fun st8 => some (false, st8))) else some (false, st2)
set_option maxRecDepth 100000 in
set_option maxHeartbeats 4000000 in
theorem f_txn_closed_txn_EndCheck_spec (g : Nat) (st : I) (a1_0 : TxnEnd) (r : Bool × I) (h : f_txn_closed_txn_EndCheck st a1_0 = some r) : SpecX Try.prog 100 #[.pointer (some ⟨g, 0, none⟩), .func (.func 101) #[.agg #[.string (bsOf a1_0.fID), .int .i64 a1_0.fProducer, .int .i64 a1_0.fEpoch, .bool a1_0.fCommit]] #[]] .triv (InR g st) (fun v A' N => v = .bool r.1 ∧ A' = InR g r.2 ∧ N = []) := by
  refine enterA Try.func100 rfl Try.ntmps100 rfl ?_
  intro F w hX
  unfold f_txn_closed_txn_EndCheck at h
  refine T.seq (T.region rfl ?_)
  refine TL.run ft_txn_ok [0] rfl rfl ?_
  refine TL.nil (X.seq (T.seq (T.seq (T.region rfl ?_))))
  obtain ⟨⟨x1, st2⟩, hx3, h⟩ := Option.bind_eq_some_iff.1 h
  try dsimp only at h
  refine TL.run ft_txn_ok [0] rfl rfl ?_
  refine TL.c0 rfl .u (.fn Try.call29 rfl) (gErr_spec g st _ hx3) (fun _ hs => (Src.triv _)) rfl ?_
  refine TL.run ft_txn_ok [2] rfl rfl ?_
  by_cases c4 : x1 = 0
  · replace h := ifT c4 h
    refine TL.nil (X.seq ?_)
    refine T.no rfl (bn_f (decide_eq_true c4)) ?_
    refine T.skip (X.seq (T.seq (T.seq (T.region rfl ?_))))
    obtain ⟨x5, hx6, h⟩ := Option.bind_eq_some_iff.1 h
    refine TL.run ft_txn_ok [0] rfl rfl ?_
    refine TL.ce rfl .u (.val rfl Try.call101 rfl rfl) (f_txn_EndCheck_spec a1_0 _ hx6) (fun _ hs => (RX.reads_triv _ _)) rfl ?_
    refine TL.run ft_txn_ok [2] rfl rfl ?_
    refine TL.nil (X.seq (T.seq (T.region rfl ?_)))
    refine TL.run ft_txn_ok [0, 1] rfl rfl ?_
    by_cases c7 : x5 = 0
    · replace h := ifT c7 h
      refine TL.nil (X.seq ?_)
      refine T.no rfl (bn_f (decide_eq_true c7)) ?_
      refine T.skip (X.seq (T.seq (T.region rfl ?_)))
      refine TL.run ft_txn_ok [0] rfl rfl ?_
      obtain rfl := Option.some.inj h
      exact TL.nil (X.seq (T.ret (X.done1 [0] Try.results100 (RV.tm rfl) ⟨rfl, rfl, rfl⟩ (by rfl) (.inl rfl))))
    · replace h := ifF c7 h
      refine TL.nil (X.seq ?_)
      refine T.yes rfl (bn_t (decide_eq_false c7)) ?_
      refine T.seq (T.region rfl ?_)
      obtain ⟨st8, hx9, h⟩ := Option.bind_eq_some_iff.1 h
      refine TL.run ft_txn_ok [0, 1] rfl rfl ?_
      refine TL.c0 rfl .u (.fn Try.call61 rfl) (gIFail_spec g st2 x5 _ hx9) (fun _ hs => (Src.triv _)) rfl ?_
      refine TL.nil (X.seq (T.seq (T.region rfl ?_)))
      refine TL.run ft_txn_ok [0] rfl rfl ?_
      obtain rfl := Option.some.inj h
      exact TL.nil (X.seq (T.ret (X.rs (X.done1 [0] Try.results100 (RV.tm rfl) ⟨rfl, rfl, rfl⟩ (by rfl) (.inl rfl)))))
  · replace h := ifF c4 h
    refine TL.nil (X.seq ?_)
    refine T.yes rfl (bn_t (decide_eq_false c4)) ?_
    refine T.seq (T.region rfl ?_)
    refine TL.run ft_txn_ok [0] rfl rfl ?_
    obtain rfl := Option.some.inj h
    exact TL.nil (X.seq (T.ret (X.rs (X.done1 [0] Try.results100 (RV.tm rfl) ⟨rfl, rfl, rfl⟩ (by rfl) (.inl rfl)))))
def f_txn_ReadEnd (st : I)  : Option (TxnEnd × I) := (gText st).bind fun (x2, st3) => (gInt st3 8).bind fun (x5, st6) => (gInt st6 2).bind fun (x8, st9) => (f_txn_Bool st9).bind fun (x12, st13) => (f_txn_closed_txn_EndCheck st13 (⟨x2, x5, x8, x12⟩ : TxnEnd)).bind fun (x15, st16) => if x15 = true then (some ((⟨x2, x5, x8, x12⟩ : TxnEnd), st16)) else (some ((⟨[], 0, 0, false⟩ : TxnEnd), st16))
set_option maxRecDepth 100000 in
set_option maxHeartbeats 4000000 in
theorem f_txn_ReadEnd_spec (g : Nat) (st : I)  (r : TxnEnd × I) (h : f_txn_ReadEnd st  = some r) : SpecX Try.prog 95 #[.pointer (some ⟨g, 0, none⟩)] .triv (InR g st) (fun v A' N => v = .agg #[.string (bsOf r.1.fID), .int .i64 r.1.fProducer, .int .i64 r.1.fEpoch, .bool r.1.fCommit] ∧ A' = InR g r.2 ∧ N = []) := by
  refine enterA Try.func95 rfl Try.ntmps95 rfl ?_
  intro F w hX
  unfold f_txn_ReadEnd at h
  refine T.seq (T.region rfl ?_)
  refine TL.alloc rfl .u Try.zeroValue149 rfl (fun b1 => ?_)
  refine TL.nil (X.seq (T.seq (T.region rfl ?_)))
  obtain ⟨⟨x2, st3⟩, hx4, h⟩ := Option.bind_eq_some_iff.1 h
  try dsimp only at h
  refine TL.run ft_txn_ok [0] rfl rfl ?_
  refine TL.c1 rfl .u (.fn Try.call47 rfl) (gText_spec g st _ hx4) (fun _ hs => (Src.triv _)) rfl ?_
  obtain ⟨⟨x5, st6⟩, hx7, h⟩ := Option.bind_eq_some_iff.1 h
  try dsimp only at h
  refine TL.run ft_txn_ok [2] rfl rfl ?_
  refine TL.c1 rfl .u (.fn Try.call37 rfl) (gInt_spec g st3 8 _ hx7) (fun _ hs => (Src.triv _)) rfl ?_
  obtain ⟨⟨x8, st9⟩, hx10, h⟩ := Option.bind_eq_some_iff.1 h
  try dsimp only at h
  refine TL.run ft_txn_ok [4] rfl rfl ?_
  refine TL.c1 rfl .u (.fn Try.call37 rfl) (gInt_spec g st6 2 _ hx10) (fun _ hs => (Src.triv _)) rfl ?_
  refine TL.q rfl .u (Ex.bld (cells := #[.string (bsOf x2), .int .i64 x5, .int .i64 x8, .bool false]) bok_txn_149 rfl (by kernel_rfl)) rfl ?_
  refine TL.alloc rfl .u Try.zeroValue149 rfl (fun b11 => ?_)
  refine TL.st0 (cs' := #[.string (bsOf x2), .int .i64 x5, .int .i64 x8, .bool false]) rfl .u rfl rfl Try.sizeOf149 rfl rfl rfl rfl ?_
  refine TL.nil (X.seq (T.seq (T.region rfl ?_)))
  obtain ⟨⟨x12, st13⟩, hx14, h⟩ := Option.bind_eq_some_iff.1 h
  try dsimp only at h
  refine TL.run ft_txn_ok [0] rfl rfl ?_
  refine TL.c2 rfl .u (.fn Try.call70 rfl) (f_txn_Bool_spec g st9 _ hx14) (fun _ hs => (Src.triv _)) rfl ?_
  refine TL.run ft_txn_ok [2] rfl rfl ?_
  refine TL.st0 (cs' := #[.string (bsOf x2), .int .i64 x5, .int .i64 x8, .bool x12]) rfl .u rfl rfl Try.sizeOf4 rfl rfl rfl rfl ?_
  refine TL.nil (X.seq (T.seq (T.seq (T.region rfl ?_))))
  refine TL.run ft_txn_ok [0] rfl rfl ?_
  refine TL.q rfl .u (Ex.bS (us := [.string (bsOf x2), .int .i64 x5, .int .i64 x8, .bool x12]) 0 rfl Try.isAgg149 Try.sizeOf149 rfl rfl rfl) rfl ?_
  refine TL.q rfl .u (Ex.mkF rfl rfl (fun _ => rfl)) rfl ?_
  obtain ⟨⟨x15, st16⟩, hx17, h⟩ := Option.bind_eq_some_iff.1 h
  try dsimp only at h
  refine TL.c2 rfl .u (.fn Try.call100 rfl) (f_txn_closed_txn_EndCheck_spec g st13 (⟨x2, x5, x8, x12⟩ : TxnEnd) _ hx17) (fun _ hs => (Src.triv _)) rfl ?_
  refine TL.run ft_txn_ok [4] rfl rfl ?_
  by_cases c18 : x15 = true
  · replace h := ifT c18 h
    refine TL.nil (X.seq ?_)
    refine T.no rfl (bn_f c18) ?_
    refine T.skip (X.seq (T.seq (T.region rfl ?_)))
    refine TL.q rfl .u (Ex.bS (us := [.string (bsOf x2), .int .i64 x5, .int .i64 x8, .bool x12]) 0 rfl Try.isAgg149 Try.sizeOf149 rfl rfl rfl) rfl ?_
    refine TL.st1 (cs' := #[.string (bsOf x2), .int .i64 x5, .int .i64 x8, .bool x12]) rfl .u rfl rfl Try.sizeOf149 rfl rfl rfl rfl ?_
    obtain rfl := Option.some.inj h
    exact TL.nil (X.seq (T.ret (X.done1 [2] Try.results95 (RV.cS (us := #[.string (bsOf x2), .int .i64 x5, .int .i64 x8, .bool x12]) 1 rfl Try.isAgg149 Try.sizeOf149 rfl rfl) ⟨rfl, rfl, rfl⟩ (by rfl) (.inl rfl))))
  · replace h := ifF c18 h
    replace c18 := eq_false_of_ne_true c18
    refine TL.nil (X.seq ?_)
    refine T.yes rfl (bn_t c18) ?_
    refine T.seq (T.region rfl ?_)
    refine TL.q rfl .u (Ex.bld (cells := #[.string ⟨#[]⟩, .int .i64 0, .int .i64 0, .bool false]) bok_txn_149 rfl (by kernel_rfl)) rfl ?_
    refine TL.st1 (cs' := #[.string ⟨#[]⟩, .int .i64 0, .int .i64 0, .bool false]) rfl .u rfl rfl Try.sizeOf149 rfl rfl rfl rfl ?_
    obtain rfl := Option.some.inj h
    exact TL.nil (X.seq (T.ret (X.rs (X.done1 [2] Try.results95 (RV.cS (us := #[.string ⟨#[]⟩, .int .i64 0, .int .i64 0, .bool false]) 1 rfl Try.isAgg149 Try.sizeOf149 rfl rfl) ⟨rfl, rfl, rfl⟩ (by rfl) (.inl rfl)))))
end Go.Proofs.Ytpiiopppbgpbpaa.Sl
