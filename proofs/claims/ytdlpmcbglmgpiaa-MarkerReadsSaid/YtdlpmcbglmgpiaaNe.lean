/- What is left for a printed walk: rows, results, a new Output (no program in it but Output's type). -/
import Derived.Test.YtdlpmcbglmgpiaaNd
import Derived.Test.YtdlpmcbglmgpiaaT
namespace Go.Proofs.Ytdlpmcbglmgpiaa.Sl
open Go.RowKit
set_option linter.unusedVariables false
set_option linter.unusedSimpArgs false
theorem bn_t {b : Bool} (h : b = false) : (!b) = true := by rw [h]; rfl
theorem bn_f {b : Bool} (h : b = true) : (!b) = false := by rw [h]; rfl
theorem ifT {α : Type} {c : Prop} [Decidable c] {x y z : α} (hc : c) (h : (if c then x else y) = z) : x = z := by rwa [if_pos hc] at h
theorem ifF {α : Type} {c : Prop} [Decidable c] {x y z : α} (hc : ¬ c) (h : (if c then x else y) = z) : y = z := by rwa [if_neg hc] at h
theorem sl_drop {α : Type} (l : List α) (p : Nat) : (l.drop p).take (l.length - p) = l.drop p := by rw [← List.length_drop, List.take_length]
section
variable {P : Program} {n : Nat} {F0 : Nat → Prop} {w0 : World} {e : Env} {Rs Rf : List Res} {Q : Exit → Act → World → Prop} {ops : Array Oper} {i d : Nat} {ty t t' el : TypeId} {pos : String} {af : Array Edge} {gd : Option (Nat × Bool)} {v v' : Value} {x y : Operand} {l : List Nat} {lo : Sch} {c : Code} {S : World → Prop}
theorem Ex.bEq {d : Option Tmp} {a b p q : Bool} (hx : e.ev x = some (.bool a)) (ha : a = p) (hy : e.ev y = some (.bool b)) (hb : b = q) (hu : ∀ w, (underlying t).run P w = .ok .bool w) : Ex P n e S ⟨d, .binOp .eql t x y t', ty, pos, af, gd⟩ (.bool (p == q)) := by
  intro A w h _
  subst ha hb
  have h1 : ∀ k, (Op.equalIn (k + 1) t (.bool a) (.bool b)).run P w = .ok (a == b) w := by
    intro k
    simp only [Op.equalIn, Sem.run_bind, hu, Result.andThen_ok]
    rfl
  have h2 : (Op.equal t (.bool a) (.bool b)).run P w = .ok (a == b) w := h1 9999
  have h4 : (binOp .eql t (.bool a) (.bool b)).run P w = .ok (.bool (a == b)) w := by
    simp only [binOp, Sem.run_bind, h2, Result.andThen_ok, Sem.run_pure]
  simp only [execOp, h.ev hx, h.ev hy, eqGuard]
  simp [h4]
theorem Ex.bNe {d : Option Tmp} {a b p q : Bool} (hx : e.ev x = some (.bool a)) (ha : a = p) (hy : e.ev y = some (.bool b)) (hb : b = q) (hu : ∀ w, (underlying t).run P w = .ok .bool w) : Ex P n e S ⟨d, .binOp .neq t x y t', ty, pos, af, gd⟩ (.bool (!(p == q))) := by
  intro A w h _
  subst ha hb
  have h1 : ∀ k, (Op.equalIn (k + 1) t (.bool a) (.bool b)).run P w = .ok (a == b) w := by
    intro k
    simp only [Op.equalIn, Sem.run_bind, hu, Result.andThen_ok]
    rfl
  have h2 : (Op.equal t (.bool a) (.bool b)).run P w = .ok (a == b) w := h1 9999
  have h4 : (binOp .neq t (.bool a) (.bool b)).run P w = .ok (.bool (!(a == b))) w := by
    simp only [binOp, Sem.run_bind, h2, Result.andThen_ok, Sem.run_pure]
  simp only [execOp, h.ev hx, h.ev hy, eqGuard]
  simp [h4]
/-! What is known, said otherwise -/
theorem TL.sel (is : List Nat) {Rs' : List Res} (hr : Sel Rs is Rs') (h : TL P n F0 w0 ops l e Rs' Q) : TL P n F0 w0 ops l e Rs Q := fun a w ha hs => h a w ha (hs.sel is hr)
theorem TD.sel (is : List Nat) {Rs' : List Res} (hr : Sel Rs is Rs') (h : TD P n F0 w0 ops lo Rf e Rs' Q) : TD P n F0 w0 ops lo Rf e Rs Q := fun a w ha hs => h a w ha (hs.sel is hr)
theorem T.sel (is : List Nat) {Rs' : List Res} (hr : Sel Rs is Rs') (h : T P n F0 w0 e Rs' c Q) : T P n F0 w0 e Rs c Q := fun a w ha hs => h a w ha (hs.sel is hr)
theorem X.sel {z : Exit} (is : List Nat) {Rs' : List Res} (hr : Sel Rs is Rs') (h : X n F0 w0 e Rs' z Q) : X n F0 w0 e Rs z Q := fun a w ha hs => h a w ha (hs.sel is hr)
theorem Has.as {a : Act} (ha : Has n e a) (hv : e.get d = some v) (h : v = v') : Has n ((d, v') :: e) a := ha.sub (fun t u hu => by
  simp only [Env.get] at hu
  cases hb : Nat.beq d t with
  | true =>
    rw [hb] at hu
    obtain rfl := Nat.eq_of_beq_eq_true hb
    injection hu with hu
    rw [hv, h, hu]
  | false => rw [hb] at hu; exact hu)
theorem TL.as (hv : e.get d = some v) (h : v = v') (k : TL P n F0 w0 ops l ((d, v') :: e) Rs Q) : TL P n F0 w0 ops l e Rs Q := fun a w ha hs => k a w (ha.as hv h) hs
theorem TD.as (hv : e.get d = some v) (h : v = v') (k : TD P n F0 w0 ops lo Rf ((d, v') :: e) Rs Q) : TD P n F0 w0 ops lo Rf e Rs Q := fun a w ha hs => k a w (ha.as hv h) hs
theorem TL.nilrow {α : Type} (T' : TypeId) (size : Nat) (E : Rd α) (h : TL P n F0 w0 ops l e (OwnR T' size E (.slice none 0 0) [] :: Rs) Q) : TL P n F0 w0 ops l e Rs Q := fun a w ha hs => h a w ha (OwnR.nil T' size E hs)
theorem TD.nilrow {α : Type} (T' : TypeId) (size : Nat) (E : Rd α) (h : TD P n F0 w0 ops lo Rf e (OwnR T' size E (.slice none 0 0) [] :: Rs) Q) : TD P n F0 w0 ops lo Rf e Rs Q := fun a w ha hs => h a w ha (OwnR.nil T' size E hs)
theorem X.nilrd {α : Type} {z : Exit} (size : Nat) (E : Rd α) (h : X n F0 w0 e (RdR (sliceRd size E) [.slice none 0 0] [] :: Rs) z Q) : X n F0 w0 e Rs z Q := fun a w ha hs => h a w ha (RdR.nil size E hs)
theorem X.shut {α : Type} {z : Exit} {E : Rd α} {size : Nat} {T : TypeId} {u : Value} {xs : List α} (hp : 0 < size) (i : Nat) (hi : Rs[i]? = some (OwnR T size E u xs)) (h : X n F0 w0 e (Rs.set i (RdR (sliceRd size E) [u] xs)) z Q) : X n F0 w0 e Rs z Q := fun a w ha hs => h a w ha (OwnR.shut hp i hs hi)
/-! A new Output -/
theorem OutR.of_blk {b : Nat} {w : World} {G : Nat → Prop} (h : (BlkR b 40 #[.slice none 0 0, .int .i64 0]).P w G) : (OutR b ([], 0)).P w G := by
  obtain ⟨h1, h2⟩ := h
  exact ⟨_, h1, World.ownsRow_nil _ _ _ _, fun k => by simp [h2 k, Value.ownBlock]⟩
theorem TL.newout {zv : Value} (ho : ops[i]? = some ⟨some d, .alloc t, ty, pos, af, gd⟩) (hw : Wd n ops e ⟨some d, .alloc t, ty, pos, af, gd⟩ true) (hz : ∀ w, (zeroValue t).run P w = .ok zv w) (hd : Nat.blt d n = true)
    (h : ∀ b, TL P n F0 w0 ops l ((d, .pointer (some ⟨b, 0, none⟩)) :: e) (OutR b ([], 0) :: Rs) Q) (ht : t = 40 := by rfl) (hzv : zv = .agg #[.slice none 0 0, .int .i64 0] := by rfl) : TL P n F0 w0 ops (i :: l) e Rs Q := by
  refine TL.alloc ho hw hz hd (fun b => ?_)
  intro a w ha hs
  subst ht hzv
  exact h b a w ha (hs.weaken 0 rfl (fun G hG => OutR.of_blk hG))
theorem TD.newout {zv : Value} (ho : ops[i]? = some ⟨some d, .alloc t, ty, pos, af, gd⟩) (hw : Wd n ops e ⟨some d, .alloc t, ty, pos, af, gd⟩ true) (hz : ∀ w, (zeroValue t).run P w = .ok zv w) (hd : Nat.blt d n = true) (is : List Nat) (hf : ∀ b, Sel (OutR b ([], 0) :: Rs) is Rf)
    (h : ∀ b, TD P n F0 w0 ops lo Rf ((d, .pointer (some ⟨b, 0, none⟩)) :: e) (OutR b ([], 0) :: Rs) Q) (ht : t = 40 := by rfl) (hzv : zv = .agg #[.slice none 0 0, .int .i64 0] := by rfl) : TD P n F0 w0 ops (.e i lo) Rf e Rs Q := by
  refine TD.ef ho hw (Ef.alloc hz hd) ?_
  rintro _ _ ⟨b, rfl, rfl⟩
  subst ht hzv
  have key : ∀ w, St F0 w0 (BlkR b 40 #[.slice none 0 0, .int .i64 0] :: Rs) w → St F0 w0 (OutR b ([], 0) :: Rs) w := fun w hs => hs.weaken 0 rfl (fun G hG => OutR.of_blk hG)
  exact ⟨Rf, fun w hs => (key w hs).sel is (hf b), fun _ h => h, fun a w ha hs => h b a w ha (key w hs)⟩
/-! Appends -/
section
variable {α : Type} {E : Rd α} {sl : Operand} {T z bytes g ii jj : Nat} {zv : Value} {A : Option Addr} {cp : Nat} {Rs' : List Res} {B : Res}
theorem TL.app1 (ii : Nat) {us : List Value} {u : α} {l : List α} {lr : List Nat} (ho : ops[i]? = some ⟨some d, .call ⟨.builtin .append, #[sl, x], #[t, t]⟩, ty, pos, af, gd⟩) (hw : Wd n ops e ⟨some d, .call ⟨.builtin .append, #[sl, x], #[t, t]⟩, ty, pos, af, gd⟩ true)
    (hu : P.underlying t = some (.slice T)) (hinfo : (P.info? T).map (fun i => (i.zero, i.size, i.bytes)) = some (some zv, z, bytes)) (hzv : zv.cells.size = z) (hp : 0 < z)
    (hs : e.ev sl = some (.slice A l.length cp)) (hx : e.ev x = some (.slice (some ⟨g, 0, none⟩) 1 1)) (hR : Rs = BlkR g T us.toArray :: Rs') (hi : Rs'[ii]? = some (OwnR T z E (.slice A l.length cp) l)) (hl : us.length = z) (hq : us.all (·.oneCell') = true) (hE : ∀ w S, E.P w S us u) (hb : (l.length + 1) * bytes ≤ 140737488355328) (hm : l.length + 1 ≤ 140737488355328) (hd : Nat.blt d n = true)
    (h : ∀ A' c', TL P n F0 w0 ops lr ((d, .slice A' (l ++ [u]).length c') :: e) (Rs'.set ii (OwnR T z E (.slice A' (l ++ [u]).length c') (l ++ [u]))) Q) : TL P n F0 w0 ops (i :: lr) e Rs Q := by
  refine TL.ef ho hw (Ef.app1 ii hu hinfo hzv hp hs hx hR hi hl hq hE hb hm hd) ?_
  rintro _ _ ⟨A', c', rfl, rfl⟩
  exact h A' c'
theorem TL.app2 (ii jj : Nat) {us : List Value} {u : α} {l : List α} {lr : List Nat} (ho : ops[i]? = some ⟨some d, .call ⟨.builtin .append, #[sl, x], #[t, t]⟩, ty, pos, af, gd⟩) (hw : Wd n ops e ⟨some d, .call ⟨.builtin .append, #[sl, x], #[t, t]⟩, ty, pos, af, gd⟩ true)
    (hu : P.underlying t = some (.slice T)) (hinfo : (P.info? T).map (fun i => (i.zero, i.size, i.bytes)) = some (some zv, z, bytes)) (hzv : zv.cells.size = z) (hp : 0 < z)
    (hs : e.ev sl = some (.slice A l.length cp)) (hx : e.ev x = some (.slice (some ⟨g, 0, none⟩) 1 1)) (hR : Rs = BlkR g T us.toArray :: Rs') (hi : Rs'[ii]? = some (OwnR T z E (.slice A l.length cp) l)) (hj : (Rs'.eraseIdx ii)[jj]? = some B) (hl : us.length = z) (hq : us.all (·.oneCell') = true) (hE : ∀ w G, B.P w G → E.P w G us u) (hb : (l.length + 1) * bytes ≤ 140737488355328) (hm : l.length + 1 ≤ 140737488355328) (hd : Nat.blt d n = true)
    (h : ∀ A' c', TL P n F0 w0 ops lr ((d, .slice A' (l ++ [u]).length c') :: e) (OwnR T z E (.slice A' (l ++ [u]).length c') (l ++ [u]) :: (Rs'.eraseIdx ii).eraseIdx jj) Q) : TL P n F0 w0 ops (i :: lr) e Rs Q := by
  refine TL.ef ho hw (Ef.app2 ii jj hu hinfo hzv hp hs hx hR hi hj hl hq hE hb hm hd) ?_
  rintro _ _ ⟨A', c', rfl, rfl⟩
  exact h A' c'
theorem TD.app1 (ii : Nat) {us : List Value} {u : α} {l : List α} {lr : Sch} (ho : ops[i]? = some ⟨some d, .call ⟨.builtin .append, #[sl, x], #[t, t]⟩, ty, pos, af, gd⟩) (hw : Wd n ops e ⟨some d, .call ⟨.builtin .append, #[sl, x], #[t, t]⟩, ty, pos, af, gd⟩ true)
    (hu : P.underlying t = some (.slice T)) (hinfo : (P.info? T).map (fun i => (i.zero, i.size, i.bytes)) = some (some zv, z, bytes)) (hzv : zv.cells.size = z) (hp : 0 < z)
    (hs : e.ev sl = some (.slice A l.length cp)) (hx : e.ev x = some (.slice (some ⟨g, 0, none⟩) 1 1)) (hR : Rs = BlkR g T us.toArray :: Rs') (hi : Rs'[ii]? = some (OwnR T z E (.slice A l.length cp) l)) (hl : us.length = z) (hq : us.all (·.oneCell') = true) (hE : ∀ w S, E.P w S us u) (hb : (l.length + 1) * bytes ≤ 140737488355328) (hm : l.length + 1 ≤ 140737488355328) (hd : Nat.blt d n = true)
    (is : List Nat) (hf : ∀ A' c', Sel (Rs'.set ii (OwnR T z E (.slice A' (l ++ [u]).length c') (l ++ [u]))) is Rf)
    (h : ∀ A' c', TD P n F0 w0 ops lr Rf ((d, .slice A' (l ++ [u]).length c') :: e) (Rs'.set ii (OwnR T z E (.slice A' (l ++ [u]).length c') (l ++ [u]))) Q) : TD P n F0 w0 ops (.e i lr) Rf e Rs Q := by
  refine TD.ef ho hw (Ef.app1 ii hu hinfo hzv hp hs hx hR hi hl hq hE hb hm hd) ?_
  rintro _ _ ⟨A', c', rfl, rfl⟩
  exact ⟨Rf, fun w hw => hw.sel is (hf A' c'), fun _ h => h, h A' c'⟩
theorem TD.app2 (ii jj : Nat) {us : List Value} {u : α} {l : List α} {lr : Sch} (ho : ops[i]? = some ⟨some d, .call ⟨.builtin .append, #[sl, x], #[t, t]⟩, ty, pos, af, gd⟩) (hw : Wd n ops e ⟨some d, .call ⟨.builtin .append, #[sl, x], #[t, t]⟩, ty, pos, af, gd⟩ true)
    (hu : P.underlying t = some (.slice T)) (hinfo : (P.info? T).map (fun i => (i.zero, i.size, i.bytes)) = some (some zv, z, bytes)) (hzv : zv.cells.size = z) (hp : 0 < z)
    (hs : e.ev sl = some (.slice A l.length cp)) (hx : e.ev x = some (.slice (some ⟨g, 0, none⟩) 1 1)) (hR : Rs = BlkR g T us.toArray :: Rs') (hi : Rs'[ii]? = some (OwnR T z E (.slice A l.length cp) l)) (hj : (Rs'.eraseIdx ii)[jj]? = some B) (hl : us.length = z) (hq : us.all (·.oneCell') = true) (hE : ∀ w G, B.P w G → E.P w G us u) (hb : (l.length + 1) * bytes ≤ 140737488355328) (hm : l.length + 1 ≤ 140737488355328) (hd : Nat.blt d n = true)
    (is : List Nat) (hf : ∀ A' c', Sel (OwnR T z E (.slice A' (l ++ [u]).length c') (l ++ [u]) :: (Rs'.eraseIdx ii).eraseIdx jj) is Rf)
    (h : ∀ A' c', TD P n F0 w0 ops lr Rf ((d, .slice A' (l ++ [u]).length c') :: e) (OwnR T z E (.slice A' (l ++ [u]).length c') (l ++ [u]) :: (Rs'.eraseIdx ii).eraseIdx jj) Q) : TD P n F0 w0 ops (.e i lr) Rf e Rs Q := by
  refine TD.ef ho hw (Ef.app2 ii jj hu hinfo hzv hp hs hx hR hi hj hl hq hE hb hm hd) ?_
  rintro _ _ ⟨A', c', rfl, rfl⟩
  exact ⟨Rf, fun w hw => hw.sel is (hf A' c'), fun _ h => h, h A' c'⟩
end
/-! Results -/
variable (P n F0 w0) in
def RV (e : Env) (Rs : List Res) (r : ResultVar) (v : Value) : Prop := ∀ a w, Has n e a → St F0 w0 Rs w → (resv a.tmps r).run P w = .ok v w
theorem RV.tm {k : Nat} (hv : e.get k = some v) : RV P n F0 w0 e Rs (.tmp k) v := by
  intro a w ha hs
  have h2 := ha.at_ k v hv
  simp [resv, h2]
theorem RV.cS (i : Nat) {k b T : Nat} {us : Array Value} {z : Nat} (hk : e.get k = some (.pointer (some ⟨b, 0, none⟩))) (ha : ∀ w, (isAgg t).run P w = .ok true w) (hz : ∀ w, (sizeOf t).run P w = .ok z w) (hi : Rs[i]? = some (BlkR b T us)) (hl : us.size = z) : RV P n F0 w0 e Rs (.cell k t) (.agg us) := by
  intro a w h hs
  have h2 := h.at_ k _ hk
  have hb := hs.blk i hi
  have h3 := run_loadVarS (P := P) (t := t) (w := w) (ad := ⟨b, 0, none⟩) (cs := us.toList) ha (by intro w; rw [hz]; simp [hl]) (fun j u hj => by
    have e1 : (⟨b, 0, none⟩ : Addr).add j = ⟨b, j, none⟩ := by unfold Addr.add; split <;> simp_all
    rw [e1, heap_at hb]
    simpa using hj)
  simp [resv, h2, asAddr, h3]
theorem RV.c1 (i : Nat) {k b T : Nat} {us : Array Value} (hk : e.get k = some (.pointer (some ⟨b, 0, none⟩))) (ha : ∀ w, (isAgg t).run P w = .ok false w) (hi : Rs[i]? = some (BlkR b T us)) (hv : us[0]? = some v) : RV P n F0 w0 e Rs (.cell k t) v := by
  intro a w h hs
  have h2 := h.at_ k _ hk
  have hb := hs.blk i hi
  have h3 := run_loadVar1 (P := P) (t := t) (w := w) (ad := ⟨b, 0, none⟩) ha ((heap_at hb 0).trans hv)
  simp [resv, h2, asAddr, h3]
section
variable {f : Func} {R : Value → Res → List Res → Prop} {A' : Res} {Ns : List Res} {r1 r2 r3 r4 : ResultVar} {v1 v2 v3 v4 : Value} {z : Exit}
theorem X.fin (hR : R v A' Ns) (is : List Nat) (hr : Sel Rs is (A' :: Ns)) (hx : z = .ret ∨ z = .normal) (h : ∀ a w, Has n e a → St F0 w0 Rs w → (results f a.tmps).run P w = .ok v w) : X n F0 w0 e Rs z (bodyPost P f (Post R F0 w0)) := by
  intro a w ha hs
  have h : bodyPost P f (Post R F0 w0) .ret a w := ⟨ha.df, v, h a w ha hs, v, A', Ns, rfl, hR, hs.sel is hr⟩
  rcases hx with rfl | rfl <;> exact h
theorem X.done1 (is : List Nat) (hf : f.results = #[r1]) (h1 : RV P n F0 w0 e Rs r1 v1) (hR : R v1 A' Ns) (hr : Sel Rs is (A' :: Ns)) (hx : z = .ret ∨ z = .normal) : X n F0 w0 e Rs z (bodyPost P f (Post R F0 w0)) :=
  X.fin hR is hr hx (fun a w ha hs => by rw [results_eq, hf]; simp [h1 a w ha hs])
theorem X.done2 (is : List Nat) (hf : f.results = #[r1, r2]) (h1 : RV P n F0 w0 e Rs r1 v1) (h2 : RV P n F0 w0 e Rs r2 v2) (hR : R (.tuple #[v1, v2]) A' Ns) (hr : Sel Rs is (A' :: Ns)) (hx : z = .ret ∨ z = .normal) : X n F0 w0 e Rs z (bodyPost P f (Post R F0 w0)) :=
  X.fin hR is hr hx (fun a w ha hs => by rw [results_eq, hf]; simp [h1 a w ha hs, h2 a w ha hs])
theorem X.done3 (is : List Nat) (hf : f.results = #[r1, r2, r3]) (h1 : RV P n F0 w0 e Rs r1 v1) (h2 : RV P n F0 w0 e Rs r2 v2) (h3 : RV P n F0 w0 e Rs r3 v3) (hR : R (.tuple #[v1, v2, v3]) A' Ns) (hr : Sel Rs is (A' :: Ns)) (hx : z = .ret ∨ z = .normal) : X n F0 w0 e Rs z (bodyPost P f (Post R F0 w0)) :=
  X.fin hR is hr hx (fun a w ha hs => by rw [results_eq, hf]; simp [h1 a w ha hs, h2 a w ha hs, h3 a w ha hs])
theorem X.done4 (is : List Nat) (hf : f.results = #[r1, r2, r3, r4]) (h1 : RV P n F0 w0 e Rs r1 v1) (h2 : RV P n F0 w0 e Rs r2 v2) (h3 : RV P n F0 w0 e Rs r3 v3) (h4 : RV P n F0 w0 e Rs r4 v4) (hR : R (.tuple #[v1, v2, v3, v4]) A' Ns) (hr : Sel Rs is (A' :: Ns)) (hx : z = .ret ∨ z = .normal) : X n F0 w0 e Rs z (bodyPost P f (Post R F0 w0)) :=
  X.fin hR is hr hx (fun a w ha hs => by rw [results_eq, hf]; simp [h1 a w ha hs, h2 a w ha hs, h3 a w ha hs, h4 a w ha hs])
end
theorem BOK.mk {zv : Value} {fs : Array Field} {pl : List (Nat × Nat)} {zs : Array Value} (hz : ∀ w, (zeroValue t).run P w = .ok zv w) (hu : ∀ w, (underlying t).run P w = .ok (.struct fs) w) (hp : ∀ w, (fs.mapM (fun f => do pure (f.offset, ← sizeOf f.type)) : Sem (Array (Nat × Nat))).run P w = .ok pl.toArray w) (hzs : zv.cells = zs := by rfl) : BOK P t zs pl := by
  intro parts cells w h
  subst hzs
  simp only [Instr.build, Sem.run_bind, hz, Result.andThen_ok, hu, hp]
  have h2 : (fun (i : Nat) => (pl.toArray)[i]?) = (fun (i : Nat) => pl[i]?) := by funext i; simp
  simp [h2, h]
theorem SOK.mk {T m z : Nat} {zv : Value} {zs : Array Value} (hu : ∀ w, (underlying t).run P w = .ok (.slice T) w) (hz : ∀ w, (sizeOf T).run P w = .ok z w) (hzv : ∀ w, (zeroValue T).run P w = .ok zv w) (hm : 0 < m * z ∧ m * z ≤ 16777216) (hzs : (Array.range (m * z)).map (fun i => zv.cells[i % zv.cells.size]!) = zs) : SOK P t T m z zs := by
  intro parts cells w h
  have h1 : ¬ (m * z > 2 ^ 24) := by omega
  have h2 : ¬ (m * z = 0) := by omega
  subst hzs
  simp only [Instr.buildSlice, Sem.run_bind, hu, hz, Result.andThen_ok, h1, if_false, h2, hzv, Sem.run_pure]
  simp [h, newRow]
end
end Go.Proofs.Ytdlpmcbglmgpiaa.Sl
