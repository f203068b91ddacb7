/- A walk as a judgement: what temporaries hold, which resources there are (no program in it). -/
import Derived.Test.YtdlpmcbglmgpiaaH
import Derived.OrdersHeld
import Derived.Deep.Draws
namespace Go.Proofs.Ytdlpmcbglmgpiaa.Sl
open Go.RowKit
set_option linter.unusedVariables false

/-- What temporaries hold. -/
abbrev Env := List (Nat × Value)
def Env.get : Env → Nat → Option Value
  | [], _ => none
  | (k, v) :: e, t => match Nat.beq k t with | true => some v | false => Env.get e t
def Env.ev (e : Env) : Operand → Option Value
  | .tmp t => e.get t
  | .const v => some v
  | .func f => some (.func (.func f) #[] #[])
  | .global g => some (.pointer (some ⟨g, 0, none⟩))
def Env.evs (e : Env) : List Operand → Option (List Value)
  | [] => some []
  | x :: xs => match e.ev x with
    | some v => match Env.evs e xs with
      | some vs => some (v :: vs)
      | none => none
    | none => none
structure Has (n : Nat) (e : Env) (a : Act) : Prop where
  df : a.defers = []
  sz : a.tmps.size = n
  at_ : ∀ t v, e.get t = some v → a.tmps[t]? = some v
section
variable {n : Nat} {e e' : Env} {a : Act} {v : Value} {vs : List Value} {x : Operand} {xs : List Operand} {d : Nat}
theorem Has.put (h : Has n e a) (hd : Nat.blt d n = true) : Has n ((d, v) :: e) (a.put (some d) v) := by
  have hd' : d < n := by simpa [Nat.blt_eq] using hd
  refine ⟨h.df, by simp [Act.put, h.sz], fun t u hu => ?_⟩
  simp only [Env.get] at hu
  cases hb : Nat.beq d t with
  | true =>
    rw [hb] at hu
    obtain rfl := Nat.eq_of_beq_eq_true hb
    injection hu with hu
    subst hu
    simp [Act.put, h.sz, hd']
  | false =>
    rw [hb] at hu
    have hne : d ≠ t := Nat.ne_of_beq_eq_false hb
    have h2 := h.at_ t u hu
    simp only [Act.put]
    rw [Array.getElem?_setIfInBounds_ne hne]
    exact h2
theorem Has.put0 (h : Has n e a) : Has n e (a.put none v) := h
theorem Has.ev (h : Has n e a) (hx : e.ev x = some v) : a.eval x = v := by
  cases x with
  | tmp t =>
    have := h.at_ t v hx
    simp [Act.eval, this]
  | const u => simpa [Env.ev, Act.eval] using hx
  | func f => simpa [Env.ev, Act.eval] using hx
  | global g => simpa [Env.ev, Act.eval] using hx
theorem Has.evs (h : Has n e a) : ∀ {xs : List Operand} {vs : List Value}, e.evs xs = some vs → xs.map a.eval = vs
  | [], vs, hx => by simpa [Env.evs] using hx
  | x :: xs, vs, hx => by
    simp only [Env.evs] at hx
    cases h1 : e.ev x with
    | none => rw [h1] at hx; cases hx
    | some u =>
      cases h2 : e.evs xs with
      | none => rw [h1, h2] at hx; cases hx
      | some us =>
        rw [h1, h2] at hx
        injection hx with hx
        subst hx
        simp [h.ev h1, h.evs h2]
theorem Has.sub (h : Has n e a) (hs : ∀ t v, Env.get e' t = some v → e.get t = some v) : Has n e' a := ⟨h.df, h.sz, fun t v hv => h.at_ t v (hs t v hv)⟩
end
def Env.gets (e : Env) : List Nat → Option (List Value)
  | [] => some []
  | t :: ts => match e.get t with
    | some v => match Env.gets e ts with
      | some vs => some (v :: vs)
      | none => none
    | none => none
def Env.ks : Env → List Nat
  | [] => []
  | (t, _) :: r => t :: Env.ks r
def Env.vs : Env → List Value
  | [] => []
  | (_, v) :: r => v :: Env.vs r
/-- What the first says the second says too. -/
def Sub (e' e : Env) : Prop := e.gets e'.ks = some e'.vs
theorem Sub.get : ∀ {e' e : Env}, Sub e' e → ∀ t v, Env.get e' t = some v → e.get t = some v
  | [], _, _, t, v, h => by simp [Env.get] at h
  | (k, u) :: r, e, hs, t, v, h => by
    simp only [Sub, Env.ks, Env.vs, Env.gets] at hs
    cases h1 : e.get k with
    | none => rw [h1] at hs; cases hs
    | some u' =>
      cases h2 : e.gets (Env.ks r) with
      | none => rw [h1, h2] at hs; cases hs
      | some us =>
        rw [h1, h2] at hs
        injection hs with hs
        injection hs with hs1 hs2
        subst hs1 hs2
        simp only [Env.get] at h
        cases hb : Nat.beq k t with
        | true =>
          rw [hb] at h
          obtain rfl := Nat.eq_of_beq_eq_true hb
          injection h with h
          subst h
          exact h1
        | false =>
          rw [hb] at h
          exact Sub.get (e' := r) h2 t v h
def selR : List Res → List Nat → Option (List Res)
  | _, [] => some []
  | Rs, i :: is => match Rs[i]? with
    | some A => match selR (Rs.eraseIdx i) is with
      | some l => some (A :: l)
      | none => none
    | none => none
/-- Resources picked out, in this order. -/
def Sel (Rs : List Res) (is : List Nat) (l : List Res) : Prop := selR Rs is = some l
theorem Sel.sep : ∀ {is : List Nat} {Rs l : List Res} {w : World} {F : Nat → Prop}, Sel Rs is l → Sep Rs w F → Sep l w F
  | [], Rs, l, w, F, h, hs => by
    injection h with h
    subst h
    exact trivial
  | i :: is, Rs, l, w, F, h, hs => by
    simp only [Sel, selR] at h
    cases h1 : Rs[i]? with
    | none => rw [h1] at h; cases h
    | some A =>
      cases h2 : selR (Rs.eraseIdx i) is with
      | none => rw [h1, h2] at h; cases h
      | some l' =>
        rw [h1, h2] at h
        injection h with h
        subst h
        obtain ⟨G, k1, k2, k3⟩ := Sep.pick i h1 hs
        exact ⟨G, k1, k2, Sel.sep h2 k3⟩
theorem St.sel {F0 : Nat → Prop} {w0 w : World} {Rs l : List Res} (is : List Nat) (h : St F0 w0 Rs w) (hl : Sel Rs is l) : St F0 w0 l w := ⟨h.fr, hl.sep h.sep⟩

section
variable (P : Program) (n : Nat) (F0 : Nat → Prop) (w0 : World)
/-- An operation that yields v in each world of S, and leaves it as it is. -/
def Ex (e : Env) (S : World → Prop) (o : Oper) (v : Value) : Prop := ∀ a w, Has n e a → S w → (execOp a.eval o).run P w = .ok (.value v) w
/-- Code, from such a state. -/
def T (e : Env) (Rs : List Res) (c : Code) (Q : Exit → Act → World → Prop) : Prop := ∀ a w, Has n e a → St F0 w0 Rs w → c.wp P Q a w
/-- A way out, from such a state. -/
def X (e : Env) (Rs : List Res) (x : Exit) (Q : Exit → Act → World → Prop) : Prop := ∀ a w, Has n e a → St F0 w0 Rs w → Q x a w
/-- The rest of a region, in order. -/
def TL (ops : Array Oper) (l : List Nat) (e : Env) (Rs : List Res) (Q : Exit → Act → World → Prop) : Prop := ∀ a w, Has n e a → St F0 w0 Rs w → wpOps P ops Q l a w
/-- An operation that does something. -/
def Ef (e : Env) (Rs : List Res) (o : Oper) (R : Env → List Res → Prop) : Prop :=
  ∀ a w K Q, Has n e a → St F0 w0 Rs w → (∀ e' Rs', R e' Rs' → ∀ a' w', Has n e' a' → St F0 w0 Rs' w' → K a' w') → o.wp P a w K Q
/-- Is it carried out? -/
def Wd (ops : Array Oper) (e : Env) (o : Oper) (b : Bool) : Prop := ∀ a, Has n e a → Region.wanted o (yielded ops a.tmps) = b
end
section
variable {P : Program} {n : Nat} {F0 : Nat → Prop} {w0 : World} {e e' : Env} {Rs Rs' : List Res} {Q : Exit → Act → World → Prop} {ops : Array Oper} {o : Oper} {v : Value} {l : List Nat}
theorem Wd.u {d : Option Tmp} {op : Op} {ty : TypeId} {pos : String} {af : Array Edge} : Wd n ops e ⟨d, op, ty, pos, af, none⟩ true := fun _ _ => rfl
theorem Wd.g {d : Option Tmp} {op : Op} {ty : TypeId} {pos : String} {af : Array Edge} {j t : Nat} {b want : Bool} (hj : (ops[j]?).bind (·.dst) = some t) (hv : e.get t = some (.bool b)) (hb : b = want) :
    Wd n ops e ⟨d, op, ty, pos, af, some (j, want)⟩ true := by
  intro a h
  subst hb
  simp only [Region.wanted, yielded, hj, Option.bind_some, h.at_ t _ hv, beq_self_eq_true]
theorem Wd.gn {d : Option Tmp} {op : Op} {ty : TypeId} {pos : String} {af : Array Edge} {j t : Nat} {b want : Bool} (hj : (ops[j]?).bind (·.dst) = some t) (hv : e.get t = some (.bool b)) (hb : b = !want) :
    Wd n ops e ⟨d, op, ty, pos, af, some (j, want)⟩ false := by
  intro a h
  subst hb
  simp only [Region.wanted, yielded, hj, Option.bind_some, h.at_ t _ hv]
  cases want <;> rfl
theorem wp_of_ex {o : Oper} {v : Value} {a : Act} {w : World} {K : Act → World → Prop} {S : World → Prop} (hx : Ex P n e S o v) (ha : Has n e a) (hw : S w) (hk : K (a.put o.dst v) w) : o.wp P a w K Q := by
  unfold Oper.wp
  rw [hx a w ha hw]
  exact hk
theorem TL.nil (h : X n F0 w0 e Rs .normal Q) : TL P n F0 w0 ops [] e Rs Q := fun a w ha hw => h a w ha hw
/-- A step that yields. -/
theorem TL.q {i d : Nat} {op : Op} {ty : TypeId} {pos : String} {af : Array Edge} {g : Option (Nat × Bool)} (ho : ops[i]? = some ⟨some d, op, ty, pos, af, g⟩) (hw : Wd n ops e ⟨some d, op, ty, pos, af, g⟩ true)
    (hx : Ex P n e (St F0 w0 Rs) ⟨some d, op, ty, pos, af, g⟩ v) (hd : Nat.blt d n = true) (h : TL P n F0 w0 ops l ((d, v) :: e) Rs Q) : TL P n F0 w0 ops (i :: l) e Rs Q := by
  intro a w ha hs
  rw [wpOps_cons, wpOp, ho]
  simp only [hw a ha, if_true]
  exact .inl (wp_of_ex hx ha hs (h _ _ (ha.put hd) hs))
/-- A step that isn't taken. -/
theorem TL.no {i d : Nat} {op : Op} {ty : TypeId} {pos : String} {af : Array Edge} {g : Option (Nat × Bool)} (ho : ops[i]? = some ⟨some d, op, ty, pos, af, g⟩) (hw : Wd n ops e ⟨some d, op, ty, pos, af, g⟩ false)
    (hd : Nat.blt d n = true) (h : TL P n F0 w0 ops l ((d, undef) :: e) Rs Q) : TL P n F0 w0 ops (i :: l) e Rs Q := by
  intro a w ha hs
  rw [wpOps_cons, wpOp, ho]
  simp only [hw a ha]
  exact h _ _ (ha.put hd) hs
theorem TL.no0 {i : Nat} {op : Op} {ty : TypeId} {pos : String} {af : Array Edge} {g : Option (Nat × Bool)} (ho : ops[i]? = some ⟨none, op, ty, pos, af, g⟩) (hw : Wd n ops e ⟨none, op, ty, pos, af, g⟩ false)
    (h : TL P n F0 w0 ops l e Rs Q) : TL P n F0 w0 ops (i :: l) e Rs Q := by
  intro a w ha hs
  rw [wpOps_cons, wpOp, ho]
  simp only [hw a ha]
  exact h _ _ ha hs
/-- A step that does something. -/
theorem TL.ef {i : Nat} {R : Env → List Res → Prop} (ho : ops[i]? = some o) (hw : Wd n ops e o true) (hx : Ef P n F0 w0 e Rs o R) (h : ∀ e' Rs', R e' Rs' → TL P n F0 w0 ops l e' Rs' Q) : TL P n F0 w0 ops (i :: l) e Rs Q := by
  intro a w ha hs
  rw [wpOps_cons, wpOp, ho]
  simp only [hw a ha, if_true]
  exact .inl (hx a w _ _ ha hs (fun e' Rs' hr a' w' ha' hs' => h e' Rs' hr a' w' ha' hs'))
theorem T.region {id : Nat} {os : List Oper} (hl : List.range os.toArray.size = l) (h : TL P n F0 w0 os.toArray l e Rs Q) : T P n F0 w0 e Rs (.region id os.toArray false) Q := fun a w ha hs => wp_region (hl ▸ h a w ha hs)
theorem T.seq {x y : Code} (h : T P n F0 w0 e Rs x (Exit.then (y.wp P Q) Q)) : T P n F0 w0 e Rs (.seq x y) Q := fun a w ha hs => wp_seq (h a w ha hs)
theorem T.skip (h : X n F0 w0 e Rs .normal Q) : T P n F0 w0 e Rs .skip Q := fun a w ha hs => wp_skip (h a w ha hs)
theorem T.ret (h : X n F0 w0 e Rs .ret Q) : T P n F0 w0 e Rs .ret Q := fun a w ha hs => wp_ret (h a w ha hs)
theorem T.exit {i : Nat} (h : X n F0 w0 e Rs (.exit i) Q) : T P n F0 w0 e Rs (.exit i) Q := fun a w ha hs => wp_exit (h a w ha hs)
theorem T.goto {i : Nat} (h : X n F0 w0 e Rs (.goto i) Q) : T P n F0 w0 e Rs (.goto i) Q := fun a w ha hs => wp_goto (h a w ha hs)
theorem T.label {i : Nat} (h : X n F0 w0 e Rs .normal Q) : T P n F0 w0 e Rs (.label i) Q := fun a w ha hs => wp_label (h a w ha hs)
theorem T.yes {c : Operand} {x y : Code} {b : Bool} (hc : e.ev c = some (.bool b)) (hb : b = true) (h : T P n F0 w0 e Rs x Q) : T P n F0 w0 e Rs (.cond c x y) Q := fun a w ha hs => wp_cond_true (by rw [ha.ev hc, hb]) (h a w ha hs)
theorem T.no {c : Operand} {x y : Code} {b : Bool} (hc : e.ev c = some (.bool b)) (hb : b = false) (h : T P n F0 w0 e Rs y Q) : T P n F0 w0 e Rs (.cond c x y) Q := fun a w ha hs => wp_cond_false (by rw [ha.ev hc, hb]) (h a w ha hs)
theorem T.block {id : Nat} {c : Code} (h : T P n F0 w0 e Rs c (Exit.inBlock id Q)) : T P n F0 w0 e Rs (.block id c) Q := fun a w ha hs => wp_block (h a w ha hs)
/-- A loop: what holds at its head. -/
theorem T.loop {c : Code} (I : Nat → Env → List Res → Prop) (m : Nat) (h0 : I m e Rs) (h : ∀ m e Rs, I m e Rs → T P n F0 w0 e Rs c (Exit.then (fun a w => ∃ m' e' Rs', m' < m ∧ I m' e' Rs' ∧ Has n e' a ∧ St F0 w0 Rs' w) Q)) : T P n F0 w0 e Rs (.loop c) Q := by
  intro a w ha hs b k cs
  have key : ∀ m e Rs a w, I m e Rs → Has n e a → St F0 w0 Rs w → ∃ x a' w', Q x a' w' ∧ Arrives P (lone (b.at a (.code c :: .inLoop c :: k)) cs w) b k cs x a' w' := by
    intro m
    induction m using Nat.strongRecOn with
    | _ m ih =>
      intro e Rs a w hI ha hs
      obtain ⟨x, a₁, w₁, hq, harr⟩ := h m e Rs hI a w ha hs b (.inLoop c :: k) cs
      cases x with
      | normal =>
        obtain ⟨m', e', Rs', hlt, hI', ha', hs'⟩ := hq
        obtain ⟨x₂, a₂, w₂, hq₂, harr₂⟩ := ih m' hlt e' Rs' a₁ w₁ hI' ha' hs'
        exact ⟨x₂, a₂, w₂, hq₂, .of_steps (Steps.trans harr (.one step_inLoop)) harr₂⟩
      | exit id => exact ⟨_, a₁, w₁, hq, .pass (x := .inLoop c) rfl (fun _ _ => .inl (by simp)) harr⟩
      | goto l => exact ⟨_, a₁, w₁, hq, .pass (x := .inLoop c) rfl (fun _ _ => .inl (by simp)) harr⟩
      | ret => exact ⟨_, a₁, w₁, hq, .pass (x := .inLoop c) rfl (fun _ _ => .inl (by simp)) harr⟩
      | panic ch => exact ⟨_, a₁, w₁, hq, .pass (x := .inLoop c) rfl (fun _ _ => .inl (by simp)) harr⟩
      | outgrown => exact ⟨_, a₁, w₁, hq, .pass (x := .inLoop c) rfl (fun _ _ => .inl (by simp)) harr⟩
  obtain ⟨x, a', w', hq, harr⟩ := key m e Rs a w h0 ha hs
  exact ⟨x, a', w', hq, .of_steps (.one step_loop) harr⟩
theorem T.lp {c : Code} (I : Nat → Env → List Res → Prop) (m : Nat) {e0 : Env} {Rs0 : List Res} (is : List Nat) (h0 : I m e0 Rs0) (he : Sub e0 e) (hr : Sel Rs is Rs0) (h : ∀ m e Rs, I m e Rs → T P n F0 w0 e Rs c (Exit.then (fun a w => ∃ m' e' Rs', m' < m ∧ I m' e' Rs' ∧ Has n e' a ∧ St F0 w0 Rs' w) Q)) : T P n F0 w0 e Rs (.loop c) Q :=
  fun a w ha hs => T.loop I m h0 h a w (ha.sub he.get) (hs.sel is hr)
end
end Go.Proofs.Ytdlpmcbglmgpiaa.Sl
