/- Regions that draw their order, as a judgement; ways out; steps that yield (no program in it). -/
import Derived.Test.YtdlpmcbglmgpiaaN
import Derived.Laws.Cells
import Derived.Laws.CopyRow
import Derived.Laws.StructEq
namespace Go.Proofs.Ytdlpmcbglmgpiaa.Sl
open Go.RowKit
set_option linter.unusedVariables false

def NoP (Q : Exit → Act → World → Prop) : Prop := ∀ c a w, ¬ Q (.panic c) a w
/-- Those that wait for number i, at first or at second hand. -/
def waitsL (ops : Array Oper) (i : Nat) : List Nat → List Nat → List Nat
  | [], D => D
  | j :: js, D => waitsL ops i js (match ops[j]? with
    | some o => if o.after.any (fun e => Region.binds .any e && (Nat.beq e.on i || D.contains e.on)) then j :: D else D
    | none => D)
def waits (ops : Array Oper) (i : Nat) : List Nat := waitsL ops i (List.range ops.size) []
def freeT (ops : Array Oper) (listed : Array Bool) (i : Nat) : Bool :=
  match ops[i]? with
  | none => false
  | some oi => (waits ops i).all (fun j => !listed.getD j true && match ops[j]? with | some o => o.after.any (fun e => Region.binds .any e && (Nat.beq e.on i || (waits ops i).contains e.on)) | none => false) &&
    (List.range ops.size).all fun j => j == i || listed.getD j true || (waits ops i).contains j || match ops[j]? with
      | some oj => oi.apart ops oj
      | none => true
/-- Orders: what yields (q) comes as early as may be; else one operation is the only one that may come up (e), or there are several (br). -/
inductive Sch where
  | nil
  | q (i : Nat) (s : Sch)
  | e (i : Nat) (s : Sch)
  | br (i : Nat) (s m : Sch)
def Sch.heads : Sch → List Nat
  | .e i _ => [i]
  | .br i _ m => i :: m.heads
  | _ => []
def schedB (ops : Array Oper) : Bool → Nat → Sch → Array Bool → Bool
  | alt, k, .nil, listed => !alt && (k == 0) && (Region.ready .any ops listed).isEmpty
  | alt, 0, _, _ => false
  | alt, k + 1, .q i s, listed => !alt && (Region.ready .any ops listed).contains i && freeT ops listed i && schedB ops false k s (listed.setIfInBounds i true)
  | alt, k + 1, .e i s, listed => (alt || Region.ready .any ops listed == [i]) && schedB ops false k s (listed.setIfInBounds i true)
  | alt, k + 1, .br i s m, listed => (alt || Region.ready .any ops listed == i :: m.heads) && schedB ops false k s (listed.setIfInBounds i true) && schedB ops true (k + 1) m listed
def drawB (ops : Array Oper) (ord : Sch) : Bool := Region.noSelect ops && schedB ops false ops.size ord (Array.replicate ops.size false)
section
variable {P : Program} {ops : Array Oper} {Q : Exit → Act → World → Prop} {S : World → Prop}
theorem wpAnyH_firstT {i : Nat} {oi : Oper} {v : Value} (D : Nat → Prop) (hi : ops[i]? = some oi) (hsel : ∀ (j : Nat) (o : Oper) cs b, ops[j]? = some o → o.op ≠ .select cs b)
    (hQ : ∀ c a w, Q (.panic c) (a.put oi.dst v) w → Q (.panic c) a w) (hD : ∀ j oj, ops[j]? = some oj → D j → ∃ e ∈ oj.after, Region.binds .any e = true ∧ (e.on = i ∨ D e.on)) :
    ∀ (fuel : Nat) (listed : Array Bool) (a : Act) (w : World), (∀ j, D j → listed.getD j true = false) →
      (∀ j oj, ops[j]? = some oj → j ≠ i → listed.getD j true = false → ¬ D j → oi.apart ops oj = true) →
      i ∈ Region.ready .any ops listed → YieldsIf P ops S oi v a → S w →
      wpAnyH P .any ops Q S fuel (listed.setIfInBounds i true) (a.put oi.dst v) w → wpAnyH P .any ops Q S (fuel + 1) listed a w := by
  intro fuel
  induction fuel with
  | zero =>
    intro listed a w _ _ hr hy hS H
    refine ⟨fun h => (by rw [h] at hr; cases hr), fun j hj => ?_⟩
    by_cases hji : j = i
    · subst hji; exact hy.wpOp hi hS ⟨hS, H⟩
    · have := ready_mono hj hji
      rw [H.1] at this
      cases this
  | succ fuel ih =>
    intro listed a w hun hfree hr hy hS H
    refine ⟨fun h => (by rw [h] at hr; cases hr), fun j hj => ?_⟩
    by_cases hji : j = i
    · subst hji; exact hy.wpOp hi hS ⟨hS, H⟩
    · have h1 := H.2 j (ready_mono hj hji)
      obtain ⟨hjun, oj, hoj, hall⟩ := mem_ready.1 hj
      have hiun := (mem_ready.1 hr).1
      have hnot : ¬ D j := fun hd => by
        obtain ⟨e, he, hb, h2⟩ := hD j oj hoj hd
        have h3 := hall e he hb
        rcases h2 with h2 | h2
        · rw [h2] at h3
          rcases Nat.lt_or_ge i listed.size with h' | h'
          · simp [h'] at hiun h3; rw [hiun] at h3; cases h3
          · simp [Array.getElem?_eq_none h'] at h3
        · have h4 := hun _ h2
          rcases Nat.lt_or_ge e.on listed.size with h' | h'
          · simp [h'] at h4 h3; rw [h4] at h3; cases h3
          · simp [Array.getElem?_eq_none h'] at h4
      have h2 := wpOp_putIf hoj (hfree j oj hoj hji hjun hnot) (fun cs b => hsel i oi cs b hi) (fun cs b => hsel j oj cs b hoj) hQ hy h1
      have hun' : ∀ k, D k → (listed.setIfInBounds j true).getD k true = false := fun k hk => by
        have hjk : j ≠ k := fun e => hnot (e ▸ hk)
        rw [getD_set_ne true hjk]
        exact hun k hk
      have hfree' : ∀ k ok, ops[k]? = some ok → k ≠ i → (listed.setIfInBounds j true).getD k true = false → ¬ D k → oi.apart ops ok = true := fun k ok hk hki hu hno => by
        refine hfree k ok hk hki ?_ hno
        by_cases hjk : j = k
        · subst hjk; exact hjun
        · rw [getD_set_ne true hjk] at hu; exact hu
      refine wpOp_mono (fun a' w' h3 => ⟨h3.2.1, ih (listed.setIfInBounds j true) a' w' hun' hfree' (ready_mono hr (Ne.symm hji)) h3.1 h3.2.1 ?_⟩) h2
      rw [Array.setIfInBounds_comm _ _ hji]
      exact h3.2.2
theorem wpAnyH_takeT {i : Nat} {oi : Oper} {v : Value} {fuel : Nat} {listed : Array Bool} {a : Act} {w : World} (hi : ops[i]? = some oi)
    (hs : Region.noSelect ops = true) (hf : freeT ops listed i = true) (hr : (Region.ready .any ops listed).contains i = true)
    (hQ : ∀ c a w, Q (.panic c) (a.put oi.dst v) w → Q (.panic c) a w) (hy : YieldsIf P ops S oi v a) (hS : S w)
    (h : wpAnyH P .any ops Q S fuel (listed.setIfInBounds i true) (a.put oi.dst v) w) : wpAnyH P .any ops Q S (fuel + 1) listed a w := by
  simp only [freeT, hi, Bool.and_eq_true, List.all_eq_true] at hf
  obtain ⟨h1, h2⟩ := hf
  refine wpAnyH_firstT (fun j => j ∈ waits ops i) hi (Region.noSelect_spec hs) hQ ?_ fuel listed a w ?_ ?_ (by simpa using hr) hy hS h
  · intro j oj hj hd
    have h3 := (h1 j hd).2
    simp only [hj, Array.any_eq_true] at h3
    obtain ⟨k, hk, h4⟩ := h3
    simp only [Bool.and_eq_true, Bool.or_eq_true, List.contains_iff_mem] at h4
    exact ⟨_, Array.getElem_mem hk, h4.1, h4.2.imp Nat.eq_of_beq_eq_true id⟩
  · intro j hd
    simpa using (h1 j hd).1
  · intro j oj hj hne hun hno
    have hlt : j < ops.size := (Array.getElem?_eq_some_iff.1 hj).1
    have h3 := h2 j (by simpa using hlt)
    simp only [hj, Bool.or_eq_true, beq_iff_eq, List.contains_iff_mem] at h3
    rcases h3 with ((h3 | h3) | h3) | h3
    · exact (hne h3).elim
    · rw [hun] at h3; cases h3
    · exact (hno h3).elim
    · exact h3
end
def wpO (P : Program) (ops : Array Oper) (Q : Exit → Act → World → Prop) : Sch → (World → Prop) → Act → World → Prop
  | .nil, _, a, w => Q .normal a w
  | .q i r, S, a, w => ∃ o v, ops[i]? = some o ∧ YieldsIf P ops S o v a ∧ wpO P ops Q r S (a.put o.dst v) w
  | .e i r, S, a, w => wpOp P ops Q i (fun a' w' => ∃ S' : World → Prop, S' w' ∧ (∀ w, S' w → S w) ∧ wpO P ops Q r S' a' w') a w
  | .br i r m, S, a, w => wpOp P ops Q i (fun a' w' => ∃ S' : World → Prop, S' w' ∧ (∀ w, S' w → S w) ∧ wpO P ops Q r S' a' w') a w ∧ wpO P ops Q m S a w
section
variable {P : Program} {ops : Array Oper} {Q : Exit → Act → World → Prop}
theorem wpAnyH_mono {S S' : World → Prop} (hS : ∀ w, S' w → S w) : ∀ (fuel : Nat) (listed : Array Bool) (a : Act) (w : World), wpAnyH P .any ops Q S' fuel listed a w → wpAnyH P .any ops Q S fuel listed a w
  | 0, _, _, _, h => h
  | fuel + 1, listed, a, w, h => ⟨h.1, fun i hi => wpOp_mono (fun a' w' h' => ⟨hS _ h'.1, wpAnyH_mono hS fuel _ a' w' h'.2⟩) (h.2 i hi)⟩
theorem wpO_sound (hs : Region.noSelect ops = true) (hQ : NoP Q) : ∀ (ord : Sch) (k : Nat) (S : World → Prop) (listed : Array Bool) (a : Act) (w : World), S w → wpO P ops Q ord S a w →
    (schedB ops false k ord listed = true → wpAnyH P .any ops Q S k listed a w) ∧
    (∀ k', k = k' + 1 → schedB ops true k ord listed = true → ∀ j ∈ ord.heads, wpOp P ops Q j (fun a' w' => S w' ∧ wpAnyH P .any ops Q S k' (listed.setIfInBounds j true) a' w') a w)
  | .nil, k, S, listed, a, w, hS, h => by
    refine ⟨fun hk => ?_, fun k' _ hk => by cases k <;> simp [schedB] at hk⟩
    have hk' : k = 0 ∧ Region.ready .any ops listed = [] := by cases k <;> simp [schedB] at hk <;> exact ⟨rfl, hk⟩
    rw [hk'.1]
    exact ⟨hk'.2, h⟩
  | .q i r, 0, S, listed, a, w, hS, h => ⟨fun hk => by simp [schedB] at hk, fun k' e => by omega⟩
  | .q i r, k + 1, S, listed, a, w, hS, h => by
    refine ⟨fun hk => ?_, fun k' _ hk => by simp [schedB] at hk⟩
    obtain ⟨o, v, ho, hy, h⟩ := h
    simp only [schedB, Bool.and_eq_true] at hk
    obtain ⟨⟨⟨_, h1⟩, h2⟩, h3⟩ := hk
    exact wpAnyH_takeT ho hs h2 h1 (fun c a' w' h' => (hQ _ _ _ h').elim) hy hS ((wpO_sound hs hQ r k S _ _ _ hS h).1 h3)
  | .e i r, 0, S, listed, a, w, hS, h => ⟨fun hk => by simp [schedB] at hk, fun k' e => by omega⟩
  | .e i r, k + 1, S, listed, a, w, hS, h => by
    have key : schedB ops false k r (listed.setIfInBounds i true) = true → wpOp P ops Q i (fun a' w' => S w' ∧ wpAnyH P .any ops Q S k (listed.setIfInBounds i true) a' w') a w := by
      intro h3
      refine wpOp_mono ?_ h
      rintro a' w' ⟨S', k1, k2, k3⟩
      exact ⟨k2 _ k1, wpAnyH_mono k2 _ _ _ _ ((wpO_sound hs hQ r k S' _ _ _ k1 k3).1 h3)⟩
    refine ⟨fun hk => ?_, fun k' e hk j hj => ?_⟩
    · simp only [schedB, Bool.false_or, Bool.and_eq_true, beq_iff_eq] at hk
      refine wpAnyH_all hk.1 (by simp) (fun j hj => ?_)
      obtain rfl : j = i := by simpa using hj
      exact key hk.2
    · obtain rfl : k' = k := by omega
      simp only [schedB, Bool.true_or, Bool.true_and] at hk
      obtain rfl : j = i := by simpa [Sch.heads] using hj
      exact key hk
  | .br i r m, 0, S, listed, a, w, hS, h => ⟨fun hk => by simp [schedB] at hk, fun k' e => by omega⟩
  | .br i r m, k + 1, S, listed, a, w, hS, h => by
    have key : schedB ops false k r (listed.setIfInBounds i true) = true → wpOp P ops Q i (fun a' w' => S w' ∧ wpAnyH P .any ops Q S k (listed.setIfInBounds i true) a' w') a w := by
      intro h3
      refine wpOp_mono ?_ h.1
      rintro a' w' ⟨S', k1, k2, k3⟩
      exact ⟨k2 _ k1, wpAnyH_mono k2 _ _ _ _ ((wpO_sound hs hQ r k S' _ _ _ k1 k3).1 h3)⟩
    have more := (wpO_sound hs hQ m (k + 1) S listed a w hS h.2).2
    refine ⟨fun hk => ?_, fun k' e hk j hj => ?_⟩
    · simp only [schedB, Bool.false_or, Bool.and_eq_true, beq_iff_eq] at hk
      refine wpAnyH_all hk.1.1 (by simp) (fun j hj => ?_)
      rcases List.mem_cons.1 hj with rfl | hj
      · exact key hk.1.2
      · exact more k rfl hk.2 j hj
    · obtain rfl : k' = k := by omega
      simp only [schedB, Bool.true_or, Bool.true_and, Bool.and_eq_true] at hk
      rcases List.mem_cons.1 (by simpa [Sch.heads] using hj : j ∈ i :: m.heads) with rfl | hj
      · exact key hk.1
      · exact more k' rfl hk.2 j hj
end
/-- The rest of a region that draws its order; Rf: what each world has in which something may yield. -/
def TD (P : Program) (n : Nat) (F0 : Nat → Prop) (w0 : World) (ops : Array Oper) (l : Sch) (Rf : List Res) (e : Env) (Rs : List Res) (Q : Exit → Act → World → Prop) : Prop :=
  ∀ a w, Has n e a → St F0 w0 Rs w → wpO P ops Q l (St F0 w0 Rf) a w
section
variable {P : Program} {n : Nat} {F0 : Nat → Prop} {w0 : World} {e e' : Env} {Rs Rs' Rf Rf' : List Res} {Q : Exit → Act → World → Prop} {ops : Array Oper} {o : Oper} {v : Value} {l : Sch}
theorem T.draw {id : Nat} {os : List Oper} (ord : Sch) (is : List Nat) (hf : Sel Rs is Rf) (hm : P.follows .mixedOrders = true) (hQ : NoP Q) (hk : drawB os.toArray ord = true) (h : TD P n F0 w0 os.toArray ord Rf e Rs Q) :
    T P n F0 w0 e Rs (.region id os.toArray true) Q := by
  intro a w ha hs
  simp only [drawB, Bool.and_eq_true] at hk
  obtain ⟨h1, h3⟩ := hk
  refine wp_region_held (S := St F0 w0 Rf) hm ?_
  have hs' := hs.drew
  exact (wpO_sound h1 hQ ord _ (St F0 w0 Rf) _ a _ (hs'.sel is hf) (h a _ ha hs')).1 h3
theorem TD.br {i : Nat} {r m : Sch} (h : TD P n F0 w0 ops (.e i r) Rf e Rs Q) (k : TD P n F0 w0 ops m Rf e Rs Q) : TD P n F0 w0 ops (.br i r m) Rf e Rs Q := fun a w ha hs => ⟨h a w ha hs, k a w ha hs⟩
theorem TD.nil (h : X n F0 w0 e Rs .normal Q) : TD P n F0 w0 ops .nil Rf e Rs Q := fun a w ha hw => h a w ha hw
theorem TD.q {i d : Nat} {op : Op} {ty : TypeId} {pos : String} {af : Array Edge} {g : Option (Nat × Bool)} (ho : ops[i]? = some ⟨some d, op, ty, pos, af, g⟩) (hw : Wd n ops e ⟨some d, op, ty, pos, af, g⟩ true)
    (hx : Ex P n e (St F0 w0 Rf) ⟨some d, op, ty, pos, af, g⟩ v) (hd : Nat.blt d n = true) (h : TD P n F0 w0 ops l Rf ((d, v) :: e) Rs Q) : TD P n F0 w0 ops (.q i l) Rf e Rs Q :=
  fun a w ha hs => ⟨_, v, ho, .inl ⟨hw a ha, fun w' hw' => hx a w' ha hw'⟩, h _ _ (ha.put hd) hs⟩
theorem TD.no {i d : Nat} {op : Op} {ty : TypeId} {pos : String} {af : Array Edge} {g : Option (Nat × Bool)} (ho : ops[i]? = some ⟨some d, op, ty, pos, af, g⟩) (hw : Wd n ops e ⟨some d, op, ty, pos, af, g⟩ false)
    (hd : Nat.blt d n = true) (h : TD P n F0 w0 ops l Rf ((d, undef) :: e) Rs Q) : TD P n F0 w0 ops (.q i l) Rf e Rs Q :=
  fun a w ha hs => ⟨_, undef, ho, .inr ⟨hw a ha, rfl⟩, h _ _ (ha.put hd) hs⟩
theorem TD.no0 {i : Nat} {op : Op} {ty : TypeId} {pos : String} {af : Array Edge} {g : Option (Nat × Bool)} (ho : ops[i]? = some ⟨none, op, ty, pos, af, g⟩) (hw : Wd n ops e ⟨none, op, ty, pos, af, g⟩ false)
    (h : TD P n F0 w0 ops l Rf e Rs Q) : TD P n F0 w0 ops (.q i l) Rf e Rs Q :=
  fun a w ha hs => ⟨_, undef, ho, .inr ⟨hw a ha, rfl⟩, h _ _ ha hs⟩
theorem TD.ef {i : Nat} {R : Env → List Res → Prop} (ho : ops[i]? = some o) (hw : Wd n ops e o true) (hx : Ef P n F0 w0 e Rs o R)
    (h : ∀ e' Rs', R e' Rs' → ∃ Rf', (∀ w, St F0 w0 Rs' w → St F0 w0 Rf' w) ∧ (∀ w, St F0 w0 Rf' w → St F0 w0 Rf w) ∧ TD P n F0 w0 ops l Rf' e' Rs' Q) : TD P n F0 w0 ops (.e i l) Rf e Rs Q := by
  intro a w ha hs
  simp only [wpO, wpOp, ho]
  rw [if_pos (hw a ha)]
  refine .inl (hx a w _ _ ha hs (fun e' Rs' hr a' w' ha' hs' => ?_))
  obtain ⟨Rf', h1, h2, h3⟩ := h e' Rs' hr
  exact ⟨St F0 w0 Rf', h1 _ hs', h2, h3 a' w' ha' hs'⟩
theorem TD.noe {i d : Nat} {op : Op} {ty : TypeId} {pos : String} {af : Array Edge} {g : Option (Nat × Bool)} (ho : ops[i]? = some ⟨some d, op, ty, pos, af, g⟩) (hw : Wd n ops e ⟨some d, op, ty, pos, af, g⟩ false)
    (hd : Nat.blt d n = true) (is : List Nat) (hf : Sel Rs is Rf) (h : TD P n F0 w0 ops l Rf ((d, undef) :: e) Rs Q) : TD P n F0 w0 ops (.e i l) Rf e Rs Q := by
  intro a w ha hs
  simp only [wpO, wpOp, ho, hw a ha]
  exact ⟨St F0 w0 Rf, hs.sel is hf, fun _ h => h, h _ _ (ha.put hd) hs⟩
theorem TD.noe0 {i : Nat} {op : Op} {ty : TypeId} {pos : String} {af : Array Edge} {g : Option (Nat × Bool)} (ho : ops[i]? = some ⟨none, op, ty, pos, af, g⟩) (hw : Wd n ops e ⟨none, op, ty, pos, af, g⟩ false)
    (is : List Nat) (hf : Sel Rs is Rf) (h : TD P n F0 w0 ops l Rf e Rs Q) : TD P n F0 w0 ops (.e i l) Rf e Rs Q := by
  intro a w ha hs
  simp only [wpO, wpOp, ho, hw a ha]
  exact ⟨St F0 w0 Rf, hs.sel is hf, fun _ h => h, h _ _ ha hs⟩
/-- What yields, but not in each world of Rf: it comes when nothing else may. -/
theorem TD.ny {i d : Nat} {op : Op} {ty : TypeId} {pos : String} {af : Array Edge} {g : Option (Nat × Bool)} (ho : ops[i]? = some ⟨some d, op, ty, pos, af, g⟩) (hw : Wd n ops e ⟨some d, op, ty, pos, af, g⟩ true)
    (hx : Ex P n e (St F0 w0 Rs) ⟨some d, op, ty, pos, af, g⟩ v) (hd : Nat.blt d n = true) (is : List Nat) (hf : Sel Rs is Rf) (h : TD P n F0 w0 ops l Rf ((d, v) :: e) Rs Q) : TD P n F0 w0 ops (.e i l) Rf e Rs Q := by
  intro a w ha hs
  simp only [wpO, wpOp, ho]
  rw [if_pos (hw a ha)]
  exact .inl (wp_of_ex hx ha hs ⟨St F0 w0 Rf, hs.sel is hf, fun _ h => h, h _ _ (ha.put hd) hs⟩)
/-! Ways out -/
variable {id j : Nat} {y c : Code} {K : Act → World → Prop}
theorem X.seq (h : T P n F0 w0 e Rs y Q) : X n F0 w0 e Rs .normal (Exit.then (y.wp P Q) Q) := h
theorem X.blk (h : X n F0 w0 e Rs .normal Q) : X n F0 w0 e Rs .normal (Exit.inBlock id Q) := h
theorem X.ex (h : X n F0 w0 e Rs .normal Q) : X n F0 w0 e Rs (.exit id) (Exit.inBlock id Q) := fun a w ha hs => by
  show (if id = id then Q .normal a w else _)
  rw [if_pos rfl]
  exact h a w ha hs
theorem X.exo (hne : Nat.beq j id = false) (h : X n F0 w0 e Rs (.exit j) Q) : X n F0 w0 e Rs (.exit j) (Exit.inBlock id Q) := fun a w ha hs => by
  show (if j = id then Q .normal a w else Q (.exit j) a w)
  rw [if_neg (Nat.ne_of_beq_eq_false hne)]
  exact h a w ha hs
theorem X.rs (h : X n F0 w0 e Rs .ret Q) : X n F0 w0 e Rs .ret (Exit.then K Q) := h
theorem X.rb (h : X n F0 w0 e Rs .ret Q) : X n F0 w0 e Rs .ret (Exit.inBlock id Q) := h
theorem X.exs (h : X n F0 w0 e Rs (.exit j) Q) : X n F0 w0 e Rs (.exit j) (Exit.then K Q) := h
/-- Back to a loop's head. -/
theorem X.back {I : Nat → Env → List Res → Prop} {m m' : Nat} (is : List Nat) (hm : m' < m) (hI : I m' e' Rs') (he : Sub e' e) (hr : Sel Rs is Rs') :
    X n F0 w0 e Rs .normal (Exit.then (fun a w => ∃ m' e' Rs', m' < m ∧ I m' e' Rs' ∧ Has n e' a ∧ St F0 w0 Rs' w) Q) :=
  fun a w ha hs => ⟨m', e', Rs', hm, hI, ha.sub he.get, hs.sel is hr⟩
/-- What is known, turned: less, or said otherwise. -/
theorem T.re (is : List Nat) (he : Sub e' e) (hr : Sel Rs is Rs') (h : T P n F0 w0 e' Rs' c Q) : T P n F0 w0 e Rs c Q := fun a w ha hs => h a w (ha.sub he.get) (hs.sel is hr)
theorem T.as {d : Nat} {v' : Value} (hv : e.get d = some v) (h : v = v') (hk : T P n F0 w0 ((d, v') :: e) Rs c Q) : T P n F0 w0 e Rs c Q := fun a w ha hs => by
  refine hk a w (ha.sub (fun t u hu => ?_)) hs
  simp only [Env.get] at hu
  cases hb : Nat.beq d t with
  | true =>
    rw [hb] at hu
    obtain rfl := Nat.eq_of_beq_eq_true hb
    injection hu with hu
    rw [hv, h, hu]
  | false => rw [hb] at hu; exact hu
/-- A piece of code, and what holds behind it. -/
def JQ (n : Nat) (F0 : Nat → Prop) (w0 : World) (R : Env → List Res → Prop) : Exit → Act → World → Prop
  | .normal, a, w => ∃ e Rs, R e Rs ∧ Has n e a ∧ St F0 w0 Rs w
  | _, _, _ => False
theorem np_jq {R : Env → List Res → Prop} : NoP (JQ n F0 w0 R) := fun _ _ _ h => h
theorem T.join (R : Env → List Res → Prop) (h : T P n F0 w0 e Rs c (JQ n F0 w0 R)) (k : ∀ e' Rs', R e' Rs' → X n F0 w0 e' Rs' .normal Q) : T P n F0 w0 e Rs c Q := by
  intro a w ha hs
  refine wp_mono (h a w ha hs) ?_
  intro x a' w' hx
  cases x <;> first | exact hx.elim | skip
  obtain ⟨e', Rs', hR, ha', hs'⟩ := hx
  exact k e' Rs' hR a' w' ha' hs'
theorem X.jn {R : Env → List Res → Prop} (is : List Nat) (hR : R e' Rs') (he : Sub e' e) (hr : Sel Rs is Rs') : X n F0 w0 e Rs .normal (JQ n F0 w0 R) := fun a w ha hs => ⟨e', Rs', hR, ha.sub he.get, hs.sel is hr⟩
/-- A new resource that is there anyway. -/
theorem T.nilrow {α : Type} (T' : TypeId) (size : Nat) (E : Rd α) (h : T P n F0 w0 e (OwnR T' size E (.slice none 0 0) [] :: Rs) c Q) : T P n F0 w0 e Rs c Q := fun a w ha hs => h a w ha (OwnR.nil T' size E hs)
/-- The end of a function. -/
theorem X.done {f : Func} {F : Nat → Prop} {R : Value → Res → List Res → Prop} {A' : Res} {Ns : List Res} {t : Nat} (is : List Nat) (hf : f.results = #[.tmp t]) (hv : e.get t = some v) (hR : R v A' Ns) (hr : Sel Rs is (A' :: Ns)) {x : Exit} (hx : x = .ret ∨ x = .normal) :
    X n F0 w0 e Rs x (bodyPost P f (Post R F0 w0)) := by
  intro a w ha hs
  have h : bodyPost P f (Post R F0 w0) .ret a w := ⟨ha.df, v, by
    have h2 := ha.at_ t v hv
    rw [results_eq, hf]
    simp [resv, h2], v, A', Ns, rfl, hR, hs.sel is hr⟩
  rcases hx with rfl | rfl <;> exact h
theorem X.done0 {f : Func} {R : Value → Res → List Res → Prop} {A' : Res} {Ns : List Res} (is : List Nat) (hf : f.results = #[]) (hR : R (.tuple #[]) A' Ns) (hr : Sel Rs is (A' :: Ns)) {x : Exit} (hx : x = .ret ∨ x = .normal) :
    X n F0 w0 e Rs x (bodyPost P f (Post R F0 w0)) := by
  intro a w ha hs
  have h : bodyPost P f (Post R F0 w0) .ret a w := ⟨ha.df, .tuple #[], by
    rw [results_eq, hf]
    simp, _, A', Ns, rfl, hR, hs.sel is hr⟩
  rcases hx with rfl | rfl <;> exact h
end
theorem NoP.seq {Q : Exit → Act → World → Prop} {K : Act → World → Prop} (h : NoP Q) : NoP (Exit.then K Q) := h
theorem NoP.blk {Q : Exit → Act → World → Prop} {i : Nat} (h : NoP Q) : NoP (Exit.inBlock i Q) := h
theorem np_post {P : Program} {f : Func} {F0 : Nat → Prop} {w0 : World} {R : Value → Res → List Res → Prop} : NoP (bodyPost P f (Post R F0 w0)) := by
  rintro c a w ⟨_, v, A', Ns, h, _⟩
  cases h
/-- A function, by its body. -/
theorem enterX {P : Program} {f n : Nat} {fn : Func} {c : Code} {args : Array Value} {Xr : RX} {A : Res} {R : Value → Res → List Res → Prop} {e : Env} (hf : P.funcs[f]? = some fn) (hb : fn.body = some c) (hn : fn.ntmps = n)
    (hl : Nat.ble args.size n = true) (he : ∀ t v, e.get t = some v → args[t]? = some v) (h : ∀ F w, Xr.reads w F → T P n F w e [A] c (bodyPost P fn (Post R F w))) : SpecX P f args Xr A R := by
  intro F w hA hX
  refine calls_of_wp hf hb ?_
  have hl' : args.size ≤ n := Nat.le_of_ble_eq_true hl
  refine h F w hX _ w ⟨rfl, ?_, fun t v hv => ?_⟩ (SpecX.start hA)
  · simp only [Array.size_append, Array.size_replicate, hn]
    omega
  · have h1 := he t v hv
    have h2 := (Array.getElem?_eq_some_iff.1 h1).1
    rw [Array.getElem?_append_left h2]
    exact h1
/-- The arguments as they lie. -/
def argsE : Nat → List Value → Env
  | _, [] => []
  | k, v :: vs => (k, v) :: argsE (k + 1) vs
theorem argsE_get : ∀ (vs : List Value) (k t : Nat) (v : Value), Env.get (argsE k vs) t = some v → k ≤ t ∧ vs[t - k]? = some v
  | [], _, _, _, h => by simp [argsE, Env.get] at h
  | u :: vs, k, t, v, h => by
    simp only [argsE, Env.get] at h
    cases hb : Nat.beq k t with
    | true =>
      rw [hb] at h
      obtain rfl := Nat.eq_of_beq_eq_true hb
      exact ⟨Nat.le_refl _, by simpa using h⟩
    | false =>
      rw [hb] at h
      obtain ⟨h1, h2⟩ := argsE_get vs (k + 1) t v h
      refine ⟨by omega, ?_⟩
      obtain ⟨m, rfl⟩ : ∃ m, t = k + 1 + m := ⟨t - (k + 1), by omega⟩
      rw [show k + 1 + m - k = m + 1 by omega]
      rw [show k + 1 + m - (k + 1) = m by omega] at h2
      simpa using h2
theorem enterA {P : Program} {f n : Nat} {fn : Func} {c : Code} {args : List Value} {Xr : RX} {A : Res} {R : Value → Res → List Res → Prop} (hf : P.funcs[f]? = some fn) (hb : fn.body = some c) (hn : fn.ntmps = n)
    (hl : Nat.ble args.length n = true) (h : ∀ F w, Xr.reads w F → T P n F w (argsE 0 args) [A] c (bodyPost P fn (Post R F w))) : SpecX P f args.toArray Xr A R :=
  enterX hf hb hn (by simpa using hl) (fun t v hv => by simpa using (argsE_get args 0 t v hv).2) h
end Go.Proofs.Ytdlpmcbglmgpiaa.Sl
