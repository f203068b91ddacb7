/- Contracts with what is read beside what is turned (no program in it). -/
import Derived.Test.YtdlpmcbglmgpiaaRd
namespace Go.Proofs.Ytdlpmcbglmgpiaa.Sl
open Go.RowKit
set_option linter.unusedVariables false

/-- What is read. -/
structure RX where
  P : World → (Nat → Prop) → Prop
  mono : ∀ {w : World} {S S' : Nat → Prop}, P w S → (∀ k, S k → S' k) → P w S'
  move : ∀ {w w' : World} {S : Nat → Prop}, P w S → (∀ k, S k → w'.heap[k]? = w.heap[k]?) → P w' S
def RX.triv : RX := ⟨fun _ _ => True, fun _ _ => trivial, fun _ _ => trivial⟩
def RX.and (X Y : RX) : RX := ⟨fun w S => X.P w S ∧ Y.P w S, fun h k => ⟨X.mono h.1 k, Y.mono h.2 k⟩, fun h k => ⟨X.move h.1 k, Y.move h.2 k⟩⟩
def RX.of {α : Type} (E : Rd α) (cs : List Value) (a : α) : RX := ⟨fun w S => E.P w S cs a, fun h k => E.mono h k, fun h k => E.move h k⟩
/-- .. by way of blocks that are there, and none of F. -/
def RX.reads (X : RX) (w : World) (F : Nat → Prop) : Prop := ∃ S, X.P w S ∧ ∀ k, S k → ¬ F k ∧ k < w.heap.size
theorem RX.reads_triv (w : World) (F : Nat → Prop) : RX.triv.reads w F := ⟨fun _ => False, trivial, fun _ h => h.elim⟩
theorem RX.reads_and {X Y : RX} {w : World} {F : Nat → Prop} (h : X.reads w F) (k : Y.reads w F) : (X.and Y).reads w F := by
  obtain ⟨S, h1, h2⟩ := h
  obtain ⟨T, k1, k2⟩ := k
  exact ⟨fun k => S k ∨ T k, ⟨X.mono h1 (fun _ h => .inl h), Y.mono k1 (fun _ h => .inr h)⟩, fun k hk => hk.elim (h2 k) (k2 k)⟩
theorem RX.reads_left {X Y : RX} {w : World} {F : Nat → Prop} (h : (X.and Y).reads w F) : X.reads w F := let ⟨S, h1, h2⟩ := h; ⟨S, h1.1, h2⟩
theorem RX.reads_right {X Y : RX} {w : World} {F : Nat → Prop} (h : (X.and Y).reads w F) : Y.reads w F := let ⟨S, h1, h2⟩ := h; ⟨S, h1.2, h2⟩
theorem RX.reads_weaken {X : RX} {w : World} {F G : Nat → Prop} (h : X.reads w F) (hg : ∀ k, k < w.heap.size → G k → F k) : X.reads w G := let ⟨S, h1, h2⟩ := h; ⟨S, h1, fun k hk => ⟨fun g => (h2 k hk).1 (hg k (h2 k hk).2 g), (h2 k hk).2⟩⟩
/-- No resource. -/
def EmpR : Res where
  P := fun _ G => ∀ k, ¬ G k
  lt := fun h k hk => (h k hk).elim
  move := fun h _ => h
/-- What is read, as a resource of one's own. -/
def RdR {α : Type} (E : Rd α) (cs : List Value) (a : α) : Res where
  P := fun w G => E.P w G cs a ∧ ∀ k, G k → k < w.heap.size
  lt := fun h k hk => h.2 k hk
  move := fun {w w'} {G} h hm => ⟨E.move h.1 hm, fun k hk => by
    have h1 := h.2 k hk
    have h2 := hm k hk
    rw [Array.getElem?_eq_getElem h1] at h2
    exact (Array.getElem?_eq_some_iff.1 h2).1⟩
/-- A call that reads X, and turns A. -/
def SpecX (P : Program) (f : FuncId) (args : Array Value) (X : RX) (A : Res) (Q : Value → Res → List Res → Prop) : Prop :=
  ∀ F w, A.P w F → X.reads w F → Calls P f args w (Post Q F w)
section
variable {P : Program} {f : FuncId} {args : Array Value} {F0 : Nat → Prop} {w0 w : World} {Rs : List Res} {A B : Res} {X Y : RX}
theorem SpecX.of_spec {Q : Value → Res → List Res → Prop} (h : Spec P f args A Q) : SpecX P f args X A Q := fun F w hA _ => h F w hA
theorem SpecX.of_spec0 {Q : Value → List Res → Prop} (h : Spec0 P f args Q) : SpecX P f args X EmpR (fun v A' N => A' = EmpR ∧ Q v N) := by
  intro F w hA _
  refine (h w).mono ?_
  rintro e w' ⟨v, Ns, rfl, hq, hst⟩
  refine ⟨v, EmpR, Ns, rfl, ⟨rfl, hq⟩, ⟨hst.fr.mono (fun k h => h.elim), fun _ => False, fun k h => h, fun k h => h.elim, hst.sep.mono (fun k hk => ?_)⟩⟩
  exact ⟨hk.elim (fun h => h.elim) .inr, fun h => h⟩
theorem SpecX.of_spec0_2 {v : Value} (h : Spec0 P f args (fun u N => u = v ∧ N = [])) : SpecX P f args X EmpR (fun u A' N => u = v ∧ A' = EmpR ∧ N = []) := by
  intro F w hA hX
  refine ((SpecX.of_spec0 (X := X) h) F w hA hX).mono ?_
  rintro e w' ⟨v, A', Ns, rfl, ⟨rfl, rfl, rfl⟩, hst⟩
  exact ⟨_, _, _, rfl, ⟨rfl, rfl, rfl⟩, hst⟩
theorem SpecX.pure {v : Value} (h : ∀ w, Calls P f args w fun e w' => e = .returned v ∧ w = w') : SpecX P f args X EmpR (fun v' A' N => v' = v ∧ A' = EmpR ∧ N = []) := by
  intro F w hA _
  refine (h w).mono ?_
  rintro e w' ⟨rfl, rfl⟩
  exact ⟨v, EmpR, [], rfl, ⟨rfl, rfl, rfl⟩, Fr.refl _ _, fun _ => False, fun k h => h, fun k h => h.elim, trivial⟩
/-- X is read, apart from the i-th resource. -/
def Src (F0 : Nat → Prop) (w0 : World) (Rs : List Res) (w : World) (i : Nat) (X : RX) : Prop :=
  ∀ A G, Rs[i]? = some A → A.P w G → (∀ k, G k → F0 k ∨ w0.heap.size ≤ k) → Sep (Rs.eraseIdx i) w (fun k => (F0 k ∨ w0.heap.size ≤ k) ∧ ¬ G k) → X.reads w G
theorem Src.triv (i : Nat) : Src F0 w0 Rs w i .triv := fun _ _ _ _ _ _ => RX.reads_triv _ _
theorem Src.and {i : Nat} (h : Src F0 w0 Rs w i X) (k : Src F0 w0 Rs w i Y) : Src F0 w0 Rs w i (X.and Y) := fun A G h1 h2 h3 h4 => RX.reads_and (h A G h1 h2 h3 h4) (k A G h1 h2 h3 h4)
theorem RX.reads_later (h : St F0 w0 Rs w) (hX : X.reads w0 F0) : ∃ S, X.P w S ∧ ∀ k, S k → ¬ F0 k ∧ k < w0.heap.size := by
  obtain ⟨S, h1, h2⟩ := hX
  exact ⟨S, X.move h1 (fun k hk => h.fr.block k (h2 k hk).2 (h2 k hk).1), h2⟩
theorem Src.old {i : Nat} (h : St F0 w0 Rs w) (hX : X.reads w0 F0) : Src F0 w0 Rs w i X := by
  intro A G _ _ h3 _
  obtain ⟨S, h1, h2⟩ := RX.reads_later h hX
  refine ⟨S, h1, fun k hk => ⟨fun hg => ?_, Nat.lt_of_lt_of_le (h2 k hk).2 h.fr.size⟩⟩
  rcases h3 k hg with h4 | h4
  · exact (h2 k hk).1 h4
  · have := (h2 k hk).2; omega
theorem Src.res {i : Nat} (j : Nat) (hj : (Rs.eraseIdx i)[j]? = some B) (hB : ∀ w G, B.P w G → X.P w G) : Src F0 w0 Rs w i X := by
  intro A G _ _ _ h4
  obtain ⟨G2, k1, k2, _⟩ := Sep.pick j hj h4
  exact ⟨G2, hB w G2 k1, fun k hk => ⟨(k2 k hk).2, B.lt k1 k hk⟩⟩
/-- X is read now. -/
theorem SrcE.old (h : St F0 w0 Rs w) (hX : X.reads w0 F0) : X.reads w (fun _ => False) := by
  obtain ⟨S, h1, h2⟩ := RX.reads_later h hX
  exact ⟨S, h1, fun k hk => ⟨fun h => h, Nat.lt_of_lt_of_le (h2 k hk).2 h.fr.size⟩⟩
theorem SrcE.res (j : Nat) (h : St F0 w0 Rs w) (hj : Rs[j]? = some B) (hB : ∀ w G, B.P w G → X.P w G) : X.reads w (fun _ => False) := by
  obtain ⟨G, h1, _⟩ := h.get j hj
  exact ⟨G, hB w G h1, fun k hk => ⟨fun h => h, B.lt h1 k hk⟩⟩
theorem RdR_of {α : Type} {E : Rd α} {cs : List Value} {a : α} : ∀ w G, (RdR E cs a).P w G → (RX.of E cs a).P w G := fun _ _ h => h.1
/-- A call by such a contract. -/
theorem St.callX {Q : Value → Res → List Res → Prop} (i : Nat) (h : St F0 w0 Rs w) (hi : Rs[i]? = some A) (hs : SpecX P f args X A Q) (hr : Src F0 w0 Rs w i X) :
    Calls P f args w fun e w' => ∃ v A' Ns, e = .returned v ∧ Q v A' Ns ∧ St F0 w0 (Ns ++ Rs.set i A') w' := by
  obtain ⟨G, h1, h2, h3⟩ := Sep.pick i hi h.sep
  refine (hs G w h1 (hr A G hi h1 h2 h3)).mono ?_
  rintro e w' ⟨v, A', Ns, rfl, hq, hst⟩
  refine ⟨v, A', Ns, rfl, hq, ?_⟩
  obtain ⟨f2, G2, k1, k2, k3⟩ := hst
  have f := h.fr
  refine ⟨f.trans f2 h2, ?_⟩
  have hle := f.size
  have hR : Sep (Rs.eraseIdx i) w' (fun k => ((F0 k ∨ w0.heap.size ≤ k) ∧ ¬ G k) ∧ k < w.heap.size) := h3.inside.move (fun k hk _ => f2.block k hk.2 hk.1.2)
  refine Sep.append k3 (F := fun k => F0 k ∨ w0.heap.size ≤ k) (Sep.back i hi k1 (fun k hk => ⟨?_, fun hn => hn.2 hk⟩) (hR.mono (fun k hk => ⟨⟨hk.1.1, ?_⟩, ?_⟩))) ?_
  · rcases k2 k hk with h4 | h4
    · exact h2 k h4
    · exact .inr (by omega)
  · rintro ⟨h4 | h4, _⟩
    · exact hk.1.2 h4
    · have := hk.2; omega
  · intro h4
    rcases k2 k h4 with h5 | h5
    · exact hk.1.2 h5
    · have := hk.2; omega
  · rintro k ⟨h4 | h4, _⟩
    · exact h2 k h4
    · exact .inr (by omega)
theorem St.emp (h : St F0 w0 Rs w) : St F0 w0 (EmpR :: Rs) w := h.grow (Ns := [EmpR]) (Fr.refl _ _) ⟨fun _ => False, fun _ h => h, fun _ h => h.elim, trivial⟩
theorem St.callE {Q : Value → Res → List Res → Prop} (h : St F0 w0 Rs w) (hs : SpecX P f args X EmpR Q) (hr : X.reads w (fun _ => False)) :
    Calls P f args w fun e w' => ∃ v A' Ns, e = .returned v ∧ Q v A' Ns ∧ St F0 w0 (Ns ++ Rs) w' := by
  have h' : St F0 w0 (EmpR :: Rs) w := h.emp
  refine (h'.callX 0 rfl hs ?_).mono ?_
  · intro A G hA hG _ _
    have e : EmpR = A := by simpa using hA
    subst e
    exact RX.reads_weaken hr (fun k _ hk => (hG k hk).elim)
  · rintro e w' ⟨v, A', Ns, rfl, hq, hst⟩
    refine ⟨v, A', Ns, rfl, hq, ?_⟩
    have := hst.del Ns.length (A := A') (by simp)
    rwa [List.eraseIdx_append_of_length_le (Nat.le_refl _), Nat.sub_self] at this
/-- The i-th to the front. -/
theorem St.front (i : Nat) (h : St F0 w0 Rs w) (hi : Rs[i]? = some A) : St F0 w0 (A :: Rs.eraseIdx i) w := by
  obtain ⟨f, hs⟩ := h
  obtain ⟨G, h1, h2, h3⟩ := Sep.pick i hi hs
  exact ⟨f, G, h1, h2, h3⟩
theorem St.keep (n : Nat) (h : St F0 w0 Rs w) : St F0 w0 (Rs.take n) w := by
  obtain ⟨f, hs⟩ := h
  refine ⟨f, ?_⟩
  generalize (fun k => F0 k ∨ w0.heap.size ≤ k) = F at hs ⊢
  clear f
  induction Rs generalizing n F with
  | nil => simpa using hs
  | cons R Rs ih =>
    obtain ⟨G, h1, h2, h3⟩ := hs
    cases n with
    | zero => exact trivial
    | succ n => exact ⟨G, h1, h2, ih n _ h3⟩
theorem guard_some {α : Type} {c : Prop} [Decidable c] {T : Option α} {r : α} (h : (if c then T else none) = some r) : c ∧ T = some r := by
  by_cases hc : c
  · rw [if_pos hc] at h; exact ⟨hc, h⟩
  · rw [if_neg hc] at h; cases h
theorem SpecX.start (h : A.P w F0) : St F0 w [A] w := St.start F0 w (Sep.one h)
theorem SpecX.done {Q : Value → Res → List Res → Prop} {v : Value} {Ns Rs' : List Res} (h : St F0 w (A :: Rs') w0) (hq : Q v A Rs') : Post Q F0 w (.returned v) w0 := ⟨v, A, Rs', rfl, hq, h⟩
end
def resv (tmps : Array Value) : ResultVar → Sem Value
  | .tmp t => pure (tmps.getD t undef)
  | .cell a t => do loadVar t (← asAddr (tmps.getD a undef))
section
variable {P : Program} {fn : Func} {tmps : Array Value} {w : World} {r1 r2 r3 : ResultVar} {v1 v2 v3 : Value}
theorem results_eq (fn : Func) (tmps : Array Value) : results fn tmps = (do let vs ← fn.results.mapM (resv tmps); pure (if h : vs.size = 1 then vs[0] else .tuple vs)) := by
  unfold results
  rfl
theorem results2 (h : fn.results = #[r1, r2]) (h1 : (resv tmps r1).run P w = .ok v1 w) (h2 : (resv tmps r2).run P w = .ok v2 w) : (results fn tmps).run P w = .ok (.tuple #[v1, v2]) w := by
  rw [results_eq, h]
  simp [h1, h2]
theorem results3 (h : fn.results = #[r1, r2, r3]) (h1 : (resv tmps r1).run P w = .ok v1 w) (h2 : (resv tmps r2).run P w = .ok v2 w) (h3 : (resv tmps r3).run P w = .ok v3 w) : (results fn tmps).run P w = .ok (.tuple #[v1, v2, v3]) w := by
  rw [results_eq, h]
  simp [h1, h2, h3]
theorem rest_ (t : Tmp) (v : Value) (h : tmps.getD t undef = v) : (resv tmps (.tmp t)).run P w = .ok v w := by
  rw [← h]
  simp [resv]
theorem resc {p : Tmp} {ty : TypeId} (g : Nat) (t : TypeId) (cs : Array Value) (fr : Nat × Nat) (d : TypeDesc)
    (hp : tmps.getD p undef = .pointer (some ⟨g, 0, none⟩)) (hg : w.heap[g]? = some (.cells cs t fr))
    (hu : P.underlying ty = some d) (hd : (match d with | .struct _ | .array _ _ => true | _ => false) = true) (hi : (P.info? ty).map (·.size) = some cs.size) :
    (resv tmps (.cell p ty)).run P w = .ok (.agg cs) w := by
  have hp' : tmps[p]?.getD undef = .pointer (some ⟨g, 0, none⟩) := by simpa using hp
  simp [resv, hp', asAddr, run_loadVar_row w g t ty cs fr d hg hu hd hi]
end
end Go.Proofs.Ytdlpmcbglmgpiaa.Sl
