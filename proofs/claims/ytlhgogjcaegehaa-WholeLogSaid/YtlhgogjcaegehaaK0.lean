/- wholeLog_holds: part 0. -/
import Derived.WalkKit
import Derived.Below
import Derived.Laws.OwnMore
import Derived.Deep.Draws
import Derived.Laws.Rows
import Derived.Lib.Hide
import Derived.Lib.AppendStr
import Derived.Maps.AppendAt
import Derived.OwnWalk
import Derived.Deep.AppendLies
import Derived.Laws.BytesArg
import Derived.Deep.WholeRow
import Derived.ChangeArms
import Derived.ChangeSlices
import Derived.Deep.Slices
import Derived.OpenShut
import Derived.WideShapes
import Derived.Test.YtlhgogjcaegehaaProg
import Derived.KernelRfl
import Derived.Deep.QuietTactic
import Derived.BigQuiet
import Derived.LoopN
import Derived.WalkSpells
import Derived.WalkLawsBesides
import Derived.Lib.Strings
import Derived.Laws.BitsLemmas
import Derived.OrdersHeld
import Derived.Laws.Cells
import Derived.Laws.CopyRow
import Derived.Laws.StructEq
import Derived.IntWalk
import Derived.Laws.Strings
namespace Go.Proofs.Ytlhgogjcaegehaa.Sl
open Go.RowKit
set_option linter.unusedVariables false
structure Fr (F : Nat → Prop) (w w' : World) : Prop where
  os : w'.os = w.os
  tape : w'.tape = w.tape
  output : w'.output = w.output
  size : w.heap.size ≤ w'.heap.size
  block : ∀ k, k < w.heap.size → ¬ F k → w'.heap[k]? = w.heap[k]?
theorem Fr.refl (F : Nat → Prop) (w : World) : Fr F w w := ⟨rfl, rfl, rfl, Nat.le_refl _, fun _ _ _ => rfl⟩
theorem Fr.trans {F G : Nat → Prop} {a b c : World} (h : Fr F a b) (k : Fr G b c) (hg : ∀ k, G k → F k ∨ a.heap.size ≤ k) : Fr F a c :=
  ⟨k.os.trans h.os, k.tape.trans h.tape, k.output.trans h.output, Nat.le_trans h.size k.size, fun i hi hn =>
    (k.block i (Nat.lt_of_lt_of_le hi h.size) (fun h2 => (hg i h2).elim hn (fun h3 => by omega))).trans (h.block i hi hn)⟩
theorem Fr.of_below {F : Nat → Prop} {w w' : World} (h : Below w.heap.size w w') : Fr F w w' := ⟨h.os, h.tape, h.output, h.size, fun k hk _ => h.block k hk⟩
theorem Fr.below {w w' : World} (h : Fr (fun _ => False) w w') : Below w.heap.size w w' := ⟨h.os, h.tape, h.output, h.size, fun k hk => h.block k hk (fun h => h)⟩
theorem Fr.of_grown {F : Nat → Prop} {w w' : World} {row : Option Nat} (h : w.grownBy w' row) (hr : ∀ k, row = some k → F k) : Fr F w w' :=
  ⟨h.os, h.tape, h.output, h.size, fun k hk hn => h.block k hk (fun e => hn (hr k e.symm))⟩
theorem Fr.mono {F G : Nat → Prop} {w w' : World} (h : Fr F w w') (hg : ∀ k, F k → G k) : Fr G w w' := ⟨h.os, h.tape, h.output, h.size, fun k hk hn => h.block k hk (fun h2 => hn (hg k h2))⟩
theorem Fr.alloc {F : Nat → Prop} {w w' : World} (h : Fr F w w') (o : Obj) : Fr F w (w'.alloc o) :=
  h.trans (Fr.of_below (F := fun _ => False) ((Below.refl _ _).alloc (Nat.le_refl _) o)) (fun _ h => h.elim)
theorem Fr.drew {F : Nat → Prop} {w w' : World} (h : Fr F w w') : Fr F w w'.drew := ⟨h.os, h.tape, h.output, h.size, h.block⟩
theorem Fr.drewN {F : Nat → Prop} {w w' : World} (h : Fr F w w') (n : Nat) : Fr F w (w'.drewN n) := ⟨h.os, h.tape, h.output, h.size, h.block⟩
theorem Fr.set {F : Nat → Prop} {w w' : World} (h : Fr F w w') {p : Addr} (hp : F p.block ∨ w.heap.size ≤ p.block) (u : Value) : Fr F w (w'.setCell p u) :=
  h.trans (G := fun k => k = p.block) ⟨rfl, rfl, rfl, by simp [World.setCell], fun k _ hn => Below.heap_setCell _ _ _ _ hn⟩ (fun k hk => by rw [hk]; exact hp)
structure Res where
  P : World → (Nat → Prop) → Prop
  lt : ∀ {w : World} {G : Nat → Prop}, P w G → ∀ k, G k → k < w.heap.size
  move : ∀ {w w' : World} {G : Nat → Prop}, P w G → (∀ k, G k → w'.heap[k]? = w.heap[k]?) → P w' G
def Sep : List Res → World → (Nat → Prop) → Prop
  | [], _, _ => True
  | R :: Rs, w, F => ∃ G, R.P w G ∧ (∀ k, G k → F k) ∧ Sep Rs w (fun k => F k ∧ ¬ G k)
theorem Sep.mono : ∀ {Rs : List Res} {w : World} {F F' : Nat → Prop}, Sep Rs w F → (∀ k, F k → F' k) → Sep Rs w F'
  | [], _, _, _, _, _ => trivial
  | _ :: _, _, _, _, ⟨G, h1, h2, h3⟩, hf => ⟨G, h1, fun k hk => hf k (h2 k hk), h3.mono (fun k hk => ⟨hf k hk.1, hk.2⟩)⟩
theorem Sep.inside : ∀ {Rs : List Res} {w : World} {F : Nat → Prop}, Sep Rs w F → Sep Rs w (fun k => F k ∧ k < w.heap.size)
  | [], _, _, _ => trivial
  | R :: _, _, _, ⟨G, h1, h2, h3⟩ => ⟨G, h1, fun k hk => ⟨h2 k hk, R.lt h1 k hk⟩, h3.inside.mono (fun k hk => ⟨⟨hk.1.1, hk.2⟩, hk.1.2⟩)⟩
theorem Sep.move_ : ∀ {Rs : List Res} {w w' : World} {F : Nat → Prop}, Sep Rs w F → (∀ k, F k → w'.heap[k]? = w.heap[k]?) → Sep Rs w' F
  | [], _, _, _, _, _ => trivial
  | R :: _, _, _, _, ⟨G, h1, h2, h3⟩, hm => ⟨G, R.move h1 (fun k hk => hm k (h2 k hk)), h2, h3.move_ (fun k hk => hm k hk.1)⟩
theorem Sep.move {Rs : List Res} {w w' : World} {F : Nat → Prop} (h : Sep Rs w F) (hm : ∀ k, F k → k < w.heap.size → w'.heap[k]? = w.heap[k]?) : Sep Rs w' F :=
  (h.inside.move_ (fun k hk => hm k hk.1 hk.2)).mono (fun _ hk => hk.1)
theorem Sep.swap {A B : Res} {Rs : List Res} {w : World} {F : Nat → Prop} (h : Sep (A :: B :: Rs) w F) : Sep (B :: A :: Rs) w F := by
  obtain ⟨G, h1, h2, G', h3, h4, h5⟩ := h
  exact ⟨G', h3, fun k hk => (h4 k hk).1, G, h1, fun k hk => ⟨h2 k hk, fun h => (h4 k h).2 hk⟩, h5.mono (fun k hk => ⟨⟨hk.1.1, hk.2⟩, hk.1.2⟩)⟩
theorem Sep.pick : ∀ {Rs : List Res} (i : Nat) {A : Res} {w : World} {F : Nat → Prop}, Rs[i]? = some A → Sep Rs w F → ∃ G, A.P w G ∧ (∀ k, G k → F k) ∧ Sep (Rs.eraseIdx i) w (fun k => F k ∧ ¬ G k)
  | [], i, _, _, _, hi, _ => by simp at hi
  | R :: Rs, 0, A, w, F, hi, h => by
    have e : R = A := by simpa using hi
    subst e
    exact h
  | R :: Rs, i + 1, A, w, F, hi, ⟨G, h1, h2, h3⟩ => by
    obtain ⟨G', k1, k2, k3⟩ := Sep.pick i (by simpa using hi) h3
    exact ⟨G', k1, fun k hk => (k2 k hk).1, G, h1, fun k hk => ⟨h2 k hk, fun h => (k2 k h).2 hk⟩, k3.mono (fun k hk => ⟨⟨hk.1.1, hk.2⟩, hk.1.2⟩)⟩
theorem Sep.back : ∀ {Rs : List Res} (i : Nat) {A A' : Res} {w : World} {F G : Nat → Prop}, Rs[i]? = some A → A'.P w G → (∀ k, G k → F k) → Sep (Rs.eraseIdx i) w (fun k => F k ∧ ¬ G k) → Sep (Rs.set i A') w F
  | [], i, _, _, _, _, _, hi, _, _, _ => by simp at hi
  | R :: Rs, 0, A, A', w, F, G, hi, h1, h2, h3 => ⟨G, h1, h2, h3⟩
  | R :: Rs, i + 1, A, A', w, F, G, hi, h1, h2, ⟨G', k1, k2, k3⟩ =>
    ⟨G', k1, fun k hk => (k2 k hk).1, Sep.back i (by simpa using hi) h1 (fun k hk => ⟨h2 k hk, fun h => (k2 k h).2 hk⟩) (k3.mono (fun k hk => ⟨⟨hk.1.1, hk.2⟩, hk.1.2⟩))⟩
theorem Sep.append : ∀ {Ns Rs : List Res} {w : World} {F G : Nat → Prop}, Sep Ns w G → Sep Rs w (fun k => F k ∧ ¬ G k) → (∀ k, G k → F k) → Sep (Ns ++ Rs) w F
  | [], _, _, _, _, _, h, _ => h.mono (fun _ hk => hk.1)
  | N :: Ns, Rs, w, F, G, ⟨H, h1, h2, h3⟩, h, hg =>
    ⟨H, h1, fun k hk => hg k (h2 k hk), Sep.append h3 (h.mono (fun k hk => ⟨⟨hk.1, fun h4 => hk.2 (h2 k h4)⟩, fun h4 => hk.2 h4.1⟩)) (fun k hk => ⟨hg k hk.1, hk.2⟩)⟩
theorem Sep.one {R : Res} {w : World} {F : Nat → Prop} (h : R.P w F) : Sep [R] w F := ⟨F, h, fun _ h => h, trivial⟩
structure St (F0 : Nat → Prop) (w0 : World) (Rs : List Res) (w : World) : Prop where
  fr : Fr F0 w0 w
  sep : Sep Rs w (fun k => F0 k ∨ w0.heap.size ≤ k)
section
variable {F0 : Nat → Prop} {w0 w w' : World} {Rs : List Res} {A A' : Res}
theorem St.start (F0 : Nat → Prop) (w : World) (h : Sep Rs w F0) : St F0 w Rs w := ⟨Fr.refl _ _, h.mono (fun _ hk => .inl hk)⟩
theorem St.nil_ (w : World) : St (fun _ => False) w [] w := ⟨Fr.refl _ _, trivial⟩
theorem St.drew (h : St F0 w0 Rs w) : St F0 w0 Rs w.drew := ⟨h.fr.drew, h.sep.move (fun _ _ _ => rfl)⟩
theorem St.drewN (h : St F0 w0 Rs w) (n : Nat) : St F0 w0 Rs (w.drewN n) := ⟨h.fr.drewN n, h.sep.move (fun _ _ _ => rfl)⟩
theorem St.drop_ (h : St F0 w0 (A :: Rs) w) : St F0 w0 Rs w := by
  obtain ⟨f, G, _, _, h3⟩ := h
  exact ⟨f, h3.mono (fun _ hk => hk.1)⟩
theorem St.del (i : Nat) (h : St F0 w0 Rs w) (hi : Rs[i]? = some A) : St F0 w0 (Rs.eraseIdx i) w := by
  obtain ⟨f, hs⟩ := h
  obtain ⟨G, _, _, h3⟩ := Sep.pick i hi hs
  exact ⟨f, h3.mono (fun _ hk => hk.1)⟩
theorem St.weaken (i : Nat) (h : St F0 w0 Rs w) (hi : Rs[i]? = some A) (hA : ∀ G, A.P w G → A'.P w G) : St F0 w0 (Rs.set i A') w := by
  obtain ⟨f, hs⟩ := h
  obtain ⟨G, h1, h2, h3⟩ := Sep.pick i hi hs
  exact ⟨f, Sep.back i hi (hA _ h1) h2 h3⟩
theorem St.get (i : Nat) (h : St F0 w0 Rs w) (hi : Rs[i]? = some A) : ∃ G, A.P w G ∧ (∀ k, G k → F0 k ∨ w0.heap.size ≤ k) := by
  obtain ⟨G, h1, h2, _⟩ := Sep.pick i hi h.sep
  exact ⟨G, h1, h2⟩
theorem St.step (i : Nat) (h : St F0 w0 Rs w) (hi : Rs[i]? = some A) {Ns : List Res}
    (hs : ∀ G, A.P w G → Fr G w w' ∧ Sep (A' :: Ns) w' (fun k => G k ∨ w.heap.size ≤ k)) : St F0 w0 (Ns ++ Rs.set i A') w' := by
  obtain ⟨f, hp⟩ := h
  obtain ⟨G, h1, h2, h3⟩ := Sep.pick i hi hp
  obtain ⟨f2, G2, k1, k2, k3⟩ := hs G h1
  refine ⟨f.trans f2 h2, ?_⟩
  have hle := f.size
  have hR : Sep (Rs.eraseIdx i) w' (fun k => ((F0 k ∨ w0.heap.size ≤ k) ∧ ¬ G k) ∧ k < w.heap.size) := h3.inside.move (fun k hk _ => f2.block k hk.2 hk.1.2)
  refine Sep.append k3 (F := fun k => F0 k ∨ w0.heap.size ≤ k) (Sep.back i hi k1 (fun k hk => ⟨?_, fun hn => hn.2 hk⟩) (hR.mono (fun k hk => ⟨⟨hk.1.1, ?_⟩, ?_⟩))) ?_
  · rcases k2 k hk with h4 | h4
    · exact h2 k h4
    · exact .inr (by omega)
  · rintro ⟨h4 | h4, _⟩
    · exact hk.1.2 h4
    · have := hk.2; omega
  · intro h4
    rcases k2 k h4 with h5 | h5
    · exact hk.1.2 h5
    · have := hk.2; omega
  · rintro k ⟨h4 | h4, _⟩
    · exact h2 k h4
    · exact .inr (by omega)
theorem St.grow (h : St F0 w0 Rs w) {Ns : List Res} (f2 : Fr (fun _ => False) w w') (k3 : Sep Ns w' (fun k => w.heap.size ≤ k)) : St F0 w0 (Ns ++ Rs) w' := by
  obtain ⟨f, hp⟩ := h
  have hle := f.size
  refine ⟨f.trans f2 (fun _ h => h.elim), Sep.append k3 ((hp.inside.move (fun k hk _ => f2.block k hk.2 (fun h => h))).mono (fun k hk => ⟨hk.1, by have := hk.2; omega⟩)) (fun k hk => .inr (by omega))⟩
theorem St.below (h : St (fun _ => False) w0 Rs w) : Below w0.heap.size w0 w := h.fr.below
end
def BlkR (b : Nat) (T : TypeId) (cs : Array Value) : Res where
  P := fun w G => w.heap[b]? = some (.cells cs T (0, 0)) ∧ ∀ k, G k ↔ k = b
  lt := fun h k hk => by
    rw [(h.2 k).1 hk]
    exact (Array.getElem?_eq_some_iff.1 h.1).1
  move := fun h hm => ⟨(hm _ ((h.2 _).2 rfl)).trans h.1, h.2⟩
section
variable {F0 : Nat → Prop} {w0 w w' : World} {Rs : List Res} {b : Nat} {T : TypeId} {cs : Array Value}
theorem heap_at (h : w.heap[b]? = some (.cells cs T (0, 0))) (i : Nat) : w.cell? ⟨b, i, none⟩ = cs[i]? := cell_of_row w b i cs T (0, 0) h
theorem heap_free (h : w.heap[b]? = some (.cells cs T (0, 0))) (i : Nat) : w.frozen? ⟨b, i, none⟩ = false := by simp [World.frozen?, h]
theorem heap_set (h : w.heap[b]? = some (.cells cs T (0, 0))) (i : Nat) (u : Value) : (w.setCell ⟨b, i, none⟩ u).heap[b]? = some (.cells (cs.setIfInBounds i u) T (0, 0)) := by
  simp [World.setCell, Array.getElem?_modify, h]
theorem heap_lt {o : Obj} (h : w.heap[b]? = some o) : b < w.heap.size := (Array.getElem?_eq_some_iff.1 h).1
theorem St.blk (i : Nat) (h : St F0 w0 Rs w) (hi : Rs[i]? = some (BlkR b T cs)) : w.heap[b]? = some (.cells cs T (0, 0)) := by
  obtain ⟨G, h1, _⟩ := h.get i hi
  exact h1.1
theorem St.alloc (h : St F0 w0 Rs w) (cs : Array Value) (T : TypeId) : St F0 w0 (BlkR w.heap.size T cs :: Rs) (w.alloc (.cells cs T)) :=
  h.grow (Ns := [BlkR w.heap.size T cs]) (Fr.of_below ((Below.refl _ _).alloc (Nat.le_refl _) _)) ⟨fun k => k = w.heap.size, ⟨heap_alloc_new w _, fun _ => Iff.rfl⟩, fun k hk => by omega, trivial⟩
theorem St.set (i : Nat) (h : St F0 w0 Rs w) (hi : Rs[i]? = some (BlkR b T cs)) (j : Nat) (u : Value) : St F0 w0 (Rs.set i (BlkR b T (cs.setIfInBounds j u))) (w.setCell ⟨b, j, none⟩ u) := by
  refine h.step i hi (Ns := []) (fun G hG => ⟨?_, G, ⟨heap_set hG.1 j u, hG.2⟩, fun k hk => .inl hk, trivial⟩)
  exact (Fr.refl G w).set (p := ⟨b, j, none⟩) (.inl ((hG.2 b).2 rfl)) u
end
def Post (Q : Value → Res → List Res → Prop) (F : Nat → Prop) (w : World) (e : Ending) (w' : World) : Prop := ∃ v A' Ns, e = .returned v ∧ Q v A' Ns ∧ St F w (A' :: Ns) w'
def Post0 (Q : Value → List Res → Prop) (w : World) (e : Ending) (w' : World) : Prop := ∃ v Ns, e = .returned v ∧ Q v Ns ∧ St (fun _ => False) w Ns w'
def Spec (P : Program) (f : FuncId) (args : Array Value) (A : Res) (Q : Value → Res → List Res → Prop) : Prop :=
  ∀ F w, A.P w F → Calls P f args w (Post Q F w)
def Spec0 (P : Program) (f : FuncId) (args : Array Value) (Q : Value → List Res → Prop) : Prop :=
  ∀ w, Calls P f args w (Post0 Q w)
section
variable {P : Program} {f : FuncId} {args : Array Value} {F0 : Nat → Prop} {w0 w : World} {Rs : List Res} {A : Res}
theorem St.call {Q : Value → Res → List Res → Prop} (i : Nat) (h : St F0 w0 Rs w) (hi : Rs[i]? = some A) (hs : Spec P f args A Q) :
    Calls P f args w fun e w' => ∃ v A' Ns, e = .returned v ∧ Q v A' Ns ∧ St F0 w0 (Ns ++ Rs.set i A') w' := by
  obtain ⟨G0, hG0, hsub⟩ := h.get i hi
  obtain ⟨G, h1, h2, h3⟩ := Sep.pick i hi h.sep
  refine (hs G w h1).mono ?_
  rintro e w' ⟨v, A', Ns, rfl, hq, hst⟩
  refine ⟨v, A', Ns, rfl, hq, ?_⟩
  obtain ⟨f2, G2, k1, k2, k3⟩ := hst
  have f := h.fr
  refine ⟨f.trans f2 h2, ?_⟩
  have hle := f.size
  have hR : Sep (Rs.eraseIdx i) w' (fun k => ((F0 k ∨ w0.heap.size ≤ k) ∧ ¬ G k) ∧ k < w.heap.size) := h3.inside.move (fun k hk _ => f2.block k hk.2 hk.1.2)
  refine Sep.append k3 (F := fun k => F0 k ∨ w0.heap.size ≤ k) (Sep.back i hi k1 (fun k hk => ⟨?_, fun hn => hn.2 hk⟩) (hR.mono (fun k hk => ⟨⟨hk.1.1, ?_⟩, ?_⟩))) ?_
  · rcases k2 k hk with h4 | h4
    · exact h2 k h4
    · exact .inr (by omega)
  · rintro ⟨h4 | h4, _⟩
    · exact hk.1.2 h4
    · have := hk.2; omega
  · intro h4
    rcases k2 k h4 with h5 | h5
    · exact hk.1.2 h5
    · have := hk.2; omega
  · rintro k ⟨h4 | h4, _⟩
    · exact h2 k h4
    · exact .inr (by omega)
theorem St.call0 {Q : Value → List Res → Prop} (h : St F0 w0 Rs w) (hs : Spec0 P f args Q) :
    Calls P f args w fun e w' => ∃ v Ns, e = .returned v ∧ Q v Ns ∧ St F0 w0 (Ns ++ Rs) w' := by
  refine (hs w).mono ?_
  rintro e w' ⟨v, Ns, rfl, hq, hst⟩
  refine ⟨v, Ns, rfl, hq, h.grow hst.fr (hst.sep.mono (fun k hk => hk.elim (fun h => h.elim) id))⟩
end
end Go.Proofs.Ytlhgogjcaegehaa.Sl
namespace Go.Proofs.Ytlhgogjcaegehaa.Sl
open Go.RowKit
set_option linter.unusedVariables false
def byteCells (l : List UInt8) : List Value := l.map fun b => Value.int .u8 b.toNat
theorem byteCells_append (l m : List UInt8) : byteCells (l ++ m) = byteCells l ++ byteCells m := by simp [byteCells]
theorem byteCells_str (s : ByteArray) : Lib.strCells s = byteCells s.data.toList := rfl
section
variable {P : Program} (w : World)
theorem append_str_at (t u ty e : TypeId) (i : TypeInfo) (ht : P.underlying t = some (.slice e)) (hu : P.underlying u = some .string) (hi : P.info? e = some i) (hz : i.zero = some (.int .u8 0))
    (hsize : i.size = 1) (hby : i.bytes = 1)
    (v : Value) (n : Nat) (xs : List Value) (hown : w.ownsRow 0 e 1 v n xs) (s : ByteArray) (hbytes : n + s.size ≤ 140737488355328) :
    ∃ v' w', (Builtin.append_ #[t, u] ty #[v, .string s]).run P w = .ok v' w' ∧ w'.ownsRow 0 e 1 v' (n + s.size) (xs ++ Lib.strCells s) ∧ w.grownBy w' v.ownBlock ∧
      (v'.ownBlock = v.ownBlock ∨ v'.ownBlock = some w.heap.size) := by
  obtain ⟨v', w', hr, h2, h3, h4⟩ := Lib.run_append_own_string (P := P) w 0 t u ty e i ht hu hi hz hsize hby v n xs hown s (by simp only [maxLen]; omega) hbytes (Nat.zero_le _)
  refine ⟨v', w', hr, h2, h3, ?_⟩
  rcases hown.2 with ⟨rfl, rfl⟩ | ⟨g, cap, cur, rfl, hbg, hg, hnc, hcm, hcs, htake⟩
  · by_cases hm : s.size = 0
    · left
      rw [h4.2 ⟨rfl, hm⟩]
    · right
      have hr2 := run_append_nil_string (P := P) w t u ty e i (.int .u8 0) ht hu hi hz s (by omega) (by omega) (by rw [hby]; omega)
      rw [hr] at hr2
      injection hr2 with hv _
      rw [hv]
      rfl
  · by_cases hroom : n + s.size ≤ cap
    · left
      have hcs' : cur.size = cap := by simpa using hcs
      have hr2 := Lib.run_append_room_string (P := P) w t u ty e i ht hu hi hsize g n cap cur hg s hroom (by omega)
      rw [hr] at hr2
      injection hr2 with hv _
      rw [hv]
      rfl
    · right
      have hxl : xs.length = n := by simpa using hown.1
      have holds : ∀ j u, xs[j]? = some u → w.cell? ((⟨g, 0, none⟩ : Addr).add j) = some u := hown.cells (g := g) rfl
      have hr2 := Lib.run_append_grow_string (P := P) w t u ty e i (.int .u8 0) ht hu hi hz ⟨g, 0, none⟩ n cap xs (by rw [hsize]; simpa using hxl) holds s (by omega) (by omega) (by rw [hby]; exact growslice_fits (by omega) (by omega))
      rw [hr] at hr2
      injection hr2 with hv _
      rw [hv]
      rfl
theorem wp_append_str_at {ops : Array Oper} {rest : List Oper} {o : Oper} {a : Act} {Q : Exit → Act → World → Prop} (hgd : o.guard = none) (sl x : Operand) (t u : TypeId)
    (ho : o.op = .call { callee := .builtin .append, args := #[sl, x], argTypes := #[t, u] })
    (e : TypeId) (ht : P.underlying t = some (.slice e)) (hu : P.underlying u = some .string) (hinfo : (P.info? e).map (fun i => (i.zero, i.size, i.bytes)) = some (some (.int .u8 0), 1, 1))
    (v : Value) (n : Nat) (xs : List Value) (hs : a.eval sl = v) (hown : w.ownsRow 0 e 1 v n xs) (s : ByteArray) (hx : a.eval x = .string s) (hbytes : n + s.size ≤ 140737488355328)
    (h : ∀ v' w', w'.ownsRow 0 e 1 v' (n + s.size) (xs ++ Lib.strCells s) → w.grownBy w' v.ownBlock → (v'.ownBlock = v.ownBlock ∨ v'.ownBlock = some w.heap.size) → wpList P ops Q rest (a.put o.dst v') w') : wpList P ops Q (o :: rest) a w := by
  obtain ⟨i, hi, hzz⟩ := Option.map_eq_some_iff.1 hinfo
  simp only [Prod.mk.injEq] at hzz
  refine wpList_plain hgd fun K hK => ?_
  obtain ⟨v', w', hr, h2, h3, h4⟩ := append_str_at (P := P) w t u o.type e i ht hu hi hzz.1 hzz.2.1 hzz.2.2 v n xs hown s hbytes
  unfold Oper.wp execOp
  simp only [ho, resolve, invoke, builtin, Sem.run_bind, Sem.run_pure, Result.andThen_ok, List.map_toArray, List.map_cons, List.map_nil, hs, hx, hr]
  exact hK _ _ (h v' w' h2 h3 h4)
theorem wp_append_one_at {ops : Array Oper} {rest : List Oper} {o : Oper} {a : Act} {Q : Exit → Act → World → Prop} (hgd : o.guard = none) (sl x : Operand) (t : TypeId)
    (ho : o.op = .call { callee := .builtin .append, args := #[sl, x], argTypes := #[t, t] })
    (e : TypeId) (z : Value) (bytes : Nat) (ht : P.underlying t = some (.slice e)) (hinfo : (P.info? e).map (fun i => (i.zero, i.size, i.bytes)) = some (some z, 1, bytes)) (hz : z.cells.size = 1)
    (v : Value) (n : Nat) (xs : List Value) (hs : a.eval sl = v) (hown : w.ownsRow 0 e 1 v n xs) (y : Value) (hy : y.oneCell' = true) (hx : a.eval x = .slice (some ⟨w.heap.size, 0, none⟩) 1 1)
    (hbytes : (n + 1) * bytes ≤ 140737488355328) (hmax : n + 1 ≤ 140737488355328)
    (h : ∀ v' w', w'.ownsRow 0 e 1 v' (n + 1) (xs ++ [y]) → w.grownBy w' v.ownBlock → (v'.ownBlock = v.ownBlock ∨ ∃ k, v'.ownBlock = some k ∧ w.heap.size ≤ k) → wpList P ops Q rest (a.put o.dst v') w') :
    wpList P ops Q (o :: rest) a (w.alloc (.cells #[y] e)) := by
  obtain ⟨i, hi, hzz⟩ := Option.map_eq_some_iff.1 hinfo
  simp only [Prod.mk.injEq] at hzz
  obtain ⟨hz0, hz1, hz2⟩ := hzz
  refine wpList_append_own_at (w.alloc (.cells #[y] e)) hgd sl x t ho 0 e i z 1 bytes ht hi hz0 hz1 hz2 hz (by omega) v n xs hs (hown.alloc _) ⟨w.heap.size, 0, none⟩ 1 1 [y] hx rfl
    (by simpa using World.news_of_block (cs := #[y]) (t := e) (fr := (0, 0)) (heap_alloc_new w (.cells #[y] e))) (by simpa using hy) (by simp only [maxLen]; omega) hbytes (Nat.zero_le _) ?_
  intro v' w' hown' hg _ hat
  refine h v' w' hown' (World.grownBy.trans (World.grownBy_alloc w _ _) hg) ?_
  rcases hat with hat | hat
  · exact .inl hat
  · exact .inr ⟨_, hat, by simp⟩
theorem row_string (w : World) {src dst e : TypeId} {v : Value} {l : List UInt8} {n : Nat} (hs : P.underlying src = some (.slice e)) (he : P.underlying e = some (.int .u8)) (hd : P.underlying dst = some .string)
    (h : w.ownsRow 0 e 1 v n (byteCells l)) : (convert src dst v).run P w = .ok (.string ⟨l.toArray⟩) w := by
  have hl : l.length = n := by have := h.1; simp [byteCells] at this; exact this
  have hstr : strOfNums (l.map fun b => (b.toNat : Int)) = ⟨l.toArray⟩ := by
    unfold strOfNums
    congr 1
    simp [List.map_map, Function.comp_def]
  rcases h.2 with ⟨rfl, rfl⟩ | ⟨g, cap, cur, rfl, _⟩
  · obtain rfl : l = [] := List.eq_nil_of_length_eq_zero hl
    exact run_convert_bytes_nil w src e hs he 0 0 dst hd
  · rw [← hstr]
    refine run_convert_bytes_arg w src e hs he g 0 n cap _ (by simpa using hl) (fun i hi => ?_) dst hd
    have hc := h.cells (g := g) rfl i (.int .u8 ((l.map fun b => (b.toNat : Int)).getD i 0)) (by simp [byteCells, List.getElem?_eq_getElem (show i < l.length by omega), List.getD_eq_getElem?_getD])
    have ha : (⟨g, 0, none⟩ : Addr).add i = ⟨g, 0 + i, none⟩ := by unfold Addr.add; split <;> simp_all
    rwa [ha] at hc
theorem row_ne {w : World} {e t : TypeId} {size n b : Nat} {v : Value} {xs : List Value} {cs : Array Value} (h : w.ownsRow 0 e size v n xs) (hg : w.heap[b]? = some (.cells cs t (0, 0))) (hne : e ≠ t) : some b ≠ v.ownBlock := by
  rcases h.2 with ⟨rfl, _⟩ | ⟨g', cap, cur, rfl, _, hh, _⟩
  · simp [Value.ownBlock]
  · intro he
    have : b = g' := by simpa [Value.ownBlock] using he
    subst this
    rw [hg] at hh
    injection hh with hh
    injection hh with _ ht
    exact hne ht.symm
theorem row_set {w : World} {e : TypeId} {size n : Nat} {v : Value} {xs : List Value} (h : w.ownsRow 0 e size v n xs) {p : Addr} (hne : some p.block ≠ v.ownBlock) (u : Value) : (w.setCell p u).ownsRow 0 e size v n xs := by
  obtain ⟨h1, h2⟩ := h
  refine ⟨h1, ?_⟩
  rcases h2 with h2 | ⟨g, cap, cur, rfl, hg, hh, r⟩
  · exact .inl h2
  · exact .inr ⟨g, cap, cur, rfl, hg, by rw [Below.heap_setCell _ _ _ _ (fun e => hne (by rw [e]; rfl))]; exact hh, r⟩
theorem row_move {w w' : World} {e : TypeId} {size n : Nat} {v : Value} {xs : List Value} (h : w.ownsRow 0 e size v n xs) (hm : ∀ k, v.ownBlock = some k → w'.heap[k]? = w.heap[k]?) : w'.ownsRow 0 e size v n xs := by
  obtain ⟨h1, h2⟩ := h
  refine ⟨h1, ?_⟩
  rcases h2 with h2 | ⟨g, cap, cur, rfl, hg, hh, r⟩
  · exact .inl h2
  · exact .inr ⟨g, cap, cur, rfl, hg, (hm g rfl).trans hh, r⟩
theorem row_slice {w : World} {e : TypeId} {size n : Nat} {v : Value} {xs : List Value} (h : w.ownsRow 0 e size v n xs) : ∃ a c, v = .slice a n c := by
  rcases h.2 with ⟨rfl, rfl⟩ | ⟨g, cap, cur, rfl, _⟩
  · exact ⟨none, 0, rfl⟩
  · exact ⟨_, cap, rfl⟩
theorem row_lt {w : World} {e : TypeId} {size n : Nat} {v : Value} {xs : List Value} (h : w.ownsRow 0 e size v n xs) : ∀ k, v.ownBlock = some k → k < w.heap.size := fun k hk => (h.lt k hk).2
end
section
variable {P : Program}
end
end Go.Proofs.Ytlhgogjcaegehaa.Sl
namespace Go.Proofs.Ytlhgogjcaegehaa.Sl
open Go.RowKit
set_option linter.unusedVariables false
def RowR (T : TypeId) (size : Nat) (v : Value) (n : Nat) (xs : List Value) : Res where
  P := fun w G => w.ownsRow 0 T size v n xs ∧ ∀ k, G k ↔ v.ownBlock = some k
  lt := by
    rintro w G ⟨h1, h2⟩ k hk
    exact row_lt h1 k ((h2 k).1 hk)
  move := by
    rintro w w' G ⟨h1, h2⟩ hm
    exact ⟨row_move h1 (fun k hk => hm k ((h2 k).2 hk)), h2⟩
section
variable {F0 : Nat → Prop} {w0 w w1 : World} {Rs : List Res} {T : TypeId} {size n : Nat} {v v1 : Value} {xs ys : List Value}
theorem RowR.row (i : Nat) (h : St F0 w0 Rs w) (hi : Rs[i]? = some (RowR T size v n xs)) : w.ownsRow 0 T size v n xs := (h.get i hi).choose_spec.1.1
theorem RowR.nil (T : TypeId) (size : Nat) (h : St F0 w0 Rs w) : St F0 w0 (RowR T size (.slice none 0 0) 0 [] :: Rs) w :=
  h.grow (Ns := [RowR T size (.slice none 0 0) 0 []]) (Fr.refl _ _) ⟨fun _ => False, ⟨World.ownsRow_nil _ _ _ _, fun k => by simp [Value.ownBlock]⟩, fun _ h => h.elim, trivial⟩
theorem RowR.lit (h : St F0 w0 Rs w) (cs : Array Value) (n : Nat) (hm : n ≤ maxLen) (hs : cs.size = n * size) :
    St F0 w0 (RowR T size (.slice (some ⟨w.heap.size, 0, none⟩) n n) n cs.toList :: Rs) (w.alloc (.cells cs T)) :=
  h.grow (Ns := [RowR T size (.slice (some ⟨w.heap.size, 0, none⟩) n n) n cs.toList]) (Fr.of_below ((Below.refl _ _).alloc (Nat.le_refl _) _))
    ⟨fun k => k = w.heap.size, ⟨World.ownsRow_lit w cs n (Nat.zero_le _) hm hs, fun k => by simp [Value.ownBlock, eq_comm]⟩, fun k hk => by omega, trivial⟩
theorem RowR.grown (i : Nat) (h : St F0 w0 Rs w) (hi : Rs[i]? = some (RowR T size v n xs)) {m : Nat} (ho : w1.ownsRow 0 T size v1 m ys) (hg : w.grownBy w1 v.ownBlock)
    (hat : v1.ownBlock = v.ownBlock ∨ ∃ k, v1.ownBlock = some k ∧ w.heap.size ≤ k) : St F0 w0 (Rs.set i (RowR T size v1 m ys)) w1 := by
  refine h.step i hi (Ns := []) (fun G hG => ⟨Fr.of_grown hg (fun k hk => (hG.2 k).2 hk), fun k => v1.ownBlock = some k, ⟨ho, fun _ => Iff.rfl⟩, fun k hk => ?_, trivial⟩)
  rcases hat with h1 | ⟨k', h1, h2⟩
  · rw [h1] at hk
    exact .inl ((hG.2 k).2 hk)
  · rw [h1] at hk
    injection hk with hk
    subst hk
    exact .inr h2
theorem RowR.set {g c : Nat} (i : Nat) (h : St F0 w0 Rs w) (hi : Rs[i]? = some (RowR T size (.slice (some ⟨g, 0, none⟩) n c) n xs)) (j : Nat) (u : Value) :
    St F0 w0 (Rs.set i (RowR T size (.slice (some ⟨g, 0, none⟩) n c) n (xs.set j u))) (w.setCell ⟨g, j, none⟩ u) := by
  have hr := RowR.row i h hi
  obtain ⟨h1, h2⟩ := hr.stored j u
  exact RowR.grown i h hi h1 h2 (.inl rfl)
theorem RowR.cell {g c : Nat} (i : Nat) (h : St F0 w0 Rs w) (hi : Rs[i]? = some (RowR T size (.slice (some ⟨g, 0, none⟩) n c) n xs)) (j : Nat) (hj : j < n * size) : w.cell? ⟨g, j, none⟩ = xs[j]? ∧ w.frozen? ⟨g, j, none⟩ = false :=
  ⟨(RowR.row i h hi).cellAt j hj, (RowR.row i h hi).frozenAt j⟩
end
end Go.Proofs.Ytlhgogjcaegehaa.Sl
namespace Go.Proofs.Ytlhgogjcaegehaa.Sl
open Go.RowKit Go.Deep Go.ChangeShapes
set_option linter.unusedVariables false
structure Rd (α : Type) where
  P : World → (Nat → Prop) → List Value → α → Prop
  mono : ∀ {w : World} {S S' : Nat → Prop} {cs : List Value} {a : α}, P w S cs a → (∀ k, S k → S' k) → P w S' cs a
  move : ∀ {w w' : World} {S : Nat → Prop} {cs : List Value} {a : α}, P w S cs a → (∀ k, S k → w'.heap[k]? = w.heap[k]?) → P w' S cs a
theorem Rd.below {α : Type} (E : Rd α) {w w' : World} {cs : List Value} {a : α} (h : E.P w (fun k => k < w.heap.size) cs a) (hb : Fr (fun _ => False) w w') : E.P w' (fun k => k < w.heap.size) cs a :=
  E.move h (fun k hk => hb.block k hk (fun h => h))
def intRd (q : IntKind) : Rd Int where
  P := fun _ _ cs n => cs = [.int q n] ∧ (Lit.int q n).wf = true
  mono := fun h _ => h
  move := fun h _ => h
def boolRd : Rd Bool where
  P := fun _ _ cs b => cs = [.bool b]
  mono := fun h _ => h
  move := fun h _ => h
def unitRd : Rd Unit where
  P := fun _ _ cs _ => cs = []
  mono := fun h _ => h
  move := fun h _ => h
def pairRd {α β : Type} (A : Rd α) (B : Rd β) : Rd (α × β) where
  P := fun w S cs x => ∃ c d, cs = c ++ d ∧ A.P w S c x.1 ∧ B.P w S d x.2
  mono := fun ⟨c, d, h1, h2, h3⟩ hS => ⟨c, d, h1, A.mono h2 hS, B.mono h3 hS⟩
  move := fun ⟨c, d, h1, h2, h3⟩ hS => ⟨c, d, h1, A.move h2 hS, B.move h3 hS⟩
def rowAt {α : Type} (size : Nat) (E : Rd α) (w : World) (S : Nat → Prop) (a : Addr) (l : List α) : Prop :=
  ∀ i x, l[i]? = some x → ∃ cs, cs.length = size ∧ (∀ j, j < size → w.cell? (a.add (i * size + j)) = cs[j]?) ∧ E.P w S cs x
def sliceRd {α : Type} (size : Nat) (E : Rd α) : Rd (List α) where
  P := fun w S cs l => (cs = [.slice none 0 0] ∧ l = []) ∨ ∃ a cap, cs = [.slice (some a) l.length cap] ∧ l.length ≤ cap ∧ cap ≤ maxLen ∧ (0 < l.length → S a.block) ∧ rowAt size E w S a l
  mono := by
    rintro w S S' cs l (h | ⟨a, cap, h1, h2, h3, h4, h5⟩) hS
    · exact .inl h
    · refine .inr ⟨a, cap, h1, h2, h3, fun h => hS _ (h4 h), fun i x hx => ?_⟩
      obtain ⟨cs, k1, k2, k3⟩ := h5 i x hx
      exact ⟨cs, k1, k2, E.mono k3 hS⟩
  move := by
    rintro w w' S cs l (h | ⟨a, cap, h1, h2, h3, h4, h5⟩) hS
    · exact .inl h
    · refine .inr ⟨a, cap, h1, h2, h3, h4, fun i x hx => ?_⟩
      obtain ⟨cs, k1, k2, k3⟩ := h5 i x hx
      refine ⟨cs, k1, fun j hj => ?_, E.move k3 hS⟩
      rw [← k2 j hj]
      have hb : (a.add (i * size + j)).block = a.block := block_add _ _
      have hl : 0 < l.length := by have := (List.getElem?_eq_some_iff.1 hx).1; omega
      simp only [World.cell?, hb, hS _ (h4 hl)]
theorem spot_none {w : World} {b : Addr} {v : Value} (h : w.cell? b = some v) : b = ⟨b.block, b.off, none⟩ := by
  obtain ⟨g, o, s⟩ := b
  cases s with
  | none => rfl
  | some s =>
    simp only [World.cell?] at h
    split at h <;> simp at h
theorem St.old {w wr : World} {Rs : List Res} {v : Option Value} {p : Addr} (h : St (fun _ => False) w Rs wr) (hb : p.block < w.heap.size) (hc : w.cell? p = v) : wr.cell? p = v := by
  rw [← hc]
  have e := h.fr.block p.block hb (fun h => h)
  simp only [World.cell?, e]
section
variable {H : Type} (enc : TypeId × Value → H) (P : Program)
def Opens {α : Type} (t : TypeId) (E : Rd α) : Prop :=
  ∀ (w : World) (fuel : Nat) (cs : List Value) (x : DataW H × List MemPlace), DataW.trod enc P w 0 (fun _ => true) true fuel t cs = some x → ∃ a, E.P w (fun k => k < w.heap.size) cs a
variable {enc P}
theorem opens_int {t : TypeId} {q : IntKind} (ht : P.underlying t = some (.int q)) : Opens enc P t (intRd q) := by
  intro w fuel cs x h
  obtain ⟨n, rfl, _, hw⟩ := DataW.trod_int ht h
  exact ⟨n, rfl, hw⟩
theorem opens_bool {t : TypeId} (ht : P.underlying t = some .bool) : Opens enc P t boolRd := by
  intro w fuel cs x h
  obtain ⟨b, rfl, _⟩ := DataW.trod_bool ht h
  exact ⟨b, rfl⟩
variable (enc P) in
end
end Go.Proofs.Ytlhgogjcaegehaa.Sl
namespace Go.Proofs.Ytlhgogjcaegehaa.Sl
open Go.RowKit
set_option linter.unusedVariables false
structure RX where
  P : World → (Nat → Prop) → Prop
  mono : ∀ {w : World} {S S' : Nat → Prop}, P w S → (∀ k, S k → S' k) → P w S'
  move : ∀ {w w' : World} {S : Nat → Prop}, P w S → (∀ k, S k → w'.heap[k]? = w.heap[k]?) → P w' S
def RX.triv : RX := ⟨fun _ _ => True, fun _ _ => trivial, fun _ _ => trivial⟩
def RX.and (X Y : RX) : RX := ⟨fun w S => X.P w S ∧ Y.P w S, fun h k => ⟨X.mono h.1 k, Y.mono h.2 k⟩, fun h k => ⟨X.move h.1 k, Y.move h.2 k⟩⟩
def RX.of {α : Type} (E : Rd α) (cs : List Value) (a : α) : RX := ⟨fun w S => E.P w S cs a, fun h k => E.mono h k, fun h k => E.move h k⟩
def RX.reads (X : RX) (w : World) (F : Nat → Prop) : Prop := ∃ S, X.P w S ∧ ∀ k, S k → ¬ F k ∧ k < w.heap.size
theorem RX.reads_triv (w : World) (F : Nat → Prop) : RX.triv.reads w F := ⟨fun _ => False, trivial, fun _ h => h.elim⟩
theorem RX.reads_and {X Y : RX} {w : World} {F : Nat → Prop} (h : X.reads w F) (k : Y.reads w F) : (X.and Y).reads w F := by
  obtain ⟨S, h1, h2⟩ := h
  obtain ⟨T, k1, k2⟩ := k
  exact ⟨fun k => S k ∨ T k, ⟨X.mono h1 (fun _ h => .inl h), Y.mono k1 (fun _ h => .inr h)⟩, fun k hk => hk.elim (h2 k) (k2 k)⟩
theorem RX.reads_left {X Y : RX} {w : World} {F : Nat → Prop} (h : (X.and Y).reads w F) : X.reads w F := let ⟨S, h1, h2⟩ := h; ⟨S, h1.1, h2⟩
theorem RX.reads_right {X Y : RX} {w : World} {F : Nat → Prop} (h : (X.and Y).reads w F) : Y.reads w F := let ⟨S, h1, h2⟩ := h; ⟨S, h1.2, h2⟩
theorem RX.reads_weaken {X : RX} {w : World} {F G : Nat → Prop} (h : X.reads w F) (hg : ∀ k, k < w.heap.size → G k → F k) : X.reads w G := let ⟨S, h1, h2⟩ := h; ⟨S, h1, fun k hk => ⟨fun g => (h2 k hk).1 (hg k (h2 k hk).2 g), (h2 k hk).2⟩⟩
def EmpR : Res where
  P := fun _ G => ∀ k, ¬ G k
  lt := fun h k hk => (h k hk).elim
  move := fun h _ => h
def RdR {α : Type} (E : Rd α) (cs : List Value) (a : α) : Res where
  P := fun w G => E.P w G cs a ∧ ∀ k, G k → k < w.heap.size
  lt := fun h k hk => h.2 k hk
  move := fun {w w'} {G} h hm => ⟨E.move h.1 hm, fun k hk => by
    have h1 := h.2 k hk
    have h2 := hm k hk
    rw [Array.getElem?_eq_getElem h1] at h2
    exact (Array.getElem?_eq_some_iff.1 h2).1⟩
def SpecX (P : Program) (f : FuncId) (args : Array Value) (X : RX) (A : Res) (Q : Value → Res → List Res → Prop) : Prop :=
  ∀ F w, A.P w F → X.reads w F → Calls P f args w (Post Q F w)
section
variable {P : Program} {f : FuncId} {args : Array Value} {F0 : Nat → Prop} {w0 w : World} {Rs : List Res} {A B : Res} {X Y : RX}
theorem SpecX.of_spec {Q : Value → Res → List Res → Prop} (h : Spec P f args A Q) : SpecX P f args X A Q := fun F w hA _ => h F w hA
theorem SpecX.of_spec0 {Q : Value → List Res → Prop} (h : Spec0 P f args Q) : SpecX P f args X EmpR (fun v A' N => A' = EmpR ∧ Q v N) := by
  intro F w hA _
  refine (h w).mono ?_
  rintro e w' ⟨v, Ns, rfl, hq, hst⟩
  refine ⟨v, EmpR, Ns, rfl, ⟨rfl, hq⟩, ⟨hst.fr.mono (fun k h => h.elim), fun _ => False, fun k h => h, fun k h => h.elim, hst.sep.mono (fun k hk => ?_)⟩⟩
  exact ⟨hk.elim (fun h => h.elim) .inr, fun h => h⟩
theorem SpecX.of_spec0_2 {v : Value} (h : Spec0 P f args (fun u N => u = v ∧ N = [])) : SpecX P f args X EmpR (fun u A' N => u = v ∧ A' = EmpR ∧ N = []) := by
  intro F w hA hX
  refine ((SpecX.of_spec0 (X := X) h) F w hA hX).mono ?_
  rintro e w' ⟨v, A', Ns, rfl, ⟨rfl, rfl, rfl⟩, hst⟩
  exact ⟨_, _, _, rfl, ⟨rfl, rfl, rfl⟩, hst⟩
theorem SpecX.pure {v : Value} (h : ∀ w, Calls P f args w fun e w' => e = .returned v ∧ w = w') : SpecX P f args X EmpR (fun v' A' N => v' = v ∧ A' = EmpR ∧ N = []) := by
  intro F w hA _
  refine (h w).mono ?_
  rintro e w' ⟨rfl, rfl⟩
  exact ⟨v, EmpR, [], rfl, ⟨rfl, rfl, rfl⟩, Fr.refl _ _, fun _ => False, fun k h => h, fun k h => h.elim, trivial⟩
def Src (F0 : Nat → Prop) (w0 : World) (Rs : List Res) (w : World) (i : Nat) (X : RX) : Prop :=
  ∀ A G, Rs[i]? = some A → A.P w G → (∀ k, G k → F0 k ∨ w0.heap.size ≤ k) → Sep (Rs.eraseIdx i) w (fun k => (F0 k ∨ w0.heap.size ≤ k) ∧ ¬ G k) → X.reads w G
theorem Src.triv (i : Nat) : Src F0 w0 Rs w i .triv := fun _ _ _ _ _ _ => RX.reads_triv _ _
theorem Src.and {i : Nat} (h : Src F0 w0 Rs w i X) (k : Src F0 w0 Rs w i Y) : Src F0 w0 Rs w i (X.and Y) := fun A G h1 h2 h3 h4 => RX.reads_and (h A G h1 h2 h3 h4) (k A G h1 h2 h3 h4)
theorem RX.reads_later (h : St F0 w0 Rs w) (hX : X.reads w0 F0) : ∃ S, X.P w S ∧ ∀ k, S k → ¬ F0 k ∧ k < w0.heap.size := by
  obtain ⟨S, h1, h2⟩ := hX
  exact ⟨S, X.move h1 (fun k hk => h.fr.block k (h2 k hk).2 (h2 k hk).1), h2⟩
theorem Src.old {i : Nat} (h : St F0 w0 Rs w) (hX : X.reads w0 F0) : Src F0 w0 Rs w i X := by
  intro A G _ _ h3 _
  obtain ⟨S, h1, h2⟩ := RX.reads_later h hX
  refine ⟨S, h1, fun k hk => ⟨fun hg => ?_, Nat.lt_of_lt_of_le (h2 k hk).2 h.fr.size⟩⟩
  rcases h3 k hg with h4 | h4
  · exact (h2 k hk).1 h4
  · have := (h2 k hk).2; omega
theorem Src.res {i : Nat} (j : Nat) (hj : (Rs.eraseIdx i)[j]? = some B) (hB : ∀ w G, B.P w G → X.P w G) : Src F0 w0 Rs w i X := by
  intro A G _ _ _ h4
  obtain ⟨G2, k1, k2, _⟩ := Sep.pick j hj h4
  exact ⟨G2, hB w G2 k1, fun k hk => ⟨(k2 k hk).2, B.lt k1 k hk⟩⟩
theorem SrcE.old (h : St F0 w0 Rs w) (hX : X.reads w0 F0) : X.reads w (fun _ => False) := by
  obtain ⟨S, h1, h2⟩ := RX.reads_later h hX
  exact ⟨S, h1, fun k hk => ⟨fun h => h, Nat.lt_of_lt_of_le (h2 k hk).2 h.fr.size⟩⟩
theorem SrcE.res (j : Nat) (h : St F0 w0 Rs w) (hj : Rs[j]? = some B) (hB : ∀ w G, B.P w G → X.P w G) : X.reads w (fun _ => False) := by
  obtain ⟨G, h1, _⟩ := h.get j hj
  exact ⟨G, hB w G h1, fun k hk => ⟨fun h => h, B.lt h1 k hk⟩⟩
theorem St.callX {Q : Value → Res → List Res → Prop} (i : Nat) (h : St F0 w0 Rs w) (hi : Rs[i]? = some A) (hs : SpecX P f args X A Q) (hr : Src F0 w0 Rs w i X) :
    Calls P f args w fun e w' => ∃ v A' Ns, e = .returned v ∧ Q v A' Ns ∧ St F0 w0 (Ns ++ Rs.set i A') w' := by
  obtain ⟨G, h1, h2, h3⟩ := Sep.pick i hi h.sep
  refine (hs G w h1 (hr A G hi h1 h2 h3)).mono ?_
  rintro e w' ⟨v, A', Ns, rfl, hq, hst⟩
  refine ⟨v, A', Ns, rfl, hq, ?_⟩
  obtain ⟨f2, G2, k1, k2, k3⟩ := hst
  have f := h.fr
  refine ⟨f.trans f2 h2, ?_⟩
  have hle := f.size
  have hR : Sep (Rs.eraseIdx i) w' (fun k => ((F0 k ∨ w0.heap.size ≤ k) ∧ ¬ G k) ∧ k < w.heap.size) := h3.inside.move (fun k hk _ => f2.block k hk.2 hk.1.2)
  refine Sep.append k3 (F := fun k => F0 k ∨ w0.heap.size ≤ k) (Sep.back i hi k1 (fun k hk => ⟨?_, fun hn => hn.2 hk⟩) (hR.mono (fun k hk => ⟨⟨hk.1.1, ?_⟩, ?_⟩))) ?_
  · rcases k2 k hk with h4 | h4
    · exact h2 k h4
    · exact .inr (by omega)
  · rintro ⟨h4 | h4, _⟩
    · exact hk.1.2 h4
    · have := hk.2; omega
  · intro h4
    rcases k2 k h4 with h5 | h5
    · exact hk.1.2 h5
    · have := hk.2; omega
  · rintro k ⟨h4 | h4, _⟩
    · exact h2 k h4
    · exact .inr (by omega)
theorem St.emp (h : St F0 w0 Rs w) : St F0 w0 (EmpR :: Rs) w := h.grow (Ns := [EmpR]) (Fr.refl _ _) ⟨fun _ => False, fun _ h => h, fun _ h => h.elim, trivial⟩
theorem St.callE {Q : Value → Res → List Res → Prop} (h : St F0 w0 Rs w) (hs : SpecX P f args X EmpR Q) (hr : X.reads w (fun _ => False)) :
    Calls P f args w fun e w' => ∃ v A' Ns, e = .returned v ∧ Q v A' Ns ∧ St F0 w0 (Ns ++ Rs) w' := by
  have h' : St F0 w0 (EmpR :: Rs) w := h.emp
  refine (h'.callX 0 rfl hs ?_).mono ?_
  · intro A G hA hG _ _
    have e : EmpR = A := by simpa using hA
    subst e
    exact RX.reads_weaken hr (fun k _ hk => (hG k hk).elim)
  · rintro e w' ⟨v, A', Ns, rfl, hq, hst⟩
    refine ⟨v, A', Ns, rfl, hq, ?_⟩
    have := hst.del Ns.length (A := A') (by simp)
    rwa [List.eraseIdx_append_of_length_le (Nat.le_refl _), Nat.sub_self] at this
theorem guard_some {α : Type} {c : Prop} [Decidable c] {T : Option α} {r : α} (h : (if c then T else none) = some r) : c ∧ T = some r := by
  by_cases hc : c
  · rw [if_pos hc] at h; exact ⟨hc, h⟩
  · rw [if_neg hc] at h; cases h
theorem SpecX.start (h : A.P w F0) : St F0 w [A] w := St.start F0 w (Sep.one h)
end
def resv (tmps : Array Value) : ResultVar → Sem Value
  | .tmp t => pure (tmps.getD t undef)
  | .cell a t => do loadVar t (← asAddr (tmps.getD a undef))
section
variable {P : Program} {fn : Func} {tmps : Array Value} {w : World} {r1 r2 r3 : ResultVar} {v1 v2 v3 : Value}
theorem results_eq (fn : Func) (tmps : Array Value) : results fn tmps = (do let vs ← fn.results.mapM (resv tmps); pure (if h : vs.size = 1 then vs[0] else .tuple vs)) := by
  unfold results
  rfl
end
end Go.Proofs.Ytlhgogjcaegehaa.Sl
namespace Go.Proofs.Ytlhgogjcaegehaa.Sl
open Go.RowKit
set_option linter.unusedVariables false
set_option linter.unusedSimpArgs false
def OutR (b : Nat) (st : List UInt8 × Int) : Res where
  P := fun w G => ∃ v, w.heap[b]? = some (.cells #[v, .int .i64 st.2] 73 (0, 0)) ∧ w.ownsRow 0 5 1 v st.1.length (byteCells st.1) ∧ ∀ k, G k ↔ k = b ∨ v.ownBlock = some k
  lt := by
    rintro w G ⟨v, h1, h2, h3⟩ k hk
    rcases (h3 k).1 hk with rfl | h
    · exact heap_lt h1
    · exact row_lt h2 k h
  move := by
    rintro w w' G ⟨v, h1, h2, h3⟩ hm
    exact ⟨v, (hm _ ((h3 _).2 (.inl rfl))).trans h1, row_move h2 (fun k hk => hm k ((h3 k).2 (.inr hk))), h3⟩
theorem infoByte : (Try.prog.info? 5).map (fun i => (i.zero, i.size, i.bytes)) = some (some (.int .u8 0), 1, 1) := by kernel_rfl
theorem OutR.new {F0 : Nat → Prop} {w0 w : World} {Rs : List Res} (h : St F0 w0 Rs w) : St F0 w0 (OutR w.heap.size ([], 0) :: Rs) (w.alloc (.cells #[.slice none 0 0, .int .i64 0] 73)) := by
  refine (h.alloc #[.slice none 0 0, .int .i64 0] 73).weaken 0 rfl (A' := OutR w.heap.size ([], 0)) ?_
  rintro G ⟨h1, h2⟩
  exact ⟨_, h1, World.ownsRow_nil _ _ _ _, fun k => by simp [h2 k, Value.ownBlock]⟩
theorem OutR.stored {b : Nat} {l m : List UInt8} {w w1 : World} {v v1 : Value} {F : Nat → Prop} (hb : w.heap[b]? = some (.cells #[v, .int .i64 0] 73 (0, 0))) (ho : w.ownsRow 0 5 1 v l.length (byteCells l)) (hF : ∀ k, F k ↔ k = b ∨ v.ownBlock = some k)
    {n : Nat} (ho1 : w1.ownsRow 0 5 1 v1 n (byteCells m)) (hg : w.grownBy w1 v.ownBlock) (hat : v1.ownBlock = v.ownBlock ∨ ∃ k, v1.ownBlock = some k ∧ w.heap.size ≤ k) :
    St F w [OutR b (m, 0)] (w1.setCell ⟨b, 0, none⟩ v1) := by
  have hn : n = m.length := by have := ho1.1; simpa [byteCells] using this.symm
  subst hn
  have hne := row_ne ho hb (by decide)
  have hb1 : w1.heap[b]? = some (.cells #[v, .int .i64 0] 73 (0, 0)) := (hg.block b (heap_lt hb) hne).trans hb
  have hne1 := row_ne ho1 hb1 (by decide)
  refine ⟨((Fr.refl F w).trans (Fr.of_grown (F := F) hg (fun k hk => (hF k).2 (.inr hk))) (fun k hk => .inl hk)).set (p := ⟨b, 0, none⟩) (.inl ((hF b).2 (.inl rfl))) v1, ?_⟩
  refine ⟨fun k => k = b ∨ v1.ownBlock = some k, ⟨v1, by simpa using heap_set hb1 0 v1, row_set ho1 hne1 v1, fun _ => Iff.rfl⟩, ?_, trivial⟩
  rintro k (rfl | hk)
  · exact .inl ((hF k).2 (.inl rfl))
  · rcases hat with h | ⟨k', h, h'⟩
    · rw [h] at hk
      exact .inl ((hF k).2 (.inr hk))
    · rw [h] at hk
      injection hk with hk
      subst hk
      exact .inr h'
theorem OutR.kept {b : Nat} {st : List UInt8 × Int} {w w' : World} {F : Nat → Prop} (h : (OutR b st).P w F) (n : Nat) (hw : w' = w.drewN n) : St F w [OutR b st] w' := by
  subst hw
  exact (St.start F w (Sep.one h)).drewN n
def oput (st : List UInt8 × Int) (l : List UInt8) : List UInt8 × Int := if st.2 = 0 then (st.1 ++ l, 0) else st
def ofail (st : List UInt8 × Int) (e : Int) : List UInt8 × Int := if st.2 = 0 then (st.1, e) else st
set_option maxRecDepth 100000 in
theorem Fail_spec (b : Nat) (st : List UInt8 × Int) (e : Int) : Spec Try.prog 52 #[.pointer (some ⟨b, 0, none⟩), .int .i64 e] (OutR b st) (fun v A' N => v = .tuple #[] ∧ A' = OutR b (ofail st e) ∧ N = []) := by
  rintro F w ⟨v, hb, ho, hF⟩
  obtain ⟨l, er⟩ := st
  have c1 : w.cell? ⟨b, 1, none⟩ = some (.int .i64 er) := (heap_at hb 1).trans rfl
  have f1 : w.frozen? ⟨b, 1, none⟩ = false := heap_free hb 1
  by_cases h0 : er = 0
  · subst h0
    have HB := Lib.hid hb
    have HO := Lib.hid ho
    clear hb ho
    go_enter Try.func52, Try.ntmps52
    go_wp2
    go_end0
    refine ⟨_, _, _, rfl, ⟨rfl, rfl, rfl⟩, (Fr.refl F w).set (.inl ((hF b).2 (.inl rfl))) _, F, ?_, fun k hk => .inl hk, trivial⟩
    have hne := row_ne HO.out HB.out (by decide)
    exact ⟨v, by simpa [ofail] using heap_set HB.out 1 (.int .i64 e), row_set HO.out hne _, hF⟩
  · have HB := Lib.hid hb
    have HO := Lib.hid ho
    have H0 : (er == 0) = false := beq_eq_false_iff_ne.2 h0
    clear hb ho
    go_enter Try.func52, Try.ntmps52
    go_wp2
    go_end0
    exact ⟨_, _, _, rfl, ⟨rfl, rfl, rfl⟩, OutR.kept ⟨v, by simpa [ofail, h0] using HB.out, by simpa [ofail, h0] using HO.out, hF⟩ 0 rfl⟩
set_option maxRecDepth 100000 in
theorem Put_spec (b : Nat) (st : List UInt8 × Int) (s : ByteArray) (hl : st.1.length + s.size ≤ 140737488355328) :
    Spec Try.prog 80 #[.pointer (some ⟨b, 0, none⟩), .string s] (OutR b st) (fun v A' N => v = .tuple #[] ∧ A' = OutR b (oput st s.data.toList) ∧ N = []) := by
  rintro F w ⟨v, hb, ho, hF⟩
  obtain ⟨l, er⟩ := st
  have c0 : w.cell? ⟨b, 0, none⟩ = some v := (heap_at hb 0).trans rfl
  have c1 : w.cell? ⟨b, 1, none⟩ = some (.int .i64 er) := (heap_at hb 1).trans rfl
  by_cases h0 : er = 0
  · subst h0
    have HB := Lib.hid hb
    have HO := Lib.hid ho
    clear hb ho
    go_enter Try.func80, Try.ntmps80
    go_wp2_with (at_builtin; refine wp_append_str_at w rfl _ _ _ _ rfl 5 Try.underlying71 Try.underlying9 infoByte v l.length (byteCells l) rfl HO.out s rfl hl ?_; intro v1 w1 ho1 hg hat; obtain ⟨a1, k1, rfl⟩ := row_slice ho1; have HO1 := Lib.hid ho1; clear ho1; have HN := Lib.hid (row_ne HO.out HB.out (by decide)); have HB1 := Lib.hid (show w1.heap[b]? = _ from (hg.block b (heap_lt HB.out) HN.out).trans HB.out); have d0 : w1.cell? ⟨b, 0, none⟩ = some v := (heap_at HB1.out 0).trans rfl; have e0 : w1.frozen? ⟨b, 0, none⟩ = false := heap_free HB1.out 0; have HG := Lib.hid hg; have HAT := Lib.hid hat; clear hg hat)
    go_end0
    have ho1 := HO1.out
    rw [byteCells_str, ← byteCells_append] at ho1
    refine ⟨_, _, _, rfl, ⟨rfl, rfl, rfl⟩, ?_⟩
    have := OutR.stored HB.out HO.out hF ho1 HG.out (by rcases HAT.out with h | h; exact .inl h; exact .inr ⟨_, h, Nat.le_refl _⟩)
    simpa [oput] using this
  · have HB := Lib.hid hb
    have HO := Lib.hid ho
    have H0 : (er == 0) = false := beq_eq_false_iff_ne.2 h0
    clear hb ho
    go_enter Try.func80, Try.ntmps80
    go_wp2_with fail
    go_end0
    exact ⟨_, _, _, rfl, ⟨rfl, rfl, rfl⟩, OutR.kept ⟨v, by simpa [oput, h0] using HB.out, by simpa [oput, h0] using HO.out, hF⟩ 0 rfl⟩
set_option maxRecDepth 100000 in
theorem Byte_spec (b : Nat) (st : List UInt8 × Int) (c : UInt8) (hl : st.1.length + 1 ≤ 140737488355328) :
    Spec Try.prog 53 #[.pointer (some ⟨b, 0, none⟩), .int .u8 c.toNat] (OutR b st) (fun v A' N => v = .tuple #[] ∧ A' = OutR b (oput st [c]) ∧ N = []) := by
  rintro F w ⟨v, hb, ho, hF⟩
  obtain ⟨l, er⟩ := st
  have c0 : w.cell? ⟨b, 0, none⟩ = some v := (heap_at hb 0).trans rfl
  have c1 : w.cell? ⟨b, 1, none⟩ = some (.int .i64 er) := (heap_at hb 1).trans rfl
  by_cases h0 : er = 0
  · subst h0
    have HB := Lib.hid hb
    have HO := Lib.hid ho
    clear hb ho
    go_enter Try.func53, Try.ntmps53
    go_wp2_with (at_builtin; refine wp_append_one_at w rfl _ _ _ rfl 5 (.int .u8 0) 1 Try.underlying71 infoByte rfl v l.length (byteCells l) rfl HO.out (.int .u8 c.toNat) rfl rfl (by simpa using hl) hl ?_; intro v1 w1 ho1 hg hat; obtain ⟨a1, k1, rfl⟩ := row_slice ho1; have HO1 := Lib.hid ho1; clear ho1; have HN := Lib.hid (row_ne HO.out HB.out (by decide)); have HB1 := Lib.hid (show w1.heap[b]? = _ from (hg.block b (heap_lt HB.out) HN.out).trans HB.out); have d0 : w1.cell? ⟨b, 0, none⟩ = some v := (heap_at HB1.out 0).trans rfl; have e0 : w1.frozen? ⟨b, 0, none⟩ = false := heap_free HB1.out 0; have HG := Lib.hid hg; have HAT := Lib.hid hat; clear hg hat)
    go_end0
    have ho1 := HO1.out
    rw [show ([Value.int .u8 c.toNat] : List Value) = byteCells [c] from rfl, ← byteCells_append] at ho1
    refine ⟨_, _, _, rfl, ⟨rfl, rfl, rfl⟩, ?_⟩
    have := OutR.stored HB.out HO.out hF ho1 HG.out HAT.out
    simpa [oput] using this
  · have HB := Lib.hid hb
    have HO := Lib.hid ho
    have H0 : (er == 0) = false := beq_eq_false_iff_ne.2 h0
    clear hb ho
    go_enter Try.func53, Try.ntmps53
    go_wp2_with fail
    go_end0
    exact ⟨_, _, _, rfl, ⟨rfl, rfl, rfl⟩, OutR.kept ⟨v, by simpa [oput, h0] using HB.out, by simpa [oput, h0] using HO.out, hF⟩ 0 rfl⟩
def otext (st : List UInt8 × Int) : Value := if st.2 = 0 then .tuple #[.string ⟨st.1.toArray⟩, .int .i64 0] else .tuple #[.string ⟨#[]⟩, .int .i64 st.2]
set_option maxRecDepth 100000 in
theorem Text_spec (b : Nat) (st : List UInt8 × Int) : Spec Try.prog 32 #[.pointer (some ⟨b, 0, none⟩)] (OutR b st) (fun v A' N => v = otext st ∧ A' = OutR b st ∧ N = []) := by
  rintro F w ⟨v, hb, ho, hF⟩
  obtain ⟨l, er⟩ := st
  have c0 : w.cell? ⟨b, 0, none⟩ = some v := (heap_at hb 0).trans rfl
  have c1 : w.cell? ⟨b, 1, none⟩ = some (.int .i64 er) := (heap_at hb 1).trans rfl
  have hc := row_string (P := Try.prog) w (src := 71) (dst := 9) Try.underlying71 Try.underlying5 Try.underlying9 ho
  have HB := Lib.hid hb
  have HO := Lib.hid ho
  clear hb ho
  by_cases h0 : er = 0
  · subst h0
    go_enter Try.func32, Try.ntmps32
    go_wp2
    go_ret2
    exact ⟨_, _, _, rfl, ⟨by simp [otext], rfl, rfl⟩, OutR.kept ⟨_, HB.out, HO.out, hF⟩ 0 rfl⟩
  · have H0 : (er != 0) = true := bne_iff_ne.2 h0
    go_enter Try.func32, Try.ntmps32
    go_wp2
    go_quiet (fail)
    go_wp2
    go_ret2
    exact ⟨_, _, _, rfl, ⟨by simp [otext, h0], rfl, rfl⟩, OutR.kept ⟨_, HB.out, HO.out, hF⟩ _ rfl⟩
def fits (n size : Int) : Bool := decide (1 ≤ size) && decide (size ≤ 8) && decide (-(2 ^ (8 * size.toNat - 1) : Int) ≤ n) && decide (n ≤ (2 ^ (8 * size.toNat - 1) : Int) - 1)
theorem w64max : wrap64 (wrap64 9223372036854775808 - 1) = 9223372036854775807 := by unfold wrap64; omega
theorem ret_int {k : IntKind} {a b : Int} (h : a = b) : Ending.returned (.int k a) = .returned (.int k b) := by rw [h]
theorem ret_bool {a b : Bool} (h : a = b) : Ending.returned (.bool a) = .returned (.bool b) := by rw [h]
set_option maxRecDepth 100000 in
theorem Fits_any (n size : Int) (w : World) (h0 : -9223372036854775808 ≤ n) (h1 : n ≤ 9223372036854775807) :
    Calls Try.prog 51 #[.int .i64 n, .int .i64 size] w fun e w' => e = .returned (.bool (fits n size)) ∧ w = w' := by
  by_cases hs : 1 ≤ size ∧ size ≤ 8
  · have hk : size = 1 ∨ size = 2 ∨ size = 3 ∨ size = 4 ∨ size = 5 ∨ size = 6 ∨ size = 7 ∨ size = 8 := by omega
    rcases hk with rfl | rfl | rfl | rfl | rfl | rfl | rfl | rfl
    all_goals
      clear hs
      go_enter Try.func51, Try.ntmps51
      go_wp2
      all_goals (go_ret; exact ⟨ret_bool (by have := w64max; rw [Bool.eq_iff_iff]; simp [fits, wrap64]; omega), rfl⟩)
  · by_cases h2 : size < 1
    · go_enter Try.func51, Try.ntmps51
      go_wp2
      go_ret
      exact ⟨ret_bool (by simp [fits]; omega), rfl⟩
    · have h3 : 8 < size := by omega
      go_enter Try.func51, Try.ntmps51
      go_wp2
      go_ret
      exact ⟨ret_bool (by simp [fits]; omega), rfl⟩
def be (n : Int) (size : Nat) : List UInt8 := (List.range size).map fun i => UInt8.ofNat ((n / (2 ^ (8 * (size - 1 - i)) : Int)) % 256).toNat
def oint (st : List UInt8 × Int) (n size : Int) : List UInt8 × Int := if fits n size then oput st (be n size.toNat) else ofail st 11
theorem oput_nil (st : List UInt8 × Int) : oput st [] = st := by
  obtain ⟨l, e⟩ := st
  by_cases h : e = 0 <;> simp [oput, h]
theorem oput_oput (st : List UInt8 × Int) (a b : List UInt8) : oput (oput st a) b = oput st (a ++ b) := by
  obtain ⟨l, e⟩ := st
  by_cases h : e = 0 <;> simp [oput, h]
theorem ByteI_spec (b : Nat) (st : List UInt8 × Int) (c : Int) (h0 : 0 ≤ c) (h1 : c < 256) (hl : st.1.length + 1 ≤ 140737488355328) :
    Spec Try.prog 53 #[.pointer (some ⟨b, 0, none⟩), .int .u8 c] (OutR b st) (fun v A' N => v = .tuple #[] ∧ A' = OutR b (oput st [UInt8.ofNat c.toNat]) ∧ N = []) := by
  have h := Byte_spec b st (UInt8.ofNat c.toNat) hl
  rwa [show ((UInt8.ofNat c.toNat).toNat : Int) = c from by simp [UInt8.toNat_ofNat']; omega] at h
theorem oput_len (st : List UInt8 × Int) (a : List UInt8) : (oput st a).1.length ≤ st.1.length + a.length := by
  unfold oput; split <;> simp
set_option maxRecDepth 100000 in
theorem OutInt_spec (b : Nat) (st : List UInt8 × Int) (n size : Int) (h0 : -9223372036854775808 ≤ n) (h1 : n ≤ 9223372036854775807) (hl : st.1.length + 8 ≤ 140737488355328) :
    Spec Try.prog 30 #[.pointer (some ⟨b, 0, none⟩), .int .i64 n, .int .i64 size] (OutR b st) (fun v A' N => v = .tuple #[] ∧ A' = OutR b (oint st n size) ∧ N = []) := by
  intro F w hA
  by_cases hf : fits n size = true
  · have hs : 1 ≤ size ∧ size ≤ 8 := by simp [fits] at hf; omega
    obtain ⟨k, rfl⟩ : ∃ k : Nat, size = k := ⟨size.toNat, by omega⟩
    have HF := Lib.hid hf
    clear hf
    have HA := Lib.hid (St.start F w (Sep.one hA))
    clear hA
    go_enter Try.func30, Try.ntmps30
    go_wp2_with fail
    refine (Fits_any n k w h0 h1).mono ?_
    rintro e w' ⟨rfl, rfl⟩
    rw [HF.out]
    go_wp2_with fail
    go_loopw [6, 14] (fun _ i wr => ∃ j : Nat, j ≤ k ∧ i = .int .i64 j ∧ St F w [OutR b (oput st ((be n k).take j))] wr) (fun _ i _ => k - (intOf i).toNat)
    case atStart => exact ⟨0, by omega, rfl, by simpa [oput_nil] using HA.out⟩
    case round =>
      obtain ⟨j, hj, rfl, hst⟩ := hrel
      have HS := Lib.hid hst
      clear hst
      by_cases hlt : j < k
      · go_wp2_with fail
        have hle : ((be n k).take j).length = j := by simp [be]; omega
        have hl2 := oput_len st ((be n k).take j)
        refine (HS.out.call 0 rfl (ByteI_spec b _ _ (by omega) (by omega) (by omega))).mono ?_
        rintro e w1 ⟨v, A', N, rfl, ⟨rfl, rfl, rfl⟩, H1⟩
        have HS1 := Lib.hid H1
        clear H1 hle hl2
        go_wp2_with fail
        go_roundw
        case rel =>
          refine ⟨j + 1, by omega, by go_num, ?_⟩
          have := HS1.out
          rw [oput_oput] at this
          have e1 : (be n k).take (j + 1) = (be n k).take j ++ [UInt8.ofNat ((n / (2 ^ (8 * (k - 1 - j)) : Int)) % 256).toNat] := by
            rw [List.take_succ_eq_append_getElem (by simp [be]; omega)]
            simp [be]
          rw [e1]
          exact this
        case measure => simp [intOf]; omega
      · have e1 : j = k := by omega
        have e2 : (be n k).take k = be n k := List.take_of_length_le (by simp [be])
        go_wp2_with fail
        go_end0
        refine ⟨_, _, _, rfl, ⟨rfl, rfl, rfl⟩, ?_⟩
        have := HS.out
        rw [e1, e2] at this
        simpa [oint, HF.out] using this
  · have HF := Lib.hid (show fits n size = false by simpa using hf)
    clear hf
    have HA := Lib.hid (St.start F w (Sep.one hA))
    clear hA
    go_enter Try.func30, Try.ntmps30
    go_wp2_with fail
    refine (Fits_any n size w h0 h1).mono ?_
    rintro e w' ⟨rfl, rfl⟩
    rw [HF.out]
    go_wp2_with fail
    refine (HA.out.call 0 rfl (Fail_spec b _ 11)).mono ?_
    rintro e w1 ⟨v, A', N, rfl, ⟨rfl, rfl, rfl⟩, H1⟩
    have HS1 := Lib.hid H1
    clear H1
    go_wp2_with fail
    go_end0
    refine ⟨_, _, _, rfl, ⟨rfl, rfl, rfl⟩, ?_⟩
    simpa [oint, HF.out] using HS1.out
end Go.Proofs.Ytlhgogjcaegehaa.Sl
namespace Go.Proofs.Ytlhgogjcaegehaa.Sl
open Go.RowKit
set_option linter.unusedVariables false
set_option linter.unusedSimpArgs false
structure I where
  rest : List UInt8
  pos : Nat
  err : Int
def bsOf (l : List UInt8) : ByteArray := ⟨l.toArray⟩
theorem bsOf_size (l : List UInt8) : (bsOf l).size = l.length := by simp [bsOf, ByteArray.size]
theorem bsOf_list (l : List UInt8) : (bsOf l).data.toList = l := by simp [bsOf]
theorem bsOf_toList (l : List UInt8) : (bsOf l).toList = l := ByteArray.toList_mk l
theorem bsOf_data (s : ByteArray) : bsOf s.data.toList = s := by cases s; simp [bsOf]
theorem str_extract (s : ByteArray) (a b : Nat) : s.extract a b = bsOf ((s.data.toList.drop a).take (b - a)) := by
  apply ByteArray.ext
  apply Array.ext'
  simp [bsOf, ByteArray.data_extract, List.extract_eq_take_drop]
def InR (b : Nat) (st : I) : Res where
  P := fun w G => ∃ s : ByteArray, w.heap[b]? = some (.cells #[.string s, .int .i64 st.pos, .int .i64 st.err] 117 (0, 0)) ∧ st.pos + st.rest.length = s.size ∧ s.size ≤ 9223372036854775807 ∧ s.data.toList.drop st.pos = st.rest ∧ ∀ k, G k ↔ k = b
  lt := by
    rintro w G ⟨s, h1, _, _, _, h3⟩ k hk
    rw [(h3 k).1 hk]
    exact heap_lt h1
  move := by
    rintro w w' G ⟨s, h1, h2, h3, h4, h5⟩ hm
    exact ⟨s, (hm _ ((h5 _).2 rfl)).trans h1, h2, h3, h4, h5⟩
theorem InR.kept {b : Nat} {st : I} {w w' : World} {F : Nat → Prop} (h : (InR b st).P w F) (n : Nat) (hw : w' = w.drewN n) : St F w [InR b st] w' := by
  subst hw
  exact (St.start F w (Sep.one h)).drewN n
def ifail (st : I) (e : Int) : I := if st.err = 0 then { st with err := e } else st
def itake (st : I) (n : Int) : List UInt8 × I :=
  if st.err ≠ 0 then ([], st) else if n < 0 then ([], { st with err := 4 }) else if st.rest.length < n then ([], { st with err := 1 })
  else (st.rest.take n.toNat, { st with rest := st.rest.drop n.toNat, pos := st.pos + n.toNat })
set_option maxRecDepth 100000 in
theorem New_spec (s : ByteArray) (hs : s.size ≤ 9223372036854775807) :
    Spec0 Try.prog 41 #[.string s] (fun v N => ∃ b, v = .pointer (some ⟨b, 0, none⟩) ∧ N = [InR b ⟨s.data.toList, 0, 0⟩]) := by
  intro w
  go_enter Try.func41, Try.ntmps41
  go_wp2
  go_ret
  refine ⟨_, _, rfl, ⟨_, rfl, rfl⟩, ?_⟩
  refine (((St.nil_ w).alloc #[.string s, .int .i64 0, .int .i64 0] 117).weaken 0 rfl (A' := InR w.heap.size ⟨s.data.toList, 0, 0⟩) ?_)
  rintro G ⟨h1, h2⟩
  exact ⟨s, h1, by simp, hs, rfl, h2⟩
set_option maxRecDepth 100000 in
theorem IFail_spec (b : Nat) (st : I) (e : Int) : Spec Try.prog 43 #[.pointer (some ⟨b, 0, none⟩), .int .i64 e] (InR b st) (fun v A' N => v = .tuple #[] ∧ A' = InR b (ifail st e) ∧ N = []) := by
  rintro F w ⟨s, hb, h2, h3, h4, hF⟩
  have c2 : w.cell? ⟨b, 2, none⟩ = some (.int .i64 st.err) := (heap_at hb 2).trans rfl
  have f2 : w.frozen? ⟨b, 2, none⟩ = false := heap_free hb 2
  have HB := Lib.hid hb
  have H4 := Lib.hid h4
  have H2 := Lib.hid h2
  clear hb h4 h2
  by_cases h0 : st.err = 0
  · have H0 : (st.err == 0) = true := beq_iff_eq.2 h0
    have HH := Lib.hid h0
    clear h0
    go_enter Try.func43, Try.ntmps43
    go_wp2
    go_end0
    refine ⟨_, _, _, rfl, ⟨rfl, rfl, rfl⟩, (Fr.refl F w).set (.inl ((hF b).2 rfl)) _, F, ?_, fun k hk => .inl hk, trivial⟩
    exact ⟨s, by simpa [ifail, HH.out] using heap_set HB.out 2 (.int .i64 e), by simpa [ifail, HH.out] using H2.out, h3, by simpa [ifail, HH.out] using H4.out, hF⟩
  · have H0 : (st.err == 0) = false := beq_eq_false_iff_ne.2 h0
    have HH := Lib.hid h0
    clear h0
    go_enter Try.func43, Try.ntmps43
    go_wp2
    go_end0
    refine ⟨_, _, _, rfl, ⟨rfl, rfl, rfl⟩, InR.kept (st := ifail st e) ?_ 0 rfl⟩
    rw [show ifail st e = st by simp [ifail, HH.out]]
    exact ⟨s, HB.out, H2.out, h3, H4.out, hF⟩
set_option maxRecDepth 100000 in
theorem Left_spec (b : Nat) (st : I) : Spec Try.prog 65 #[.pointer (some ⟨b, 0, none⟩)] (InR b st) (fun v A' N => v = .int .i64 st.rest.length ∧ A' = InR b st ∧ N = []) := by
  rintro F w ⟨s, hb, h2, h3, h4, hF⟩
  have c0 : w.cell? ⟨b, 0, none⟩ = some (.string s) := (heap_at hb 0).trans rfl
  have c1 : w.cell? ⟨b, 1, none⟩ = some (.int .i64 st.pos) := (heap_at hb 1).trans rfl
  have HB := Lib.hid hb
  have H4 := Lib.hid h4
  have H2 := Lib.hid h2
  have h2a : st.pos ≤ s.size := by omega
  clear hb h4 h2
  go_enter Try.func65, Try.ntmps65
  go_wp2
  go_quiet (fail)
  go_wp2
  go_ret
  have e1 : (s.size : Int) - st.pos = st.rest.length := by have := H2.out; omega
  exact ⟨_, _, _, ret_int e1, ⟨rfl, rfl, rfl⟩, InR.kept ⟨s, HB.out, H2.out, h3, H4.out, hF⟩ _ rfl⟩
set_option maxRecDepth 100000 in
theorem Take_spec (b : Nat) (st : I) (n : Int) (hn0 : -9223372036854775808 ≤ n) (hn1 : n ≤ 9223372036854775807) :
    Spec Try.prog 62 #[.pointer (some ⟨b, 0, none⟩), .int .i64 n] (InR b st) (fun v A' N => v = .string (bsOf (itake st n).1) ∧ A' = InR b (itake st n).2 ∧ N = []) := by
  rintro F w ⟨s, hb, h2, h3, h4, hF⟩
  have hA : (InR b st).P w F := ⟨s, hb, h2, h3, h4, hF⟩
  have c0 : w.cell? ⟨b, 0, none⟩ = some (.string s) := (heap_at hb 0).trans rfl
  have c1 : w.cell? ⟨b, 1, none⟩ = some (.int .i64 st.pos) := (heap_at hb 1).trans rfl
  have c2 : w.cell? ⟨b, 2, none⟩ = some (.int .i64 st.err) := (heap_at hb 2).trans rfl
  have f1 : w.frozen? ⟨b, 1, none⟩ = false := heap_free hb 1
  have HB := Lib.hid hb
  have H4 := Lib.hid h4
  have H2 := Lib.hid h2
  have HA := Lib.hid (St.start F w (Sep.one hA))
  have h2a : st.pos ≤ s.size := by omega
  have h2b : ¬ ((s.size : Int) - st.pos < n) ↔ n ≤ st.rest.length := by omega
  have H2b := Lib.hid h2b
  clear hb h4 h2 hA h2b
  by_cases h0 : st.err = 0
  · have H0 : (st.err != 0) = false := by simp [h0]
    have HH := Lib.hid h0
    clear h0
    by_cases hn : n < 0
    · have HT := Lib.hid (show itake st n = ([], ifail st 4) by simp [itake, HH.out, hn, ifail])
      go_enter Try.func62, Try.ntmps62
      go_wp2_with fail
      refine (HA.out.call 0 rfl (IFail_spec b st 4)).mono ?_
      rintro e w1 ⟨v, A', N, rfl, ⟨rfl, rfl, rfl⟩, H1⟩
      have HS1 := Lib.hid H1
      clear H1
      go_wp2_with fail
      go_ret
      exact ⟨_, _, _, rfl, ⟨by rw [HT.out]; rfl, rfl, rfl⟩, by rw [HT.out]; exact HS1.out⟩
    · by_cases hl : (st.rest.length : Int) < n
      · have hl2 : (s.size : Int) - st.pos < n := by have := H2.out; omega
        have HT := Lib.hid (show itake st n = ([], ifail st 1) by simp [itake, HH.out, hn, ifail, hl])
        go_enter Try.func62, Try.ntmps62
        go_wp2_with fail
        go_quiet (fail)
        go_wp2_with fail
        refine ((HA.out.drewN _).call 0 rfl (IFail_spec b st 1)).mono ?_
        rintro e w1 ⟨v, A', N, rfl, ⟨rfl, rfl, rfl⟩, H1⟩
        have HS1 := Lib.hid H1
        clear H1
        go_wp2_with fail
        go_ret
        exact ⟨_, _, _, rfl, ⟨by rw [HT.out]; rfl, rfl, rfl⟩, by rw [HT.out]; exact HS1.out⟩
      · have hl2 : ¬ ((s.size : Int) - st.pos < n) := by have := H2.out; omega
        obtain ⟨m, rfl⟩ : ∃ m : Nat, n = m := ⟨n.toNat, by omega⟩
        have hl3 : st.pos + m ≤ s.size := by omega
        have HT := Lib.hid (show itake st m = (st.rest.take m, { st with rest := st.rest.drop m, pos := st.pos + m }) by
          have : ¬ (st.rest.length < m) := by omega
          simp [itake, HH.out, this])
        go_enter Try.func62, Try.ntmps62
        go_wp2_with fail
        go_quiet (fail)
        go_wp2_with fail
        go_quiet (fail)
        go_wp2_with fail
        go_ret
        refine ⟨.string (s.extract st.pos (st.pos + m)), _, _, rfl, ⟨?_, rfl, rfl⟩, ?_⟩
        · rw [HT.out, str_extract, Nat.add_sub_cancel_left, H4.out]
        · rw [HT.out]
          refine ((((St.start F w (Sep.one (R := BlkR b 117 #[.string s, .int .i64 st.pos, .int .i64 st.err]) ⟨HB.out, hF⟩)).drewN _).set 0 rfl 1 (.int .i64 (st.pos + m))).drewN _).weaken 0 rfl (A' := InR b { st with rest := st.rest.drop m, pos := st.pos + m }) ?_
          rintro G ⟨k1, k2⟩
          have h2 := H2.out
          refine ⟨s, k1, ?_, h3, ?_, k2⟩
          · simp only [List.length_drop]; omega
          · simp only; rw [← H4.out, List.drop_drop]
  · have H0 : (st.err != 0) = true := bne_iff_ne.2 h0
    have HH := Lib.hid h0
    clear h0
    go_enter Try.func62, Try.ntmps62
    go_wp2_with fail
    go_ret
    refine ⟨_, _, _, rfl, ⟨?_, rfl, rfl⟩, ?_⟩
    · simp [itake, HH.out, bsOf]
    · simpa [itake, HH.out] using HA.out
theorem or8_i64 (x d : Int) (h0 : -9223372036854775808 ≤ x) (h1 : x ≤ 9223372036854775807) (hx : x % 256 = 0) (hd0 : 0 ≤ d) (hd1 : d < 256) : bits .or .i64 x d = x + d := by
  have e1 : (BitVec.ofInt 64 x).toNat = (x % 18446744073709551616).toNat := by simp [BitVec.toNat_ofInt]
  have e2 : (BitVec.ofInt 64 d).toNat = d.toNat := by simp [BitVec.toNat_ofInt]; omega
  show IntKind.i64.wrap (((BitVec.ofInt 64 x) ||| (BitVec.ofInt 64 d)).toNat : Int) = x + d
  rw [BitVec.toNat_or, e1, e2]
  generalize ha : (x % 18446744073709551616).toNat = a
  have ha2 : a % 256 = 0 := by omega
  have hq : a = 2 ^ 8 * (a / 256) := by omega
  have hb : d.toNat < 2 ^ 8 := by omega
  have ho : a ||| d.toNat = a + d.toNat := by
    rw [hq, ← Nat.two_pow_add_eq_or_of_lt hb (a / 256)]
  rw [ho, IntKind.wrap_i64]
  omega
def sgn (c : UInt8) : Int := if c.toNat < 128 then c.toNat else (c.toNat : Int) - 256
theorem sgn_wrap (c : UInt8) : wrap64 (IntKind.i8.wrap (c.toNat : Int)) = sgn c := by
  have := c.toNat_lt
  have e : IntKind.i8.wrap (c.toNat : Int) = sgn c := by
    unfold sgn
    simp [IntKind.wrap, IntKind.bits, IntKind.signed]
    split <;> split <;> omega
  rw [e]
  unfold sgn wrap64
  split <;> omega
def beInt : List UInt8 → Int
  | [] => 0
  | c :: cs => cs.foldl (fun n d => n * 256 + d.toNat) (sgn c)
theorem beInt_snoc (l : List UInt8) (d : UInt8) (h : l ≠ []) : beInt (l ++ [d]) = beInt l * 256 + d.toNat := by
  cases l with
  | nil => exact absurd rfl h
  | cons c cs => simp [beInt]
theorem fold_range (cs : List UInt8) : ∀ (n : Int) (m : Nat), 1 ≤ m → -(2 ^ (m - 1) : Int) ≤ n → n < (2 ^ (m - 1) : Int) →
    -(2 ^ (m + 8 * cs.length - 1) : Int) ≤ cs.foldl (fun n d => n * 256 + (d.toNat : Int)) n ∧ cs.foldl (fun n d => n * 256 + (d.toNat : Int)) n < (2 ^ (m + 8 * cs.length - 1) : Int) := by
  induction cs with
  | nil => intro n m _ h1 h2; exact ⟨h1, h2⟩
  | cons c cs ih =>
    intro n m hm h1 h2
    have := c.toNat_lt
    have e : (2 ^ (m + 8 - 1) : Int) = 256 * 2 ^ (m - 1) := by
      rw [show m + 8 - 1 = 8 + (m - 1) by omega, Int.pow_add]
      rfl
    have h3 := ih (n * 256 + c.toNat) (m + 8) (by omega) (by rw [e]; omega) (by rw [e]; omega)
    rw [show m + 8 * (c :: cs).length - 1 = m + 8 + 8 * cs.length - 1 by simp; omega]
    exact h3
theorem beInt_range (l : List UInt8) (h : l ≠ []) : -(2 ^ (8 * l.length - 1) : Int) ≤ beInt l ∧ beInt l < (2 ^ (8 * l.length - 1) : Int) := by
  cases l with
  | nil => exact absurd rfl h
  | cons c cs =>
    have hc := c.toNat_lt
    have := fold_range cs (sgn c) 8 (by omega) (by unfold sgn; split <;> omega) (by unfold sgn; split <;> omega)
    rw [show 8 * (c :: cs).length - 1 = 8 + 8 * cs.length - 1 by simp; omega]
    exact this
theorem beInt_range7 (l : List UInt8) (h : l ≠ []) (h7 : l.length ≤ 7) : -36028797018963968 ≤ beInt l ∧ beInt l < 36028797018963968 := by
  have hr := beInt_range l h
  have hp : (2 ^ (8 * l.length - 1) : Int) ≤ 36028797018963968 := by
    have h1 : (2 ^ (8 * l.length - 1) : Nat) ≤ 2 ^ 55 := Nat.pow_le_pow_right (by decide) (by omega)
    have h2 : ((2 ^ (8 * l.length - 1) : Nat) : Int) ≤ ((2 ^ 55 : Nat) : Int) := Int.ofNat_le.2 h1
    rw [Int.natCast_pow, Int.natCast_pow] at h2
    exact h2
  generalize (2 ^ (8 * l.length - 1) : Int) = z at *
  omega
theorem beInt_next (q d : Int) (h0 : -36028797018963968 ≤ q) (h1 : q < 36028797018963968) (hd0 : 0 ≤ d) (hd1 : d < 256) : bits .or .i64 (wrap64 (q * 256)) (wrap64 d) = q * 256 + d := by
  have e2 : wrap64 (q * 256) = q * 256 := by unfold wrap64; omega
  have e3 : wrap64 d = d := by unfold wrap64; omega
  rw [e2, e3, or8_i64 _ _ (by omega) (by omega) (by omega) hd0 hd1]
theorem bsOf_empty (l : List UInt8) : (bsOf l).toList.isEmpty = l.isEmpty := by
  have e : (bsOf l).toList = l := ByteArray.toList_mk l
  rw [e]
theorem bsOf_get (l : List UInt8) (i : Nat) (h : i < (bsOf l).size) : (bsOf l)[i] = l[i]'(by simpa [bsOf_size] using h) := by
  simp [bsOf]; rfl
def iint (st : I) (size : Int) : Int × I := if 1 ≤ size ∧ size ≤ 8 then (beInt (itake st size).1, (itake st size).2) else (0, ifail st 4)
theorem itake_len (st : I) (n : Int) : (itake st n).1.length ≤ n.toNat := by
  unfold itake
  split
  · simp
  · split
    · simp
    · split
      · simp
      · simp; omega
set_option maxRecDepth 100000 in
theorem IInt_spec (b : Nat) (st : I) (size : Int) :
    Spec Try.prog 42 #[.pointer (some ⟨b, 0, none⟩), .int .i64 size] (InR b st) (fun v A' N => v = .int .i64 (iint st size).1 ∧ A' = InR b (iint st size).2 ∧ N = []) := by
  intro F w hA
  by_cases hs : 1 ≤ size ∧ size ≤ 8
  · obtain ⟨k, rfl⟩ : ∃ k : Nat, size = k := ⟨size.toNat, by omega⟩
    have HI := Lib.hid (show iint st k = (beInt (itake st k).1, (itake st k).2) by simp only [iint, hs]; simp)
    have HA := Lib.hid (St.start F w (Sep.one hA))
    clear hA
    go_enter Try.func42, Try.ntmps42
    go_wp2_with fail
    refine (HA.out.call 0 rfl (Take_spec b st k (by omega) (by omega))).mono ?_
    rintro e w1 ⟨v, A', N, rfl, ⟨rfl, rfl, rfl⟩, H1⟩
    have HS1 := Lib.hid H1
    have hlen := itake_len st k
    clear H1
    generalize hl : (itake st k).1 = l at *
    have hne := bsOf_empty l
    have HL := Lib.hid hl
    clear hl
    cases l with
    | nil =>
      simp only [List.isEmpty_nil] at hne
      go_wp2_with fail
      go_ret
      exact ⟨_, _, _, rfl, ⟨by rw [HI.out]; rfl, rfl, rfl⟩, by rw [HI.out]; exact HS1.out⟩
    | cons c cs =>
      have hsz := bsOf_size (c :: cs)
      have h0 := bsOf_get (c :: cs) 0 (by simp [bsOf_size])
      have HG := Lib.hid (bsOf_get (c :: cs))
      have hsg := sgn_wrap c
      have hl8 : cs.length ≤ 7 := by simp at hlen; omega
      simp only [List.getElem_cons_zero, List.isEmpty_cons] at h0 hne
      go_wp2_with fail
      go_loopw [6, 7] (fun n i wr => wr = w1 ∧ ∃ j : Nat, 1 ≤ j ∧ j ≤ cs.length + 1 ∧ i = .int .i64 j ∧ n = .int .i64 (beInt ((c :: cs).take j))) (fun _ i _ => cs.length + 1 - (intOf i).toNat)
      case atStart => exact ⟨rfl, 1, by omega, by omega, rfl, by simp [beInt, hsg]⟩
      case round =>
        obtain ⟨rfl, j, hj1, hj2, rfl, rfl⟩ := hrel
        by_cases hlt : j < cs.length + 1
        · have hgj := HG.out j (by rw [hsz]; simpa using hlt)
          have hb : j ≤ 9223372036854775806 := by omega
          have hnn : (c :: cs).take j ≠ [] := by intro h; have := congrArg List.length h; simp at this; omega
          have hr := beInt_range7 ((c :: cs).take j) hnn (by simp; omega)
          generalize hq : beInt ((c :: cs).take j) = q at *
          have HQ := Lib.hid hq
          have HR := Lib.hid hr
          clear hq hr
          go_wp2_with fail
          go_roundw
          case rel =>
            refine ⟨trivial, j + 1, by omega, by omega, by go_num, ?_⟩
            have hd := ((c :: cs)[j]'(by simpa using hlt)).toNat_lt
            have e1 : (c :: cs).take (j + 1) = (c :: cs).take j ++ [(c :: cs)[j]'(by simpa using hlt)] := by
              rw [List.take_succ_eq_append_getElem (by simpa using hlt)]
            rw [e1, beInt_snoc _ _ hnn, HQ.out, beInt_next q _ HR.out.1 HR.out.2 (by omega) (by omega)]
          case measure => simp [intOf]; omega
        · have e1 : j = cs.length + 1 := by omega
          have e2 : (c :: cs).take (cs.length + 1) = c :: cs := List.take_of_length_le (by simp)
          have hb : (c :: cs).length = cs.length + 1 := rfl
          go_wp2_with fail
          go_ret
          exact ⟨_, _, _, rfl, ⟨by rw [HI.out, e1, e2]; rfl, rfl, rfl⟩, by rw [HI.out]; exact HS1.out⟩
  · have HI := Lib.hid (show iint st size = (0, ifail st 4) by simp only [iint, hs]; simp)
    have HA := Lib.hid (St.start F w (Sep.one hA))
    clear hA
    by_cases h1 : size < 1
    all_goals
      go_enter Try.func42, Try.ntmps42
      go_wp2_with fail
      refine (HA.out.call 0 rfl (IFail_spec b st 4)).mono ?_
      rintro e w1 ⟨v, A', N, rfl, ⟨rfl, rfl, rfl⟩, H1⟩
      have HS1 := Lib.hid H1
      clear H1
      go_wp2_with fail
      go_ret
      exact ⟨_, _, _, rfl, ⟨by rw [HI.out]; rfl, rfl, rfl⟩, by rw [HI.out]; exact HS1.out⟩
theorem InR.err {b : Nat} {st : I} {w : World} {F0 : Nat → Prop} {w0 : World} {Rs : List Res} (i : Nat) (h : St F0 w0 Rs w) (hi : Rs[i]? = some (InR b st)) :
    w.cell? ⟨b, 2, none⟩ = some (.int .i64 st.err) ∧ w.cell? ⟨b, 1, none⟩ = some (.int .i64 st.pos) := by
  obtain ⟨G, ⟨s, h1, _⟩, _⟩ := h.get i hi
  exact ⟨(heap_at h1 2).trans rfl, (heap_at h1 1).trans rfl⟩
theorem InR.len {b : Nat} {st : I} {w : World} {F0 : Nat → Prop} {w0 : World} {Rs : List Res} (i : Nat) (h : St F0 w0 Rs w) (hi : Rs[i]? = some (InR b st)) : st.rest.length ≤ 9223372036854775807 := by
  obtain ⟨G, ⟨s, h1, h2, h3, _⟩, _⟩ := h.get i hi
  omega
set_option maxRecDepth 100000 in
theorem IErr_spec (b : Nat) (st : I) : Spec Try.prog 67 #[.pointer (some ⟨b, 0, none⟩)] (InR b st) (fun v A' N => v = .int .i64 st.err ∧ A' = InR b st ∧ N = []) := by
  intro F w hA
  have hs := St.start F w (Sep.one hA)
  have c2 := (InR.err 0 hs rfl).1
  have HS := Lib.hid hs
  clear hs hA
  go_enter Try.func67, Try.ntmps67
  go_wp2
  go_ret
  exact ⟨_, _, _, rfl, ⟨rfl, rfl, rfl⟩, HS.out⟩
def iclose (st : I) : I := if st.rest = [] then st else ifail st 2
set_option maxRecDepth 100000 in
theorem Close_spec (b : Nat) (st : I) : Spec Try.prog 45 #[.pointer (some ⟨b, 0, none⟩)] (InR b st) (fun v A' N => v = .int .i64 (iclose st).err ∧ A' = InR b (iclose st) ∧ N = []) := by
  intro F w hA
  have HS := Lib.hid (St.start F w (Sep.one hA))
  clear hA
  by_cases h : st.rest = []
  · have HC := Lib.hid (show iclose st = st by simp [iclose, h])
    have hl : st.rest.length = 0 := by simp [h]
    have HL := Lib.hid hl
    have hl2 : ¬ ((0 : Int) < st.rest.length) := by omega
    clear h hl
    go_enter Try.func45, Try.ntmps45
    go_wp2_with fail
    refine (HS.out.call 0 rfl (Left_spec b st)).mono ?_
    rintro e w1 ⟨v, A', N, rfl, ⟨rfl, rfl, rfl⟩, H1⟩
    have c2 := (InR.err 0 H1 rfl).1
    have HS1 := Lib.hid H1
    clear H1
    go_wp2_with fail
    go_ret
    exact ⟨_, _, _, rfl, ⟨by rw [HC.out]; rfl, rfl, rfl⟩, by rw [HC.out]; exact HS1.out⟩
  · have HC := Lib.hid (show iclose st = ifail st 2 by simp [iclose, h])
    have hl2 : (0 : Int) < st.rest.length := by
      have := List.length_pos_iff.2 h
      omega
    clear h
    go_enter Try.func45, Try.ntmps45
    go_wp2_with fail
    refine (HS.out.call 0 rfl (Left_spec b st)).mono ?_
    rintro e w1 ⟨v, A', N, rfl, ⟨rfl, rfl, rfl⟩, H1⟩
    have HS1 := Lib.hid H1
    clear H1
    go_wp2_with fail
    refine (HS1.out.call 0 rfl (IFail_spec b st 2)).mono ?_
    rintro e w2 ⟨v, A', N, rfl, ⟨rfl, rfl, rfl⟩, H2⟩
    have c2 := (InR.err 0 H2 rfl).1
    have HS2 := Lib.hid H2
    clear H2
    go_wp2_with fail
    go_ret
    exact ⟨_, _, _, rfl, ⟨by rw [HC.out]; rfl, rfl, rfl⟩, by rw [HC.out]; exact HS2.out⟩
def icount (st : I) (size each : Int) : Int × I :=
  if (iint st size).2.err ≠ 0 then (0, (iint st size).2)
  else if (iint st size).1 < 0 then (0, ifail (iint st size).2 4)
  else if 0 < each ∧ ((iint st size).2.rest.length : Int) / each < (iint st size).1 then (0, ifail (iint st size).2 1)
  else iint st size
set_option maxRecDepth 100000 in
theorem Count_spec (b : Nat) (st : I) (size each : Int) :
    Spec Try.prog 66 #[.pointer (some ⟨b, 0, none⟩), .int .i64 size, .int .i64 each] (InR b st) (fun v A' N => v = .int .i64 (icount st size each).1 ∧ A' = InR b (icount st size each).2 ∧ N = []) := by
  intro F w hA
  have HS := Lib.hid (St.start F w (Sep.one hA))
  clear hA
  have HC := Lib.hid (show icount st size each = _ from rfl)
  generalize hq : icount st size each = q at HC ⊢
  have HC2 := Lib.hid (show q = icount st size each from hq.symm)
  clear hq HC
  have HC3 := Lib.hid (show q = (if (iint st size).2.err ≠ 0 then (0, (iint st size).2)
    else if (iint st size).1 < 0 then (0, ifail (iint st size).2 4)
    else if 0 < each ∧ ((iint st size).2.rest.length : Int) / each < (iint st size).1 then (0, ifail (iint st size).2 1)
    else iint st size) from HC2.out)
  clear HC2
  have h1 := IInt_spec b st size
  generalize iint st size = r at *
  obtain ⟨n, st1⟩ := r
  have HN := Lib.hid h1
  clear h1
  by_cases h0 : st1.err = 0
  · have H0 : (st1.err != 0) = false := by simp [h0]
    have HH := Lib.hid h0
    clear h0
    by_cases hn : n < 0
    · have HQ := Lib.hid (show q = (0, ifail st1 4) by rw [HC3.out]; simp [HH.out, hn])
      go_enter Try.func66, Try.ntmps66
      go_wp2_with fail
      refine (HS.out.call 0 rfl HN.out).mono ?_
      rintro e w1 ⟨v, A', N, rfl, ⟨rfl, rfl, rfl⟩, H1⟩
      have c2 := (InR.err 0 H1 rfl).1
      have HS1 := Lib.hid H1
      clear H1
      go_wp2_with fail
      refine (HS1.out.call 0 rfl (IFail_spec b st1 4)).mono ?_
      rintro e w2 ⟨v, A', N, rfl, ⟨rfl, rfl, rfl⟩, H2⟩
      have HS2 := Lib.hid H2
      clear H2
      go_wp2_with fail
      go_ret
      exact ⟨_, _, _, rfl, ⟨by rw [HQ.out]; rfl, rfl, rfl⟩, by rw [HQ.out]; exact HS2.out⟩
    · by_cases he : 0 < each
      · have hd0 : 0 ≤ (st1.rest.length : Int) := by omega
        by_cases hc : (st1.rest.length : Int) / each < n
        · have HQ := Lib.hid (show q = (0, ifail st1 1) by rw [HC3.out]; simp [HH.out, hn, he, hc])
          go_enter Try.func66, Try.ntmps66
          go_wp2_with fail
          refine (HS.out.call 0 rfl HN.out).mono ?_
          rintro e w1 ⟨v, A', N, rfl, ⟨rfl, rfl, rfl⟩, H1⟩
          have c2 := (InR.err 0 H1 rfl).1
          have hb := InR.len 0 H1 rfl
          have hq1 : 0 ≤ (st1.rest.length : Int) / each := Int.ediv_nonneg hd0 (by omega)
          have hq2 : (st1.rest.length : Int) / each ≤ 9223372036854775807 := Int.le_trans (Int.ediv_le_self each hd0) (by omega)
          have HS1 := Lib.hid H1
          clear H1
          go_wp2_with fail
          refine (HS1.out.call 0 rfl (Left_spec b st1)).mono ?_
          rintro e w2 ⟨v, A', N, rfl, ⟨rfl, rfl, rfl⟩, H2⟩
          have HS2 := Lib.hid H2
          clear H2
          go_wp2_with fail
          refine (HS2.out.call 0 rfl (IFail_spec b st1 1)).mono ?_
          rintro e w2 ⟨v, A', N, rfl, ⟨rfl, rfl, rfl⟩, H3⟩
          have HS3 := Lib.hid H3
          clear H3
          go_wp2_with fail
          go_ret
          exact ⟨_, _, _, rfl, ⟨by rw [HQ.out]; rfl, rfl, rfl⟩, by rw [HQ.out]; exact HS3.out⟩
        · have HQ := Lib.hid (show q = (n, st1) by rw [HC3.out]; simp [HH.out, hn, hc])
          go_enter Try.func66, Try.ntmps66
          go_wp2_with fail
          refine (HS.out.call 0 rfl HN.out).mono ?_
          rintro e w1 ⟨v, A', N, rfl, ⟨rfl, rfl, rfl⟩, H1⟩
          have c2 := (InR.err 0 H1 rfl).1
          have hb := InR.len 0 H1 rfl
          have hq1 : 0 ≤ (st1.rest.length : Int) / each := Int.ediv_nonneg hd0 (by omega)
          have hq2 : (st1.rest.length : Int) / each ≤ 9223372036854775807 := Int.le_trans (Int.ediv_le_self each hd0) (by omega)
          have HS1 := Lib.hid H1
          clear H1
          go_wp2_with fail
          refine (HS1.out.call 0 rfl (Left_spec b st1)).mono ?_
          rintro e w2 ⟨v, A', N, rfl, ⟨rfl, rfl, rfl⟩, H2⟩
          have HS2 := Lib.hid H2
          clear H2
          go_wp2_with fail
          go_ret
          exact ⟨_, _, _, rfl, ⟨by rw [HQ.out]; rfl, rfl, rfl⟩, by rw [HQ.out]; exact HS2.out⟩
      · have HQ := Lib.hid (show q = (n, st1) by rw [HC3.out]; simp [HH.out, hn, he])
        go_enter Try.func66, Try.ntmps66
        go_wp2_with fail
        refine (HS.out.call 0 rfl HN.out).mono ?_
        rintro e w1 ⟨v, A', N, rfl, ⟨rfl, rfl, rfl⟩, H1⟩
        have c2 := (InR.err 0 H1 rfl).1
        have HS1 := Lib.hid H1
        clear H1
        go_wp2_with fail
        go_ret
        exact ⟨_, _, _, rfl, ⟨by rw [HQ.out]; rfl, rfl, rfl⟩, by rw [HQ.out]; exact HS1.out⟩
  · have H0 : (st1.err != 0) = true := bne_iff_ne.2 h0
    have HQ := Lib.hid (show q = (0, st1) by rw [HC3.out]; simp [h0])
    clear h0
    go_enter Try.func66, Try.ntmps66
    go_wp2_with fail
    refine (HS.out.call 0 rfl HN.out).mono ?_
    rintro e w1 ⟨v, A', N, rfl, ⟨rfl, rfl, rfl⟩, H1⟩
    have c2 := (InR.err 0 H1 rfl).1
    have HS1 := Lib.hid H1
    clear H1
    go_wp2_with fail
    go_ret
    exact ⟨_, _, _, rfl, ⟨by rw [HQ.out]; rfl, rfl, rfl⟩, by rw [HQ.out]; exact HS1.out⟩
end Go.Proofs.Ytlhgogjcaegehaa.Sl
namespace Go.Proofs.Ytlhgogjcaegehaa.Sl
open Go.RowKit
set_option linter.unusedVariables false
set_option linter.unusedSimpArgs false
theorem bsOf_of (s : ByteArray) : ∃ l, s = bsOf l := ⟨s.data.toList, (bsOf_data s).symm⟩
theorem take_nonempty {l : List UInt8} {j : Nat} (h : j < l.length) (h0 : 0 < j) : l.take j ≠ [] := by
  intro he
  have := congrArg List.length he
  rw [List.length_take, List.length_nil] at this
  omega
theorem be_length (n : Int) (k : Nat) : (be n k).length = k := by simp [be]
theorem q_next (n : Int) (a : Nat) : n / 2 ^ (8 * a) / 256 = n / (2 ^ (8 * (a + 1)) : Int) := by
  have hp : (0 : Int) < 2 ^ (8 * a) := Int.pow_pos (by decide)
  rw [show 8 * (a + 1) = 8 * a + 8 by omega, Int.pow_add, ← Int.ediv_ediv_of_nonneg (Int.le_of_lt hp)]
  rfl
theorem be_take (n : Int) (k j : Nat) (h : j < k) : (be n k).take (j + 1) = (be n k).take j ++ [UInt8.ofNat ((n / (2 ^ (8 * (k - 1 - j)) : Int)) % 256).toNat] := by
  rw [List.take_succ_eq_append_getElem (by simpa [be] using h)]
  simp [be]
theorem fits_iff (n : Int) (k : Nat) (h1 : 1 ≤ k) (h8 : k ≤ 8) : fits n k = true ↔ -(2 ^ (8 * k - 1) : Int) ≤ n ∧ n < (2 ^ (8 * k - 1) : Int) := by
  simp [fits]
  generalize (2 ^ (8 * k - 1) : Int) = z
  omega
theorem byte_val (q : Int) : ((UInt8.ofNat (q % 256).toNat).toNat : Int) = q % 256 := by
  simp [UInt8.toNat_ofNat']
  omega
theorem be_prefix (n : Int) (k : Nat) (h8 : k ≤ 8) (hf : fits n k = true) : ∀ j : Nat, j + 1 ≤ k → beInt ((be n k).take (j + 1)) = n / 2 ^ (8 * (k - 1 - j)) := by
  intro j
  induction j with
  | zero =>
    intro h
    have hb := (fits_iff n k (by omega) h8).1 hf
    rw [be_take n k 0 (by omega)]
    have e1 : (2 ^ (8 * k - 1) : Int) = 128 * 2 ^ (8 * (k - 1 - 0)) := by
      rw [show 8 * k - 1 = 7 + 8 * (k - 1 - 0) by omega, Int.pow_add]
      rfl
    rw [e1] at hb
    have hp : (0 : Int) < 2 ^ (8 * (k - 1 - 0)) := Int.pow_pos (by decide)
    have hl : -128 ≤ n / 2 ^ (8 * (k - 1 - 0)) := by
      rw [Int.le_ediv_iff_mul_le hp]; omega
    have hu : n / 2 ^ (8 * (k - 1 - 0)) < 128 := by
      rw [Int.ediv_lt_iff_lt_mul hp]; omega
    generalize n / 2 ^ (8 * (k - 1 - 0)) = q at *
    have hv := byte_val q
    generalize (UInt8.ofNat (q % 256).toNat) = c at *
    simp [beInt, sgn]
    split <;> omega
  | succ j ih =>
    intro h
    have h2 := ih (by omega)
    rw [be_take n k (j + 1) (by omega), beInt_snoc _ _ (take_nonempty (by simp [be]; omega) (by omega)), h2, byte_val]
    have h3 := q_next n (k - 1 - (j + 1))
    rw [show k - 1 - (j + 1) + 1 = k - 1 - j by omega] at h3
    omega
theorem beInt_be (n : Int) (k : Nat) (h1 : 1 ≤ k) (h8 : k ≤ 8) (hf : fits n k = true) : beInt (be n k) = n := by
  have h := be_prefix n k h8 hf (k - 1) (by omega)
  rw [show k - 1 + 1 = k by omega, List.take_of_length_le (by simp [be])] at h
  rw [h, show k - 1 - (k - 1) = 0 by omega]
  simp
theorem be_fits (n : Int) (k : Nat) (h1 : 1 ≤ k) (h8 : k ≤ 8) : (beInt (be n k) = n) ↔ fits n k = true := by
  constructor
  · intro h
    rw [fits_iff n k h1 h8, ← h]
    have := beInt_range (be n k) (by intro he; have := congrArg List.length he; simp [be] at this; omega)
    rw [be_length] at this
    rw [h] at this ⊢
    exact this
  · exact beInt_be n k h1 h8
end Go.Proofs.Ytlhgogjcaegehaa.Sl
namespace Go.Proofs.Ytlhgogjcaegehaa.Sl
open Go.RowKit
set_option linter.unusedVariables false
set_option linter.unusedSimpArgs false
theorem fits_4 (n : Int) : fits n 4 = decide (-2147483648 ≤ n ∧ n ≤ 2147483647) := by
  have h1 : (2 ^ (8 * (4 : Int).toNat - 1) : Int) = 2147483648 := by decide
  unfold fits
  rw [h1, Bool.eq_iff_iff]
  simp
end Go.Proofs.Ytlhgogjcaegehaa.Sl
namespace Go.Proofs.Ytlhgogjcaegehaa.Sl
open Go.RowKit
set_option linter.unusedVariables false
set_option linter.unusedSimpArgs false
attribute [local go_sem] bsOf_toList bsOf_size
structure Bl where
  null : Bool
  data : List UInt8
@[go_sem] def blV (b : Bl) : Value := .agg #[.bool b.null, .string (bsOf b.data)]
theorem infoBl : (Try.prog.info? 28).map (·.size) = some 2 := by kernel_rfl
set_option maxRecDepth 100000 in
theorem BOf_spec (l : List UInt8) : Spec0 Try.prog 27 #[.string (bsOf l)] (fun v N => v = blV ⟨false, l⟩ ∧ N = []) := by
  intro w
  have HS := Lib.hid (St.nil_ w)
  go_enter Try.func27, Try.ntmps27
  go_wp2_with fail
  refine bodyPost_ret (v := blV ⟨false, l⟩) (results_cell_row (by rfl) _ _ w.heap.size 28 #[.bool false, .string (bsOf l)] (0, 0) _ rfl (heap_alloc_new w _) Try.underlying28 rfl infoBl) rfl ?_
  exact ⟨_, _, rfl, ⟨rfl, rfl⟩, (HS.out.alloc _ _).drop_⟩
set_option maxRecDepth 100000 in
theorem BNone_spec : Spec0 Try.prog 28 #[] (fun v N => v = blV ⟨true, []⟩ ∧ N = []) := by
  intro w
  have HS := Lib.hid (St.nil_ w)
  go_enter Try.func28, Try.ntmps28
  go_wp2_with fail
  refine bodyPost_ret (v := blV ⟨true, []⟩) (results_cell_row (by rfl) _ _ w.heap.size 28 #[.bool true, .string (bsOf [])] (0, 0) _ rfl (heap_alloc_new w _) Try.underlying28 rfl infoBl) rfl ?_
  exact ⟨_, _, rfl, ⟨rfl, rfl⟩, (HS.out.alloc _ _).drop_⟩
def bright (b : Bl) : Bool := !b.null || b.data.isEmpty
set_option maxRecDepth 100000 in
theorem BRight_spec (b : Bl) : Spec0 Try.prog 36 #[blV b] (fun v N => v = .bool (bright b) ∧ N = []) := by
  intro w
  have HS := Lib.hid (St.nil_ w)
  obtain ⟨n, l⟩ := b
  have HB := Lib.hid (show (l == []) = l.isEmpty by cases l <;> rfl)
  cases n
  · go_enter Try.func36, Try.ntmps36
    go_wp2_with fail
    go_ret
    exact ⟨_, _, rfl, ⟨rfl, rfl⟩, (HS.out.alloc _ _).drop_⟩
  · go_enter Try.func36, Try.ntmps36
    go_wp2_with fail
    go_ret
    exact ⟨_, _, rfl, ⟨congrArg Value.bool (by simp [bright]), rfl⟩, (HS.out.alloc _ _).drop_⟩
def blen (b : Bl) : Int := if b.null then -1 else b.data.length
set_option maxRecDepth 100000 in
theorem BLen_spec (b : Bl) : Spec0 Try.prog 71 #[blV b] (fun v N => v = .int .i64 (blen b) ∧ N = []) := by
  intro w
  have HS := Lib.hid (St.nil_ w)
  obtain ⟨n, l⟩ := b
  cases n
  all_goals
    go_enter Try.func71, Try.ntmps71
    go_wp2_with fail
    go_ret
    exact ⟨_, _, rfl, ⟨rfl, rfl⟩, (HS.out.alloc _ _).drop_⟩
def bread (st : I) (n : Int) : Bl × I := if st.err ≠ 0 then (⟨false, []⟩, st) else if n = -1 then (⟨true, []⟩, st) else (⟨false, (itake st n).1⟩, (itake st n).2)
set_option maxRecDepth 100000 in
theorem BRead_spec (g : Nat) (st : I) (n : Int) (h0 : -9223372036854775808 ≤ n) (h1 : n ≤ 9223372036854775807) :
    Spec Try.prog 77 #[.pointer (some ⟨g, 0, none⟩), .int .i64 n] (InR g st) (fun v A' N => v = blV (bread st n).1 ∧ A' = InR g (bread st n).2 ∧ N = []) := by
  intro F w hA
  have HA := Lib.hid (St.start F w (Sep.one hA))
  clear hA
  have HB := Lib.hid (HA.out.alloc #[.bool false, .string ⟨#[]⟩] 28)
  by_cases he : st.err = 0
  · by_cases hn : n = -1
    · subst hn
      have HQ := Lib.hid (show bread st (-1) = (⟨true, []⟩, st) by simp [bread, he])
      have hb : (st.err != 0) = false := by simp [he]
      clear he
      go_enter Try.func77, Try.ntmps77
      go_wp2_with fail
      refine (St.call 1 (HB).out rfl (IErr_spec g _)).mono ?_
      rintro e w1 ⟨v, A', N, rfl, ⟨rfl, rfl, rfl⟩, H1⟩
      try simp only [List.cons_append, List.nil_append, List.set_cons_zero, List.set_cons_succ, bsOf_list] at H1
      have HC := Lib.hid H1
      clear H1
      go_wp2_with fail
      refine (St.call0 HC.out BNone_spec).mono ?_
      rintro e w2 ⟨v, N, rfl, ⟨rfl, rfl⟩, H2⟩
      have d0 : w2.cell? ⟨w.heap.size, 0, none⟩ = some (.bool false) := heap_at (St.blk 0 H2 rfl) 0
      have d1 : w2.cell? ⟨w.heap.size, 1, none⟩ = some (.string ⟨#[]⟩) := heap_at (St.blk 0 H2 rfl) 1
      have f0 : w2.frozen? ⟨w.heap.size, 0, none⟩ = false := heap_free (St.blk 0 H2 rfl) 0
      have f1 : w2.frozen? ⟨w.heap.size, 1, none⟩ = false := heap_free (St.blk 0 H2 rfl) 1
      have HD := Lib.hid H2
      clear H2
      go_wp2_with fail
      have HE := ((HD.out.set 0 rfl 0 (.bool true)).set 0 rfl 1 (.string (bsOf [])))
      refine bodyPost_ret (v := blV ⟨true, []⟩) (results_cell_row (by rfl) _ _ w.heap.size 28 #[.bool true, .string (bsOf [])] (0, 0) _ rfl (St.blk 0 HE rfl) Try.underlying28 rfl infoBl) rfl ?_
      exact ⟨_, _, _, rfl, ⟨by rw [HQ.out], by rw [HQ.out], rfl⟩, HE.drop_⟩
    · have HQ := Lib.hid (show bread st n = (⟨false, (itake st n).1⟩, (itake st n).2) by simp [bread, he, hn])
      have hb : (st.err != 0) = false := by simp [he]
      have hnb : (n == -1) = false := beq_eq_false_iff_ne.2 hn
      clear he hn
      go_enter Try.func77, Try.ntmps77
      go_wp2_with fail
      refine (St.call 1 (HB).out rfl (IErr_spec g _)).mono ?_
      rintro e w1 ⟨v, A', N, rfl, ⟨rfl, rfl, rfl⟩, H1⟩
      try simp only [List.cons_append, List.nil_append, List.set_cons_zero, List.set_cons_succ, bsOf_list] at H1
      have HC := Lib.hid H1
      clear H1
      go_wp2_with fail
      refine (St.call 1 (HC).out rfl (Take_spec g st n h0 h1)).mono ?_
      rintro e w1 ⟨v, A', N, rfl, ⟨rfl, rfl, rfl⟩, H1⟩
      try simp only [List.cons_append, List.nil_append, List.set_cons_zero, List.set_cons_succ, bsOf_list] at H1
      have HC2 := Lib.hid H1
      clear H1
      go_wp2_with fail
      refine (St.call0 HC2.out (BOf_spec (itake st n).1)).mono ?_
      rintro e w2 ⟨v, N, rfl, ⟨rfl, rfl⟩, H2⟩
      have d0 : w2.cell? ⟨w.heap.size, 0, none⟩ = some (.bool false) := heap_at (St.blk 0 H2 rfl) 0
      have d1 : w2.cell? ⟨w.heap.size, 1, none⟩ = some (.string ⟨#[]⟩) := heap_at (St.blk 0 H2 rfl) 1
      have f0 : w2.frozen? ⟨w.heap.size, 0, none⟩ = false := heap_free (St.blk 0 H2 rfl) 0
      have f1 : w2.frozen? ⟨w.heap.size, 1, none⟩ = false := heap_free (St.blk 0 H2 rfl) 1
      have HD := Lib.hid H2
      clear H2
      go_wp2_with fail
      have HE := ((HD.out.set 0 rfl 0 (.bool false)).set 0 rfl 1 (.string (bsOf (itake st n).1)))
      refine bodyPost_ret (v := blV ⟨false, (itake st n).1⟩) (results_cell_row (by rfl) _ _ w.heap.size 28 #[.bool false, .string (bsOf (itake st n).1)] (0, 0) _ rfl (St.blk 0 HE rfl) Try.underlying28 rfl infoBl) rfl ?_
      exact ⟨_, _, _, rfl, ⟨by rw [HQ.out], by rw [HQ.out], rfl⟩, HE.drop_⟩
  · have HQ := Lib.hid (show bread st n = (⟨false, []⟩, st) by simp [bread, he])
    have hb : (st.err != 0) = true := bne_iff_ne.2 he
    clear he
    go_enter Try.func77, Try.ntmps77
    go_wp2_with fail
    refine (St.call 1 HB.out rfl (IErr_spec g _)).mono ?_
    rintro e w2 ⟨v, A', N, rfl, ⟨rfl, rfl, rfl⟩, H2⟩
    have d0 : w2.cell? ⟨w.heap.size, 0, none⟩ = some (.bool false) := heap_at (St.blk 0 H2 rfl) 0
    have d1 : w2.cell? ⟨w.heap.size, 1, none⟩ = some (.string ⟨#[]⟩) := heap_at (St.blk 0 H2 rfl) 1
    have f0 : w2.frozen? ⟨w.heap.size, 0, none⟩ = false := heap_free (St.blk 0 H2 rfl) 0
    have f1 : w2.frozen? ⟨w.heap.size, 1, none⟩ = false := heap_free (St.blk 0 H2 rfl) 1
    have HD := Lib.hid H2
    clear H2
    go_wp2_with fail
    have HE := ((HD.out.set 0 rfl 0 (.bool false)).set 0 rfl 1 (.string (bsOf [])))
    refine bodyPost_ret (v := blV ⟨false, []⟩) (results_cell_row (by rfl) _ _ w.heap.size 28 #[.bool false, .string (bsOf [])] (0, 0) _ rfl (St.blk 0 HE rfl) Try.underlying28 rfl infoBl) rfl ?_
    exact ⟨_, _, _, rfl, ⟨by rw [HQ.out], by rw [HQ.out], rfl⟩, HE.drop_⟩
theorem iint_range (st : I) (size : Int) : -9223372036854775808 ≤ (iint st size).1 ∧ (iint st size).1 ≤ 9223372036854775807 := by
  unfold iint
  split
  · rename_i hs
    have hl := itake_len st size
    simp only
    generalize (itake st size).1 = l at *
    by_cases hn : l = []
    · subst hn; simp [beInt]
    · have hr := beInt_range l hn
      have hp : (2 ^ (8 * l.length - 1) : Int) ≤ 9223372036854775808 := by
        have h1 : (2 ^ (8 * l.length - 1) : Nat) ≤ 2 ^ 63 := Nat.pow_le_pow_right (by decide) (by omega)
        have h2 : ((2 ^ (8 * l.length - 1) : Nat) : Int) ≤ ((2 ^ 63 : Nat) : Int) := Int.ofNat_le.2 h1
        rw [Int.natCast_pow, Int.natCast_pow] at h2
        exact h2
      generalize (2 ^ (8 * l.length - 1) : Int) = z at *
      omega
  · simp
theorem blen_range (b : Bl) (h : b.data.length ≤ 9223372036854775807) : -9223372036854775808 ≤ blen b ∧ blen b ≤ 9223372036854775807 := by unfold blen; split <;> omega
def bwrite (st : List UInt8 × Int) (b : Bl) : List UInt8 × Int := if bright b then oput st b.data else ofail st 4
def bputFixed (st : List UInt8 × Int) (b : Bl) (size : Int) : List UInt8 × Int := bwrite (oint st (blen b) size) b
def bfixed (st : I) (size : Int) : Bl × I := bread (iint st size).2 (iint st size).1
def bmust (r : Bl × I) : List UInt8 × I := (r.1.data, if r.1.null then ifail r.2 4 else r.2)
set_option maxRecDepth 100000 in
theorem BWrite_spec (g : Nat) (st : List UInt8 × Int) (b : Bl) (hl : st.1.length + b.data.length ≤ 140737488355328) :
    Spec Try.prog 72 #[.pointer (some ⟨g, 0, none⟩), blV b] (OutR g st) (fun v A' N => v = .tuple #[] ∧ A' = OutR g (bwrite st b) ∧ N = []) := by
  intro F w hA
  have HA := Lib.hid (St.start F w (Sep.one hA))
  clear hA
  have HB := Lib.hid (HA.out.alloc #[.bool b.null, .string (bsOf b.data)] 28)
  by_cases hr : bright b = true
  · have HQ := Lib.hid (show bwrite st b = oput st b.data by simp [bwrite, hr])
    have HR := Lib.hid hr
    clear hr
    go_enter Try.func72, Try.ntmps72
    go_wp2_with fail
    refine (St.call0 HB.out (BRight_spec b)).mono ?_
    rintro e w2 ⟨v, N, rfl, ⟨rfl, rfl⟩, H2⟩
    rw [HR.out]
    have d0 : w2.cell? ⟨w.heap.size, 0, none⟩ = some (.bool b.null) := heap_at (St.blk 0 H2 rfl) 0
    have d1 : w2.cell? ⟨w.heap.size, 1, none⟩ = some (.string (bsOf b.data)) := heap_at (St.blk 0 H2 rfl) 1
    have HD := Lib.hid H2
    clear H2
    go_wp2_with fail
    refine (St.call 1 HD.out rfl (Put_spec g st (bsOf b.data) (by rw [bsOf_size]; exact hl))).mono ?_
    rintro e w3 ⟨v, A', N, rfl, ⟨rfl, rfl, rfl⟩, H3⟩
    rw [bsOf_list] at H3
    have HE := Lib.hid H3
    clear H3
    go_wp2_with fail
    go_end0
    exact ⟨_, _, _, rfl, ⟨rfl, by rw [HQ.out], rfl⟩, HE.out.drop_⟩
  · have HQ := Lib.hid (show bwrite st b = ofail st 4 by simp [bwrite, hr])
    have HR := Lib.hid (show bright b = false by simpa using hr)
    clear hr
    go_enter Try.func72, Try.ntmps72
    go_wp2_with fail
    refine (St.call0 HB.out (BRight_spec b)).mono ?_
    rintro e w2 ⟨v, N, rfl, ⟨rfl, rfl⟩, H2⟩
    rw [HR.out]
    have HD := Lib.hid H2
    clear H2
    go_wp2_with fail
    refine (St.call 1 (HD).out rfl (Fail_spec g st 4)).mono ?_
    rintro e w1 ⟨v, A', N, rfl, ⟨rfl, rfl, rfl⟩, H1⟩
    try simp only [List.cons_append, List.nil_append, List.set_cons_zero, List.set_cons_succ, bsOf_list] at H1
    have HE := Lib.hid H1
    clear H1
    go_wp2_with fail
    go_end0
    exact ⟨_, _, _, rfl, ⟨rfl, by rw [HQ.out], rfl⟩, HE.out.drop_⟩
theorem oint_len (st : List UInt8 × Int) (n size : Int) : (oint st n size).1.length ≤ st.1.length + 8 := by
  unfold oint
  split
  · rename_i h
    have h1 := oput_len st (be n size.toNat)
    rw [be_length] at h1
    simp [fits] at h
    omega
  · unfold ofail; split <;> simp
set_option maxRecDepth 100000 in
theorem BPutFixed_spec (g : Nat) (st : List UInt8 × Int) (b : Bl) (size : Int) (h0 : -9223372036854775808 ≤ size) (h1 : size ≤ 9223372036854775807) (hl : st.1.length + 8 + b.data.length ≤ 140737488355328) :
    Spec Try.prog 54 #[.pointer (some ⟨g, 0, none⟩), blV b, .int .i64 size] (OutR g st) (fun v A' N => v = .tuple #[] ∧ A' = OutR g (bputFixed st b size) ∧ N = []) := by
  intro F w hA
  have HA := Lib.hid (St.start F w (Sep.one hA))
  clear hA
  have HB := Lib.hid (HA.out.alloc #[.bool b.null, .string (bsOf b.data)] 28)
  have hbl := blen_range b (by omega)
  have hb1 := hbl.1
  have hb2 := hbl.2
  clear hbl
  go_enter Try.func54, Try.ntmps54
  go_wp2_with fail
  refine (St.call0 HB.out (BLen_spec b)).mono ?_
  rintro e w2 ⟨v, N, rfl, ⟨rfl, rfl⟩, H2⟩
  have HC := Lib.hid H2
  clear H2
  go_wp2_with fail
  refine (St.call 1 HC.out rfl (OutInt_spec g st (blen b) size hb1 hb2 (by omega))).mono ?_
  rintro e w3 ⟨v, A', N, rfl, ⟨rfl, rfl, rfl⟩, H3⟩
  have d0 : w3.cell? ⟨w.heap.size, 0, none⟩ = some (.bool b.null) := heap_at (St.blk 0 H3 rfl) 0
  have d1 : w3.cell? ⟨w.heap.size, 1, none⟩ = some (.string (bsOf b.data)) := heap_at (St.blk 0 H3 rfl) 1
  have HD := Lib.hid H3
  clear H3
  go_wp2_with fail
  refine (St.call 1 HD.out rfl (BWrite_spec g _ b (by have := oint_len st (blen b) size; omega))).mono ?_
  rintro e w4 ⟨v, A', N, rfl, ⟨rfl, rfl, rfl⟩, H4⟩
  have HE := Lib.hid H4
  clear H4
  go_wp2_with fail
  go_end0
  exact ⟨_, _, _, rfl, ⟨rfl, rfl, rfl⟩, HE.out.drop_⟩
def bputText (st : List UInt8 × Int) (l : List UInt8) : List UInt8 × Int := bputFixed st ⟨false, l⟩ 2
set_option maxRecDepth 100000 in
theorem BPutText_spec (g : Nat) (st : List UInt8 × Int) (l : List UInt8) (hl : st.1.length + 8 + l.length ≤ 140737488355328) :
    Spec Try.prog 31 #[.pointer (some ⟨g, 0, none⟩), .string (bsOf l)] (OutR g st) (fun v A' N => v = .tuple #[] ∧ A' = OutR g (bputText st l) ∧ N = []) := by
  intro F w hA
  have HA := Lib.hid (St.start F w (Sep.one hA))
  clear hA
  go_enter Try.func31, Try.ntmps31
  go_wp2_with fail
  refine (St.call0 (HA).out (BOf_spec l)).mono ?_
  rintro e w1 ⟨v, N, rfl, ⟨rfl, rfl⟩, H1⟩
  try simp only [List.cons_append, List.nil_append, List.set_cons_zero, List.set_cons_succ, bsOf_list] at H1
  have HB := Lib.hid H1
  clear H1
  go_wp2_with fail
  refine (St.call 0 (HB).out rfl (BPutFixed_spec g st ⟨false, l⟩ 2 (by omega) (by omega) hl)).mono ?_
  rintro e w1 ⟨v, A', N, rfl, ⟨rfl, rfl, rfl⟩, H1⟩
  try simp only [List.cons_append, List.nil_append, List.set_cons_zero, List.set_cons_succ, bsOf_list] at H1
  have HC := Lib.hid H1
  clear H1
  go_wp2_with fail
  go_end0
  exact ⟨_, _, _, rfl, ⟨rfl, rfl, rfl⟩, HC.out⟩
set_option maxRecDepth 100000 in
theorem BFixed_spec (g : Nat) (st : I) (size : Int) :
    Spec Try.prog 64 #[.pointer (some ⟨g, 0, none⟩), .int .i64 size] (InR g st) (fun v A' N => v = blV (bfixed st size).1 ∧ A' = InR g (bfixed st size).2 ∧ N = []) := by
  intro F w hA
  have HA := Lib.hid (St.start F w (Sep.one hA))
  clear hA
  have HB := Lib.hid (HA.out.alloc #[.bool false, .string ⟨#[]⟩] 28)
  go_enter Try.func64, Try.ntmps64
  go_wp2_with fail
  refine (St.call 1 (HB).out rfl (IInt_spec g st size)).mono ?_
  rintro e w1 ⟨v, A', N, rfl, ⟨rfl, rfl, rfl⟩, H1⟩
  try simp only [List.cons_append, List.nil_append, List.set_cons_zero, List.set_cons_succ, bsOf_list] at H1
  have HC := Lib.hid H1
  clear H1
  go_wp2_with fail
  refine (St.call 1 HC.out rfl (BRead_spec g _ _ (iint_range st size).1 (iint_range st size).2)).mono ?_
  rintro e w2 ⟨v, A', N, rfl, ⟨rfl, rfl, rfl⟩, H2⟩
  have d0 : w2.cell? ⟨w.heap.size, 0, none⟩ = some (.bool false) := heap_at (St.blk 0 H2 rfl) 0
  have d1 : w2.cell? ⟨w.heap.size, 1, none⟩ = some (.string ⟨#[]⟩) := heap_at (St.blk 0 H2 rfl) 1
  have f0 : w2.frozen? ⟨w.heap.size, 0, none⟩ = false := heap_free (St.blk 0 H2 rfl) 0
  have f1 : w2.frozen? ⟨w.heap.size, 1, none⟩ = false := heap_free (St.blk 0 H2 rfl) 1
  have HD := Lib.hid H2
  clear H2
  go_wp2_with fail
  have HE := ((HD.out.set 0 rfl 0 (.bool (bfixed st size).1.null)).set 0 rfl 1 (.string (bsOf (bfixed st size).1.data)))
  refine bodyPost_ret (v := blV (bfixed st size).1) (results_cell_row (by rfl) _ _ w.heap.size 28 #[.bool (bfixed st size).1.null, .string (bsOf (bfixed st size).1.data)] (0, 0) _ rfl (St.blk 0 HE rfl) Try.underlying28 rfl infoBl) rfl ?_
  exact ⟨_, _, _, rfl, ⟨rfl, rfl, rfl⟩, HE.drop_⟩
set_option maxRecDepth 100000 in
theorem BMust_spec (g : Nat) (r : Bl × I) :
    Spec Try.prog 63 #[.pointer (some ⟨g, 0, none⟩), blV r.1] (InR g r.2) (fun v A' N => v = .string (bsOf (bmust r).1) ∧ A' = InR g (bmust r).2 ∧ N = []) := by
  intro F w hA
  obtain ⟨b, st⟩ := r
  obtain ⟨n, l⟩ := b
  have HA := Lib.hid (St.start F w (Sep.one hA))
  clear hA
  have HB := Lib.hid (HA.out.alloc #[.bool n, .string (bsOf l)] 28)
  cases n
  · go_enter Try.func63, Try.ntmps63
    go_wp2_with fail
    go_ret
    exact ⟨_, _, _, rfl, ⟨rfl, rfl, rfl⟩, HB.out.drop_⟩
  · go_enter Try.func63, Try.ntmps63
    go_wp2_with fail
    refine (St.call 1 HB.out rfl (IFail_spec g st 4)).mono ?_
    rintro e w2 ⟨v, A', N, rfl, ⟨rfl, rfl, rfl⟩, H2⟩
    have d1 : w2.cell? ⟨w.heap.size, 1, none⟩ = some (.string (bsOf l)) := heap_at (St.blk 0 H2 rfl) 1
    have HD := Lib.hid H2
    clear H2
    go_wp2_with fail
    go_ret
    exact ⟨_, _, _, rfl, ⟨rfl, rfl, rfl⟩, HD.out.drop_⟩
def btext (st : I) : List UInt8 × I := bmust (bfixed st 2)
set_option maxRecDepth 100000 in
theorem BText_spec (g : Nat) (st : I) :
    Spec Try.prog 44 #[.pointer (some ⟨g, 0, none⟩)] (InR g st) (fun v A' N => v = .string (bsOf (btext st).1) ∧ A' = InR g (btext st).2 ∧ N = []) := by
  intro F w hA
  have HA := Lib.hid (St.start F w (Sep.one hA))
  clear hA
  go_enter Try.func44, Try.ntmps44
  go_wp2_with fail
  refine (St.call 0 (HA).out rfl (BFixed_spec g st 2)).mono ?_
  rintro e w1 ⟨v, A', N, rfl, ⟨rfl, rfl, rfl⟩, H1⟩
  try simp only [List.cons_append, List.nil_append, List.set_cons_zero, List.set_cons_succ, bsOf_list] at H1
  have HB := Lib.hid H1
  clear H1
  go_wp2_with fail
  refine (St.call 0 (HB).out rfl (BMust_spec g (bfixed st 2))).mono ?_
  rintro e w1 ⟨v, A', N, rfl, ⟨rfl, rfl, rfl⟩, H1⟩
  try simp only [List.cons_append, List.nil_append, List.set_cons_zero, List.set_cons_succ, bsOf_list] at H1
  have HC := Lib.hid H1
  clear H1
  go_wp2_with fail
  go_ret
  exact ⟨_, _, _, rfl, ⟨rfl, rfl, rfl⟩, HC.out⟩
end Go.Proofs.Ytlhgogjcaegehaa.Sl
namespace Go.Proofs.Ytlhgogjcaegehaa.Sl
open Go.RowKit
set_option linter.unusedVariables false
set_option linter.unusedSimpArgs false
attribute [local go_sem] bsOf_toList bsOf_size
@[go_sem] def strErr (x : List UInt8 × Int) : Value := .tuple #[.string (bsOf x.1), .int .i64 x.2]
def otx (st : List UInt8 × Int) : List UInt8 × Int := if st.2 = 0 then (st.1, 0) else ([], st.2)
theorem otext_strErr (st : List UInt8 × Int) : otext st = strErr (otx st) := by unfold otext otx; split <;> rfl
theorem ifail_err {st : I} (h : st.err ≠ 0) (e : Int) : ifail st e = st := by simp [ifail, h]
theorem itake_err {st : I} (h : st.err ≠ 0) (n : Int) : itake st n = ([], st) := by simp [itake, h]
theorem iint_err {st : I} (h : st.err ≠ 0) (n : Int) : iint st n = (0, st) := by
  unfold iint
  split
  · rw [itake_err h]; rfl
  · rw [ifail_err h]
theorem bread_err {st : I} (h : st.err ≠ 0) (n : Int) : bread st n = (⟨false, []⟩, st) := by simp [bread, h]
theorem iclose_err {st : I} (h : st.err ≠ 0) : iclose st = st := by unfold iclose; split; rfl; exact ifail_err h 2
theorem itake_ok (l : List UInt8) (p : Nat) (n : Nat) (h : n ≤ l.length) : itake ⟨l, p, 0⟩ n = (l.take n, ⟨l.drop n, p + n, 0⟩) := by
  unfold itake
  rw [if_neg (by simp), if_neg (by omega), if_neg (by simp only; omega)]
  simp
theorem itake_short (l : List UInt8) (p : Nat) (n : Int) (h : (l.length : Int) < n) : itake ⟨l, p, 0⟩ n = ([], ⟨l, p, 1⟩) := by
  unfold itake
  rw [if_neg (by simp), if_neg (by omega), if_pos (by simp only; omega)]
theorem itake_neg (l : List UInt8) (p : Nat) (n : Int) (h : n < 0) : itake ⟨l, p, 0⟩ n = ([], ⟨l, p, 4⟩) := by
  unfold itake
  rw [if_neg (by simp), if_pos h]
theorem iint_ok (l : List UInt8) (p : Nat) (n : Nat) (h1 : 1 ≤ n) (h8 : n ≤ 8) (h : n ≤ l.length) : iint ⟨l, p, 0⟩ n = (beInt (l.take n), ⟨l.drop n, p + n, 0⟩) := by
  unfold iint
  rw [if_pos (by omega), itake_ok l p n h]
theorem iint_short (l : List UInt8) (p : Nat) (n : Int) (h1 : 1 ≤ n) (h8 : n ≤ 8) (h : (l.length : Int) < n) : iint ⟨l, p, 0⟩ n = (0, ⟨l, p, 1⟩) := by
  unfold iint
  rw [if_pos (by omega), itake_short l p n h]
  rfl
def kright (l : List UInt8) : Bool := !l.isEmpty && decide ((l.length : Int) ≤ 32767)
set_option maxRecDepth 100000 in
theorem KRight_any (l : List UInt8) (w : World) : Calls Try.prog 29 #[.string (bsOf l)] w fun e w' => e = .returned (.bool (kright l)) ∧ w = w' := by
  cases l with
  | nil =>
    go_enter Try.func29, Try.ntmps29
    go_wp2_with fail
    go_ret
    exact ⟨ret_bool (by simp [kright]), rfl⟩
  | cons c l =>
    go_enter Try.func29, Try.ntmps29
    go_wp2_with fail
    go_ret
    exact ⟨ret_bool (by simp [kright]), rfl⟩
def kenc (l : List UInt8) : List UInt8 × Int := if kright l then otx (bputText (oint ([], 0) 0 2) l) else ([], 4)
set_option maxRecDepth 100000 in
theorem KEncode_spec (l : List UInt8) : Spec0 Try.prog 10 #[.string (bsOf l)] (fun v N => v = strErr (kenc l) ∧ N = []) := by
  intro w
  have HS := Lib.hid (St.nil_ w)
  by_cases hr : kright l = true
  · have HR := Lib.hid hr
    have HK := Lib.hid (show otext (bputText (oint ([], 0) 0 2) l) = strErr (kenc l) by rw [otext_strErr]; simp [kenc, hr])
    have hl : l.length ≤ 32767 := by simp [kright] at hr; omega
    clear hr
    go_enter Try.func10, Try.ntmps10
    go_wp2_with fail
    refine ((KRight_any l _)).mono ?_
    rintro e w1 ⟨rfl, rfl⟩
    rw [HR.out]
    go_wp2_with fail
    have H1 := OutR.new ((HS).out)
    try simp only [World.size_alloc] at H1
    have HS1 := Lib.hid H1
    clear H1
    refine (St.call 0 (HS1).out rfl (OutInt_spec _ ([], 0) 0 2 (by omega) (by omega) (by simp))).mono ?_
    rintro e w1 ⟨v, A', N, rfl, ⟨rfl, rfl, rfl⟩, H1⟩
    try simp only [List.cons_append, List.nil_append, List.set_cons_zero, List.set_cons_succ, bsOf_list] at H1
    have HS2 := Lib.hid H1
    clear H1
    go_wp2_with fail
    refine (St.call 0 (HS2).out rfl (BPutText_spec _ (oint ([], 0) 0 2) l (by have := oint_len ([], 0) 0 2; simp at this; omega))).mono ?_
    rintro e w1 ⟨v, A', N, rfl, ⟨rfl, rfl, rfl⟩, H1⟩
    try simp only [List.cons_append, List.nil_append, List.set_cons_zero, List.set_cons_succ, bsOf_list] at H1
    have HS3 := Lib.hid H1
    clear H1
    go_wp2_with fail
    refine (St.call 0 (HS3).out rfl (Text_spec _ _)).mono ?_
    rintro e w1 ⟨v, A', N, rfl, ⟨hv, rfl, rfl⟩, H1⟩
    try simp only [List.cons_append, List.nil_append, List.set_cons_zero, List.set_cons_succ, bsOf_list] at H1
    have hv2 := Eq.trans hv HK.out
    clear hv
    subst hv2
    have HS4 := Lib.hid H1
    clear H1
    go_wp2_with fail
    go_ret2
    exact ⟨_, _, rfl, ⟨rfl, rfl⟩, HS4.out.drop_⟩
  · have HR := Lib.hid (show kright l = false by simpa using hr)
    have HK := Lib.hid (show kenc l = ([], 4) by simp [kenc, hr])
    clear hr
    go_enter Try.func10, Try.ntmps10
    go_wp2_with fail
    refine ((KRight_any l _)).mono ?_
    rintro e w1 ⟨rfl, rfl⟩
    rw [HR.out]
    go_wp2_with fail
    go_ret2
    exact ⟨_, _, rfl, ⟨by rw [HK.out]; rfl, rfl⟩, HS.out⟩
def kdA (l : List UInt8) : I := if (iint ⟨l, 0, 0⟩ 2).1 = 0 then (iint ⟨l, 0, 0⟩ 2).2 else ifail (iint ⟨l, 0, 0⟩ 2).2 7
def kdB (r : List UInt8 × I) : I := iclose (if r.1 = [] then ifail r.2 4 else r.2)
def kdec (l : List UInt8) : List UInt8 × Int := if (kdB (btext (kdA l))).err ≠ 0 then ([], (kdB (btext (kdA l))).err) else ((btext (kdA l)).1, 0)
set_option maxRecDepth 100000 in
theorem KDecode_spec (l : List UInt8) (hl : l.length ≤ 140737488355328) : Spec0 Try.prog 18 #[.string (bsOf l)] (fun v N => v = strErr (kdec l) ∧ N = []) := by
  intro w
  have HS := Lib.hid (St.nil_ w)
  have hA : kdA l = if (iint ⟨l, 0, 0⟩ 2).1 = 0 then (iint ⟨l, 0, 0⟩ 2).2 else ifail (iint ⟨l, 0, 0⟩ 2).2 7 := rfl
  have hk : kdec l = if (kdB (btext (kdA l))).err ≠ 0 then ([], (kdB (btext (kdA l))).err) else ((btext (kdA l)).1, 0) := rfl
  generalize kdA l = sa at *
  generalize ht : btext sa = r at *
  obtain ⟨id, sb⟩ := r
  have hc : kdB (id, sb) = iclose (if id = [] then ifail sb 4 else sb) := rfl
  generalize kdB (id, sb) = sc at *
  have HT := Lib.hid ht
  clear ht
  by_cases hz : (iint ⟨l, 0, 0⟩ 2).1 = 0
  · by_cases he : id = []
    · by_cases hr : sc.err ≠ 0
      · have HZ := Lib.hid hz
        have HA := Lib.hid (show (iint ⟨l, 0, 0⟩ 2).2 = sa by rw [hA, if_pos hz])
        have hzb : ((iint ⟨l, 0, 0⟩ 2).1 != 0) = false := by simp [hz]
        have HC := Lib.hid (show iclose (ifail sb 4) = sc by rw [hc, if_pos he])
        subst he
        have HK := Lib.hid (show kdec l = ([], sc.err) by rw [hk, if_pos hr])
        have hrb : (sc.err != 0) = true := bne_iff_ne.2 hr
        clear hA hk hc hz hr
        go_enter Try.func18, Try.ntmps18
        go_wp2_with fail
        refine (St.call0 (HS).out (New_spec (bsOf l) (by rw [bsOf_size]; omega))).mono ?_
        rintro e w1 ⟨v, N, rfl, ⟨g, rfl, rfl⟩, H1⟩
        try simp only [List.cons_append, List.nil_append, List.set_cons_zero, List.set_cons_succ, bsOf_list] at H1
        have HS1 := Lib.hid H1
        clear H1
        go_wp2_with fail
        refine (St.call 0 (HS1).out rfl (IInt_spec g _ 2)).mono ?_
        rintro e w1 ⟨v, A', N, rfl, ⟨rfl, rfl, rfl⟩, H1⟩
        try simp only [List.cons_append, List.nil_append, List.set_cons_zero, List.set_cons_succ, bsOf_list] at H1
        have HS2 := Lib.hid H1
        clear H1
        go_wp2_with fail
        have HS3 := Lib.hid (HA.out ▸ HS2.out)
        refine (St.call 0 (HS3).out rfl (BText_spec g _)).mono ?_
        rintro e w1 ⟨v, A', N, rfl, ⟨rfl, rfl, rfl⟩, H1⟩
        try simp only [List.cons_append, List.nil_append, List.set_cons_zero, List.set_cons_succ, bsOf_list] at H1
        try rw [HT.out] at H1
        try rw [HT.out]
        have HS4 := Lib.hid H1
        clear H1
        go_wp2_with fail
        refine (St.call 0 (HS4).out rfl (IFail_spec g _ 4)).mono ?_
        rintro e w1 ⟨v, A', N, rfl, ⟨rfl, rfl, rfl⟩, H1⟩
        try simp only [List.cons_append, List.nil_append, List.set_cons_zero, List.set_cons_succ, bsOf_list] at H1
        have HS5 := Lib.hid H1
        clear H1
        go_wp2_with fail
        refine (St.call 0 (HS5).out rfl (Close_spec g _)).mono ?_
        rintro e w1 ⟨v, A', N, rfl, ⟨rfl, rfl, rfl⟩, H1⟩
        try simp only [List.cons_append, List.nil_append, List.set_cons_zero, List.set_cons_succ, bsOf_list] at H1
        try rw [HC.out] at H1
        try rw [HC.out]
        have HS6 := Lib.hid H1
        clear H1
        go_wp2_with fail
        go_ret2
        exact ⟨_, _, rfl, ⟨by rw [HK.out]; rfl, rfl⟩, HS6.out.drop_⟩
      · have HZ := Lib.hid hz
        have HA := Lib.hid (show (iint ⟨l, 0, 0⟩ 2).2 = sa by rw [hA, if_pos hz])
        have hzb : ((iint ⟨l, 0, 0⟩ 2).1 != 0) = false := by simp [hz]
        have HC := Lib.hid (show iclose (ifail sb 4) = sc by rw [hc, if_pos he])
        subst he
        have hr0 : sc.err = 0 := by simpa using hr
        have HK := Lib.hid (show kdec l = ([], 0) by rw [hk, if_neg hr])
        have hrb : (sc.err != 0) = false := by simp [hr0]
        clear hA hk hc hz hr hr0
        go_enter Try.func18, Try.ntmps18
        go_wp2_with fail
        refine (St.call0 (HS).out (New_spec (bsOf l) (by rw [bsOf_size]; omega))).mono ?_
        rintro e w1 ⟨v, N, rfl, ⟨g, rfl, rfl⟩, H1⟩
        try simp only [List.cons_append, List.nil_append, List.set_cons_zero, List.set_cons_succ, bsOf_list] at H1
        have HS1 := Lib.hid H1
        clear H1
        go_wp2_with fail
        refine (St.call 0 (HS1).out rfl (IInt_spec g _ 2)).mono ?_
        rintro e w1 ⟨v, A', N, rfl, ⟨rfl, rfl, rfl⟩, H1⟩
        try simp only [List.cons_append, List.nil_append, List.set_cons_zero, List.set_cons_succ, bsOf_list] at H1
        have HS2 := Lib.hid H1
        clear H1
        go_wp2_with fail
        have HS3 := Lib.hid (HA.out ▸ HS2.out)
        refine (St.call 0 (HS3).out rfl (BText_spec g _)).mono ?_
        rintro e w1 ⟨v, A', N, rfl, ⟨rfl, rfl, rfl⟩, H1⟩
        try simp only [List.cons_append, List.nil_append, List.set_cons_zero, List.set_cons_succ, bsOf_list] at H1
        try rw [HT.out] at H1
        try rw [HT.out]
        have HS4 := Lib.hid H1
        clear H1
        go_wp2_with fail
        refine (St.call 0 (HS4).out rfl (IFail_spec g _ 4)).mono ?_
        rintro e w1 ⟨v, A', N, rfl, ⟨rfl, rfl, rfl⟩, H1⟩
        try simp only [List.cons_append, List.nil_append, List.set_cons_zero, List.set_cons_succ, bsOf_list] at H1
        have HS5 := Lib.hid H1
        clear H1
        go_wp2_with fail
        refine (St.call 0 (HS5).out rfl (Close_spec g _)).mono ?_
        rintro e w1 ⟨v, A', N, rfl, ⟨rfl, rfl, rfl⟩, H1⟩
        try simp only [List.cons_append, List.nil_append, List.set_cons_zero, List.set_cons_succ, bsOf_list] at H1
        try rw [HC.out] at H1
        try rw [HC.out]
        have HS6 := Lib.hid H1
        clear H1
        go_wp2_with fail
        go_ret2
        exact ⟨_, _, rfl, ⟨by rw [HK.out]; rfl, rfl⟩, HS6.out.drop_⟩
    · by_cases hr : sc.err ≠ 0
      · have HZ := Lib.hid hz
        have HA := Lib.hid (show (iint ⟨l, 0, 0⟩ 2).2 = sa by rw [hA, if_pos hz])
        have hzb : ((iint ⟨l, 0, 0⟩ 2).1 != 0) = false := by simp [hz]
        have HC := Lib.hid (show iclose sb = sc by rw [hc, if_neg he])
        have heb : (id == []) = false := by simpa using he
        have HK := Lib.hid (show kdec l = ([], sc.err) by rw [hk, if_pos hr])
        have hrb : (sc.err != 0) = true := bne_iff_ne.2 hr
        clear hA hk hc hz hr he
        go_enter Try.func18, Try.ntmps18
        go_wp2_with fail
        refine (St.call0 (HS).out (New_spec (bsOf l) (by rw [bsOf_size]; omega))).mono ?_
        rintro e w1 ⟨v, N, rfl, ⟨g, rfl, rfl⟩, H1⟩
        try simp only [List.cons_append, List.nil_append, List.set_cons_zero, List.set_cons_succ, bsOf_list] at H1
        have HS1 := Lib.hid H1
        clear H1
        go_wp2_with fail
        refine (St.call 0 (HS1).out rfl (IInt_spec g _ 2)).mono ?_
        rintro e w1 ⟨v, A', N, rfl, ⟨rfl, rfl, rfl⟩, H1⟩
        try simp only [List.cons_append, List.nil_append, List.set_cons_zero, List.set_cons_succ, bsOf_list] at H1
        have HS2 := Lib.hid H1
        clear H1
        go_wp2_with fail
        have HS3 := Lib.hid (HA.out ▸ HS2.out)
        refine (St.call 0 (HS3).out rfl (BText_spec g _)).mono ?_
        rintro e w1 ⟨v, A', N, rfl, ⟨rfl, rfl, rfl⟩, H1⟩
        try simp only [List.cons_append, List.nil_append, List.set_cons_zero, List.set_cons_succ, bsOf_list] at H1
        try rw [HT.out] at H1
        try rw [HT.out]
        have HS4 := Lib.hid H1
        clear H1
        go_wp2_with fail
        refine (St.call 0 (HS4).out rfl (Close_spec g _)).mono ?_
        rintro e w1 ⟨v, A', N, rfl, ⟨rfl, rfl, rfl⟩, H1⟩
        try simp only [List.cons_append, List.nil_append, List.set_cons_zero, List.set_cons_succ, bsOf_list] at H1
        try rw [HC.out] at H1
        try rw [HC.out]
        have HS6 := Lib.hid H1
        clear H1
        go_wp2_with fail
        go_ret2
        exact ⟨_, _, rfl, ⟨by rw [HK.out]; rfl, rfl⟩, HS6.out.drop_⟩
      · have HZ := Lib.hid hz
        have HA := Lib.hid (show (iint ⟨l, 0, 0⟩ 2).2 = sa by rw [hA, if_pos hz])
        have hzb : ((iint ⟨l, 0, 0⟩ 2).1 != 0) = false := by simp [hz]
        have HC := Lib.hid (show iclose sb = sc by rw [hc, if_neg he])
        have heb : (id == []) = false := by simpa using he
        have hr0 : sc.err = 0 := by simpa using hr
        have HK := Lib.hid (show kdec l = (id, 0) by rw [hk, if_neg hr])
        have hrb : (sc.err != 0) = false := by simp [hr0]
        clear hA hk hc hz hr he hr0
        go_enter Try.func18, Try.ntmps18
        go_wp2_with fail
        refine (St.call0 (HS).out (New_spec (bsOf l) (by rw [bsOf_size]; omega))).mono ?_
        rintro e w1 ⟨v, N, rfl, ⟨g, rfl, rfl⟩, H1⟩
        try simp only [List.cons_append, List.nil_append, List.set_cons_zero, List.set_cons_succ, bsOf_list] at H1
        have HS1 := Lib.hid H1
        clear H1
        go_wp2_with fail
        refine (St.call 0 (HS1).out rfl (IInt_spec g _ 2)).mono ?_
        rintro e w1 ⟨v, A', N, rfl, ⟨rfl, rfl, rfl⟩, H1⟩
        try simp only [List.cons_append, List.nil_append, List.set_cons_zero, List.set_cons_succ, bsOf_list] at H1
        have HS2 := Lib.hid H1
        clear H1
        go_wp2_with fail
        have HS3 := Lib.hid (HA.out ▸ HS2.out)
        refine (St.call 0 (HS3).out rfl (BText_spec g _)).mono ?_
        rintro e w1 ⟨v, A', N, rfl, ⟨rfl, rfl, rfl⟩, H1⟩
        try simp only [List.cons_append, List.nil_append, List.set_cons_zero, List.set_cons_succ, bsOf_list] at H1
        try rw [HT.out] at H1
        try rw [HT.out]
        have HS4 := Lib.hid H1
        clear H1
        go_wp2_with fail
        refine (St.call 0 (HS4).out rfl (Close_spec g _)).mono ?_
        rintro e w1 ⟨v, A', N, rfl, ⟨rfl, rfl, rfl⟩, H1⟩
        try simp only [List.cons_append, List.nil_append, List.set_cons_zero, List.set_cons_succ, bsOf_list] at H1
        try rw [HC.out] at H1
        try rw [HC.out]
        have HS6 := Lib.hid H1
        clear H1
        go_wp2_with fail
        go_ret2
        exact ⟨_, _, rfl, ⟨by rw [HK.out]; rfl, rfl⟩, HS6.out.drop_⟩
  · by_cases he : id = []
    · by_cases hr : sc.err ≠ 0
      · have HA := Lib.hid (show ifail (iint ⟨l, 0, 0⟩ 2).2 7 = sa by rw [hA, if_neg hz])
        have hzb : ((iint ⟨l, 0, 0⟩ 2).1 != 0) = true := bne_iff_ne.2 hz
        have HC := Lib.hid (show iclose (ifail sb 4) = sc by rw [hc, if_pos he])
        subst he
        have HK := Lib.hid (show kdec l = ([], sc.err) by rw [hk, if_pos hr])
        have hrb : (sc.err != 0) = true := bne_iff_ne.2 hr
        clear hA hk hc hz hr
        go_enter Try.func18, Try.ntmps18
        go_wp2_with fail
        refine (St.call0 (HS).out (New_spec (bsOf l) (by rw [bsOf_size]; omega))).mono ?_
        rintro e w1 ⟨v, N, rfl, ⟨g, rfl, rfl⟩, H1⟩
        try simp only [List.cons_append, List.nil_append, List.set_cons_zero, List.set_cons_succ, bsOf_list] at H1
        have HS1 := Lib.hid H1
        clear H1
        go_wp2_with fail
        refine (St.call 0 (HS1).out rfl (IInt_spec g _ 2)).mono ?_
        rintro e w1 ⟨v, A', N, rfl, ⟨rfl, rfl, rfl⟩, H1⟩
        try simp only [List.cons_append, List.nil_append, List.set_cons_zero, List.set_cons_succ, bsOf_list] at H1
        have HS2 := Lib.hid H1
        clear H1
        go_wp2_with fail
        refine (St.call 0 (HS2).out rfl (IFail_spec g _ 7)).mono ?_
        rintro e w1 ⟨v, A', N, rfl, ⟨rfl, rfl, rfl⟩, H1⟩
        try simp only [List.cons_append, List.nil_append, List.set_cons_zero, List.set_cons_succ, bsOf_list] at H1
        try rw [HA.out] at H1
        try rw [HA.out]
        have HS3 := Lib.hid H1
        clear H1
        go_wp2_with fail
        refine (St.call 0 (HS3).out rfl (BText_spec g _)).mono ?_
        rintro e w1 ⟨v, A', N, rfl, ⟨rfl, rfl, rfl⟩, H1⟩
        try simp only [List.cons_append, List.nil_append, List.set_cons_zero, List.set_cons_succ, bsOf_list] at H1
        try rw [HT.out] at H1
        try rw [HT.out]
        have HS4 := Lib.hid H1
        clear H1
        go_wp2_with fail
        refine (St.call 0 (HS4).out rfl (IFail_spec g _ 4)).mono ?_
        rintro e w1 ⟨v, A', N, rfl, ⟨rfl, rfl, rfl⟩, H1⟩
        try simp only [List.cons_append, List.nil_append, List.set_cons_zero, List.set_cons_succ, bsOf_list] at H1
        have HS5 := Lib.hid H1
        clear H1
        go_wp2_with fail
        refine (St.call 0 (HS5).out rfl (Close_spec g _)).mono ?_
        rintro e w1 ⟨v, A', N, rfl, ⟨rfl, rfl, rfl⟩, H1⟩
        try simp only [List.cons_append, List.nil_append, List.set_cons_zero, List.set_cons_succ, bsOf_list] at H1
        try rw [HC.out] at H1
        try rw [HC.out]
        have HS6 := Lib.hid H1
        clear H1
        go_wp2_with fail
        go_ret2
        exact ⟨_, _, rfl, ⟨by rw [HK.out]; rfl, rfl⟩, HS6.out.drop_⟩
      · have HA := Lib.hid (show ifail (iint ⟨l, 0, 0⟩ 2).2 7 = sa by rw [hA, if_neg hz])
        have hzb : ((iint ⟨l, 0, 0⟩ 2).1 != 0) = true := bne_iff_ne.2 hz
        have HC := Lib.hid (show iclose (ifail sb 4) = sc by rw [hc, if_pos he])
        subst he
        have hr0 : sc.err = 0 := by simpa using hr
        have HK := Lib.hid (show kdec l = ([], 0) by rw [hk, if_neg hr])
        have hrb : (sc.err != 0) = false := by simp [hr0]
        clear hA hk hc hz hr hr0
        go_enter Try.func18, Try.ntmps18
        go_wp2_with fail
        refine (St.call0 (HS).out (New_spec (bsOf l) (by rw [bsOf_size]; omega))).mono ?_
        rintro e w1 ⟨v, N, rfl, ⟨g, rfl, rfl⟩, H1⟩
        try simp only [List.cons_append, List.nil_append, List.set_cons_zero, List.set_cons_succ, bsOf_list] at H1
        have HS1 := Lib.hid H1
        clear H1
        go_wp2_with fail
        refine (St.call 0 (HS1).out rfl (IInt_spec g _ 2)).mono ?_
        rintro e w1 ⟨v, A', N, rfl, ⟨rfl, rfl, rfl⟩, H1⟩
        try simp only [List.cons_append, List.nil_append, List.set_cons_zero, List.set_cons_succ, bsOf_list] at H1
        have HS2 := Lib.hid H1
        clear H1
        go_wp2_with fail
        refine (St.call 0 (HS2).out rfl (IFail_spec g _ 7)).mono ?_
        rintro e w1 ⟨v, A', N, rfl, ⟨rfl, rfl, rfl⟩, H1⟩
        try simp only [List.cons_append, List.nil_append, List.set_cons_zero, List.set_cons_succ, bsOf_list] at H1
        try rw [HA.out] at H1
        try rw [HA.out]
        have HS3 := Lib.hid H1
        clear H1
        go_wp2_with fail
        refine (St.call 0 (HS3).out rfl (BText_spec g _)).mono ?_
        rintro e w1 ⟨v, A', N, rfl, ⟨rfl, rfl, rfl⟩, H1⟩
        try simp only [List.cons_append, List.nil_append, List.set_cons_zero, List.set_cons_succ, bsOf_list] at H1
        try rw [HT.out] at H1
        try rw [HT.out]
        have HS4 := Lib.hid H1
        clear H1
        go_wp2_with fail
        refine (St.call 0 (HS4).out rfl (IFail_spec g _ 4)).mono ?_
        rintro e w1 ⟨v, A', N, rfl, ⟨rfl, rfl, rfl⟩, H1⟩
        try simp only [List.cons_append, List.nil_append, List.set_cons_zero, List.set_cons_succ, bsOf_list] at H1
        have HS5 := Lib.hid H1
        clear H1
        go_wp2_with fail
        refine (St.call 0 (HS5).out rfl (Close_spec g _)).mono ?_
        rintro e w1 ⟨v, A', N, rfl, ⟨rfl, rfl, rfl⟩, H1⟩
        try simp only [List.cons_append, List.nil_append, List.set_cons_zero, List.set_cons_succ, bsOf_list] at H1
        try rw [HC.out] at H1
        try rw [HC.out]
        have HS6 := Lib.hid H1
        clear H1
        go_wp2_with fail
        go_ret2
        exact ⟨_, _, rfl, ⟨by rw [HK.out]; rfl, rfl⟩, HS6.out.drop_⟩
    · by_cases hr : sc.err ≠ 0
      · have HA := Lib.hid (show ifail (iint ⟨l, 0, 0⟩ 2).2 7 = sa by rw [hA, if_neg hz])
        have hzb : ((iint ⟨l, 0, 0⟩ 2).1 != 0) = true := bne_iff_ne.2 hz
        have HC := Lib.hid (show iclose sb = sc by rw [hc, if_neg he])
        have heb : (id == []) = false := by simpa using he
        have HK := Lib.hid (show kdec l = ([], sc.err) by rw [hk, if_pos hr])
        have hrb : (sc.err != 0) = true := bne_iff_ne.2 hr
        clear hA hk hc hz hr he
        go_enter Try.func18, Try.ntmps18
        go_wp2_with fail
        refine (St.call0 (HS).out (New_spec (bsOf l) (by rw [bsOf_size]; omega))).mono ?_
        rintro e w1 ⟨v, N, rfl, ⟨g, rfl, rfl⟩, H1⟩
        try simp only [List.cons_append, List.nil_append, List.set_cons_zero, List.set_cons_succ, bsOf_list] at H1
        have HS1 := Lib.hid H1
        clear H1
        go_wp2_with fail
        refine (St.call 0 (HS1).out rfl (IInt_spec g _ 2)).mono ?_
        rintro e w1 ⟨v, A', N, rfl, ⟨rfl, rfl, rfl⟩, H1⟩
        try simp only [List.cons_append, List.nil_append, List.set_cons_zero, List.set_cons_succ, bsOf_list] at H1
        have HS2 := Lib.hid H1
        clear H1
        go_wp2_with fail
        refine (St.call 0 (HS2).out rfl (IFail_spec g _ 7)).mono ?_
        rintro e w1 ⟨v, A', N, rfl, ⟨rfl, rfl, rfl⟩, H1⟩
        try simp only [List.cons_append, List.nil_append, List.set_cons_zero, List.set_cons_succ, bsOf_list] at H1
        try rw [HA.out] at H1
        try rw [HA.out]
        have HS3 := Lib.hid H1
        clear H1
        go_wp2_with fail
        refine (St.call 0 (HS3).out rfl (BText_spec g _)).mono ?_
        rintro e w1 ⟨v, A', N, rfl, ⟨rfl, rfl, rfl⟩, H1⟩
        try simp only [List.cons_append, List.nil_append, List.set_cons_zero, List.set_cons_succ, bsOf_list] at H1
        try rw [HT.out] at H1
        try rw [HT.out]
        have HS4 := Lib.hid H1
        clear H1
        go_wp2_with fail
        refine (St.call 0 (HS4).out rfl (Close_spec g _)).mono ?_
        rintro e w1 ⟨v, A', N, rfl, ⟨rfl, rfl, rfl⟩, H1⟩
        try simp only [List.cons_append, List.nil_append, List.set_cons_zero, List.set_cons_succ, bsOf_list] at H1
        try rw [HC.out] at H1
        try rw [HC.out]
        have HS6 := Lib.hid H1
        clear H1
        go_wp2_with fail
        go_ret2
        exact ⟨_, _, rfl, ⟨by rw [HK.out]; rfl, rfl⟩, HS6.out.drop_⟩
      · have HA := Lib.hid (show ifail (iint ⟨l, 0, 0⟩ 2).2 7 = sa by rw [hA, if_neg hz])
        have hzb : ((iint ⟨l, 0, 0⟩ 2).1 != 0) = true := bne_iff_ne.2 hz
        have HC := Lib.hid (show iclose sb = sc by rw [hc, if_neg he])
        have heb : (id == []) = false := by simpa using he
        have hr0 : sc.err = 0 := by simpa using hr
        have HK := Lib.hid (show kdec l = (id, 0) by rw [hk, if_neg hr])
        have hrb : (sc.err != 0) = false := by simp [hr0]
        clear hA hk hc hz hr he hr0
        go_enter Try.func18, Try.ntmps18
        go_wp2_with fail
        refine (St.call0 (HS).out (New_spec (bsOf l) (by rw [bsOf_size]; omega))).mono ?_
        rintro e w1 ⟨v, N, rfl, ⟨g, rfl, rfl⟩, H1⟩
        try simp only [List.cons_append, List.nil_append, List.set_cons_zero, List.set_cons_succ, bsOf_list] at H1
        have HS1 := Lib.hid H1
        clear H1
        go_wp2_with fail
        refine (St.call 0 (HS1).out rfl (IInt_spec g _ 2)).mono ?_
        rintro e w1 ⟨v, A', N, rfl, ⟨rfl, rfl, rfl⟩, H1⟩
        try simp only [List.cons_append, List.nil_append, List.set_cons_zero, List.set_cons_succ, bsOf_list] at H1
        have HS2 := Lib.hid H1
        clear H1
        go_wp2_with fail
        refine (St.call 0 (HS2).out rfl (IFail_spec g _ 7)).mono ?_
        rintro e w1 ⟨v, A', N, rfl, ⟨rfl, rfl, rfl⟩, H1⟩
        try simp only [List.cons_append, List.nil_append, List.set_cons_zero, List.set_cons_succ, bsOf_list] at H1
        try rw [HA.out] at H1
        try rw [HA.out]
        have HS3 := Lib.hid H1
        clear H1
        go_wp2_with fail
        refine (St.call 0 (HS3).out rfl (BText_spec g _)).mono ?_
        rintro e w1 ⟨v, A', N, rfl, ⟨rfl, rfl, rfl⟩, H1⟩
        try simp only [List.cons_append, List.nil_append, List.set_cons_zero, List.set_cons_succ, bsOf_list] at H1
        try rw [HT.out] at H1
        try rw [HT.out]
        have HS4 := Lib.hid H1
        clear H1
        go_wp2_with fail
        refine (St.call 0 (HS4).out rfl (Close_spec g _)).mono ?_
        rintro e w1 ⟨v, A', N, rfl, ⟨rfl, rfl, rfl⟩, H1⟩
        try simp only [List.cons_append, List.nil_append, List.set_cons_zero, List.set_cons_succ, bsOf_list] at H1
        try rw [HC.out] at H1
        try rw [HC.out]
        have HS6 := Lib.hid H1
        clear H1
        go_wp2_with fail
        go_ret2
        exact ⟨_, _, rfl, ⟨by rw [HK.out]; rfl, rfl⟩, HS6.out.drop_⟩
end Go.Proofs.Ytlhgogjcaegehaa.Sl
namespace Go.Proofs.Ytlhgogjcaegehaa.Sl
open Go.RowKit
set_option linter.unusedVariables false
set_option linter.unusedSimpArgs false
theorem bsOf_append (a b : List UInt8) : bsOf a ++ bsOf b = bsOf (a ++ b) := by
  apply ByteArray.ext
  simp [bsOf]
attribute [local go_sem] bsOf_toList bsOf_size bsOf_append
end Go.Proofs.Ytlhgogjcaegehaa.Sl
namespace Go.Proofs.Ytlhgogjcaegehaa.Sl
open Go.RowKit
set_option linter.unusedVariables false
set_option linter.unusedSimpArgs false
theorem OTextT_spec (b : Nat) (st : List UInt8 × Int) : Spec Try.prog 32 #[.pointer (some ⟨b, 0, none⟩)] (OutR b st) (fun v A' N => v = .tuple #[.string (bsOf (otx st).1), .int .i64 (otx st).2] ∧ A' = OutR b st ∧ N = []) := by
  have h := Text_spec b st
  rwa [otext_strErr] at h
def gOText (st : List UInt8 × Int)  : Option (List UInt8 × Int × (List UInt8 × Int)) := some ((otx st).1, (otx st).2, st)
theorem gOText_eq (st : List UInt8 × Int)  : gOText st  = some ((otx st).1, (otx st).2, st) := rfl
theorem gOText_spec (g : Nat) (st : List UInt8 × Int)  (r : List UInt8 × Int × (List UInt8 × Int)) (h : gOText st  = some r) : SpecX Try.prog 32 #[.pointer (some ⟨g, 0, none⟩)] .triv (OutR g st) (fun v A' N => v = .tuple #[.string (bsOf r.1), .int .i64 r.2.1] ∧ A' = OutR g r.2.2 ∧ N = []) := by
  unfold gOText at h
  obtain rfl := Option.some.inj h
  exact SpecX.of_spec (OTextT_spec g st)
def gOInt (st : List UInt8 × Int) (n : Int) (size : Int) : Option (List UInt8 × Int) := if (-9223372036854775808 ≤ n ∧ n ≤ 9223372036854775807) ∧ st.1.length + 8 ≤ 140737488355328 then some (oint st n size) else none
theorem gOInt_eq (st : List UInt8 × Int) (n : Int) (size : Int) (h : (-9223372036854775808 ≤ n ∧ n ≤ 9223372036854775807) ∧ st.1.length + 8 ≤ 140737488355328) : gOInt st n size = some (oint st n size) := if_pos h
theorem gOInt_spec (g : Nat) (st : List UInt8 × Int) (n : Int) (size : Int) (r : List UInt8 × Int) (h : gOInt st n size = some r) : SpecX Try.prog 30 #[.pointer (some ⟨g, 0, none⟩), .int .i64 n, .int .i64 size] .triv (OutR g st) (fun v A' N => v = .tuple #[] ∧ A' = OutR g r ∧ N = []) := by
  unfold gOInt at h
  split at h
  · rename_i h1
    obtain rfl := Option.some.inj h
    exact SpecX.of_spec (OutInt_spec g st n size h1.1.1 h1.1.2 h1.2)
  · simp at h
def gFits  (n : Int) (size : Int) : Option (Bool) := if (-9223372036854775808 ≤ n ∧ n ≤ 9223372036854775807) then some (fits n size) else none
theorem gFits_eq  (n : Int) (size : Int) (h : (-9223372036854775808 ≤ n ∧ n ≤ 9223372036854775807)) : gFits  n size = some (fits n size) := if_pos h
theorem gFits_spec (n : Int) (size : Int) (r : Bool) (h : gFits  n size = some r) (w : World) : Calls Try.prog 51 #[.int .i64 n, .int .i64 size] w fun e w' => e = .returned (.bool r) ∧ w = w' := by
  unfold gFits at h
  split at h
  · rename_i h1
    obtain rfl := Option.some.inj h
    exact Fits_any n size w h1.1 h1.2
  · simp at h
def gNew  (s : List UInt8) : Option (I) := if s.length ≤ 9223372036854775807 then some (⟨s, 0, 0⟩ : I) else none
theorem gNew_eq  (s : List UInt8) (h : s.length ≤ 9223372036854775807) : gNew  s = some (⟨s, 0, 0⟩ : I) := if_pos h
theorem gNew_spec (s : List UInt8) (r : I) (h : gNew  s = some r) : SpecX Try.prog 41 #[.string (bsOf s)] .triv EmpR (fun v A' N => ∃ g, v = .pointer (some ⟨g, 0, none⟩) ∧ A' = EmpR ∧ N = [InR g r]) := by
  unfold gNew at h
  split at h
  · rename_i h1
    obtain rfl := Option.some.inj h
    have k := SpecX.of_spec0 (X := .triv) (New_spec (bsOf s) (by rw [bsOf_size]; omega))
    intro F w hA hX
    refine (k F w hA hX).mono ?_
    rintro e w' ⟨v, A', Ns, rfl, ⟨rfl, b, rfl, rfl⟩, hst⟩
    rw [bsOf_list] at hst
    exact ⟨_, _, _, rfl, ⟨b, rfl, rfl, rfl⟩, hst⟩
  · simp at h
def gIFail (st : I) (e : Int) : Option (I) := some (ifail st e)
theorem gIFail_eq (st : I) (e : Int) : gIFail st e = some (ifail st e) := rfl
theorem gIFail_spec (g : Nat) (st : I) (e : Int) (r : I) (h : gIFail st e = some r) : SpecX Try.prog 43 #[.pointer (some ⟨g, 0, none⟩), .int .i64 e] .triv (InR g st) (fun v A' N => v = .tuple #[] ∧ A' = InR g r ∧ N = []) := by
  unfold gIFail at h
  obtain rfl := Option.some.inj h
  exact SpecX.of_spec (IFail_spec g st e)
def gInt (st : I) (size : Int) : Option (Int × I) := some ((iint st size).1, (iint st size).2)
theorem gInt_eq (st : I) (size : Int) : gInt st size = some ((iint st size).1, (iint st size).2) := rfl
theorem gInt_spec (g : Nat) (st : I) (size : Int) (r : Int × I) (h : gInt st size = some r) : SpecX Try.prog 42 #[.pointer (some ⟨g, 0, none⟩), .int .i64 size] .triv (InR g st) (fun v A' N => v = .int .i64 r.1 ∧ A' = InR g r.2 ∧ N = []) := by
  unfold gInt at h
  obtain rfl := Option.some.inj h
  exact SpecX.of_spec (IInt_spec g st size)
def gErr (st : I)  : Option (Int × I) := some (st.err, st)
theorem gErr_eq (st : I)  : gErr st  = some (st.err, st) := rfl
theorem gErr_spec (g : Nat) (st : I)  (r : Int × I) (h : gErr st  = some r) : SpecX Try.prog 67 #[.pointer (some ⟨g, 0, none⟩)] .triv (InR g st) (fun v A' N => v = .int .i64 r.1 ∧ A' = InR g r.2 ∧ N = []) := by
  unfold gErr at h
  obtain rfl := Option.some.inj h
  exact SpecX.of_spec (IErr_spec g st)
def gClose (st : I)  : Option (Int × I) := some ((iclose st).err, iclose st)
theorem gClose_eq (st : I)  : gClose st  = some ((iclose st).err, iclose st) := rfl
theorem gClose_spec (g : Nat) (st : I)  (r : Int × I) (h : gClose st  = some r) : SpecX Try.prog 45 #[.pointer (some ⟨g, 0, none⟩)] .triv (InR g st) (fun v A' N => v = .int .i64 r.1 ∧ A' = InR g r.2 ∧ N = []) := by
  unfold gClose at h
  obtain rfl := Option.some.inj h
  exact SpecX.of_spec (Close_spec g st)
def gCount (st : I) (size : Int) (each : Int) : Option (Int × I) := if (-9223372036854775808 ≤ size ∧ size ≤ 9223372036854775807) ∧ (-9223372036854775808 ≤ each ∧ each ≤ 9223372036854775807) then some ((icount st size each).1, (icount st size each).2) else none
theorem gCount_eq (st : I) (size : Int) (each : Int) (h : (-9223372036854775808 ≤ size ∧ size ≤ 9223372036854775807) ∧ (-9223372036854775808 ≤ each ∧ each ≤ 9223372036854775807)) : gCount st size each = some ((icount st size each).1, (icount st size each).2) := if_pos h
theorem gCount_spec (g : Nat) (st : I) (size : Int) (each : Int) (r : Int × I) (h : gCount st size each = some r) : SpecX Try.prog 66 #[.pointer (some ⟨g, 0, none⟩), .int .i64 size, .int .i64 each] .triv (InR g st) (fun v A' N => v = .int .i64 r.1 ∧ A' = InR g r.2 ∧ N = []) := by
  unfold gCount at h
  split at h
  · rename_i h1
    obtain rfl := Option.some.inj h
    exact SpecX.of_spec (Count_spec g st size each)
  · simp at h
def gOf  (s : List UInt8) : Option (Bl) := some (⟨false, s⟩ : Bl)
theorem gOf_spec (s : List UInt8) (r : Bl) (h : gOf  s = some r) : SpecX Try.prog 27 #[.string (bsOf s)] .triv EmpR (fun v A' N => v = .agg #[.bool r.null, .string (bsOf r.data)] ∧ A' = EmpR ∧ N = []) := by
  unfold gOf at h
  obtain rfl := Option.some.inj h
  exact SpecX.of_spec0_2 (BOf_spec s)
def gNone   : Option (Bl) := some (⟨true, []⟩ : Bl)
theorem gNone_spec  (r : Bl) (h : gNone   = some r) : SpecX Try.prog 28 #[] .triv EmpR (fun v A' N => v = .agg #[.bool r.null, .string (bsOf r.data)] ∧ A' = EmpR ∧ N = []) := by
  unfold gNone at h
  obtain rfl := Option.some.inj h
  exact SpecX.of_spec0_2 (BNone_spec)
def gRight  (b : Bl) : Option (Bool) := some (bright b)
theorem gRight_eq  (b : Bl) : gRight  b = some (bright b) := rfl
theorem gRight_spec (b : Bl) (r : Bool) (h : gRight  b = some r) : SpecX Try.prog 36 #[.agg #[.bool b.null, .string (bsOf b.data)]] .triv EmpR (fun v A' N => v = .bool r ∧ A' = EmpR ∧ N = []) := by
  unfold gRight at h
  obtain rfl := Option.some.inj h
  exact SpecX.of_spec0_2 (BRight_spec b)
def gPutFixed (st : List UInt8 × Int) (b : Bl) (size : Int) : Option (List UInt8 × Int) := if (-9223372036854775808 ≤ size ∧ size ≤ 9223372036854775807) ∧ st.1.length + 8 + b.data.length ≤ 140737488355328 then some (bputFixed st b size) else none
theorem gPutFixed_eq (st : List UInt8 × Int) (b : Bl) (size : Int) (h : (-9223372036854775808 ≤ size ∧ size ≤ 9223372036854775807) ∧ st.1.length + 8 + b.data.length ≤ 140737488355328) : gPutFixed st b size = some (bputFixed st b size) := if_pos h
def gPutText (st : List UInt8 × Int) (s : List UInt8) : Option (List UInt8 × Int) := if st.1.length + 8 + s.length ≤ 140737488355328 then some (bputText st s) else none
theorem gPutText_eq (st : List UInt8 × Int) (s : List UInt8) (h : st.1.length + 8 + s.length ≤ 140737488355328) : gPutText st s = some (bputText st s) := if_pos h
theorem gPutText_spec (g : Nat) (st : List UInt8 × Int) (s : List UInt8) (r : List UInt8 × Int) (h : gPutText st s = some r) : SpecX Try.prog 31 #[.pointer (some ⟨g, 0, none⟩), .string (bsOf s)] .triv (OutR g st) (fun v A' N => v = .tuple #[] ∧ A' = OutR g r ∧ N = []) := by
  unfold gPutText at h
  split at h
  · rename_i h1
    obtain rfl := Option.some.inj h
    exact SpecX.of_spec (BPutText_spec g st s h1)
  · simp at h
def gFixed (st : I) (size : Int) : Option (Bl × I) := some ((bfixed st size).1, (bfixed st size).2)
def gText (st : I)  : Option (List UInt8 × I) := some ((btext st).1, (btext st).2)
theorem gText_eq (st : I)  : gText st  = some ((btext st).1, (btext st).2) := rfl
theorem gText_spec (g : Nat) (st : I)  (r : List UInt8 × I) (h : gText st  = some r) : SpecX Try.prog 44 #[.pointer (some ⟨g, 0, none⟩)] .triv (InR g st) (fun v A' N => v = .string (bsOf r.1) ∧ A' = InR g r.2 ∧ N = []) := by
  unfold gText at h
  obtain rfl := Option.some.inj h
  exact SpecX.of_spec (BText_spec g st)
def gKEncode  (s : List UInt8) : Option (List UInt8 × Int) := some ((kenc s).1, (kenc s).2)
theorem gKEncode_eq  (s : List UInt8) : gKEncode  s = some ((kenc s).1, (kenc s).2) := rfl
theorem gKEncode_spec (s : List UInt8) (r : List UInt8 × Int) (h : gKEncode  s = some r) : SpecX Try.prog 10 #[.string (bsOf s)] .triv EmpR (fun v A' N => v = .tuple #[.string (bsOf r.1), .int .i64 r.2] ∧ A' = EmpR ∧ N = []) := by
  unfold gKEncode at h
  obtain rfl := Option.some.inj h
  exact SpecX.of_spec0_2 (KEncode_spec s)
def gKDecode  (s : List UInt8) : Option (List UInt8 × Int) := if s.length ≤ 140737488355328 then some ((kdec s).1, (kdec s).2) else none
theorem gKDecode_eq  (s : List UInt8) (h : s.length ≤ 140737488355328) : gKDecode  s = some ((kdec s).1, (kdec s).2) := if_pos h
theorem gKDecode_spec (s : List UInt8) (r : List UInt8 × Int) (h : gKDecode  s = some r) : SpecX Try.prog 18 #[.string (bsOf s)] .triv EmpR (fun v A' N => v = .tuple #[.string (bsOf r.1), .int .i64 r.2] ∧ A' = EmpR ∧ N = []) := by
  unfold gKDecode at h
  split at h
  · rename_i h1
    obtain rfl := Option.some.inj h
    exact SpecX.of_spec0_2 (KDecode_spec s h1)
  · simp at h
end Go.Proofs.Ytlhgogjcaegehaa.Sl
namespace Go.Proofs.Ytlhgogjcaegehaa.Sl
open Go.RowKit
set_option linter.unusedVariables false
set_option linter.unusedSimpArgs false
abbrev Pr (α : Type) := List UInt8 → Nat → Except Int (α × Nat)
namespace Pr
variable {α β : Type}
def ret (a : α) : Pr α := fun _ q => .ok (a, q)
def err (e : Int) : Pr α := fun _ _ => .error e
def bind (p : Pr α) (f : α → Pr β) : Pr β := fun s q => match p s q with | .error e => .error e | .ok (a, r) => f a s r
theorem bind_ok {p : Pr α} {f : α → Pr β} {s : List UInt8} {q : Nat} {x : β × Nat} (h : p.bind f s q = .ok x) : ∃ a r, p s q = .ok (a, r) ∧ f a s r = .ok x := by
  unfold bind at h
  cases hp : p s q with
  | error e => rw [hp] at h; exact nomatch h
  | ok y => rw [hp] at h; exact ⟨_, _, rfl, h⟩
theorem bind_of {p : Pr α} {f : α → Pr β} {s : List UInt8} {q r : Nat} {a : α} (h : p s q = .ok (a, r)) : p.bind f s q = f a s r := by unfold bind; rw [h]
theorem bind_err {p : Pr α} {f : α → Pr β} {s : List UInt8} {q : Nat} {e : Int} (h : p s q = .error e) : p.bind f s q = .error e := by unfold bind; rw [h]
end Pr
structure CR {α : Type} (op : I → Option (α × I)) (p : Pr α) (z : α) : Prop where
  dead : ∀ st : I, st.err ≠ 0 → op st = some (z, st)
  bad : ∀ (s : List UInt8) (q : Nat) (e : Int), q ≤ s.length → p s q = .error e → ∃ st : I, op ⟨s.drop q, q, 0⟩ = some (z, st) ∧ st.err = e ∧ e ≠ 0
  good : ∀ (s : List UInt8) (q : Nat) (a : α) (r : Nat), q ≤ s.length → p s q = .ok (a, r) → op ⟨s.drop q, q, 0⟩ = some (a, ⟨s.drop r, r, 0⟩)
structure Sp {α : Type} (p : Pr α) (enc : α → List UInt8) (ok : α → Prop) : Prop where
  spell : ∀ (s : List UInt8) (q : Nat) (a : α) (r : Nat), q ≤ s.length → p s q = .ok (a, r) → q ≤ r ∧ r ≤ s.length ∧ r = q + (enc a).length ∧ s.take r = s.take q ++ enc a ∧ ok a
  back : ∀ (s t : List UInt8) (q : Nat) (a : α), q ≤ s.length → ok a → s.drop q = enc a ++ t → p s q = .ok (a, q + (enc a).length)
theorem drop_step {s x t : List UInt8} {q : Nat} (h : s.drop q = x ++ t) : s.drop (q + x.length) = t := by rw [← List.drop_drop, h, List.drop_left]
theorem take_step (s : List UInt8) (q k : Nat) : s.take (q + k) = s.take q ++ (s.drop q).take k := List.take_add
theorem c_be_snoc (q : Int) (c : UInt8) (k : Nat) : be (q * 256 + c.toNat) (k + 1) = be q k ++ [c] := by
  have hc := c.toNat_lt
  unfold be
  rw [List.range_succ, List.map_append]
  congr 1
  · apply List.map_congr_left
    intro i hi
    have hi := List.mem_range.1 hi
    have e : k + 1 - 1 - i = (k - 1 - i) + 1 := by omega
    have e2 : (q * 256 + (c.toNat : Int)) / 256 = q := by omega
    rw [e, show 8 * (k - 1 - i + 1) = 8 + 8 * (k - 1 - i) by omega, Int.pow_add, ← Int.ediv_ediv_of_nonneg (by decide), show (2 ^ 8 : Int) = 256 from rfl, e2]
  · simp only [List.map_cons, List.map_nil, Nat.add_sub_cancel, Nat.sub_self, Nat.mul_zero, Int.pow_zero, Int.ediv_one]
    congr 1
    apply UInt8.toNat_inj.1
    simp [UInt8.toNat_ofNat']
    omega
theorem c_be_fold (cs : List UInt8) : ∀ (q : Int) (k : Nat), be (cs.foldl (fun n d => n * 256 + (d.toNat : Int)) q) (k + cs.length) = be q k ++ cs := by
  induction cs with
  | nil => intro q k; simp
  | cons c cs ih =>
    intro q k
    have h := ih (q * 256 + c.toNat) (k + 1)
    rw [c_be_snoc] at h
    rw [List.foldl_cons, List.length_cons, show k + (cs.length + 1) = k + 1 + cs.length by omega, h]
    simp
theorem c_be_sgn (c : UInt8) : be (sgn c) 1 = [c] := by
  have hc := c.toNat_lt
  unfold be
  simp only [List.range_one, List.map_cons, List.map_nil, Nat.sub_self, Nat.mul_zero, Int.pow_zero, Int.ediv_one]
  congr 1
  apply UInt8.toNat_inj.1
  unfold sgn
  simp [UInt8.toNat_ofNat']
  split <;> omega
theorem c_be_beInt (l : List UInt8) (h : l ≠ []) : be (beInt l) l.length = l := by
  cases l with
  | nil => exact absurd rfl h
  | cons c cs =>
    have h := c_be_fold cs (sgn c) 1
    rw [c_be_sgn] at h
    rw [List.length_cons, Nat.add_comm]
    exact h
def pInt (k : Nat) : Pr Int := fun s q => if s.length < q + k then .error 1 else .ok (beInt ((s.drop q).take k), q + k)
theorem CR_int (k : Nat) (h1 : 1 ≤ k) (h8 : k ≤ 8) (kk : Int) (hk : kk = (k : Int)) : CR (fun st => gInt st kk) (pInt k) 0 := by
  subst hk
  refine ⟨fun st h => ?_, fun s q e hq h => ?_, fun s q a r hq h => ?_⟩
  · rw [gInt_eq, iint_err h]
  · unfold pInt at h
    split at h
    · rename_i hl
      injection h with h
      subst h
      refine ⟨⟨s.drop q, q, 1⟩, ?_, rfl, by decide⟩
      simp only [gInt_eq]
      rw [iint_short _ _ _ (by omega) (by omega) (by rw [List.length_drop]; omega)]
    · exact nomatch h
  · unfold pInt at h
    split at h
    · exact nomatch h
    · rename_i hl
      injection h with h
      obtain ⟨rfl, rfl⟩ := Prod.mk.inj h
      simp only [gInt_eq]
      rw [iint_ok _ _ _ h1 h8 (by rw [List.length_drop]; omega), List.drop_drop]
theorem Sp_int (k : Nat) (h1 : 1 ≤ k) (h8 : k ≤ 8) : Sp (pInt k) (fun n => be n k) (fun n => fits n k = true) := by
  refine ⟨fun s q a r hq h => ?_, fun s t q a hq ha h => ?_⟩
  · unfold pInt at h
    split at h
    · exact nomatch h
    · rename_i hl
      injection h with h
      obtain ⟨rfl, rfl⟩ := Prod.mk.inj h
      have hn : ((s.drop q).take k).length = k := by rw [List.length_take, List.length_drop]; omega
      have hne : (s.drop q).take k ≠ [] := fun h0 => by rw [h0] at hn; simp at hn; omega
      have hb : be (beInt ((s.drop q).take k)) k = (s.drop q).take k := by
        have := c_be_beInt _ hne
        rwa [hn] at this
      refine ⟨by omega, by omega, by rw [be_length], by rw [hb, take_step], ?_⟩
      rw [← be_fits _ _ h1 h8, hb]
  · have hl := congrArg List.length h
    rw [List.length_drop, List.length_append, be_length] at hl
    unfold pInt
    rw [if_neg (by omega), h, List.take_append_of_le_length (by rw [be_length]; omega), List.take_of_length_le (by rw [be_length]; omega), be_length, beInt_be _ _ h1 h8 ha]
def pGot (n : Int) : Pr Bl := fun s q => if n = -1 then .ok (⟨true, []⟩, q) else if n < 0 then .error 4 else if (s.length : Int) < q + n then .error 1 else .ok (⟨false, (s.drop q).take n.toNat⟩, q + n.toNat)
theorem bread_pGot (n : Int) (s : List UInt8) (q : Nat) (hq : q ≤ s.length) :
    (∃ e st, pGot n s q = .error e ∧ bread ⟨s.drop q, q, 0⟩ n = (⟨false, []⟩, st) ∧ st.err = e ∧ e ≠ 0) ∨ (∃ b r, pGot n s q = .ok (b, r) ∧ bread ⟨s.drop q, q, 0⟩ n = (b, ⟨s.drop r, r, 0⟩) ∧ q ≤ r ∧ r ≤ s.length ∧ blen b = n ∧ bright b = true ∧ s.take r = s.take q ++ b.data ∧ r = q + b.data.length) := by
  have hd : (s.drop q).length = s.length - q := List.length_drop
  unfold pGot bread
  rw [if_neg (show ¬ ((⟨s.drop q, q, 0⟩ : I).err ≠ 0) by simp)]
  by_cases h1 : n = -1
  · rw [if_pos h1, if_pos h1]
    exact .inr ⟨_, _, rfl, rfl, Nat.le_refl _, hq, h1.symm, rfl, by simp, rfl⟩
  rw [if_neg h1, if_neg h1]
  by_cases h2 : n < 0
  · rw [if_pos h2, itake_neg _ _ _ h2]
    exact .inl ⟨_, _, rfl, rfl, rfl, by decide⟩
  rw [if_neg h2]
  by_cases h3 : (s.length : Int) < q + n
  · rw [if_pos h3, itake_short _ _ _ (by omega)]
    exact .inl ⟨_, _, rfl, rfl, rfl, by decide⟩
  rw [if_neg h3]
  obtain ⟨m, rfl⟩ : ∃ m : Nat, n = (m : Int) := ⟨n.toNat, by omega⟩
  rw [Int.toNat_natCast, itake_ok _ _ _ (by omega), List.drop_drop]
  have hl : ((s.drop q).take m).length = m := by rw [List.length_take]; omega
  exact .inr ⟨_, _, rfl, rfl, by omega, by omega, by unfold blen; simp only [Bool.false_eq_true, if_false]; rw [hl], rfl, take_step s q m, by rw [hl]⟩
def pFixed (k : Nat) : Pr Bl := (pInt k).bind pGot
theorem CR_got {lenop : I → Int × I} {p : Pr Int} (hl : CR (fun st => some (lenop st)) p 0) (hs : ∀ s q a r, q ≤ s.length → p s q = .ok (a, r) → r ≤ s.length) : CR (fun st => some (bread (lenop st).2 (lenop st).1)) (p.bind pGot) (⟨false, []⟩ : Bl) := by
  refine ⟨fun st h => ?_, fun s q e hq h => ?_, fun s q a r hq h => ?_⟩
  · have h0 := Option.some.inj (hl.dead st h)
    rw [h0, bread_err h]
  · cases hp : p s q with
    | error e' =>
      rw [Pr.bind_err hp] at h
      injection h with h
      subst h
      obtain ⟨st, h1, h2, h3⟩ := hl.bad s q e' hq hp
      have h0 := Option.some.inj h1
      rw [h0, bread_err (by simp only [h2]; exact h3)]
      exact ⟨st, rfl, h2, h3⟩
    | ok x =>
      obtain ⟨n, m⟩ := x
      rw [Pr.bind_of hp] at h
      have h0 := Option.some.inj (hl.good s q n m hq hp)
      rw [h0]
      rcases bread_pGot n s m (hs _ _ _ _ hq hp) with ⟨e', st, g1, g2, g3, g4⟩ | ⟨b, r, g1, g2, _⟩
      · rw [g1] at h
        injection h with h
        subst h
        exact ⟨st, by rw [g2], g3, g4⟩
      · rw [g1] at h
        exact nomatch h
  · obtain ⟨n, m, hp, h⟩ := Pr.bind_ok h
    have h0 := Option.some.inj (hl.good s q n m hq hp)
    rw [h0]
    rcases bread_pGot n s m (hs _ _ _ _ hq hp) with ⟨e', st, g1, g2, g3, g4⟩ | ⟨b, r', g1, g2, _⟩
    · rw [g1] at h
      exact nomatch h
    · rw [g1] at h
      injection h with h
      obtain ⟨rfl, rfl⟩ := Prod.mk.inj h
      rw [g2]
theorem Sp_got {p : Pr Int} {enc : Int → List UInt8} {ok : Int → Prop} (hp : Sp p enc ok) : Sp (p.bind pGot) (fun b => enc (blen b) ++ b.data) (fun b => ok (blen b) ∧ bright b = true) := by
  refine ⟨fun s q a r hq h => ?_, fun s t q a hq ha h => ?_⟩
  · obtain ⟨n, m, h1, h⟩ := Pr.bind_ok h
    obtain ⟨a1, a2, a3, a4, a5⟩ := hp.spell _ _ _ _ hq h1
    rcases bread_pGot n s m a2 with ⟨e', st, g1, g2, g3, g4⟩ | ⟨b, r', g1, g2, b1, b2, b3, b4, b5, b6⟩
    · rw [g1] at h
      exact nomatch h
    · rw [g1] at h
      injection h with h
      obtain ⟨rfl, rfl⟩ := Prod.mk.inj h
      refine ⟨by omega, b2, by rw [List.length_append, b3]; omega, by rw [b5, a4, b3, List.append_assoc], by rw [b3]; exact a5, b4⟩
  · rw [List.append_assoc] at h
    have h1 := hp.back s _ q _ hq ha.1 h
    rw [Pr.bind_of h1, List.length_append, ← Nat.add_assoc]
    have h2 := drop_step h
    have hl := congrArg List.length h
    rw [List.length_drop, List.length_append, List.length_append] at hl
    generalize (enc (blen a)).length = m at h2 hl ⊢
    obtain ⟨nu, d⟩ := a
    unfold pGot blen
    cases nu with
    | true =>
      have : d = [] := by have := ha.2; unfold bright at this; simpa using this
      subst this
      rw [if_pos rfl, if_pos rfl]
      rfl
    | false =>
      simp only [Bool.false_eq_true, if_false]
      simp only at h2 hl
      rw [if_neg (by omega), if_neg (by omega), h2, if_neg (by omega), Int.toNat_natCast, List.take_left]
theorem CR_fixed (k : Nat) (h1 : 1 ≤ k) (h8 : k ≤ 8) (kk : Int) (hk : kk = (k : Int)) : CR (fun st => gFixed st kk) (pFixed k) (⟨false, []⟩ : Bl) :=
  CR_got (lenop := fun st => iint st kk) (CR_int k h1 h8 kk hk) (fun s q a r hq h => ((Sp_int k h1 h8).spell s q a r hq h).2.1)
theorem Sp_fixed (k : Nat) (h1 : 1 ≤ k) (h8 : k ≤ 8) : Sp (pFixed k) (fun b => be (blen b) k ++ b.data) (fun b => fits (blen b) k = true ∧ bright b = true) := Sp_got (Sp_int k h1 h8)
def pMust (p : Pr Bl) : Pr (List UInt8) := p.bind fun b => if b.null then .err 4 else .ret b.data
theorem CR_must {op : I → Bl × I} {p : Pr Bl} (h : CR (fun st => some (op st)) p (⟨false, []⟩ : Bl)) (hb : ∀ s q a r, q ≤ s.length → p s q = .ok (a, r) → bright a = true) : CR (fun st => some (bmust (op st))) (pMust p) [] := by
  refine ⟨fun st hs => ?_, fun s q e hq he => ?_, fun s q a r hq hg => ?_⟩
  · have h0 := Option.some.inj (h.dead st hs)
    rw [h0]
    rfl
  · cases hp : p s q with
    | error e' =>
      rw [pMust, Pr.bind_err hp] at he
      injection he with he
      subst he
      obtain ⟨st, h1, h2, h3⟩ := h.bad s q _ hq hp
      have h0 := Option.some.inj h1
      rw [h0]
      exact ⟨st, rfl, h2, h3⟩
    | ok x =>
      obtain ⟨b, r⟩ := x
      rw [pMust, Pr.bind_of hp] at he
      have h0 := Option.some.inj (h.good s q b r hq hp)
      rw [h0]
      have hbr := hb _ _ _ _ hq hp
      split at he
      · rename_i hn
        injection he with he
        subst he
        have : b.data = [] := by unfold bright at hbr; rw [hn] at hbr; simpa using hbr
        refine ⟨⟨s.drop r, r, 4⟩, ?_, rfl, by decide⟩
        unfold bmust
        simp only [hn, if_true, this]
        rfl
      · exact nomatch he
  · obtain ⟨b, m, hp, hg⟩ := Pr.bind_ok hg
    have h0 := Option.some.inj (h.good s q b m hq hp)
    rw [h0]
    split at hg
    · exact nomatch hg
    · rename_i hn
      injection hg with hg
      obtain ⟨rfl, rfl⟩ := Prod.mk.inj hg
      unfold bmust
      simp only [hn, Bool.false_eq_true, if_false]
theorem Sp_must {p : Pr Bl} {enc : Bl → List UInt8} {ok : Bl → Prop} (hp : Sp p enc ok) : Sp (pMust p) (fun d => enc ⟨false, d⟩) (fun d => ok ⟨false, d⟩) := by
  refine ⟨fun s q a r hq h => ?_, fun s t q a hq ha h => ?_⟩
  · obtain ⟨b, m, h1, h⟩ := Pr.bind_ok h
    have h2 := hp.spell _ _ _ _ hq h1
    split at h
    · exact nomatch h
    · rename_i hn
      injection h with h
      obtain ⟨rfl, rfl⟩ := Prod.mk.inj h
      obtain ⟨nu, d⟩ := b
      simp only [Bool.not_eq_true] at hn
      subst hn
      exact h2
  · rw [pMust, Pr.bind_of (hp.back s t q _ hq ha h)]
    rfl
def pText : Pr (List UInt8) := pMust (pFixed 2)
theorem CR_text : CR gText pText [] := CR_must (op := fun st => bfixed st 2) (CR_fixed 2 (by decide) (by decide) 2 rfl) (fun s q a r hq h => ((Sp_fixed 2 (by decide) (by decide)).spell s q a r hq h).2.2.2.2.2)
theorem Sp_text : Sp pText (fun d => be (d.length : Int) 2 ++ d) (fun d => fits (d.length : Int) 2 = true ∧ bright ⟨false, d⟩ = true) := Sp_must (Sp_fixed 2 (by decide) (by decide))
theorem oput_z (t l : List UInt8) : oput (t, 0) l = (t ++ l, 0) := rfl
theorem fits_rng {n k : Int} (h : fits n k = true) : -9223372036854775808 ≤ n ∧ n ≤ 9223372036854775807 := by
  unfold fits at h
  simp only [Bool.and_eq_true, decide_eq_true_eq] at h
  obtain ⟨⟨⟨h1, h2⟩, h3⟩, h4⟩ := h
  have : (2 : Nat) ^ (8 * k.toNat - 1) ≤ 2 ^ 63 := Nat.pow_le_pow_right (by decide) (by omega)
  have h5 : ((2 : Int) ^ (8 * k.toNat - 1)) = ((2 ^ (8 * k.toNat - 1) : Nat) : Int) := by simp
  have h6 : (2 : Nat) ^ 63 = 9223372036854775808 := by decide
  omega
theorem gOInt_z {t : List UInt8} {n k : Int} (hf : fits n k = true) (ht : t.length ≤ 140737488355320) : gOInt (t, 0) n k = some (t ++ be n k.toNat, 0) := by
  rw [gOInt_eq _ _ _ ⟨fits_rng hf, by simp only; omega⟩]
  unfold oint
  rw [if_pos hf, oput_z]
theorem gPutFixed_z {t : List UInt8} {b : Bl} {k : Int} (hf : fits (blen b) k = true) (hb : bright b = true) (ht : t.length + b.data.length ≤ 140737488355320) : gPutFixed (t, 0) b k = some (t ++ (be (blen b) k.toNat ++ b.data), 0) := by
  have h8 : 1 ≤ k ∧ k ≤ 8 := by unfold fits at hf; simp only [Bool.and_eq_true, decide_eq_true_eq] at hf; exact ⟨hf.1.1.1, hf.1.1.2⟩
  rw [gPutFixed_eq _ _ _ ⟨by omega, by simp only; omega⟩]
  unfold bputFixed bwrite oint
  rw [if_pos hb, if_pos hf, oput_z, oput_z, List.append_assoc]
structure CQ {α : Type} (op : I → Option (α × I)) (p : Pr α) (z : α) : Prop where
  dead : ∀ st : I, st.err ≠ 0 → op st = some (z, st)
  run : ∀ (s : List UInt8) (q : Nat), q ≤ s.length → (∃ (e : Int) (st : I), p s q = .error e ∧ op ⟨s.drop q, q, 0⟩ = some (z, st) ∧ st.err = e ∧ st.err ≠ 0) ∨ (∃ (a : α) (r : Nat), p s q = .ok (a, r) ∧ op ⟨s.drop q, q, 0⟩ = some (a, ⟨s.drop r, r, 0⟩) ∧ q ≤ r ∧ r ≤ s.length)
theorem CR.cq {α : Type} {op : I → Option (α × I)} {p : Pr α} {z : α} {enc : α → List UInt8} {ok : α → Prop} (h : CR op p z) (hs : Sp p enc ok) : CQ op p z := by
  refine ⟨h.dead, fun s q hq => ?_⟩
  cases hp : p s q with
  | error e =>
    obtain ⟨st, h1, h2, h3⟩ := h.bad s q e hq hp
    exact .inl ⟨e, st, rfl, h1, h2, by rw [h2]; exact h3⟩
  | ok x =>
    have := hs.spell s q x.1 x.2 hq hp
    exact .inr ⟨x.1, x.2, rfl, h.good s q x.1 x.2 hq hp, this.1, this.2.1⟩
theorem Q_int (k : Nat) (h1 : 1 ≤ k) (h8 : k ≤ 8) (kk : Int) (hk : kk = (k : Int)) : CQ (fun st => gInt st kk) (pInt k) 0 := (CR_int k h1 h8 kk hk).cq (Sp_int k h1 h8)
theorem Q1 : CQ (fun st => gInt st 1) (pInt 1) 0 := Q_int 1 (by decide) (by decide) 1 rfl
theorem Q2 : CQ (fun st => gInt st 2) (pInt 2) 0 := Q_int 2 (by decide) (by decide) 2 rfl
theorem Q4 : CQ (fun st => gInt st 4) (pInt 4) 0 := Q_int 4 (by decide) (by decide) 4 rfl
theorem Q8 : CQ (fun st => gInt st 8) (pInt 8) 0 := Q_int 8 (by decide) (by decide) 8 rfl
theorem gInt_d {st : I} {k : Int} (h : st.err ≠ 0) : gInt st k = some (0, st) := by rw [gInt_eq, iint_err h]
theorem ifail_z (l : List UInt8) (q : Nat) (e : Int) : ifail ⟨l, q, 0⟩ e = ⟨l, q, e⟩ := rfl
theorem QT : CQ gText pText [] := CR_text.cq Sp_text
theorem otx_z (t : List UInt8) : otx (t, 0) = (t, 0) := by simp [otx]
theorem fits_small {n : Int} {k : Int} (h : k = 2 ∨ k = 4 ∨ k = 8) (h1 : -32768 ≤ n) (h2 : n ≤ 32767) : fits n k = true := by
  have e2 : (2 : Int) ^ (8 * (2 : Int).toNat - 1) = 32768 := by decide
  have e4 : (2 : Int) ^ (8 * (4 : Int).toNat - 1) = 2147483648 := by decide
  have e8 : (2 : Int) ^ (8 * (8 : Int).toNat - 1) = 9223372036854775808 := by decide
  unfold fits
  simp only [Bool.and_eq_true, decide_eq_true_eq]
  rcases h with rfl | rfl | rfl <;> omega
end Go.Proofs.Ytlhgogjcaegehaa.Sl
namespace Go.Proofs.Ytlhgogjcaegehaa.Sl
open Go.RowKit
set_option linter.unusedVariables false
set_option linter.unusedSimpArgs false
def shift {α : Type} (q : Nat) : Except Int (α × Nat) → Except Int (α × Nat)
  | .error e => .error e
  | .ok (a, r) => .ok (a, q + r)
def Sh {α : Type} (p : Pr α) : Prop := ∀ (s : List UInt8) (q k : Nat), q + k ≤ s.length → p s (q + k) = shift q (p (s.drop q) k)
theorem Sh.ret {α : Type} (a : α) : Sh (Pr.ret a) := fun s q k h => rfl
theorem Sh.err {α : Type} (e : Int) : Sh (Pr.err e : Pr α) := fun s q k h => rfl
theorem Sh.bind {α β : Type} {p : Pr α} {f : α → Pr β} {enc : α → List UInt8} {ok : α → Prop} (hp : Sh p) (hs : Sp p enc ok) (hf : ∀ a, Sh (f a)) : Sh (p.bind f) := by
  intro s q k h
  unfold Pr.bind
  rw [hp s q k h]
  cases hx : p (s.drop q) k with
  | error e => rfl
  | ok x =>
    have := (hs.spell (s.drop q) k x.1 x.2 (by rw [List.length_drop]; omega) hx).2.1
    rw [List.length_drop] at this
    exact hf x.1 s q x.2 (by omega)
theorem Sh.zero {α : Type} {p : Pr α} (h : Sh p) {s : List UInt8} {q : Nat} (hq : q ≤ s.length) : p s q = shift q (p (s.drop q) 0) := h s q 0 hq
def pLeft (each : Nat) (n : Int) : Pr Int := fun s q => if n < 0 then .error 4 else if 0 < each ∧ ((s.length - q : Nat) : Int) / each < n then .error 1 else .ok (n, q)
def pCount (k each : Nat) : Pr Int := (pInt k).bind (pLeft each)
theorem pCount_ok {k each : Nat} (h1 : 1 ≤ k) (h8 : k ≤ 8) {s : List UInt8} {q r : Nat} {n : Int} (hq : q ≤ s.length) (h : pCount k each s q = .ok (n, r)) : 0 ≤ n ∧ (0 < each → n * each ≤ ((s.length - r : Nat) : Int)) ∧ r = q + k ∧ r ≤ s.length ∧ s.take r = s.take q ++ be n k ∧ fits n k = true := by
  obtain ⟨m, r', h2, h⟩ := Pr.bind_ok h
  obtain ⟨a1, a2, a3, a4, a5⟩ := (Sp_int k h1 h8).spell _ _ _ _ hq h2
  unfold pLeft at h
  split at h
  · exact nomatch h
  · rename_i hn
    split at h
    · exact nomatch h
    · rename_i he
      injection h with h
      obtain ⟨rfl, rfl⟩ := Prod.mk.inj h
      rw [be_length] at a3
      refine ⟨by omega, fun hz => ?_, a3, a2, a4, a5⟩
      have : m ≤ ((s.length - r' : Nat) : Int) / each := by
        rcases Int.lt_or_le (((s.length - r' : Nat) : Int) / each) m with g | g
        · exact absurd ⟨hz, g⟩ he
        · exact g
      exact (Int.le_ediv_iff_mul_le (by omega)).1 this
theorem pCount_of {k each : Nat} (h1 : 1 ≤ k) (h8 : k ≤ 8) {s t : List UInt8} {q : Nat} {n : Int} (hq : q ≤ s.length) (hf : fits n k = true) (hn : 0 ≤ n) (h : s.drop q = be n k ++ t) (hl : 0 < each → n * each ≤ t.length) : pCount k each s q = .ok (n, q + k) := by
  have g := (Sp_int k h1 h8).back s t q n hq hf h
  rw [be_length] at g
  rw [pCount, Pr.bind_of g]
  unfold pLeft
  have hlen := congrArg List.length h
  rw [List.length_drop, List.length_append, be_length] at hlen
  rw [if_neg (by omega), if_neg]
  rintro ⟨hz, hc⟩
  have := (Int.le_ediv_iff_mul_le (show (0 : Int) < each by omega)).2 (hl hz)
  rw [show s.length - (q + k) = t.length by omega] at hc
  omega
theorem Q_count (k each : Nat) (h1 : 1 ≤ k) (h8 : k ≤ 8) (kk ee : Int) (hk : kk = (k : Int)) (he : ee = (each : Int)) (h9 : ee ≤ 1000) : CQ (fun st => gCount st kk ee) (pCount k each) 0 := by
  subst hk
  refine ⟨fun st h => ?_, fun s q hq => ?_⟩
  · show gCount st k ee = _
    rw [gCount_eq _ _ _ ⟨by omega, by omega⟩]
    unfold icount
    rw [iint_err h]
    simp only
    rw [if_pos h]
  · show (∃ e st, pCount k each s q = .error e ∧ gCount ⟨s.drop q, q, 0⟩ k ee = some (0, st) ∧ _ ∧ _) ∨ (∃ a r, pCount k each s q = .ok (a, r) ∧ gCount ⟨s.drop q, q, 0⟩ k ee = some (a, ⟨s.drop r, r, 0⟩) ∧ q ≤ r ∧ r ≤ s.length)
    rw [gCount_eq _ _ _ ⟨by omega, by omega⟩]
    unfold icount
    rcases (Q_int k h1 h8 k rfl).run s q hq with ⟨e, st, p1, g1, x1, y1⟩ | ⟨n, r, p1, g1, n1, l1⟩
    · rw [gInt_eq] at g1
      have g1 := Option.some.inj g1
      obtain ⟨u1, u2⟩ := Prod.mk.inj g1
      rw [u2]
      exact .inl ⟨e, st, Pr.bind_err p1, by rw [if_pos y1], x1, y1⟩
    · rw [gInt_eq] at g1
      have g1 := Option.some.inj g1
      have u3 : iint ⟨s.drop q, q, 0⟩ k = (n, ⟨s.drop r, r, 0⟩) := g1
      rw [u3, pCount, Pr.bind_of p1]
      simp only
      rw [if_neg (by simp)]
      unfold pLeft
      by_cases hn : n < 0
      · rw [if_pos hn, if_pos hn]
        exact .inl ⟨4, _, rfl, rfl, rfl, by simp [ifail]⟩
      · rw [if_neg hn, if_neg hn, List.length_drop, he]
        by_cases hc : 0 < each ∧ ((s.length - r : Nat) : Int) / each < n
        · rw [if_pos hc, if_pos ⟨by omega, hc.2⟩]
          exact .inl ⟨1, _, rfl, rfl, rfl, by simp [ifail]⟩
        · rw [if_neg hc, if_neg (fun h => hc ⟨by omega, h.2⟩)]
          exact .inr ⟨n, r, rfl, rfl, n1, l1⟩
theorem gCount_d {st : I} {k e : Int} (h : st.err ≠ 0) (hk : 0 ≤ k ∧ k ≤ 1000) (he : 0 ≤ e ∧ e ≤ 1000) : gCount st k e = some (0, st) := by
  rw [gCount_eq _ _ _ ⟨by omega, by omega⟩]
  unfold icount
  rw [iint_err h]
  simp only
  rw [if_pos h]
def pRep {α : Type} (p : Pr α) : Nat → Pr (List α)
  | 0 => .ret []
  | n + 1 => p.bind fun a => (pRep p n).bind fun l => .ret (a :: l)
def encs {α : Type} (enc : α → List UInt8) : List α → List UInt8
  | [] => []
  | a :: l => enc a ++ encs enc l
theorem Sp_rep {α : Type} {p : Pr α} {enc : α → List UInt8} {ok : α → Prop} (hp : Sp p enc ok) : ∀ n : Nat, Sp (pRep p n) (encs enc) (fun l => l.length = n ∧ ∀ x, x ∈ l → ok x)
  | 0 => by
    refine ⟨fun s q a r hq h => ?_, fun s t q a hq ha h => ?_⟩
    · injection h with h
      obtain ⟨rfl, rfl⟩ := Prod.mk.inj h
      exact ⟨Nat.le_refl _, hq, rfl, by simp [encs], rfl, fun x h => nomatch h⟩
    · obtain rfl := List.length_eq_zero_iff.1 ha.1
      rfl
  | n + 1 => by
    have ih := Sp_rep hp n
    refine ⟨fun s q a r hq h => ?_, fun s t q a hq ha h => ?_⟩
    · obtain ⟨x, q1, h1, h⟩ := Pr.bind_ok h
      obtain ⟨l, q2, h2, h⟩ := Pr.bind_ok h
      injection h with h
      obtain ⟨rfl, rfl⟩ := Prod.mk.inj h
      obtain ⟨a1, a2, a3, a4, a5⟩ := hp.spell _ _ _ _ hq h1
      obtain ⟨b1, b2, b3, b4, b5, b6⟩ := ih.spell _ _ _ _ a2 h2
      refine ⟨by omega, b2, by rw [encs, List.length_append]; omega, by rw [b4, a4, encs, List.append_assoc], by rw [List.length_cons, b5], fun y hy => ?_⟩
      rcases List.mem_cons.1 hy with rfl | hy
      · exact a5
      · exact b6 y hy
    · obtain ⟨ha1, ha2⟩ := ha
      cases a with
      | nil => exact absurd ha1 (by simp)
      | cons x l =>
        rw [encs, List.append_assoc] at h
        have hl := congrArg List.length h
        rw [List.length_drop, List.length_append] at hl
        have g1 := hp.back _ _ _ _ hq (ha2 x (.head _)) h
        have g2 := ih.back _ _ _ _ (by omega) ⟨by simpa using ha1, fun y hy => ha2 y (.tail _ hy)⟩ (drop_step h)
        rw [pRep, Pr.bind_of g1, Pr.bind_of g2]
        simp only [Pr.ret, encs, List.length_append, Nat.add_assoc]
theorem encs_ge {α : Type} {enc : α → List UInt8} {ok : α → Prop} {each : Nat} (he : ∀ x, ok x → each ≤ (enc x).length) : ∀ l : List α, (∀ x, x ∈ l → ok x) → l.length * each ≤ (encs enc l).length
  | [], h => by simp
  | x :: l, h => by
    have := encs_ge he l (fun y hy => h y (.tail _ hy))
    have := he x (h x (.head _))
    rw [encs, List.length_append, List.length_cons, Nat.add_mul]
    omega
def pRow {α : Type} (k each : Nat) (p : Pr α) : Pr (List α) := (pCount k each).bind fun n => pRep p n.toNat
theorem Sp_row {α : Type} {p : Pr α} {enc : α → List UInt8} {ok : α → Prop} (k each : Nat) (h1 : 1 ≤ k) (h8 : k ≤ 8) (hp : Sp p enc ok) (he : ∀ x, ok x → each ≤ (enc x).length) : Sp (pRow k each p) (fun l => be (l.length : Int) k ++ encs enc l) (fun l => fits (l.length : Int) k = true ∧ ∀ x, x ∈ l → ok x) := by
  refine ⟨fun s q a r hq h => ?_, fun s t q a hq ha h => ?_⟩
  · obtain ⟨n, q1, g1, h⟩ := Pr.bind_ok h
    obtain ⟨a1, a2, a3, a4, a5, a6⟩ := pCount_ok h1 h8 hq g1
    obtain ⟨b1, b2, b3, b4, b5, b6⟩ := (Sp_rep hp n.toNat).spell _ _ _ _ a4 h
    have hn : (a.length : Int) = n := by omega
    refine ⟨by omega, b2, by rw [List.length_append, be_length]; omega, by rw [b4, a5, hn, List.append_assoc], by rw [hn]; exact a6, b6⟩
  · rw [List.append_assoc] at h
    have hl := congrArg List.length h
    rw [List.length_drop, List.length_append, List.length_append, be_length] at hl
    have g1 := pCount_of (each := each) h1 h8 hq ha.1 (by omega) h (fun _ => by
      have := encs_ge he a ha.2
      rw [List.length_append, Int.natCast_add, ← Int.natCast_mul]
      omega)
    have h2 := drop_step h
    rw [be_length] at h2
    have g2 := (Sp_rep hp a.length).back _ _ _ _ (by omega) ⟨rfl, ha.2⟩ h2
    rw [pRow, Pr.bind_of g1, Int.toNat_natCast, g2, List.length_append, be_length]
    simp only [Nat.add_assoc]
structure CB {α : Type} (op : I → Option (α × I)) (p : Pr α) (z : α) : Prop where
  dead : ∀ st : I, st.err ≠ 0 → op st = some (z, st)
  run : ∀ (s : List UInt8) (q : Nat), s.length ≤ 1000000 → q ≤ s.length → (∃ (e : Int) (st : I), p s q = .error e ∧ op ⟨s.drop q, q, 0⟩ = some (z, st) ∧ st.err = e ∧ st.err ≠ 0) ∨ (∃ (a : α) (r : Nat), p s q = .ok (a, r) ∧ op ⟨s.drop q, q, 0⟩ = some (a, ⟨s.drop r, r, 0⟩) ∧ q ≤ r ∧ r ≤ s.length)
def NZ {α : Type} (p : Pr α) : Prop := ∀ (s : List UInt8) (q : Nat) (e : Int), s.length ≤ 1000000 → q ≤ s.length → p s q = .error e → e ≠ 0
theorem NZ.ret {α : Type} (a : α) : NZ (Pr.ret a) := fun s q e _ _ h => nomatch h
theorem NZ.err {α : Type} {e : Int} (he : e ≠ 0) : NZ (Pr.err e : Pr α) := fun s q e' _ _ h => by injection h with h; rw [← h]; exact he
theorem NZ.bind {α β : Type} {p : Pr α} {f : α → Pr β} {enc : α → List UInt8} {ok : α → Prop} (hp : NZ p) (hs : Sp p enc ok) (hf : ∀ a, NZ (f a)) : NZ (p.bind f) := by
  intro s q e hl hq h
  cases hx : p s q with
  | error e' =>
    rw [Pr.bind_err hx] at h
    injection h with h
    rw [← h]
    exact hp s q e' hl hq hx
  | ok x =>
    rw [Pr.bind_of (a := x.1) (r := x.2) hx] at h
    exact hf x.1 s x.2 e hl (hs.spell s q x.1 x.2 hq hx).2.1 h
end Go.Proofs.Ytlhgogjcaegehaa.Sl
namespace Go.Proofs.Ytlhgogjcaegehaa.Sl
open Go.RowKit
set_option linter.unusedVariables false
inductive Lp (R S : Type) where
  | ret (r : R)
  | go (s : S)
section
variable {α : Type}
def elems (size : Nat) (E : Rd α) (w : World) (S : Nat → Prop) : List Value → List α → Prop
  | cs, [] => cs = []
  | cs, x :: xs => (cs.take size).length = size ∧ E.P w S (cs.take size) x ∧ elems size E w S (cs.drop size) xs
variable {size : Nat} {E : Rd α} {w w' : World} {S S' : Nat → Prop}
theorem elems_mono : ∀ {xs : List α} {cs : List Value}, elems size E w S cs xs → (∀ k, S k → S' k) → elems size E w S' cs xs
  | [], _, h, _ => h
  | _ :: _, _, ⟨h0, h1, h2⟩, k => ⟨h0, E.mono h1 k, elems_mono h2 k⟩
theorem elems_move : ∀ {xs : List α} {cs : List Value}, elems size E w S cs xs → (∀ k, S k → w'.heap[k]? = w.heap[k]?) → elems size E w' S cs xs
  | [], _, h, _ => h
  | _ :: _, _, ⟨h0, h1, h2⟩, k => ⟨h0, E.move h1 k, elems_move h2 k⟩
theorem elems_length : ∀ {xs : List α} {cs : List Value}, elems size E w S cs xs → cs.length = xs.length * size
  | [], cs, h => by simp [show cs = [] from h]
  | x :: xs, cs, ⟨h0, _, h2⟩ => by
    have h3 := elems_length h2
    rw [List.length_take] at h0
    rw [List.length_drop] at h3
    rw [List.length_cons, Nat.add_mul, Nat.one_mul]
    omega
theorem elems_snoc : ∀ {xs : List α} {cs news : List Value} {x : α}, elems size E w S cs xs → news.length = size → E.P w S news x → elems size E w S (cs ++ news) (xs ++ [x])
  | [], cs, news, x, h, hl, hx => by
    obtain rfl : cs = [] := h
    exact ⟨by simp [hl], by rw [List.nil_append, List.take_of_length_le (by omega)]; exact hx, by rw [List.nil_append, List.drop_of_length_le (by omega)]; exact rfl⟩
  | y :: ys, cs, news, x, ⟨h0, h1, h2⟩, hl, hx => by
    have hle : size ≤ cs.length := by rw [List.length_take] at h0; omega
    refine ⟨?_, ?_, ?_⟩
    · rw [List.take_append_of_le_length hle]; exact h0
    · rw [List.take_append_of_le_length hle]; exact h1
    · rw [List.drop_append_of_le_length hle]; exact elems_snoc h2 hl hx
theorem elems_get : ∀ {xs : List α} {cs : List Value} {i : Nat} {x : α}, elems size E w S cs xs → xs[i]? = some x → ((cs.drop (i * size)).take size).length = size ∧ E.P w S ((cs.drop (i * size)).take size) x
  | [], _, i, _, _, hi => by simp at hi
  | y :: ys, cs, 0, x, ⟨h0, h1, _⟩, hi => by
    obtain rfl : y = x := by simpa using hi
    rw [Nat.zero_mul, List.drop_zero]
    exact ⟨h0, h1⟩
  | y :: ys, cs, i + 1, x, ⟨_, _, h2⟩, hi => by
    have h3 := elems_get (i := i) h2 (by simpa using hi)
    rw [List.drop_drop] at h3
    rwa [show size + i * size = (i + 1) * size by rw [Nat.add_mul]; omega] at h3
def OwnR (T : TypeId) (size : Nat) (E : Rd α) (v : Value) (xs : List α) : Res where
  P := fun w G => ∃ cells S, w.ownsRow 0 T size v xs.length cells ∧ elems size E w S cells xs ∧ (∀ k, S k → k < w.heap.size) ∧ (∀ k, v.ownBlock = some k → ¬ S k) ∧ ∀ k, G k ↔ v.ownBlock = some k ∨ S k
  lt := by
    rintro w G ⟨cells, S, h1, h2, h3, h4, h5⟩ k hk
    rcases (h5 k).1 hk with h | h
    · exact row_lt h1 k h
    · exact h3 k h
  move := by
    rintro w w' G ⟨cells, S, h1, h2, h3, h4, h5⟩ hm
    refine ⟨cells, S, row_move h1 (fun k hk => hm k ((h5 k).2 (.inl hk))), elems_move h2 (fun k hk => hm k ((h5 k).2 (.inr hk))), fun k hk => ?_, h4, h5⟩
    have h6 := h3 k hk
    have h7 := hm k ((h5 k).2 (.inr hk))
    rw [Array.getElem?_eq_getElem h6] at h7
    exact (Array.getElem?_eq_some_iff.1 h7).1
theorem own_reads {T : TypeId} {v : Value} {xs : List α} (hp : 0 < size) : ∀ w G, (OwnR T size E v xs).P w G → (RX.of (sliceRd size E) [v] xs).P w G := by
  rintro w G ⟨cells, S, h1, h2, h3, h4, h5⟩
  have hb := h1
  rcases h1.2 with ⟨rfl, hn⟩ | ⟨g, cap, cur, rfl, hbg, hg, hnc, hcm, hcs, htake⟩
  · exact .inl ⟨rfl, List.eq_nil_of_length_eq_zero hn⟩
  · refine .inr ⟨⟨g, 0, none⟩, cap, rfl, hnc, hcm, fun _ => (h5 g).2 (.inl rfl), fun i x hx => ?_⟩
    obtain ⟨k1, k2⟩ := elems_get h2 hx
    have hi : i < xs.length := (List.getElem?_eq_some_iff.1 hx).1
    refine ⟨_, k1, fun j hj => ?_, E.mono k2 (fun k hk => (h5 k).2 (.inr hk))⟩
    have hadd : (⟨g, 0, none⟩ : Addr).add (i * size + j) = ⟨g, i * size + j, none⟩ := by unfold Addr.add; split <;> simp_all
    have hlt : i * size + j < xs.length * size := by
      have : (i + 1) * size ≤ xs.length * size := Nat.mul_le_mul_right _ (by omega)
      rw [Nat.add_mul] at this
      omega
    rw [hadd, hb.cellAt _ hlt, List.getElem?_take, if_pos hj, List.getElem?_drop]
theorem rd_reads {cs : List Value} {a : α} : ∀ w G, (RdR E cs a).P w G → (RX.of E cs a).P w G := fun _ _ h => h.1
theorem slice_nil_reads {F : Nat → Prop} : (RX.of (sliceRd size E) [.slice none 0 0] []).reads w F := ⟨fun _ => False, .inl ⟨rfl, rfl⟩, fun _ h => h.elim⟩
theorem Src.nil {F0 : Nat → Prop} {w0 : World} {Rs : List Res} (i : Nat) : Src F0 w0 Rs w i (RX.of (sliceRd size E) [.slice none 0 0] []) := fun _ _ _ _ _ _ => slice_nil_reads
theorem RX.elem {F : Nat → Prop} {A : Option Addr} {n c i : Nat} {l : List α} {x : α} (hp : 0 < size) (h : (RX.of (sliceRd size E) [.slice A n c] l).reads w F) (hx : l[i]? = some x) :
    ∃ g o : Nat, A = some ⟨g, o, none⟩ ∧ ∃ cs, cs.length = size ∧ (∀ j, j < size → w.cell? ⟨g, o + i * size + j, none⟩ = cs[j]?) ∧ (¬ F g ∧ g < w.heap.size) ∧ (RX.of E cs x).reads w F := by
  obtain ⟨S, h, hS⟩ := h
  rcases h with ⟨h, rfl⟩ | ⟨a, cap, h, _, _, hb, h2⟩
  · simp at hx
  · injection h with h
    injection h with h3 h4 h5
    subst h3
    have hl : 0 < l.length := by have := (List.getElem?_eq_some_iff.1 hx).1; omega
    obtain ⟨cs0, k1, k2, _⟩ := h2 0 l[0] (List.getElem?_eq_getElem hl)
    have k3 := k2 0 hp
    rw [List.getElem?_eq_getElem (by omega)] at k3
    have k4 : a.add (0 * size + 0) = a := by simp [Addr.add]
    rw [k4] at k3
    have k5 := spot_none k3
    obtain ⟨cs, k6, k7, k8⟩ := h2 i x hx
    refine ⟨a.block, a.off, by rw [← k5], cs, k6, fun j hj => ?_, hS _ (hb hl), S, k8, hS⟩
    rw [← k7 j hj, k5, WideShapes.add_plain, Nat.add_assoc]
theorem RX.elem' {F : Nat → Prop} {g o n c i : Nat} {l : List α} {x : α} (hp : 0 < size) (h : (RX.of (sliceRd size E) [.slice (some ⟨g, o, none⟩) n c] l).reads w F) (hx : l[i]? = some x) :
    ∃ cs, cs.length = size ∧ (∀ j, j < size → w.cell? ⟨g, o + i * size + j, none⟩ = cs[j]?) ∧ (¬ F g ∧ g < w.heap.size) ∧ (RX.of E cs x).reads w F := by
  obtain ⟨g', o', h1, cs, h2⟩ := RX.elem hp h hx
  injection h1 with h1
  injection h1 with h3 h4
  subst h3 h4
  exact ⟨cs, h2⟩
theorem RX.len_le {F : Nat → Prop} {A : Option Addr} {n c : Nat} {l : List α} (h : (RX.of (sliceRd size E) [.slice A n c] l).reads w F) : l.length ≤ 9223372036854775807 := by
  obtain ⟨S, h, hS⟩ := h
  rcases h with ⟨h, rfl⟩ | ⟨a, cap, h, h1, h2, _⟩
  · simp
  · have : maxLen = 9223372036854775807 := rfl
    omega
theorem St.old2 {F0 : Nat → Prop} {w wr : World} {Rs : List Res} {v : Option Value} {g o : Nat} (h : St F0 w Rs wr) (hb : ¬ F0 g ∧ g < w.heap.size) (hc : w.cell? ⟨g, o, none⟩ = v) : wr.cell? ⟨g, o, none⟩ = v := by
  rw [← hc]
  have e := h.fr.block g hb.2 hb.1
  simp only [World.cell?, e]
theorem drop_cons {l : List α} {k : Nat} {x : α} (h : l[k]? = some x) : l.drop k = x :: l.drop (k + 1) := by
  obtain ⟨hk, rfl⟩ := List.getElem?_eq_some_iff.1 h
  exact List.drop_eq_getElem_cons hk
theorem RdR.nil {F0 : Nat → Prop} {w0 : World} {Rs : List Res} (size : Nat) (E : Rd α) (h : St F0 w0 Rs w) : St F0 w0 (RdR (sliceRd size E) [.slice none 0 0] [] :: Rs) w :=
  h.grow (Ns := [RdR (sliceRd size E) [.slice none 0 0] []]) (Fr.refl _ _) ⟨fun _ => False, ⟨.inl ⟨rfl, rfl⟩, fun _ h => h.elim⟩, fun _ h => h.elim, trivial⟩
theorem OwnR.shut {F0 : Nat → Prop} {w0 : World} {Rs : List Res} {T : TypeId} {v : Value} {xs : List α} (hp : 0 < size) (i : Nat) (h : St F0 w0 Rs w) (hi : Rs[i]? = some (OwnR T size E v xs)) : St F0 w0 (Rs.set i (RdR (sliceRd size E) [v] xs)) w :=
  h.weaken i hi (fun G hG => ⟨own_reads hp _ _ hG, fun k hk => (OwnR T size E v xs).lt hG k hk⟩)
section
variable {F0 : Nat → Prop} {w0 w1 : World} {Rs : List Res} {T : TypeId} {v v1 : Value} {xs : List α} {B : Res}
theorem OwnR.nil (T : TypeId) (size : Nat) (E : Rd α) (h : St F0 w0 Rs w) : St F0 w0 (OwnR T size E (.slice none 0 0) [] :: Rs) w :=
  h.grow (Ns := [OwnR T size E (.slice none 0 0) []]) (Fr.refl _ _) ⟨fun _ => False, ⟨[], fun _ => False, World.ownsRow_nil _ _ _ _, rfl, fun _ h => h.elim, fun _ _ h => h, fun k => by simp [Value.ownBlock]⟩, fun _ h => h.elim, trivial⟩
theorem OwnR.lit (E : Rd α) (h : St F0 w0 Rs w) (cs : Array Value) (xs : List α) (hm : xs.length ≤ maxLen) (he : elems size E (w.alloc (.cells cs T)) (fun _ => False) cs.toList xs) :
    St F0 w0 (OwnR T size E (.slice (some ⟨w.heap.size, 0, none⟩) xs.length xs.length) xs :: Rs) (w.alloc (.cells cs T)) :=
  h.grow (Ns := [OwnR T size E (.slice (some ⟨w.heap.size, 0, none⟩) xs.length xs.length) xs]) (Fr.of_below ((Below.refl _ _).alloc (Nat.le_refl _) _))
    ⟨fun k => k = w.heap.size, ⟨cs.toList, fun _ => False, World.ownsRow_lit w cs xs.length (Nat.zero_le _) hm (by have := elems_length he; simpa using this), he, fun _ h => h.elim, fun _ _ h => h, fun k => by simp [Value.ownBlock, eq_comm]⟩, fun k hk => by omega, trivial⟩
theorem OwnR.open_ (i : Nat) (h : St F0 w0 Rs w) (hi : Rs[i]? = some (OwnR T size E v xs)) :
    ∃ cells, w.ownsRow 0 T size v xs.length cells ∧ ∀ v1 w1 news x, w1.ownsRow 0 T size v1 (xs.length + 1) (cells ++ news) → w.grownBy w1 v.ownBlock → (v1.ownBlock = v.ownBlock ∨ ∃ k, v1.ownBlock = some k ∧ w.heap.size ≤ k) → news.length = size →
      (∀ w S, E.P w S news x) → St F0 w0 (Rs.set i (OwnR T size E v1 (xs ++ [x]))) w1 := by
  obtain ⟨f, hs⟩ := h
  obtain ⟨G, ⟨cells, S, h1, h2, h3, h4, h5⟩, hG, hr⟩ := Sep.pick i hi hs
  refine ⟨cells, h1, fun v1 w1 news x ho hg hat hl hx => ?_⟩
  have hst : St F0 w0 Rs w := ⟨f, hs⟩
  have hne : ∀ k, S k → k < w.heap.size ∧ some k ≠ v.ownBlock := fun k hk => ⟨h3 k hk, fun e => h4 k e.symm hk⟩
  have hS1 : elems size E w1 S cells xs := elems_move h2 (fun k hk => hg.block k (hne k hk).1 (hne k hk).2)
  have hle := hg.size
  have f2 : Fr G w w1 := Fr.of_grown hg (fun k hk => (h5 k).2 (.inl hk))
  refine ⟨f.trans f2 hG, ?_⟩
  have hfs := f.size
  have hR : Sep (Rs.eraseIdx i) w1 (fun k => ((F0 k ∨ w0.heap.size ≤ k) ∧ ¬ G k) ∧ k < w.heap.size) := hr.inside.move (fun k hk _ => f2.block k hk.2 hk.1.2)
  refine Sep.back (G := fun k => v1.ownBlock = some k ∨ S k) i hi ⟨cells ++ news, S, ?_, elems_snoc hS1 hl (hx _ _), fun k hk => Nat.lt_of_lt_of_le (h3 k hk) hle, ?_, fun _ => Iff.rfl⟩ ?_ (hR.mono (fun k hk => ⟨hk.1.1, ?_⟩))
  · rw [List.length_append]; exact ho
  · intro k hk
    rcases hat with e | ⟨k', e, hk'⟩
    · rw [e] at hk; exact h4 k hk
    · rw [e] at hk
      injection hk with hk
      subst hk
      intro hs'
      have := h3 _ hs'
      omega
  · rintro k (hk | hk)
    · rcases hat with e | ⟨k', e, hk'⟩
      · rw [e] at hk; exact hG k ((h5 k).2 (.inl hk))
      · rw [e] at hk
        injection hk with hk
        subst hk
        exact .inr (by omega)
    · exact hG k ((h5 k).2 (.inr hk))
  · rintro (h6 | h6)
    · rcases hat with e | ⟨k', e, hk'⟩
      · rw [e] at h6; exact hk.1.2 ((h5 k).2 (.inl h6))
      · rw [e] at h6
        injection h6 with h6
        subst h6
        have := hk.2
        omega
    · exact hk.1.2 ((h5 k).2 (.inr h6))
theorem OwnR.open2 (i j : Nat) (h : St F0 w0 Rs w) (hi : Rs[i]? = some (OwnR T size E v xs)) (hj : (Rs.eraseIdx i)[j]? = some B) :
    ∃ cells, w.ownsRow 0 T size v xs.length cells ∧ ∀ v1 w1 news x, w1.ownsRow 0 T size v1 (xs.length + 1) (cells ++ news) → w.grownBy w1 v.ownBlock → (v1.ownBlock = v.ownBlock ∨ ∃ k, v1.ownBlock = some k ∧ w.heap.size ≤ k) → news.length = size →
      (∀ w G, B.P w G → E.P w G news x) → St F0 w0 (OwnR T size E v1 (xs ++ [x]) :: (Rs.eraseIdx i).eraseIdx j) w1 := by
  obtain ⟨f, hs⟩ := h
  obtain ⟨G, ⟨cells, S, h1, h2, h3, h4, h5⟩, hG, hr⟩ := Sep.pick i hi hs
  obtain ⟨H, hB, hH, hr2⟩ := Sep.pick j hj hr
  refine ⟨cells, h1, fun v1 w1 news x ho hg hat hl hx => ?_⟩
  have hne : ∀ k, S k → k < w.heap.size ∧ some k ≠ v.ownBlock := fun k hk => ⟨h3 k hk, fun e => h4 k e.symm hk⟩
  have hS1 : elems size E w1 S cells xs := elems_move h2 (fun k hk => hg.block k (hne k hk).1 (hne k hk).2)
  have hle := hg.size
  have f2 : Fr G w w1 := Fr.of_grown hg (fun k hk => (h5 k).2 (.inl hk))
  have hfs := f.size
  have hB1 : B.P w1 H := B.move hB (fun k hk => f2.block k (B.lt hB k hk) (hH k hk).2)
  refine ⟨f.trans f2 hG, ?_⟩
  have hR : Sep ((Rs.eraseIdx i).eraseIdx j) w1 (fun k => (((F0 k ∨ w0.heap.size ≤ k) ∧ ¬ G k) ∧ ¬ H k) ∧ k < w.heap.size) := hr2.inside.move (fun k hk _ => f2.block k hk.2 hk.1.1.2)
  have hlt1 := B.lt hB
  refine ⟨fun k => v1.ownBlock = some k ∨ (S k ∨ H k), ⟨cells ++ news, fun k => S k ∨ H k, ?_, elems_snoc (elems_mono hS1 (fun _ h => .inl h)) hl (E.mono (hx _ _ hB1) (fun _ h => .inr h)), ?_, ?_, fun _ => Iff.rfl⟩, ?_, hR.mono (fun k hk => ⟨hk.1.1.1, ?_⟩)⟩
  · rw [List.length_append]; exact ho
  · rintro k (hk | hk)
    · exact Nat.lt_of_lt_of_le (h3 k hk) hle
    · exact Nat.lt_of_lt_of_le (hlt1 k hk) hle
  · intro k hk
    rcases hat with e | ⟨k', e, hk'⟩
    · rw [e] at hk
      rintro (h6 | h6)
      · exact h4 k hk h6
      · exact (hH k h6).2 ((h5 k).2 (.inl hk))
    · rw [e] at hk
      injection hk with hk
      subst hk
      rintro (h6 | h6)
      · have := h3 _ h6; omega
      · have := hlt1 _ h6; omega
  · rintro k (hk | hk | hk)
    · rcases hat with e | ⟨k', e, hk'⟩
      · rw [e] at hk; exact hG k ((h5 k).2 (.inl hk))
      · rw [e] at hk
        injection hk with hk
        subst hk
        exact .inr (by omega)
    · exact hG k ((h5 k).2 (.inr hk))
    · exact (hH k hk).1
  · rintro (h6 | h6 | h6)
    · rcases hat with e | ⟨k', e, hk'⟩
      · rw [e] at h6; exact hk.1.1.2 ((h5 k).2 (.inl h6))
      · rw [e] at h6
        injection h6 with h6
        subst h6
        have := hk.2
        omega
    · exact hk.1.1.2 ((h5 k).2 (.inr h6))
    · exact hk.1.2 h6
end
end
section
variable {P : Program} (w : World)
end
end Go.Proofs.Ytlhgogjcaegehaa.Sl
namespace Go.Proofs.Ytlhgogjcaegehaa.Sl
open Go.RowKit
set_option linter.unusedVariables false
def intE : Rd Int := ⟨fun _ _ cs n => cs = [.int .i64 n], fun h _ => h, fun h _ => h⟩
def boolE : Rd Bool := ⟨fun _ _ cs n => cs = [.bool n], fun h _ => h, fun h _ => h⟩
def strE : Rd (List UInt8) := ⟨fun _ _ cs l => cs = [.string (bsOf l)], fun h _ => h, fun h _ => h⟩
structure Top where
  fName : List UInt8
  fParts : List Int
def Top_rd : Rd Top where
  P := fun w S cs x => ∃ (A0 : Option Addr) (c0 : Nat), cs = [.string (bsOf x.fName), .slice A0 x.fParts.length c0] ∧ (sliceRd 1 intE).P w S [.slice A0 x.fParts.length c0] x.fParts
  mono := fun ⟨A0, c0, e, h0⟩ k => ⟨A0, c0, e, (sliceRd 1 intE).mono h0 k⟩
  move := fun ⟨A0, c0, e, h0⟩ k => ⟨A0, c0, e, (sliceRd 1 intE).move h0 k⟩
structure Val where
  fProducer : Int
  fEpoch : Int
  fTimeout : Int
  fState : Int
  fTopics : List Top
  fUpdated : Int
  fStarted : Int
def Val_rd : Rd Val where
  P := fun w S cs x => ∃ (A0 : Option Addr) (c0 : Nat), cs = [.int .i64 x.fProducer, .int .i64 x.fEpoch, .int .i64 x.fTimeout, .int .i64 x.fState, .slice A0 x.fTopics.length c0, .int .i64 x.fUpdated, .int .i64 x.fStarted] ∧ (sliceRd 2 Top_rd).P w S [.slice A0 x.fTopics.length c0] x.fTopics
  mono := fun ⟨A0, c0, e, h0⟩ k => ⟨A0, c0, e, (sliceRd 2 Top_rd).mono h0 k⟩
  move := fun ⟨A0, c0, e, h0⟩ k => ⟨A0, c0, e, (sliceRd 2 Top_rd).move h0 k⟩
structure CursitortopChange where
  fID : List UInt8
  fDrop : Bool
  fV : Val
def CursitortopChange_rd : Rd CursitortopChange where
  P := fun w S cs x => ∃ (A0 : Option Addr) (c0 : Nat), cs = [.string (bsOf x.fID), .bool x.fDrop, .int .i64 x.fV.fProducer, .int .i64 x.fV.fEpoch, .int .i64 x.fV.fTimeout, .int .i64 x.fV.fState, .slice A0 x.fV.fTopics.length c0, .int .i64 x.fV.fUpdated, .int .i64 x.fV.fStarted] ∧ (sliceRd 2 Top_rd).P w S [.slice A0 x.fV.fTopics.length c0] x.fV.fTopics
  mono := fun ⟨A0, c0, e, h0⟩ k => ⟨A0, c0, e, (sliceRd 2 Top_rd).mono h0 k⟩
  move := fun ⟨A0, c0, e, h0⟩ k => ⟨A0, c0, e, (sliceRd 2 Top_rd).move h0 k⟩
structure JournalEntry where
  fKey : List UInt8
  fValue : Bl
def JournalEntry_rd : Rd JournalEntry where
  P := fun _ _ cs x => cs = [.string (bsOf x.fKey), .bool x.fValue.null, .string (bsOf x.fValue.data)]
  mono := fun h _ => h
  move := fun h _ => h
structure L15Known where
  fid : List UInt8
  fv : Val
structure VersionRow where
  fkind : Int
  fname : List UInt8
  fleast : Int
  fmost : Int
end Go.Proofs.Ytlhgogjcaegehaa.Sl
namespace Go.Proofs.Ytlhgogjcaegehaa.Sl
open Go.RowKit Go.Deep Go.ChangeShapes
set_option linter.unusedVariables false
def andRd {α : Type} (E : Rd α) (W : α → Prop) : Rd α := ⟨fun w S cs a => E.P w S cs a ∧ W a, fun h k => ⟨E.mono h.1 k, h.2⟩, fun h k => ⟨E.move h.1 k, h.2⟩⟩
section
variable {H : Type} (enc : TypeId × Value → H) (P : Program) {α β : Type}
def OpensW (t : TypeId) (E : Rd α) : Prop :=
  ∀ (w : World) (fuel : Nat) (cs : List Value) (x : DataW H × List MemPlace), DataW.trod enc P w 0 (fun _ => true) true fuel t cs = some x → (∀ m, m ∈ x.1.weights P t → m ≤ reachBytes) → ∃ a, E.P w (fun k => k < w.heap.size) cs a
def OpensWFs (off : Nat) (fs : List Field) (n : Nat) (E : Rd α) : Prop :=
  ∀ (w : World) (fuel : Nat) (cs : List Value) (xs : List (DataW H × List MemPlace)), cs.length = off + n → xs.length = fs.length →
    (∀ (i : Nat) (f : Field), fs[i]? = some f → DataW.trod enc P w 0 (fun _ => true) true fuel f.type ((cs.drop f.offset).take (P.cellsOf f.type)) = xs[i]?) →
    (∀ m, m ∈ DataW.weightsEach P (fs.map (·.type)) (xs.map (·.1)) → m ≤ reachBytes) → ∃ a, E.P w (fun k => k < w.heap.size) (cs.drop off) a
variable {enc P}
theorem opensW_weak {t : TypeId} {E : Rd α} {E' : Rd β} (f : α → β) (h : OpensW enc P t E) (hf : ∀ w S cs a, E.P w S cs a → E'.P w S cs (f a)) : OpensW enc P t E' := by
  intro w fuel cs x hx hw
  obtain ⟨a, ha⟩ := h w fuel cs x hx hw
  exact ⟨f a, hf _ _ _ _ ha⟩
theorem opensW_of {t : TypeId} {E : Rd α} {E' : Rd β} (f : α → β) (h : Opens enc P t E) (hf : ∀ w S cs a, E.P w S cs a → E'.P w S cs (f a)) : OpensW enc P t E' := by
  intro w fuel cs x hx hw
  obtain ⟨a, ha⟩ := h w fuel cs x hx
  exact ⟨f a, hf _ _ _ _ ha⟩
def wI (n : Int) : Prop := -9223372036854775808 ≤ n ∧ n ≤ 9223372036854775807
def wB (_ : Bool) : Prop := True
def wS (l : List UInt8) : Prop := l.length ≤ 140737488351232
def wL (W : α → Prop) (l : List α) : Prop := l.length ≤ 140737488351232 ∧ ∀ x, x ∈ l → W x
theorem op_i64 {t : TypeId} (ht : P.underlying t = some (.int .i64)) : OpensW enc P t (andRd intE wI) := opensW_of id (opens_int ht) (fun w S cs a h => ⟨h.1, Go.bounds_i64 h.2⟩)
theorem op_bool {t : TypeId} (ht : P.underlying t = some .bool) : OpensW enc P t (andRd boolE wB) := opensW_of id (opens_bool ht) (fun w S cs a h => ⟨h, trivial⟩)
theorem op_str {t : TypeId} (ht : P.underlying t = some .string) : OpensW enc P t (andRd strE wS) := by
  intro w fuel cs x h hw
  obtain ⟨s, rfl, rfl, hs⟩ := DataW.trod_string ht h
  have := hw s.data.toList.length (by simp [DataW.weights])
  exact ⟨s.data.toList, by cases s; simp [strE, bsOf], this⟩
theorem slice_and {size : Nat} {E : Rd α} {W : α → Prop} {w : World} {S : Nat → Prop} {cs : List Value} {l : List α} (h : (sliceRd size (andRd E W)).P w S cs l) : (sliceRd size E).P w S cs l ∧ ∀ x, x ∈ l → W x := by
  rcases h with ⟨h, rfl⟩ | ⟨a, cap, h1, h2, h3, h4, h5⟩
  · exact ⟨.inl ⟨h, rfl⟩, fun x hx => by simp at hx⟩
  · refine ⟨.inr ⟨a, cap, h1, h2, h3, h4, fun i x hx => ?_⟩, fun x hx => ?_⟩
    · obtain ⟨cs, k1, k2, k3⟩ := h5 i x hx
      exact ⟨cs, k1, k2, k3.1⟩
    · obtain ⟨i, hi⟩ := List.getElem?_of_mem hx
      obtain ⟨cs, k1, k2, k3⟩ := h5 i x hi
      exact k3.2
theorem weightsAll_mem {e : TypeId} {l : List (DataW H)} {d : DataW H} {m : Nat} (hd : d ∈ l) (hm : m ∈ d.weights P e) : m ∈ DataW.weightsAll P e l := by
  induction l with
  | nil => simp at hd
  | cons x l ih =>
    simp only [DataW.weightsAll, List.mem_append]
    rcases List.mem_cons.1 hd with rfl | h
    · exact .inl hm
    · exact .inr (ih h)
theorem op_slice {t e : TypeId} {E : Rd α} {W : α → Prop} (size bytes : Nat) (ht : P.underlying t = some (.slice e)) (hc : P.cellsOf e = size) (hb : P.bytesOf e = bytes) (hp : 0 < size) (hpb : 0 < bytes) (he : OpensW enc P e (andRd E W)) : OpensW enc P t (andRd (sliceRd size E) (wL W)) := by
  intro w fuel cs x h hw
  rcases open_slice ht h with ⟨rfl, _⟩ | ⟨a, len, cap, m, n, D, Pl, rfl, _, hl, hm, hmm, rfl, hx⟩
  · exact ⟨[], .inl ⟨rfl, rfl⟩, by simp, fun x hx => by simp at hx⟩
  have hlm : len ≤ m := by rw [hmm]; split <;> omega
  have hlen : len ≤ 140737488351232 := by
    have h1 := hw ((((List.range len).map D).length + ((List.range (m - len)).map fun j => D (len + j)).length) * P.bytesOf e) (by simp only [DataW.weights, ht]; exact List.mem_cons_self)
    rw [hb] at h1
    simp only [List.length_map, List.length_range] at h1
    have h2 : (len + (m - len)) * 1 ≤ (len + (m - len)) * bytes := Nat.mul_le_mul_left _ hpb
    have h3 : reachBytes = 140737488351232 := rfl
    omega
  have hwe : ∀ i, i < len → ∀ z, z ∈ (D i).weights P e → z ≤ reachBytes := by
    intro i hi z hz
    apply hw
    simp only [DataW.weights, ht]
    exact List.mem_cons_of_mem _ (List.mem_append.2 (.inl (weightsAll_mem (d := D i) (List.mem_map.2 ⟨i, List.mem_range.2 hi, rfl⟩) hz)))
  rw [hc] at hx
  have each : ∀ i : Fin len, ∃ y : α, ∃ cs, cs.length = size ∧ (∀ j, j < size → w.cell? (a.add (i.val * size + j)) = cs[j]?) ∧ (andRd E W).P w (fun k => k < w.heap.size) cs y := by
    intro i
    obtain ⟨cs', h1, h2⟩ := hx i.val (by have := i.isLt; omega)
    obtain ⟨_, h3, h4⟩ := World.cells?_some h1
    obtain ⟨y, hy⟩ := he _ _ _ _ h2 (hwe i.val i.isLt)
    refine ⟨y, cs', h3, fun j hj => ?_, hy⟩
    rw [← h4 j hj, add_add]
  obtain ⟨f, hf⟩ := Classical.axiomOfChoice each
  have hs : (sliceRd size (andRd E W)).P w (fun k => k < w.heap.size) [.slice (some a) len cap] ((List.finRange len).map f) := by
    refine .inr ⟨a, cap, by simp, by simpa using hl, hm, fun hz => ?_, ?_⟩
    · simp at hz
      obtain ⟨cs', k1, k2, k3⟩ := hf ⟨0, by omega⟩
      have := k2 0 hp
      rw [List.getElem?_eq_getElem (by omega)] at this
      simp only [World.cell?] at this
      rw [block_add] at this
      rcases Nat.lt_or_ge a.block w.heap.size with h | h
      · exact h
      · rw [Array.getElem?_eq_none h] at this
        simp at this
    · intro i x hx
      rw [List.getElem?_map, Option.map_eq_some_iff] at hx
      obtain ⟨j, hj, rfl⟩ := hx
      have e : j.val = i := by
        obtain ⟨h1, h2⟩ := List.getElem?_eq_some_iff.1 hj
        rw [← h2]
        simp
      rw [← e]
      exact hf j
  obtain ⟨k1, k2⟩ := slice_and hs
  exact ⟨_, k1, by simpa using hlen, k2⟩
theorem opensWFs_nil (off : Nat) : OpensWFs enc P off [] 0 unitRd := by
  intro w fuel cs xs hl _ _ _
  exact ⟨(), List.drop_of_length_le (by omega)⟩
theorem opensWFs_cons {off n : Nat} (m : Nat) {f : Field} {fs : List Field} {A : Rd α} {B : Rd β} (ho : f.offset = off) (hc : P.cellsOf f.type = m) (hA : OpensW enc P f.type A) (hB : OpensWFs enc P (off + m) fs n B) :
    OpensWFs enc P off (f :: fs) (m + n) (pairRd A B) := by
  intro w fuel cs xs hl hx h hw
  cases xs with
  | nil => simp at hx
  | cons x xs =>
    have h0 := h 0 f rfl
    rw [ho, hc] at h0
    simp only [List.map_cons, DataW.weightsEach, List.mem_append] at hw
    obtain ⟨a, ha⟩ := hA _ _ _ _ h0 (fun m hm => hw m (.inl hm))
    obtain ⟨b, hb⟩ := hB w fuel cs xs (by omega) (by simpa using hx) (fun i f' hf => by simpa using h (i + 1) f' (by simpa using hf)) (fun m hm => hw m (.inr hm))
    refine ⟨(a, b), (cs.drop off).take m, cs.drop (off + m), ?_, ha, hb⟩
    rw [← List.drop_drop, List.take_append_drop]
theorem opensW_struct {t : TypeId} {fs : Array Field} {n : Nat} {E : Rd α} (ht : P.underlying t = some (.struct fs)) (hc : P.cellsOf t = n) (h : OpensWFs enc P 0 fs.toList n E) : OpensW enc P t E := by
  intro w fuel cs x hx hw
  obtain ⟨xs, k, rfl, rfl, hl, hxl, hf⟩ := DataW.trod_struct ht hx
  simp only [DataW.weights, ht] at hw
  obtain ⟨a, ha⟩ := h w k cs xs (by omega) (by simpa using hxl) (fun i f hi => hf i f (by simpa using hi)) hw
  exact ⟨a, by simpa using ha⟩
theorem weights_in : ∀ {ts : List TypeId} {ds : List (DataW H)} (j : Nat) {t : TypeId} {d : DataW H} {m : Nat}, ts[j]? = some t → ds[j]? = some d → m ∈ d.weights P t → m ∈ DataW.weightsEach P ts ds
  | [], _, j, _, _, _, ht, _, _ => by simp at ht
  | _ :: _, [], j, _, _, _, _, hd, _ => by simp at hd
  | t :: ts, d :: ds, 0, _, _, _, ht, hd, hm => by
    obtain rfl : t = _ := by simpa using ht
    obtain rfl : d = _ := by simpa using hd
    simp only [DataW.weightsEach, List.mem_append]
    exact .inl hm
  | t :: ts, d :: ds, j + 1, _, _, _, ht, hd, hm => by
    simp only [DataW.weightsEach, List.mem_append]
    exact .inr (weights_in j (by simpa using ht) (by simpa using hd) hm)
theorem slice_cells {size : Nat} {E : Rd α} {w : World} {S : Nat → Prop} {cs : List Value} {l : List α} (h : (sliceRd size E).P w S cs l) : ∃ A c, cs = [.slice A l.length c] := by
  rcases h with ⟨h, rfl⟩ | ⟨a, cap, h, _⟩
  · exact ⟨none, 0, h⟩
  · exact ⟨_, _, h⟩
theorem opens_arg1 {t e : TypeId} {E : Rd α} {r : Reach} {b0 : Nat} {w : World} {v : Value} {d : DataW H} {p : List MemPlace} (ht : P.underlying t = some (.slice e)) (hval : Value.okWide P w r b0 t v) (h : OpensW enc P t E)
    (hv : DataW.Trod enc P w 0 (fun _ => true) true t v d p) (hw : ∀ m, m ∈ d.weights P t → m ≤ reachBytes) : ∃ a, E.P w (fun k => k < w.heap.size) [v] a := by
  obtain ⟨a0, len, cap, rfl⟩ := Go.WideShapes.okWide_slice ht hval
  obtain ⟨fuel, hf⟩ := hv
  exact h _ _ _ _ hf hw
theorem RX.reads_all {E : Rd α} {w : World} {cs : List Value} {a : α} (h : E.P w (fun k => k < w.heap.size) cs a) : (RX.of E cs a).reads w (fun _ => False) := ⟨_, h, fun k hk => ⟨fun h => h, hk⟩⟩
end
end Go.Proofs.Ytlhgogjcaegehaa.Sl
namespace Go.Proofs.Ytlhgogjcaegehaa.Sl
open Go.RowKit
set_option linter.unusedVariables false
def wf_Top (x : Top) : Prop := wS x.fName ∧ (wL wI) x.fParts
def wf_Val (x : Val) : Prop := wI x.fProducer ∧ wI x.fEpoch ∧ wI x.fTimeout ∧ wI x.fState ∧ (wL wf_Top) x.fTopics ∧ wI x.fUpdated ∧ wI x.fStarted
def wf_CursitortopChange (x : CursitortopChange) : Prop := wS x.fID ∧ wB x.fDrop ∧ wf_Val x.fV
end Go.Proofs.Ytlhgogjcaegehaa.Sl
namespace Go.Proofs.Ytlhgogjcaegehaa.Sl
open Go.RowKit
set_option linter.unusedVariables false
abbrev Env := List (Nat × Value)
def Env.get : Env → Nat → Option Value
  | [], _ => none
  | (k, v) :: e, t => match Nat.beq k t with | true => some v | false => Env.get e t
def Env.ev (e : Env) : Operand → Option Value
  | .tmp t => e.get t
  | .const v => some v
  | .func f => some (.func (.func f) #[] #[])
  | .global g => some (.pointer (some ⟨g, 0, none⟩))
def Env.evs (e : Env) : List Operand → Option (List Value)
  | [] => some []
  | x :: xs => match e.ev x with
    | some v => match Env.evs e xs with
      | some vs => some (v :: vs)
      | none => none
    | none => none
structure Has (n : Nat) (e : Env) (a : Act) : Prop where
  df : a.defers = []
  sz : a.tmps.size = n
  at_ : ∀ t v, e.get t = some v → a.tmps[t]? = some v
section
variable {n : Nat} {e e' : Env} {a : Act} {v : Value} {vs : List Value} {x : Operand} {xs : List Operand} {d : Nat}
theorem Has.put (h : Has n e a) (hd : Nat.blt d n = true) : Has n ((d, v) :: e) (a.put (some d) v) := by
  have hd' : d < n := by simpa [Nat.blt_eq] using hd
  refine ⟨h.df, by simp [Act.put, h.sz], fun t u hu => ?_⟩
  simp only [Env.get] at hu
  cases hb : Nat.beq d t with
  | true =>
    rw [hb] at hu
    obtain rfl := Nat.eq_of_beq_eq_true hb
    injection hu with hu
    subst hu
    simp [Act.put, h.sz, hd']
  | false =>
    rw [hb] at hu
    have hne : d ≠ t := Nat.ne_of_beq_eq_false hb
    have h2 := h.at_ t u hu
    simp only [Act.put]
    rw [Array.getElem?_setIfInBounds_ne hne]
    exact h2
theorem Has.put0 (h : Has n e a) : Has n e (a.put none v) := h
theorem Has.ev (h : Has n e a) (hx : e.ev x = some v) : a.eval x = v := by
  cases x with
  | tmp t =>
    have := h.at_ t v hx
    simp [Act.eval, this]
  | const u => simpa [Env.ev, Act.eval] using hx
  | func f => simpa [Env.ev, Act.eval] using hx
  | global g => simpa [Env.ev, Act.eval] using hx
theorem Has.evs (h : Has n e a) : ∀ {xs : List Operand} {vs : List Value}, e.evs xs = some vs → xs.map a.eval = vs
  | [], vs, hx => by simpa [Env.evs] using hx
  | x :: xs, vs, hx => by
    simp only [Env.evs] at hx
    cases h1 : e.ev x with
    | none => rw [h1] at hx; cases hx
    | some u =>
      cases h2 : e.evs xs with
      | none => rw [h1, h2] at hx; cases hx
      | some us =>
        rw [h1, h2] at hx
        injection hx with hx
        subst hx
        simp [h.ev h1, h.evs h2]
theorem Has.sub (h : Has n e a) (hs : ∀ t v, Env.get e' t = some v → e.get t = some v) : Has n e' a := ⟨h.df, h.sz, fun t v hv => h.at_ t v (hs t v hv)⟩
end
def Env.gets (e : Env) : List Nat → Option (List Value)
  | [] => some []
  | t :: ts => match e.get t with
    | some v => match Env.gets e ts with
      | some vs => some (v :: vs)
      | none => none
    | none => none
def Env.ks : Env → List Nat
  | [] => []
  | (t, _) :: r => t :: Env.ks r
def Env.vs : Env → List Value
  | [] => []
  | (_, v) :: r => v :: Env.vs r
def Sub (e' e : Env) : Prop := e.gets e'.ks = some e'.vs
theorem Sub.get : ∀ {e' e : Env}, Sub e' e → ∀ t v, Env.get e' t = some v → e.get t = some v
  | [], _, _, t, v, h => by simp [Env.get] at h
  | (k, u) :: r, e, hs, t, v, h => by
    simp only [Sub, Env.ks, Env.vs, Env.gets] at hs
    cases h1 : e.get k with
    | none => rw [h1] at hs; cases hs
    | some u' =>
      cases h2 : e.gets (Env.ks r) with
      | none => rw [h1, h2] at hs; cases hs
      | some us =>
        rw [h1, h2] at hs
        injection hs with hs
        injection hs with hs1 hs2
        subst hs1 hs2
        simp only [Env.get] at h
        cases hb : Nat.beq k t with
        | true =>
          rw [hb] at h
          obtain rfl := Nat.eq_of_beq_eq_true hb
          injection h with h
          subst h
          exact h1
        | false =>
          rw [hb] at h
          exact Sub.get (e' := r) h2 t v h
def selR : List Res → List Nat → Option (List Res)
  | _, [] => some []
  | Rs, i :: is => match Rs[i]? with
    | some A => match selR (Rs.eraseIdx i) is with
      | some l => some (A :: l)
      | none => none
    | none => none
def Sel (Rs : List Res) (is : List Nat) (l : List Res) : Prop := selR Rs is = some l
theorem Sel.sep : ∀ {is : List Nat} {Rs l : List Res} {w : World} {F : Nat → Prop}, Sel Rs is l → Sep Rs w F → Sep l w F
  | [], Rs, l, w, F, h, hs => by
    injection h with h
    subst h
    exact trivial
  | i :: is, Rs, l, w, F, h, hs => by
    simp only [Sel, selR] at h
    cases h1 : Rs[i]? with
    | none => rw [h1] at h; cases h
    | some A =>
      cases h2 : selR (Rs.eraseIdx i) is with
      | none => rw [h1, h2] at h; cases h
      | some l' =>
        rw [h1, h2] at h
        injection h with h
        subst h
        obtain ⟨G, k1, k2, k3⟩ := Sep.pick i h1 hs
        exact ⟨G, k1, k2, Sel.sep h2 k3⟩
theorem St.sel {F0 : Nat → Prop} {w0 w : World} {Rs l : List Res} (is : List Nat) (h : St F0 w0 Rs w) (hl : Sel Rs is l) : St F0 w0 l w := ⟨h.fr, hl.sep h.sep⟩
section
variable (P : Program) (n : Nat) (F0 : Nat → Prop) (w0 : World)
def Ex (e : Env) (S : World → Prop) (o : Oper) (v : Value) : Prop := ∀ a w, Has n e a → S w → (execOp a.eval o).run P w = .ok (.value v) w
def T (e : Env) (Rs : List Res) (c : Code) (Q : Exit → Act → World → Prop) : Prop := ∀ a w, Has n e a → St F0 w0 Rs w → c.wp P Q a w
def X (e : Env) (Rs : List Res) (x : Exit) (Q : Exit → Act → World → Prop) : Prop := ∀ a w, Has n e a → St F0 w0 Rs w → Q x a w
def TL (ops : Array Oper) (l : List Nat) (e : Env) (Rs : List Res) (Q : Exit → Act → World → Prop) : Prop := ∀ a w, Has n e a → St F0 w0 Rs w → wpOps P ops Q l a w
def Ef (e : Env) (Rs : List Res) (o : Oper) (R : Env → List Res → Prop) : Prop :=
  ∀ a w K Q, Has n e a → St F0 w0 Rs w → (∀ e' Rs', R e' Rs' → ∀ a' w', Has n e' a' → St F0 w0 Rs' w' → K a' w') → o.wp P a w K Q
def Wd (ops : Array Oper) (e : Env) (o : Oper) (b : Bool) : Prop := ∀ a, Has n e a → Region.wanted o (yielded ops a.tmps) = b
end
section
variable {P : Program} {n : Nat} {F0 : Nat → Prop} {w0 : World} {e e' : Env} {Rs Rs' : List Res} {Q : Exit → Act → World → Prop} {ops : Array Oper} {o : Oper} {v : Value} {l : List Nat}
theorem Wd.u {d : Option Tmp} {op : Op} {ty : TypeId} {pos : String} {af : Array Edge} : Wd n ops e ⟨d, op, ty, pos, af, none⟩ true := fun _ _ => rfl
theorem Wd.g {d : Option Tmp} {op : Op} {ty : TypeId} {pos : String} {af : Array Edge} {j t : Nat} {b want : Bool} (hj : (ops[j]?).bind (·.dst) = some t) (hv : e.get t = some (.bool b)) (hb : b = want) :
    Wd n ops e ⟨d, op, ty, pos, af, some (j, want)⟩ true := by
  intro a h
  subst hb
  simp only [Region.wanted, yielded, hj, Option.bind_some, h.at_ t _ hv, beq_self_eq_true]
theorem Wd.gn {d : Option Tmp} {op : Op} {ty : TypeId} {pos : String} {af : Array Edge} {j t : Nat} {b want : Bool} (hj : (ops[j]?).bind (·.dst) = some t) (hv : e.get t = some (.bool b)) (hb : b = !want) :
    Wd n ops e ⟨d, op, ty, pos, af, some (j, want)⟩ false := by
  intro a h
  subst hb
  simp only [Region.wanted, yielded, hj, Option.bind_some, h.at_ t _ hv]
  cases want <;> rfl
theorem wp_of_ex {o : Oper} {v : Value} {a : Act} {w : World} {K : Act → World → Prop} {S : World → Prop} (hx : Ex P n e S o v) (ha : Has n e a) (hw : S w) (hk : K (a.put o.dst v) w) : o.wp P a w K Q := by
  unfold Oper.wp
  rw [hx a w ha hw]
  exact hk
theorem TL.nil (h : X n F0 w0 e Rs .normal Q) : TL P n F0 w0 ops [] e Rs Q := fun a w ha hw => h a w ha hw
theorem TL.q {i d : Nat} {op : Op} {ty : TypeId} {pos : String} {af : Array Edge} {g : Option (Nat × Bool)} (ho : ops[i]? = some ⟨some d, op, ty, pos, af, g⟩) (hw : Wd n ops e ⟨some d, op, ty, pos, af, g⟩ true)
    (hx : Ex P n e (St F0 w0 Rs) ⟨some d, op, ty, pos, af, g⟩ v) (hd : Nat.blt d n = true) (h : TL P n F0 w0 ops l ((d, v) :: e) Rs Q) : TL P n F0 w0 ops (i :: l) e Rs Q := by
  intro a w ha hs
  rw [wpOps_cons, wpOp, ho]
  simp only [hw a ha, if_true]
  exact .inl (wp_of_ex hx ha hs (h _ _ (ha.put hd) hs))
theorem TL.no {i d : Nat} {op : Op} {ty : TypeId} {pos : String} {af : Array Edge} {g : Option (Nat × Bool)} (ho : ops[i]? = some ⟨some d, op, ty, pos, af, g⟩) (hw : Wd n ops e ⟨some d, op, ty, pos, af, g⟩ false)
    (hd : Nat.blt d n = true) (h : TL P n F0 w0 ops l ((d, undef) :: e) Rs Q) : TL P n F0 w0 ops (i :: l) e Rs Q := by
  intro a w ha hs
  rw [wpOps_cons, wpOp, ho]
  simp only [hw a ha]
  exact h _ _ (ha.put hd) hs
theorem TL.no0 {i : Nat} {op : Op} {ty : TypeId} {pos : String} {af : Array Edge} {g : Option (Nat × Bool)} (ho : ops[i]? = some ⟨none, op, ty, pos, af, g⟩) (hw : Wd n ops e ⟨none, op, ty, pos, af, g⟩ false)
    (h : TL P n F0 w0 ops l e Rs Q) : TL P n F0 w0 ops (i :: l) e Rs Q := by
  intro a w ha hs
  rw [wpOps_cons, wpOp, ho]
  simp only [hw a ha]
  exact h _ _ ha hs
theorem TL.ef {i : Nat} {R : Env → List Res → Prop} (ho : ops[i]? = some o) (hw : Wd n ops e o true) (hx : Ef P n F0 w0 e Rs o R) (h : ∀ e' Rs', R e' Rs' → TL P n F0 w0 ops l e' Rs' Q) : TL P n F0 w0 ops (i :: l) e Rs Q := by
  intro a w ha hs
  rw [wpOps_cons, wpOp, ho]
  simp only [hw a ha, if_true]
  exact .inl (hx a w _ _ ha hs (fun e' Rs' hr a' w' ha' hs' => h e' Rs' hr a' w' ha' hs'))
theorem T.region {id : Nat} {os : List Oper} (hl : List.range os.toArray.size = l) (h : TL P n F0 w0 os.toArray l e Rs Q) : T P n F0 w0 e Rs (.region id os.toArray false) Q := fun a w ha hs => wp_region (hl ▸ h a w ha hs)
theorem T.seq {x y : Code} (h : T P n F0 w0 e Rs x (Exit.then (y.wp P Q) Q)) : T P n F0 w0 e Rs (.seq x y) Q := fun a w ha hs => wp_seq (h a w ha hs)
theorem T.skip (h : X n F0 w0 e Rs .normal Q) : T P n F0 w0 e Rs .skip Q := fun a w ha hs => wp_skip (h a w ha hs)
theorem T.ret (h : X n F0 w0 e Rs .ret Q) : T P n F0 w0 e Rs .ret Q := fun a w ha hs => wp_ret (h a w ha hs)
theorem T.exit {i : Nat} (h : X n F0 w0 e Rs (.exit i) Q) : T P n F0 w0 e Rs (.exit i) Q := fun a w ha hs => wp_exit (h a w ha hs)
theorem T.goto {i : Nat} (h : X n F0 w0 e Rs (.goto i) Q) : T P n F0 w0 e Rs (.goto i) Q := fun a w ha hs => wp_goto (h a w ha hs)
theorem T.yes {c : Operand} {x y : Code} {b : Bool} (hc : e.ev c = some (.bool b)) (hb : b = true) (h : T P n F0 w0 e Rs x Q) : T P n F0 w0 e Rs (.cond c x y) Q := fun a w ha hs => wp_cond_true (by rw [ha.ev hc, hb]) (h a w ha hs)
theorem T.no {c : Operand} {x y : Code} {b : Bool} (hc : e.ev c = some (.bool b)) (hb : b = false) (h : T P n F0 w0 e Rs y Q) : T P n F0 w0 e Rs (.cond c x y) Q := fun a w ha hs => wp_cond_false (by rw [ha.ev hc, hb]) (h a w ha hs)
theorem T.block {id : Nat} {c : Code} (h : T P n F0 w0 e Rs c (Exit.inBlock id Q)) : T P n F0 w0 e Rs (.block id c) Q := fun a w ha hs => wp_block (h a w ha hs)
theorem T.loop {c : Code} (I : Nat → Env → List Res → Prop) (m : Nat) (h0 : I m e Rs) (h : ∀ m e Rs, I m e Rs → T P n F0 w0 e Rs c (Exit.then (fun a w => ∃ m' e' Rs', m' < m ∧ I m' e' Rs' ∧ Has n e' a ∧ St F0 w0 Rs' w) Q)) : T P n F0 w0 e Rs (.loop c) Q := by
  intro a w ha hs b k cs
  have key : ∀ m e Rs a w, I m e Rs → Has n e a → St F0 w0 Rs w → ∃ x a' w', Q x a' w' ∧ Arrives P (lone (b.at a (.code c :: .inLoop c :: k)) cs w) b k cs x a' w' := by
    intro m
    induction m using Nat.strongRecOn with
    | _ m ih =>
      intro e Rs a w hI ha hs
      obtain ⟨x, a₁, w₁, hq, harr⟩ := h m e Rs hI a w ha hs b (.inLoop c :: k) cs
      cases x with
      | normal =>
        obtain ⟨m', e', Rs', hlt, hI', ha', hs'⟩ := hq
        obtain ⟨x₂, a₂, w₂, hq₂, harr₂⟩ := ih m' hlt e' Rs' a₁ w₁ hI' ha' hs'
        exact ⟨x₂, a₂, w₂, hq₂, .of_steps (Steps.trans harr (.one step_inLoop)) harr₂⟩
      | exit id => exact ⟨_, a₁, w₁, hq, .pass (x := .inLoop c) rfl (fun _ _ => .inl (by simp)) harr⟩
      | goto l => exact ⟨_, a₁, w₁, hq, .pass (x := .inLoop c) rfl (fun _ _ => .inl (by simp)) harr⟩
      | ret => exact ⟨_, a₁, w₁, hq, .pass (x := .inLoop c) rfl (fun _ _ => .inl (by simp)) harr⟩
      | panic ch => exact ⟨_, a₁, w₁, hq, .pass (x := .inLoop c) rfl (fun _ _ => .inl (by simp)) harr⟩
      | outgrown => exact ⟨_, a₁, w₁, hq, .pass (x := .inLoop c) rfl (fun _ _ => .inl (by simp)) harr⟩
  obtain ⟨x, a', w', hq, harr⟩ := key m e Rs a w h0 ha hs
  exact ⟨x, a', w', hq, .of_steps (.one step_loop) harr⟩
theorem T.lp {c : Code} (I : Nat → Env → List Res → Prop) (m : Nat) {e0 : Env} {Rs0 : List Res} (is : List Nat) (h0 : I m e0 Rs0) (he : Sub e0 e) (hr : Sel Rs is Rs0) (h : ∀ m e Rs, I m e Rs → T P n F0 w0 e Rs c (Exit.then (fun a w => ∃ m' e' Rs', m' < m ∧ I m' e' Rs' ∧ Has n e' a ∧ St F0 w0 Rs' w) Q)) : T P n F0 w0 e Rs (.loop c) Q :=
  fun a w ha hs => T.loop I m h0 h a w (ha.sub he.get) (hs.sel is hr)
end
end Go.Proofs.Ytlhgogjcaegehaa.Sl
namespace Go.Proofs.Ytlhgogjcaegehaa.Sl
open Go.RowKit
set_option linter.unusedVariables false
def NoP (Q : Exit → Act → World → Prop) : Prop := ∀ c a w, ¬ Q (.panic c) a w
def waitsL (ops : Array Oper) (i : Nat) : List Nat → List Nat → List Nat
  | [], D => D
  | j :: js, D => waitsL ops i js (match ops[j]? with
    | some o => if o.after.any (fun e => Region.binds .any e && (Nat.beq e.on i || D.contains e.on)) then j :: D else D
    | none => D)
def waits (ops : Array Oper) (i : Nat) : List Nat := waitsL ops i (List.range ops.size) []
def freeT (ops : Array Oper) (listed : Array Bool) (i : Nat) : Bool :=
  match ops[i]? with
  | none => false
  | some oi => (waits ops i).all (fun j => !listed.getD j true && match ops[j]? with | some o => o.after.any (fun e => Region.binds .any e && (Nat.beq e.on i || (waits ops i).contains e.on)) | none => false) &&
    (List.range ops.size).all fun j => j == i || listed.getD j true || (waits ops i).contains j || match ops[j]? with
      | some oj => oi.apart ops oj
      | none => true
inductive Sch where
  | nil
  | q (i : Nat) (s : Sch)
  | e (i : Nat) (s : Sch)
  | br (i : Nat) (s m : Sch)
def Sch.heads : Sch → List Nat
  | .e i _ => [i]
  | .br i _ m => i :: m.heads
  | _ => []
def schedB (ops : Array Oper) : Bool → Nat → Sch → Array Bool → Bool
  | alt, k, .nil, listed => !alt && (k == 0) && (Region.ready .any ops listed).isEmpty
  | alt, 0, _, _ => false
  | alt, k + 1, .q i s, listed => !alt && (Region.ready .any ops listed).contains i && freeT ops listed i && schedB ops false k s (listed.setIfInBounds i true)
  | alt, k + 1, .e i s, listed => (alt || Region.ready .any ops listed == [i]) && schedB ops false k s (listed.setIfInBounds i true)
  | alt, k + 1, .br i s m, listed => (alt || Region.ready .any ops listed == i :: m.heads) && schedB ops false k s (listed.setIfInBounds i true) && schedB ops true (k + 1) m listed
def drawB (ops : Array Oper) (ord : Sch) : Bool := Region.noSelect ops && schedB ops false ops.size ord (Array.replicate ops.size false)
section
variable {P : Program} {ops : Array Oper} {Q : Exit → Act → World → Prop} {S : World → Prop}
theorem wpAnyH_firstT {i : Nat} {oi : Oper} {v : Value} (D : Nat → Prop) (hi : ops[i]? = some oi) (hsel : ∀ (j : Nat) (o : Oper) cs b, ops[j]? = some o → o.op ≠ .select cs b)
    (hQ : ∀ c a w, Q (.panic c) (a.put oi.dst v) w → Q (.panic c) a w) (hD : ∀ j oj, ops[j]? = some oj → D j → ∃ e ∈ oj.after, Region.binds .any e = true ∧ (e.on = i ∨ D e.on)) :
    ∀ (fuel : Nat) (listed : Array Bool) (a : Act) (w : World), (∀ j, D j → listed.getD j true = false) →
      (∀ j oj, ops[j]? = some oj → j ≠ i → listed.getD j true = false → ¬ D j → oi.apart ops oj = true) →
      i ∈ Region.ready .any ops listed → YieldsIf P ops S oi v a → S w →
      wpAnyH P .any ops Q S fuel (listed.setIfInBounds i true) (a.put oi.dst v) w → wpAnyH P .any ops Q S (fuel + 1) listed a w := by
  intro fuel
  induction fuel with
  | zero =>
    intro listed a w _ _ hr hy hS H
    refine ⟨fun h => (by rw [h] at hr; cases hr), fun j hj => ?_⟩
    by_cases hji : j = i
    · subst hji; exact hy.wpOp hi hS ⟨hS, H⟩
    · have := ready_mono hj hji
      rw [H.1] at this
      cases this
  | succ fuel ih =>
    intro listed a w hun hfree hr hy hS H
    refine ⟨fun h => (by rw [h] at hr; cases hr), fun j hj => ?_⟩
    by_cases hji : j = i
    · subst hji; exact hy.wpOp hi hS ⟨hS, H⟩
    · have h1 := H.2 j (ready_mono hj hji)
      obtain ⟨hjun, oj, hoj, hall⟩ := mem_ready.1 hj
      have hiun := (mem_ready.1 hr).1
      have hnot : ¬ D j := fun hd => by
        obtain ⟨e, he, hb, h2⟩ := hD j oj hoj hd
        have h3 := hall e he hb
        rcases h2 with h2 | h2
        · rw [h2] at h3
          rcases Nat.lt_or_ge i listed.size with h' | h'
          · simp [h'] at hiun h3; rw [hiun] at h3; cases h3
          · simp [Array.getElem?_eq_none h'] at h3
        · have h4 := hun _ h2
          rcases Nat.lt_or_ge e.on listed.size with h' | h'
          · simp [h'] at h4 h3; rw [h4] at h3; cases h3
          · simp [Array.getElem?_eq_none h'] at h4
      have h2 := wpOp_putIf hoj (hfree j oj hoj hji hjun hnot) (fun cs b => hsel i oi cs b hi) (fun cs b => hsel j oj cs b hoj) hQ hy h1
      have hun' : ∀ k, D k → (listed.setIfInBounds j true).getD k true = false := fun k hk => by
        have hjk : j ≠ k := fun e => hnot (e ▸ hk)
        rw [getD_set_ne true hjk]
        exact hun k hk
      have hfree' : ∀ k ok, ops[k]? = some ok → k ≠ i → (listed.setIfInBounds j true).getD k true = false → ¬ D k → oi.apart ops ok = true := fun k ok hk hki hu hno => by
        refine hfree k ok hk hki ?_ hno
        by_cases hjk : j = k
        · subst hjk; exact hjun
        · rw [getD_set_ne true hjk] at hu; exact hu
      refine wpOp_mono (fun a' w' h3 => ⟨h3.2.1, ih (listed.setIfInBounds j true) a' w' hun' hfree' (ready_mono hr (Ne.symm hji)) h3.1 h3.2.1 ?_⟩) h2
      rw [Array.setIfInBounds_comm _ _ hji]
      exact h3.2.2
theorem wpAnyH_takeT {i : Nat} {oi : Oper} {v : Value} {fuel : Nat} {listed : Array Bool} {a : Act} {w : World} (hi : ops[i]? = some oi)
    (hs : Region.noSelect ops = true) (hf : freeT ops listed i = true) (hr : (Region.ready .any ops listed).contains i = true)
    (hQ : ∀ c a w, Q (.panic c) (a.put oi.dst v) w → Q (.panic c) a w) (hy : YieldsIf P ops S oi v a) (hS : S w)
    (h : wpAnyH P .any ops Q S fuel (listed.setIfInBounds i true) (a.put oi.dst v) w) : wpAnyH P .any ops Q S (fuel + 1) listed a w := by
  simp only [freeT, hi, Bool.and_eq_true, List.all_eq_true] at hf
  obtain ⟨h1, h2⟩ := hf
  refine wpAnyH_firstT (fun j => j ∈ waits ops i) hi (Region.noSelect_spec hs) hQ ?_ fuel listed a w ?_ ?_ (by simpa using hr) hy hS h
  · intro j oj hj hd
    have h3 := (h1 j hd).2
    simp only [hj, Array.any_eq_true] at h3
    obtain ⟨k, hk, h4⟩ := h3
    simp only [Bool.and_eq_true, Bool.or_eq_true, List.contains_iff_mem] at h4
    exact ⟨_, Array.getElem_mem hk, h4.1, h4.2.imp Nat.eq_of_beq_eq_true id⟩
  · intro j hd
    simpa using (h1 j hd).1
  · intro j oj hj hne hun hno
    have hlt : j < ops.size := (Array.getElem?_eq_some_iff.1 hj).1
    have h3 := h2 j (by simpa using hlt)
    simp only [hj, Bool.or_eq_true, beq_iff_eq, List.contains_iff_mem] at h3
    rcases h3 with ((h3 | h3) | h3) | h3
    · exact (hne h3).elim
    · rw [hun] at h3; cases h3
    · exact (hno h3).elim
    · exact h3
end
def wpO (P : Program) (ops : Array Oper) (Q : Exit → Act → World → Prop) : Sch → (World → Prop) → Act → World → Prop
  | .nil, _, a, w => Q .normal a w
  | .q i r, S, a, w => ∃ o v, ops[i]? = some o ∧ YieldsIf P ops S o v a ∧ wpO P ops Q r S (a.put o.dst v) w
  | .e i r, S, a, w => wpOp P ops Q i (fun a' w' => ∃ S' : World → Prop, S' w' ∧ (∀ w, S' w → S w) ∧ wpO P ops Q r S' a' w') a w
  | .br i r m, S, a, w => wpOp P ops Q i (fun a' w' => ∃ S' : World → Prop, S' w' ∧ (∀ w, S' w → S w) ∧ wpO P ops Q r S' a' w') a w ∧ wpO P ops Q m S a w
section
variable {P : Program} {ops : Array Oper} {Q : Exit → Act → World → Prop}
theorem wpAnyH_mono {S S' : World → Prop} (hS : ∀ w, S' w → S w) : ∀ (fuel : Nat) (listed : Array Bool) (a : Act) (w : World), wpAnyH P .any ops Q S' fuel listed a w → wpAnyH P .any ops Q S fuel listed a w
  | 0, _, _, _, h => h
  | fuel + 1, listed, a, w, h => ⟨h.1, fun i hi => wpOp_mono (fun a' w' h' => ⟨hS _ h'.1, wpAnyH_mono hS fuel _ a' w' h'.2⟩) (h.2 i hi)⟩
theorem wpO_sound (hs : Region.noSelect ops = true) (hQ : NoP Q) : ∀ (ord : Sch) (k : Nat) (S : World → Prop) (listed : Array Bool) (a : Act) (w : World), S w → wpO P ops Q ord S a w →
    (schedB ops false k ord listed = true → wpAnyH P .any ops Q S k listed a w) ∧
    (∀ k', k = k' + 1 → schedB ops true k ord listed = true → ∀ j ∈ ord.heads, wpOp P ops Q j (fun a' w' => S w' ∧ wpAnyH P .any ops Q S k' (listed.setIfInBounds j true) a' w') a w)
  | .nil, k, S, listed, a, w, hS, h => by
    refine ⟨fun hk => ?_, fun k' _ hk => by cases k <;> simp [schedB] at hk⟩
    have hk' : k = 0 ∧ Region.ready .any ops listed = [] := by cases k <;> simp [schedB] at hk <;> exact ⟨rfl, hk⟩
    rw [hk'.1]
    exact ⟨hk'.2, h⟩
  | .q i r, 0, S, listed, a, w, hS, h => ⟨fun hk => by simp [schedB] at hk, fun k' e => by omega⟩
  | .q i r, k + 1, S, listed, a, w, hS, h => by
    refine ⟨fun hk => ?_, fun k' _ hk => by simp [schedB] at hk⟩
    obtain ⟨o, v, ho, hy, h⟩ := h
    simp only [schedB, Bool.and_eq_true] at hk
    obtain ⟨⟨⟨_, h1⟩, h2⟩, h3⟩ := hk
    exact wpAnyH_takeT ho hs h2 h1 (fun c a' w' h' => (hQ _ _ _ h').elim) hy hS ((wpO_sound hs hQ r k S _ _ _ hS h).1 h3)
  | .e i r, 0, S, listed, a, w, hS, h => ⟨fun hk => by simp [schedB] at hk, fun k' e => by omega⟩
  | .e i r, k + 1, S, listed, a, w, hS, h => by
    have key : schedB ops false k r (listed.setIfInBounds i true) = true → wpOp P ops Q i (fun a' w' => S w' ∧ wpAnyH P .any ops Q S k (listed.setIfInBounds i true) a' w') a w := by
      intro h3
      refine wpOp_mono ?_ h
      rintro a' w' ⟨S', k1, k2, k3⟩
      exact ⟨k2 _ k1, wpAnyH_mono k2 _ _ _ _ ((wpO_sound hs hQ r k S' _ _ _ k1 k3).1 h3)⟩
    refine ⟨fun hk => ?_, fun k' e hk j hj => ?_⟩
    · simp only [schedB, Bool.false_or, Bool.and_eq_true, beq_iff_eq] at hk
      refine wpAnyH_all hk.1 (by simp) (fun j hj => ?_)
      obtain rfl : j = i := by simpa using hj
      exact key hk.2
    · obtain rfl : k' = k := by omega
      simp only [schedB, Bool.true_or, Bool.true_and] at hk
      obtain rfl : j = i := by simpa [Sch.heads] using hj
      exact key hk
  | .br i r m, 0, S, listed, a, w, hS, h => ⟨fun hk => by simp [schedB] at hk, fun k' e => by omega⟩
  | .br i r m, k + 1, S, listed, a, w, hS, h => by
    have key : schedB ops false k r (listed.setIfInBounds i true) = true → wpOp P ops Q i (fun a' w' => S w' ∧ wpAnyH P .any ops Q S k (listed.setIfInBounds i true) a' w') a w := by
      intro h3
      refine wpOp_mono ?_ h.1
      rintro a' w' ⟨S', k1, k2, k3⟩
      exact ⟨k2 _ k1, wpAnyH_mono k2 _ _ _ _ ((wpO_sound hs hQ r k S' _ _ _ k1 k3).1 h3)⟩
    have more := (wpO_sound hs hQ m (k + 1) S listed a w hS h.2).2
    refine ⟨fun hk => ?_, fun k' e hk j hj => ?_⟩
    · simp only [schedB, Bool.false_or, Bool.and_eq_true, beq_iff_eq] at hk
      refine wpAnyH_all hk.1.1 (by simp) (fun j hj => ?_)
      rcases List.mem_cons.1 hj with rfl | hj
      · exact key hk.1.2
      · exact more k rfl hk.2 j hj
    · obtain rfl : k' = k := by omega
      simp only [schedB, Bool.true_or, Bool.true_and, Bool.and_eq_true] at hk
      rcases List.mem_cons.1 (by simpa [Sch.heads] using hj : j ∈ i :: m.heads) with rfl | hj
      · exact key hk.1
      · exact more k' rfl hk.2 j hj
end
def TD (P : Program) (n : Nat) (F0 : Nat → Prop) (w0 : World) (ops : Array Oper) (l : Sch) (Rf : List Res) (e : Env) (Rs : List Res) (Q : Exit → Act → World → Prop) : Prop :=
  ∀ a w, Has n e a → St F0 w0 Rs w → wpO P ops Q l (St F0 w0 Rf) a w
section
variable {P : Program} {n : Nat} {F0 : Nat → Prop} {w0 : World} {e e' : Env} {Rs Rs' Rf Rf' : List Res} {Q : Exit → Act → World → Prop} {ops : Array Oper} {o : Oper} {v : Value} {l : Sch}
theorem T.draw {id : Nat} {os : List Oper} (ord : Sch) (is : List Nat) (hf : Sel Rs is Rf) (hm : P.follows .mixedOrders = true) (hQ : NoP Q) (hk : drawB os.toArray ord = true) (h : TD P n F0 w0 os.toArray ord Rf e Rs Q) :
    T P n F0 w0 e Rs (.region id os.toArray true) Q := by
  intro a w ha hs
  simp only [drawB, Bool.and_eq_true] at hk
  obtain ⟨h1, h3⟩ := hk
  refine wp_region_held (S := St F0 w0 Rf) hm ?_
  have hs' := hs.drew
  exact (wpO_sound h1 hQ ord _ (St F0 w0 Rf) _ a _ (hs'.sel is hf) (h a _ ha hs')).1 h3
theorem TD.br {i : Nat} {r m : Sch} (h : TD P n F0 w0 ops (.e i r) Rf e Rs Q) (k : TD P n F0 w0 ops m Rf e Rs Q) : TD P n F0 w0 ops (.br i r m) Rf e Rs Q := fun a w ha hs => ⟨h a w ha hs, k a w ha hs⟩
theorem TD.nil (h : X n F0 w0 e Rs .normal Q) : TD P n F0 w0 ops .nil Rf e Rs Q := fun a w ha hw => h a w ha hw
theorem TD.q {i d : Nat} {op : Op} {ty : TypeId} {pos : String} {af : Array Edge} {g : Option (Nat × Bool)} (ho : ops[i]? = some ⟨some d, op, ty, pos, af, g⟩) (hw : Wd n ops e ⟨some d, op, ty, pos, af, g⟩ true)
    (hx : Ex P n e (St F0 w0 Rf) ⟨some d, op, ty, pos, af, g⟩ v) (hd : Nat.blt d n = true) (h : TD P n F0 w0 ops l Rf ((d, v) :: e) Rs Q) : TD P n F0 w0 ops (.q i l) Rf e Rs Q :=
  fun a w ha hs => ⟨_, v, ho, .inl ⟨hw a ha, fun w' hw' => hx a w' ha hw'⟩, h _ _ (ha.put hd) hs⟩
theorem TD.no {i d : Nat} {op : Op} {ty : TypeId} {pos : String} {af : Array Edge} {g : Option (Nat × Bool)} (ho : ops[i]? = some ⟨some d, op, ty, pos, af, g⟩) (hw : Wd n ops e ⟨some d, op, ty, pos, af, g⟩ false)
    (hd : Nat.blt d n = true) (h : TD P n F0 w0 ops l Rf ((d, undef) :: e) Rs Q) : TD P n F0 w0 ops (.q i l) Rf e Rs Q :=
  fun a w ha hs => ⟨_, undef, ho, .inr ⟨hw a ha, rfl⟩, h _ _ (ha.put hd) hs⟩
theorem TD.no0 {i : Nat} {op : Op} {ty : TypeId} {pos : String} {af : Array Edge} {g : Option (Nat × Bool)} (ho : ops[i]? = some ⟨none, op, ty, pos, af, g⟩) (hw : Wd n ops e ⟨none, op, ty, pos, af, g⟩ false)
    (h : TD P n F0 w0 ops l Rf e Rs Q) : TD P n F0 w0 ops (.q i l) Rf e Rs Q :=
  fun a w ha hs => ⟨_, undef, ho, .inr ⟨hw a ha, rfl⟩, h _ _ ha hs⟩
theorem TD.ef {i : Nat} {R : Env → List Res → Prop} (ho : ops[i]? = some o) (hw : Wd n ops e o true) (hx : Ef P n F0 w0 e Rs o R)
    (h : ∀ e' Rs', R e' Rs' → ∃ Rf', (∀ w, St F0 w0 Rs' w → St F0 w0 Rf' w) ∧ (∀ w, St F0 w0 Rf' w → St F0 w0 Rf w) ∧ TD P n F0 w0 ops l Rf' e' Rs' Q) : TD P n F0 w0 ops (.e i l) Rf e Rs Q := by
  intro a w ha hs
  simp only [wpO, wpOp, ho]
  rw [if_pos (hw a ha)]
  refine .inl (hx a w _ _ ha hs (fun e' Rs' hr a' w' ha' hs' => ?_))
  obtain ⟨Rf', h1, h2, h3⟩ := h e' Rs' hr
  exact ⟨St F0 w0 Rf', h1 _ hs', h2, h3 a' w' ha' hs'⟩
theorem TD.noe {i d : Nat} {op : Op} {ty : TypeId} {pos : String} {af : Array Edge} {g : Option (Nat × Bool)} (ho : ops[i]? = some ⟨some d, op, ty, pos, af, g⟩) (hw : Wd n ops e ⟨some d, op, ty, pos, af, g⟩ false)
    (hd : Nat.blt d n = true) (is : List Nat) (hf : Sel Rs is Rf) (h : TD P n F0 w0 ops l Rf ((d, undef) :: e) Rs Q) : TD P n F0 w0 ops (.e i l) Rf e Rs Q := by
  intro a w ha hs
  simp only [wpO, wpOp, ho, hw a ha]
  exact ⟨St F0 w0 Rf, hs.sel is hf, fun _ h => h, h _ _ (ha.put hd) hs⟩
theorem TD.ny {i d : Nat} {op : Op} {ty : TypeId} {pos : String} {af : Array Edge} {g : Option (Nat × Bool)} (ho : ops[i]? = some ⟨some d, op, ty, pos, af, g⟩) (hw : Wd n ops e ⟨some d, op, ty, pos, af, g⟩ true)
    (hx : Ex P n e (St F0 w0 Rs) ⟨some d, op, ty, pos, af, g⟩ v) (hd : Nat.blt d n = true) (is : List Nat) (hf : Sel Rs is Rf) (h : TD P n F0 w0 ops l Rf ((d, v) :: e) Rs Q) : TD P n F0 w0 ops (.e i l) Rf e Rs Q := by
  intro a w ha hs
  simp only [wpO, wpOp, ho]
  rw [if_pos (hw a ha)]
  exact .inl (wp_of_ex hx ha hs ⟨St F0 w0 Rf, hs.sel is hf, fun _ h => h, h _ _ (ha.put hd) hs⟩)
variable {id j : Nat} {y c : Code} {K : Act → World → Prop}
theorem X.seq (h : T P n F0 w0 e Rs y Q) : X n F0 w0 e Rs .normal (Exit.then (y.wp P Q) Q) := h
theorem X.blk (h : X n F0 w0 e Rs .normal Q) : X n F0 w0 e Rs .normal (Exit.inBlock id Q) := h
theorem X.ex (h : X n F0 w0 e Rs .normal Q) : X n F0 w0 e Rs (.exit id) (Exit.inBlock id Q) := fun a w ha hs => by
  show (if id = id then Q .normal a w else _)
  rw [if_pos rfl]
  exact h a w ha hs
theorem X.rs (h : X n F0 w0 e Rs .ret Q) : X n F0 w0 e Rs .ret (Exit.then K Q) := h
theorem X.rb (h : X n F0 w0 e Rs .ret Q) : X n F0 w0 e Rs .ret (Exit.inBlock id Q) := h
theorem X.exs (h : X n F0 w0 e Rs (.exit j) Q) : X n F0 w0 e Rs (.exit j) (Exit.then K Q) := h
theorem X.back {I : Nat → Env → List Res → Prop} {m m' : Nat} (is : List Nat) (hm : m' < m) (hI : I m' e' Rs') (he : Sub e' e) (hr : Sel Rs is Rs') :
    X n F0 w0 e Rs .normal (Exit.then (fun a w => ∃ m' e' Rs', m' < m ∧ I m' e' Rs' ∧ Has n e' a ∧ St F0 w0 Rs' w) Q) :=
  fun a w ha hs => ⟨m', e', Rs', hm, hI, ha.sub he.get, hs.sel is hr⟩
theorem T.re (is : List Nat) (he : Sub e' e) (hr : Sel Rs is Rs') (h : T P n F0 w0 e' Rs' c Q) : T P n F0 w0 e Rs c Q := fun a w ha hs => h a w (ha.sub he.get) (hs.sel is hr)
def JQ (n : Nat) (F0 : Nat → Prop) (w0 : World) (R : Env → List Res → Prop) : Exit → Act → World → Prop
  | .normal, a, w => ∃ e Rs, R e Rs ∧ Has n e a ∧ St F0 w0 Rs w
  | _, _, _ => False
theorem np_jq {R : Env → List Res → Prop} : NoP (JQ n F0 w0 R) := fun _ _ _ h => h
theorem T.join (R : Env → List Res → Prop) (h : T P n F0 w0 e Rs c (JQ n F0 w0 R)) (k : ∀ e' Rs', R e' Rs' → X n F0 w0 e' Rs' .normal Q) : T P n F0 w0 e Rs c Q := by
  intro a w ha hs
  refine wp_mono (h a w ha hs) ?_
  intro x a' w' hx
  cases x <;> first | exact hx.elim | skip
  obtain ⟨e', Rs', hR, ha', hs'⟩ := hx
  exact k e' Rs' hR a' w' ha' hs'
theorem X.jn {R : Env → List Res → Prop} (is : List Nat) (hR : R e' Rs') (he : Sub e' e) (hr : Sel Rs is Rs') : X n F0 w0 e Rs .normal (JQ n F0 w0 R) := fun a w ha hs => ⟨e', Rs', hR, ha.sub he.get, hs.sel is hr⟩
theorem T.nilrow {α : Type} (T' : TypeId) (size : Nat) (E : Rd α) (h : T P n F0 w0 e (OwnR T' size E (.slice none 0 0) [] :: Rs) c Q) : T P n F0 w0 e Rs c Q := fun a w ha hs => h a w ha (OwnR.nil T' size E hs)
theorem X.done0 {f : Func} {R : Value → Res → List Res → Prop} {A' : Res} {Ns : List Res} (is : List Nat) (hf : f.results = #[]) (hR : R (.tuple #[]) A' Ns) (hr : Sel Rs is (A' :: Ns)) {x : Exit} (hx : x = .ret ∨ x = .normal) :
    X n F0 w0 e Rs x (bodyPost P f (Post R F0 w0)) := by
  intro a w ha hs
  have h : bodyPost P f (Post R F0 w0) .ret a w := ⟨ha.df, .tuple #[], by
    rw [results_eq, hf]
    simp, _, A', Ns, rfl, hR, hs.sel is hr⟩
  rcases hx with rfl | rfl <;> exact h
end
theorem NoP.seq {Q : Exit → Act → World → Prop} {K : Act → World → Prop} (h : NoP Q) : NoP (Exit.then K Q) := h
theorem NoP.blk {Q : Exit → Act → World → Prop} {i : Nat} (h : NoP Q) : NoP (Exit.inBlock i Q) := h
theorem np_post {P : Program} {f : Func} {F0 : Nat → Prop} {w0 : World} {R : Value → Res → List Res → Prop} : NoP (bodyPost P f (Post R F0 w0)) := by
  rintro c a w ⟨_, v, A', Ns, h, _⟩
  cases h
theorem enterX {P : Program} {f n : Nat} {fn : Func} {c : Code} {args : Array Value} {Xr : RX} {A : Res} {R : Value → Res → List Res → Prop} {e : Env} (hf : P.funcs[f]? = some fn) (hb : fn.body = some c) (hn : fn.ntmps = n)
    (hl : Nat.ble args.size n = true) (he : ∀ t v, e.get t = some v → args[t]? = some v) (h : ∀ F w, Xr.reads w F → T P n F w e [A] c (bodyPost P fn (Post R F w))) : SpecX P f args Xr A R := by
  intro F w hA hX
  refine calls_of_wp hf hb ?_
  have hl' : args.size ≤ n := Nat.le_of_ble_eq_true hl
  refine h F w hX _ w ⟨rfl, ?_, fun t v hv => ?_⟩ (SpecX.start hA)
  · simp only [Array.size_append, Array.size_replicate, hn]
    omega
  · have h1 := he t v hv
    have h2 := (Array.getElem?_eq_some_iff.1 h1).1
    rw [Array.getElem?_append_left h2]
    exact h1
def argsE : Nat → List Value → Env
  | _, [] => []
  | k, v :: vs => (k, v) :: argsE (k + 1) vs
theorem argsE_get : ∀ (vs : List Value) (k t : Nat) (v : Value), Env.get (argsE k vs) t = some v → k ≤ t ∧ vs[t - k]? = some v
  | [], _, _, _, h => by simp [argsE, Env.get] at h
  | u :: vs, k, t, v, h => by
    simp only [argsE, Env.get] at h
    cases hb : Nat.beq k t with
    | true =>
      rw [hb] at h
      obtain rfl := Nat.eq_of_beq_eq_true hb
      exact ⟨Nat.le_refl _, by simpa using h⟩
    | false =>
      rw [hb] at h
      obtain ⟨h1, h2⟩ := argsE_get vs (k + 1) t v h
      refine ⟨by omega, ?_⟩
      obtain ⟨m, rfl⟩ : ∃ m, t = k + 1 + m := ⟨t - (k + 1), by omega⟩
      rw [show k + 1 + m - k = m + 1 by omega]
      rw [show k + 1 + m - (k + 1) = m by omega] at h2
      simpa using h2
theorem enterA {P : Program} {f n : Nat} {fn : Func} {c : Code} {args : List Value} {Xr : RX} {A : Res} {R : Value → Res → List Res → Prop} (hf : P.funcs[f]? = some fn) (hb : fn.body = some c) (hn : fn.ntmps = n)
    (hl : Nat.ble args.length n = true) (h : ∀ F w, Xr.reads w F → T P n F w (argsE 0 args) [A] c (bodyPost P fn (Post R F w))) : SpecX P f args.toArray Xr A R :=
  enterX hf hb hn (by simpa using hl) (fun t v hv => by simpa using (argsE_get args 0 t v hv).2) h
end Go.Proofs.Ytlhgogjcaegehaa.Sl
namespace Go.Proofs.Ytlhgogjcaegehaa.Sl
open Go.RowKit
set_option linter.unusedVariables false
set_option linter.unusedSimpArgs false
def ksame : IntKind → IntKind → Bool
  | .i8, .i8 | .i16, .i16 | .i32, .i32 | .i64, .i64 | .u8, .u8 | .u16, .u16 | .u32, .u32 | .u64, .u64 => true
  | _, _ => false
theorem ksame_eq {k k' : IntKind} (h : ksame k k' = true) : k = k' := by cases k <;> cases k' <;> first | rfl | cases h
def cmpV : BinOp → Int → Int → Option Bool
  | .eql, a, b => some (decide (a = b))
  | .neq, a, b => some (!decide (a = b))
  | .lss, a, b => some (decide (a < b))
  | .leq, a, b => some (decide (a ≤ b))
  | .gtr, a, b => some (decide (a > b))
  | .geq, a, b => some (decide (a ≥ b))
  | _, _, _ => none
def FTab := List (Nat × Nat × Nat)
def FTab.get : FTab → Nat → Nat → Option Nat
  | [], _, _ => none
  | (s, f, o) :: r, s', f' => match Nat.beq s s' with
    | true => match Nat.beq f f' with
      | true => some o
      | false => FTab.get r s' f'
    | false => FTab.get r s' f'
def FOK (P : Program) (s f o : Nat) : Prop := ∀ (a : Addr) (w : World), (Instr.fieldAt s (.pointer (some a)) f).run P w = .ok (.pointer (some (a.add o))) w
def FTab.OK (P : Program) : FTab → Prop
  | [] => True
  | (s, f, o) :: r => FOK P s f o ∧ FTab.OK P r
theorem FTab.OK.get {P : Program} : ∀ {t : FTab}, t.OK P → ∀ {s f o}, t.get s f = some o → FOK P s f o
  | [], _, s, f, o, h => by simp [FTab.get] at h
  | (s0, f0, o0) :: r, ⟨h1, h2⟩, s, f, o, h => by
    simp only [FTab.get] at h
    cases hb : Nat.beq s0 s with
    | true =>
      rw [hb] at h
      cases hc : Nat.beq f0 f with
      | true =>
        rw [hc] at h
        obtain rfl := Nat.eq_of_beq_eq_true hb
        obtain rfl := Nat.eq_of_beq_eq_true hc
        injection h with h
        subst h
        exact h1
      | false => rw [hc] at h; exact FTab.OK.get h2 h
    | false => rw [hb] at h; exact FTab.OK.get h2 h
theorem FOK.mk {P : Program} {s f : Nat} {fs : Array Field} {fl : Field} {k : Nat} (hu : ∀ w, (underlying s).run P w = .ok (.struct fs) w) (hf : fs[f]? = some fl) (hz : ∀ w, (sizeOf fl.type).run P w = .ok (k + 1) w) {o : Nat} (ho : fl.offset = o) : FOK P s f o := by
  intro a w
  subst ho
  simp [Instr.fieldAt, hu, hf, Instr.sureAddr, fieldPlace, hz]
def pureV (ft : FTab) (e : Env) : Op → Option Value
  | .move x => e.ev x
  | .assign x => e.ev x
  | .extract x i => match e.ev x with
    | some (.tuple vs) => vs[i]?
    | _ => none
  | .unOp .not _ x => match e.ev x with
    | some (.bool b) => some (.bool (!b))
    | _ => none
  | .nilCheck x => match e.ev x with
    | some (.pointer (some a)) => some (.pointer (some a))
    | _ => none
  | .fieldAddr s x f => match e.ev x with
    | some (.pointer (some ⟨g, o, none⟩)) => match ft.get s f with
      | some k => some (.pointer (some ⟨g, o + k, none⟩))
      | none => none
    | _ => none
  | .binOp op _ x y _ => match e.ev x with
    | some (.int k a) => match e.ev y with
      | some (.int k' b) => match ksame k k' with
        | true => match cmpV op a b with
          | some r => some (.bool r)
          | none => none
        | false => none
      | _ => none
    | _ => none
  | _ => none
theorem cmpV_run {P : Program} {w : World} {op : BinOp} {a b : Int} {r : Bool} (h : cmpV op a b = some r) : (Op.intCmp op a b).run P w = .ok (.bool r) w := by
  cases op <;> cases h <;> rfl
theorem cmp_run {P : Program} {w : World} {op : BinOp} {k : IntKind} {a b : Int} {r : Bool} {t : TypeId} {x y : Operand} (h : cmpV op a b = some r) :
    (do eqGuard op t x y (.int k a) (.int k b); binOp op t (.int k a) (.int k b) : Sem Value).run P w = .ok (.bool r) w := by
  have h1 := cmpV_run (P := P) (w := w) h
  cases op <;> cases h <;> simpa [eqGuard, binOp] using h1
theorem pureV_run {P : Program} {n : Nat} {ft : FTab} {e : Env} {S : World → Prop} {d : Option Tmp} {op : Op} {ty : TypeId} {pos : String} {af : Array Edge} {g : Option (Nat × Bool)} {v : Value} (hft : ft.OK P) (h : pureV ft e op = some v) : Ex P n e S ⟨d, op, ty, pos, af, g⟩ v := by
  intro a w ha _
  unfold pureV at h
  split at h
  · simp [execOp, ha.ev h]
  · simp [execOp, ha.ev h]
  · split at h
    · rename_i vs hx
      simp [execOp, ha.ev hx, Instr.extract, h]
    · cases h
  · split at h
    · rename_i b hx
      injection h with h
      subst h
      simp [execOp, ha.ev hx, Op.unary]
    · cases h
  · split at h
    · rename_i p hx
      injection h with h
      subst h
      simp [execOp, ha.ev hx]
    · cases h
  · split at h
    · rename_i g' o' hx
      split at h
      · rename_i k hk
        injection h with h
        subst h
        have h1 := hft.get hk ⟨g', o', none⟩ w
        have h2 : (⟨g', o', none⟩ : Addr).add k = ⟨g', o' + k, none⟩ := by unfold Addr.add; split <;> simp_all
        simp [execOp, ha.ev hx, h1, h2]
      · cases h
    · cases h
  · split at h
    · rename_i k x hx
      split at h
      · rename_i k' y hy
        split at h
        · rename_i hk
          split at h
          · rename_i r hr
            injection h with h
            subst h
            obtain rfl := ksame_eq hk
            have h1 := cmpV_run (P := P) (w := w) hr
            simp only [execOp, ha.ev hx, ha.ev hy, Sem.run_bind]
            have h2 := fun t x y => cmp_run (P := P) (w := w) (k := k) (t := t) (x := x) (y := y) hr
            simp only [Sem.run_bind] at h2
            rw [h2]
            rfl
          · cases h
        · cases h
      · cases h
    · cases h
  · cases h
def runV (ft : FTab) (n : Nat) (ops : Array Oper) : Env → List Nat → Option Env
  | e, [] => some e
  | e, i :: is => match ops[i]? with
    | some ⟨some d, op, _, _, _, none⟩ => match Nat.blt d n with
      | true => match pureV ft e op with
        | some v => runV ft n ops ((d, v) :: e) is
        | none => none
      | false => none
    | _ => none
section
variable {P : Program} {n : Nat} {F0 : Nat → Prop} {w0 : World} {e e' : Env} {Rs Rf : List Res} {Q : Exit → Act → World → Prop} {ops : Array Oper} {ft : FTab}
theorem TL.run_ (hft : ft.OK P) : ∀ (is : List Nat) {e e' : Env} {l : List Nat}, runV ft n ops e is = some e' → TL P n F0 w0 ops l e' Rs Q → TL P n F0 w0 ops (is ++ l) e Rs Q
  | [], e, e', l, h, k => by
    injection h with h
    subst h
    exact k
  | i :: is, e, e', l, h, k => by
    unfold runV at h
    split at h
    · rename_i ho
      split at h
      · rename_i hd
        split at h
        · rename_i v hv
          exact TL.q ho .u (pureV_run hft hv) hd (TL.run_ hft is h k)
        · cases h
      · cases h
    · cases h
def Sch.qs : List Nat → Sch → Sch
  | [], s => s
  | i :: is, s => .q i (Sch.qs is s)
theorem TD.run_ (hft : ft.OK P) : ∀ (is : List Nat) {e e' : Env} {l : Sch}, runV ft n ops e is = some e' → TD P n F0 w0 ops l Rf e' Rs Q → TD P n F0 w0 ops (Sch.qs is l) Rf e Rs Q
  | [], e, e', l, h, k => by
    injection h with h
    subst h
    exact k
  | i :: is, e, e', l, h, k => by
    unfold runV at h
    split at h
    · rename_i ho
      split at h
      · rename_i hd
        split at h
        · rename_i v hv
          exact TD.q ho .u (pureV_run hft hv) hd (TD.run_ hft is h k)
        · cases h
      · cases h
    · cases h
theorem TL.run (hft : ft.OK P) (is : List Nat) {l l' : List Nat} (hl : l = is ++ l') (h : runV ft n ops e is = some e') (k : TL P n F0 w0 ops l' e' Rs Q) : TL P n F0 w0 ops l e Rs Q := hl ▸ TL.run_ hft is h k
theorem TD.run (hft : ft.OK P) (is : List Nat) {l l' : Sch} (hl : l = Sch.qs is l') (h : runV ft n ops e is = some e') (k : TD P n F0 w0 ops l' Rf e' Rs Q) : TD P n F0 w0 ops l Rf e Rs Q := hl ▸ TD.run_ hft is h k
end
end Go.Proofs.Ytlhgogjcaegehaa.Sl
