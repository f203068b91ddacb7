/- Reading: what cells say, by way of which blocks; and how an argument is opened (no program in it). -/
import Derived.Test.YtdlpmcbglmgpiaaRw
import Derived.ChangeArms
import Derived.ChangeSlices
import Derived.Deep.Slices
import Derived.OpenShut
import Derived.WideShapes
namespace Go.Proofs.Ytdlpmcbglmgpiaa.Sl
open Go.RowKit Go.Deep Go.ChangeShapes
set_option linter.unusedVariables false

/-- A reader: in this world, by way of these blocks, these cells say this. -/
structure Rd (α : Type) where
  P : World → (Nat → Prop) → List Value → α → Prop
  mono : ∀ {w : World} {S S' : Nat → Prop} {cs : List Value} {a : α}, P w S cs a → (∀ k, S k → S' k) → P w S' cs a
  move : ∀ {w w' : World} {S : Nat → Prop} {cs : List Value} {a : α}, P w S cs a → (∀ k, S k → w'.heap[k]? = w.heap[k]?) → P w' S cs a
/-- .. read in a world of which the old blocks are kept. -/
theorem Rd.below {α : Type} (E : Rd α) {w w' : World} {cs : List Value} {a : α} (h : E.P w (fun k => k < w.heap.size) cs a) (hb : Fr (fun _ => False) w w') : E.P w' (fun k => k < w.heap.size) cs a :=
  E.move h (fun k hk => hb.block k hk (fun h => h))
def intRd (q : IntKind) : Rd Int where
  P := fun _ _ cs n => cs = [.int q n] ∧ (Lit.int q n).wf = true
  mono := fun h _ => h
  move := fun h _ => h
def boolRd : Rd Bool where
  P := fun _ _ cs b => cs = [.bool b]
  mono := fun h _ => h
  move := fun h _ => h
def strRd : Rd (List UInt8) where
  P := fun _ _ cs l => cs = [.string ⟨l.toArray⟩] ∧ l.length ≤ maxLen
  mono := fun h _ => h
  move := fun h _ => h
def unitRd : Rd Unit where
  P := fun _ _ cs _ => cs = []
  mono := fun h _ => h
  move := fun h _ => h
def pairRd {α β : Type} (A : Rd α) (B : Rd β) : Rd (α × β) where
  P := fun w S cs x => ∃ c d, cs = c ++ d ∧ A.P w S c x.1 ∧ B.P w S d x.2
  mono := fun ⟨c, d, h1, h2, h3⟩ hS => ⟨c, d, h1, A.mono h2 hS, B.mono h3 hS⟩
  move := fun ⟨c, d, h1, h2, h3⟩ hS => ⟨c, d, h1, A.move h2 hS, B.move h3 hS⟩
def isoRd {α β : Type} (f : α → β) (A : Rd α) : Rd β where
  P := fun w S cs y => ∃ x, y = f x ∧ A.P w S cs x
  mono := fun ⟨x, h1, h2⟩ hS => ⟨x, h1, A.mono h2 hS⟩
  move := fun ⟨x, h1, h2⟩ hS => ⟨x, h1, A.move h2 hS⟩
/-- The cells of n things of so many cells, from a on. -/
def rowAt {α : Type} (size : Nat) (E : Rd α) (w : World) (S : Nat → Prop) (a : Addr) (l : List α) : Prop :=
  ∀ i x, l[i]? = some x → ∃ cs, cs.length = size ∧ (∀ j, j < size → w.cell? (a.add (i * size + j)) = cs[j]?) ∧ E.P w S cs x
def sliceRd {α : Type} (size : Nat) (E : Rd α) : Rd (List α) where
  P := fun w S cs l => (cs = [.slice none 0 0] ∧ l = []) ∨ ∃ a cap, cs = [.slice (some a) l.length cap] ∧ l.length ≤ cap ∧ cap ≤ maxLen ∧ (0 < l.length → S a.block) ∧ rowAt size E w S a l
  mono := by
    rintro w S S' cs l (h | ⟨a, cap, h1, h2, h3, h4, h5⟩) hS
    · exact .inl h
    · refine .inr ⟨a, cap, h1, h2, h3, fun h => hS _ (h4 h), fun i x hx => ?_⟩
      obtain ⟨cs, k1, k2, k3⟩ := h5 i x hx
      exact ⟨cs, k1, k2, E.mono k3 hS⟩
  move := by
    rintro w w' S cs l (h | ⟨a, cap, h1, h2, h3, h4, h5⟩) hS
    · exact .inl h
    · refine .inr ⟨a, cap, h1, h2, h3, h4, fun i x hx => ?_⟩
      obtain ⟨cs, k1, k2, k3⟩ := h5 i x hx
      refine ⟨cs, k1, fun j hj => ?_, E.move k3 hS⟩
      rw [← k2 j hj]
      have hb : (a.add (i * size + j)).block = a.block := block_add _ _
      have hl : 0 < l.length := by have := (List.getElem?_eq_some_iff.1 hx).1; omega
      simp only [World.cell?, hb, hS _ (h4 hl)]

theorem spot_none {w : World} {b : Addr} {v : Value} (h : w.cell? b = some v) : b = ⟨b.block, b.off, none⟩ := by
  obtain ⟨g, o, s⟩ := b
  cases s with
  | none => rfl
  | some s =>
    simp only [World.cell?] at h
    split at h <;> simp at h
/-- A slice that is read: its form, and the cells of each element, which are old. -/
theorem sliceRd_open {α : Type} {size : Nat} {E : Rd α} {w : World} {v : Value} {l : List α} (hp : 0 < size) (h : (sliceRd size E).P w (fun k => k < w.heap.size) [v] l) :
    ∃ a c, v = .slice a l.length c ∧ ∀ i x, l[i]? = some x → ∃ g o : Nat, a = some ⟨g, o, none⟩ ∧ g < w.heap.size ∧ ∃ cs, cs.length = size ∧ (∀ j, j < size → w.cell? ⟨g, o + i * size + j, none⟩ = cs[j]?) ∧ E.P w (fun k => k < w.heap.size) cs x := by
  rcases h with ⟨h, rfl⟩ | ⟨a, cap, h, _, _, hb, h2⟩
  · injection h with h
    subst h
    exact ⟨none, 0, rfl, fun i x hx => by simp at hx⟩
  · injection h with h
    subst h
    refine ⟨_, _, rfl, fun i x hx => ?_⟩
    have hl : 0 < l.length := by have := (List.getElem?_eq_some_iff.1 hx).1; omega
    obtain ⟨cs0, k1, k2, _⟩ := h2 0 l[0] (List.getElem?_eq_getElem hl)
    have k3 := k2 0 hp
    rw [List.getElem?_eq_getElem (by omega)] at k3
    have k4 : a.add (0 * size + 0) = a := by simp [Addr.add]
    rw [k4] at k3
    have k5 := spot_none k3
    obtain ⟨cs, k6, k7, k8⟩ := h2 i x hx
    refine ⟨a.block, a.off, by rw [← k5], hb hl, cs, k6, fun j hj => ?_, k8⟩
    rw [← k7 j hj, k5, WideShapes.add_plain, Nat.add_assoc]
/-- An old cell, later. -/
theorem St.old {w wr : World} {Rs : List Res} {v : Option Value} {p : Addr} (h : St (fun _ => False) w Rs wr) (hb : p.block < w.heap.size) (hc : w.cell? p = v) : wr.cell? p = v := by
  rw [← hc]
  have e := h.fr.block p.block hb (fun h => h)
  simp only [World.cell?, e]
section
variable {H : Type} (enc : TypeId × Value → H) (P : Program)
/-- Cells of this type that an argument leads to are read so. -/
def Opens {α : Type} (t : TypeId) (E : Rd α) : Prop :=
  ∀ (w : World) (fuel : Nat) (cs : List Value) (x : DataW H × List MemPlace), DataW.trod enc P w 0 (fun _ => true) true fuel t cs = some x → ∃ a, E.P w (fun k => k < w.heap.size) cs a
variable {enc P}
theorem opens_int {t : TypeId} {q : IntKind} (ht : P.underlying t = some (.int q)) : Opens enc P t (intRd q) := by
  intro w fuel cs x h
  obtain ⟨n, rfl, _, hw⟩ := DataW.trod_int ht h
  exact ⟨n, rfl, hw⟩
theorem opens_bool {t : TypeId} (ht : P.underlying t = some .bool) : Opens enc P t boolRd := by
  intro w fuel cs x h
  obtain ⟨b, rfl, _⟩ := DataW.trod_bool ht h
  exact ⟨b, rfl⟩
theorem opens_str {t : TypeId} (ht : P.underlying t = some .string) : Opens enc P t strRd := by
  intro w fuel cs x h
  obtain ⟨s, rfl, _, hs⟩ := DataW.trod_string ht h
  exact ⟨s.data.toList, by cases s; simp, by simpa using hs⟩
theorem opens_slice {α : Type} {t e : TypeId} {E : Rd α} (size : Nat) (ht : P.underlying t = some (.slice e)) (hc : P.cellsOf e = size) (hp : 0 < size) (he : Opens enc P e E) : Opens enc P t (sliceRd size E) := by
  intro w fuel cs x h
  rcases open_slice ht h with ⟨rfl, _⟩ | ⟨a, len, cap, m, n, D, Pl, rfl, _, hl, hm, hmm, _, hx⟩
  · exact ⟨[], .inl ⟨rfl, rfl⟩⟩
  have hlm : len ≤ m := by rw [hmm]; split <;> omega
  rw [hc] at hx
  have each : ∀ i : Fin len, ∃ y : α, ∃ cs, cs.length = size ∧ (∀ j, j < size → w.cell? (a.add (i.val * size + j)) = cs[j]?) ∧ E.P w (fun k => k < w.heap.size) cs y := by
    intro i
    obtain ⟨cs', h1, h2⟩ := hx i.val (by have := i.isLt; omega)
    obtain ⟨_, h3, h4⟩ := World.cells?_some h1
    obtain ⟨y, hy⟩ := he _ _ _ _ h2
    refine ⟨y, cs', h3, fun j hj => ?_, hy⟩
    rw [← h4 j hj, add_add]
  have hch := Classical.axiomOfChoice each
  obtain ⟨f, hf⟩ := hch
  · refine ⟨(List.finRange len).map f, .inr ⟨a, cap, by simp, by simpa using hl, hm, fun hz => ?_, ?_⟩⟩
    · simp at hz
      obtain ⟨cs', k1, k2, k3⟩ := hf ⟨0, by omega⟩
      have := k2 0 hp
      rw [List.getElem?_eq_getElem (by omega)] at this
      simp only [World.cell?] at this
      rw [block_add] at this
      rcases Nat.lt_or_ge a.block w.heap.size with h | h
      · exact h
      · rw [Array.getElem?_eq_none h] at this
        simp at this
    · intro i x hx
      rw [List.getElem?_map, Option.map_eq_some_iff] at hx
      obtain ⟨j, hj, rfl⟩ := hx
      have e : j.val = i := by
        obtain ⟨h1, h2⟩ := List.getElem?_eq_some_iff.1 hj
        rw [← h2]
        simp
      rw [← e]
      exact hf j
variable (enc P) in
def OpensFs {α : Type} (off : Nat) (fs : List Field) (n : Nat) (E : Rd α) : Prop :=
  ∀ (w : World) (fuel : Nat) (cs : List Value) (xs : List (DataW H × List MemPlace)), cs.length = off + n → xs.length = fs.length →
    (∀ (i : Nat) (f : Field), fs[i]? = some f → DataW.trod enc P w 0 (fun _ => true) true fuel f.type ((cs.drop f.offset).take (P.cellsOf f.type)) = xs[i]?) → ∃ a, E.P w (fun k => k < w.heap.size) (cs.drop off) a
theorem opensFs_nil (off : Nat) : OpensFs enc P off [] 0 unitRd := by
  intro w fuel cs xs hl _ _
  exact ⟨(), List.drop_of_length_le (by omega)⟩
theorem opensFs_cons {α β : Type} {off n : Nat} (m : Nat) {f : Field} {fs : List Field} {A : Rd α} {B : Rd β} (ho : f.offset = off) (hc : P.cellsOf f.type = m) (hA : Opens enc P f.type A) (hB : OpensFs enc P (off + m) fs n B) :
    OpensFs enc P off (f :: fs) (m + n) (pairRd A B) := by
  intro w fuel cs xs hl hx h
  cases xs with
  | nil => simp at hx
  | cons x xs =>
    have h0 := h 0 f rfl
    rw [ho, hc] at h0
    obtain ⟨a, ha⟩ := hA _ _ _ _ h0
    obtain ⟨b, hb⟩ := hB w fuel cs xs (by omega) (by simpa using hx) (fun i f' hf => by simpa using h (i + 1) f' (by simpa using hf))
    refine ⟨(a, b), (cs.drop off).take m, cs.drop (off + m), ?_, ha, hb⟩
    rw [← List.drop_drop, List.take_append_drop]
theorem opens_struct {α : Type} {t : TypeId} {fs : Array Field} {n : Nat} {E : Rd α} (ht : P.underlying t = some (.struct fs)) (hc : P.cellsOf t = n) (h : OpensFs enc P 0 fs.toList n E) : Opens enc P t E := by
  intro w fuel cs x hx
  obtain ⟨xs, k, rfl, _, hl, hxl, hf⟩ := DataW.trod_struct ht hx
  obtain ⟨a, ha⟩ := h w k cs xs (by omega) (by simpa using hxl) (fun i f hi => hf i f (by simpa using hi))
  exact ⟨a, by simpa using ha⟩
theorem opens_iso {α β : Type} {t : TypeId} {E : Rd α} (f : α → β) (h : Opens enc P t E) : Opens enc P t (isoRd f E) := by
  intro w fuel cs x hx
  obtain ⟨a, ha⟩ := h _ _ _ _ hx
  exact ⟨f a, a, rfl, ha⟩
/-- An argument. -/
theorem opens_arg {α : Type} {t : TypeId} {E : Rd α} (h : Opens enc P t E) {w : World} {v : Value} {d : DataW H} {p : List MemPlace} (hv : DataW.Trod enc P w 0 (fun _ => true) true t v d p) : ∃ a, E.P w (fun k => k < w.heap.size) v.cells.toList a := by
  obtain ⟨fuel, hf⟩ := hv
  exact h _ _ _ _ hf
/-- A slice as an argument. -/
theorem open_slice_arg {α : Type} {r : Reach} {b0 : Nat} {t e : TypeId} {E : Rd α} {w : World} {v : Value} {d : DataW H} {p : List MemPlace} (ht : P.underlying t = some (.slice e)) (hval : Value.okWide P w r b0 t v) (h : Opens enc P t E)
    (hv : DataW.Trod enc P w 0 (fun _ => true) true t v d p) : ∃ a, E.P w (fun k => k < w.heap.size) [v] a := by
  obtain ⟨a0, len, cap, rfl⟩ := Go.WideShapes.okWide_slice ht hval
  exact opens_arg h hv
end
end Go.Proofs.Ytdlpmcbglmgpiaa.Sl
