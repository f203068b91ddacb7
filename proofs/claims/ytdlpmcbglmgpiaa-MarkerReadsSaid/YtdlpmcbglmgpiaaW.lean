/- Arguments opened: what is read, and that its numbers are in their ranges (no program in it). -/
import Derived.Test.YtdlpmcbglmgpiaaT
namespace Go.Proofs.Ytdlpmcbglmgpiaa.Sl
open Go.RowKit Go.Deep Go.ChangeShapes
set_option linter.unusedVariables false
def andRd {α : Type} (E : Rd α) (W : α → Prop) : Rd α := ⟨fun w S cs a => E.P w S cs a ∧ W a, fun h k => ⟨E.mono h.1 k, h.2⟩, fun h k => ⟨E.move h.1 k, h.2⟩⟩
section
variable {H : Type} (enc : TypeId × Value → H) (P : Program) {α β : Type}
/-- Cells of this type that a bounded argument leads to are read so. -/
def OpensW (t : TypeId) (E : Rd α) : Prop :=
  ∀ (w : World) (fuel : Nat) (cs : List Value) (x : DataW H × List MemPlace), DataW.trod enc P w 0 (fun _ => true) true fuel t cs = some x → (∀ m, m ∈ x.1.weights P t → m ≤ reachBytes) → ∃ a, E.P w (fun k => k < w.heap.size) cs a
def OpensWFs (off : Nat) (fs : List Field) (n : Nat) (E : Rd α) : Prop :=
  ∀ (w : World) (fuel : Nat) (cs : List Value) (xs : List (DataW H × List MemPlace)), cs.length = off + n → xs.length = fs.length →
    (∀ (i : Nat) (f : Field), fs[i]? = some f → DataW.trod enc P w 0 (fun _ => true) true fuel f.type ((cs.drop f.offset).take (P.cellsOf f.type)) = xs[i]?) →
    (∀ m, m ∈ DataW.weightsEach P (fs.map (·.type)) (xs.map (·.1)) → m ≤ reachBytes) → ∃ a, E.P w (fun k => k < w.heap.size) (cs.drop off) a
variable {enc P}
theorem opensW_weak {t : TypeId} {E : Rd α} {E' : Rd β} (f : α → β) (h : OpensW enc P t E) (hf : ∀ w S cs a, E.P w S cs a → E'.P w S cs (f a)) : OpensW enc P t E' := by
  intro w fuel cs x hx hw
  obtain ⟨a, ha⟩ := h w fuel cs x hx hw
  exact ⟨f a, hf _ _ _ _ ha⟩
theorem opensW_of {t : TypeId} {E : Rd α} {E' : Rd β} (f : α → β) (h : Opens enc P t E) (hf : ∀ w S cs a, E.P w S cs a → E'.P w S cs (f a)) : OpensW enc P t E' := by
  intro w fuel cs x hx hw
  obtain ⟨a, ha⟩ := h w fuel cs x hx
  exact ⟨f a, hf _ _ _ _ ha⟩
def wI (n : Int) : Prop := -9223372036854775808 ≤ n ∧ n ≤ 9223372036854775807
def wB (_ : Bool) : Prop := True
def wS (l : List UInt8) : Prop := l.length ≤ 140737488351232
def wU8 (n : Int) : Prop := 0 ≤ n ∧ n ≤ 255
def wU16 (n : Int) : Prop := 0 ≤ n ∧ n ≤ 65535
def wI32 (n : Int) : Prop := -2147483648 ≤ n ∧ n ≤ 2147483647
def wL (W : α → Prop) (l : List α) : Prop := l.length ≤ 140737488351232 ∧ ∀ x, x ∈ l → W x
theorem op_i64 {t : TypeId} (ht : P.underlying t = some (.int .i64)) : OpensW enc P t (andRd intE wI) := opensW_of id (opens_int ht) (fun w S cs a h => ⟨h.1, Go.bounds_i64 h.2⟩)
theorem op_i32 {t : TypeId} (ht : P.underlying t = some (.int .i32)) : OpensW enc P t (andRd i32E wI32) := opensW_of id (opens_int ht) (fun w S cs a h => ⟨h.1, Go.bounds_i32 h.2⟩)
theorem op_u8 {t : TypeId} (ht : P.underlying t = some (.int .u8)) : OpensW enc P t (andRd u8E wU8) := opensW_of id (opens_int ht) (fun w S cs a h => ⟨h.1, Go.bounds_u8 h.2⟩)
theorem op_bool {t : TypeId} (ht : P.underlying t = some .bool) : OpensW enc P t (andRd boolE wB) := opensW_of id (opens_bool ht) (fun w S cs a h => ⟨h, trivial⟩)
theorem op_str {t : TypeId} (ht : P.underlying t = some .string) : OpensW enc P t (andRd strE wS) := by
  intro w fuel cs x h hw
  obtain ⟨s, rfl, rfl, hs⟩ := DataW.trod_string ht h
  have := hw s.data.toList.length (by simp [DataW.weights])
  exact ⟨s.data.toList, by cases s; simp [strE, bsOf], this⟩
theorem slice_and {size : Nat} {E : Rd α} {W : α → Prop} {w : World} {S : Nat → Prop} {cs : List Value} {l : List α} (h : (sliceRd size (andRd E W)).P w S cs l) : (sliceRd size E).P w S cs l ∧ ∀ x, x ∈ l → W x := by
  rcases h with ⟨h, rfl⟩ | ⟨a, cap, h1, h2, h3, h4, h5⟩
  · exact ⟨.inl ⟨h, rfl⟩, fun x hx => by simp at hx⟩
  · refine ⟨.inr ⟨a, cap, h1, h2, h3, h4, fun i x hx => ?_⟩, fun x hx => ?_⟩
    · obtain ⟨cs, k1, k2, k3⟩ := h5 i x hx
      exact ⟨cs, k1, k2, k3.1⟩
    · obtain ⟨i, hi⟩ := List.getElem?_of_mem hx
      obtain ⟨cs, k1, k2, k3⟩ := h5 i x hi
      exact k3.2
theorem weightsAll_mem {e : TypeId} {l : List (DataW H)} {d : DataW H} {m : Nat} (hd : d ∈ l) (hm : m ∈ d.weights P e) : m ∈ DataW.weightsAll P e l := by
  induction l with
  | nil => simp at hd
  | cons x l ih =>
    simp only [DataW.weightsAll, List.mem_append]
    rcases List.mem_cons.1 hd with rfl | h
    · exact .inl hm
    · exact .inr (ih h)
theorem op_slice {t e : TypeId} {E : Rd α} {W : α → Prop} (size bytes : Nat) (ht : P.underlying t = some (.slice e)) (hc : P.cellsOf e = size) (hb : P.bytesOf e = bytes) (hp : 0 < size) (hpb : 0 < bytes) (he : OpensW enc P e (andRd E W)) : OpensW enc P t (andRd (sliceRd size E) (wL W)) := by
  intro w fuel cs x h hw
  rcases open_slice ht h with ⟨rfl, _⟩ | ⟨a, len, cap, m, n, D, Pl, rfl, _, hl, hm, hmm, rfl, hx⟩
  · exact ⟨[], .inl ⟨rfl, rfl⟩, by simp, fun x hx => by simp at hx⟩
  have hlm : len ≤ m := by rw [hmm]; split <;> omega
  have hlen : len ≤ 140737488351232 := by
    have h1 := hw ((((List.range len).map D).length + ((List.range (m - len)).map fun j => D (len + j)).length) * P.bytesOf e) (by simp only [DataW.weights, ht]; exact List.mem_cons_self)
    rw [hb] at h1
    simp only [List.length_map, List.length_range] at h1
    have h2 : (len + (m - len)) * 1 ≤ (len + (m - len)) * bytes := Nat.mul_le_mul_left _ hpb
    have h3 : reachBytes = 140737488351232 := rfl
    omega
  have hwe : ∀ i, i < len → ∀ z, z ∈ (D i).weights P e → z ≤ reachBytes := by
    intro i hi z hz
    apply hw
    simp only [DataW.weights, ht]
    exact List.mem_cons_of_mem _ (List.mem_append.2 (.inl (weightsAll_mem (d := D i) (List.mem_map.2 ⟨i, List.mem_range.2 hi, rfl⟩) hz)))
  rw [hc] at hx
  have each : ∀ i : Fin len, ∃ y : α, ∃ cs, cs.length = size ∧ (∀ j, j < size → w.cell? (a.add (i.val * size + j)) = cs[j]?) ∧ (andRd E W).P w (fun k => k < w.heap.size) cs y := by
    intro i
    obtain ⟨cs', h1, h2⟩ := hx i.val (by have := i.isLt; omega)
    obtain ⟨_, h3, h4⟩ := World.cells?_some h1
    obtain ⟨y, hy⟩ := he _ _ _ _ h2 (hwe i.val i.isLt)
    refine ⟨y, cs', h3, fun j hj => ?_, hy⟩
    rw [← h4 j hj, add_add]
  obtain ⟨f, hf⟩ := Classical.axiomOfChoice each
  have hs : (sliceRd size (andRd E W)).P w (fun k => k < w.heap.size) [.slice (some a) len cap] ((List.finRange len).map f) := by
    refine .inr ⟨a, cap, by simp, by simpa using hl, hm, fun hz => ?_, ?_⟩
    · simp at hz
      obtain ⟨cs', k1, k2, k3⟩ := hf ⟨0, by omega⟩
      have := k2 0 hp
      rw [List.getElem?_eq_getElem (by omega)] at this
      simp only [World.cell?] at this
      rw [block_add] at this
      rcases Nat.lt_or_ge a.block w.heap.size with h | h
      · exact h
      · rw [Array.getElem?_eq_none h] at this
        simp at this
    · intro i x hx
      rw [List.getElem?_map, Option.map_eq_some_iff] at hx
      obtain ⟨j, hj, rfl⟩ := hx
      have e : j.val = i := by
        obtain ⟨h1, h2⟩ := List.getElem?_eq_some_iff.1 hj
        rw [← h2]
        simp
      rw [← e]
      exact hf j
  obtain ⟨k1, k2⟩ := slice_and hs
  exact ⟨_, k1, by simpa using hlen, k2⟩
theorem opensWFs_nil (off : Nat) : OpensWFs enc P off [] 0 unitRd := by
  intro w fuel cs xs hl _ _ _
  exact ⟨(), List.drop_of_length_le (by omega)⟩
theorem opensWFs_cons {off n : Nat} (m : Nat) {f : Field} {fs : List Field} {A : Rd α} {B : Rd β} (ho : f.offset = off) (hc : P.cellsOf f.type = m) (hA : OpensW enc P f.type A) (hB : OpensWFs enc P (off + m) fs n B) :
    OpensWFs enc P off (f :: fs) (m + n) (pairRd A B) := by
  intro w fuel cs xs hl hx h hw
  cases xs with
  | nil => simp at hx
  | cons x xs =>
    have h0 := h 0 f rfl
    rw [ho, hc] at h0
    simp only [List.map_cons, DataW.weightsEach, List.mem_append] at hw
    obtain ⟨a, ha⟩ := hA _ _ _ _ h0 (fun m hm => hw m (.inl hm))
    obtain ⟨b, hb⟩ := hB w fuel cs xs (by omega) (by simpa using hx) (fun i f' hf => by simpa using h (i + 1) f' (by simpa using hf)) (fun m hm => hw m (.inr hm))
    refine ⟨(a, b), (cs.drop off).take m, cs.drop (off + m), ?_, ha, hb⟩
    rw [← List.drop_drop, List.take_append_drop]
theorem opensW_struct {t : TypeId} {fs : Array Field} {n : Nat} {E : Rd α} (ht : P.underlying t = some (.struct fs)) (hc : P.cellsOf t = n) (h : OpensWFs enc P 0 fs.toList n E) : OpensW enc P t E := by
  intro w fuel cs x hx hw
  obtain ⟨xs, k, rfl, rfl, hl, hxl, hf⟩ := DataW.trod_struct ht hx
  simp only [DataW.weights, ht] at hw
  obtain ⟨a, ha⟩ := h w k cs xs (by omega) (by simpa using hxl) (fun i f hi => hf i f (by simpa using hi)) hw
  exact ⟨a, by simpa using ha⟩
theorem weights_in : ∀ {ts : List TypeId} {ds : List (DataW H)} (j : Nat) {t : TypeId} {d : DataW H} {m : Nat}, ts[j]? = some t → ds[j]? = some d → m ∈ d.weights P t → m ∈ DataW.weightsEach P ts ds
  | [], _, j, _, _, _, ht, _, _ => by simp at ht
  | _ :: _, [], j, _, _, _, _, hd, _ => by simp at hd
  | t :: ts, d :: ds, 0, _, _, _, ht, hd, hm => by
    obtain rfl : t = _ := by simpa using ht
    obtain rfl : d = _ := by simpa using hd
    simp only [DataW.weightsEach, List.mem_append]
    exact .inl hm
  | t :: ts, d :: ds, j + 1, _, _, _, ht, hd, hm => by
    simp only [DataW.weightsEach, List.mem_append]
    exact .inr (weights_in j (by simpa using ht) (by simpa using hd) hm)
theorem slice_cells {size : Nat} {E : Rd α} {w : World} {S : Nat → Prop} {cs : List Value} {l : List α} (h : (sliceRd size E).P w S cs l) : ∃ A c, cs = [.slice A l.length c] := by
  rcases h with ⟨h, rfl⟩ | ⟨a, cap, h, _⟩
  · exact ⟨none, 0, h⟩
  · exact ⟨_, _, h⟩
theorem opens_arg1 {t e : TypeId} {E : Rd α} {r : Reach} {b0 : Nat} {w : World} {v : Value} {d : DataW H} {p : List MemPlace} (ht : P.underlying t = some (.slice e)) (hval : Value.okWide P w r b0 t v) (h : OpensW enc P t E)
    (hv : DataW.Trod enc P w 0 (fun _ => true) true t v d p) (hw : ∀ m, m ∈ d.weights P t → m ≤ reachBytes) : ∃ a, E.P w (fun k => k < w.heap.size) [v] a := by
  obtain ⟨a0, len, cap, rfl⟩ := Go.WideShapes.okWide_slice ht hval
  obtain ⟨fuel, hf⟩ := hv
  exact h _ _ _ _ hf hw
theorem opens_arg2 {t : TypeId} {fs : Array Field} {E : Rd α} {r : Reach} {b0 : Nat} {w : World} {v : Value} {d : DataW H} {p : List MemPlace} (ht : P.underlying t = some (.struct fs)) (hval : Value.okWide P w r b0 t v) (h : OpensW enc P t E)
    (hv : DataW.Trod enc P w 0 (fun _ => true) true t v d p) (hw : ∀ m, m ∈ d.weights P t → m ≤ reachBytes) : ∃ a cs, v = .agg cs ∧ E.P w (fun k => k < w.heap.size) cs.toList a := by
  obtain ⟨cs, rfl, _⟩ := Go.WideShapes.okWide_struct ht hval
  obtain ⟨fuel, hf⟩ := hv
  obtain ⟨a, ha⟩ := h _ _ _ _ hf hw
  exact ⟨a, cs, rfl, ha⟩
theorem RX.reads_all {E : Rd α} {w : World} {cs : List Value} {a : α} (h : E.P w (fun k => k < w.heap.size) cs a) : (RX.of E cs a).reads w (fun _ => False) := ⟨_, h, fun k hk => ⟨fun h => h, hk⟩⟩
end
end Go.Proofs.Ytdlpmcbglmgpiaa.Sl
