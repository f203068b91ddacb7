/- Slices as lists: read ones, and own ones, appended to (no program in it). -/
import Derived.Test.YtdlpmcbglmgpiaaG
import Derived.Maps.AppendAt
namespace Go.Proofs.Ytdlpmcbglmgpiaa.Sl
open Go.RowKit
set_option linter.unusedVariables false

/-- How a loop ends: the function is left, or it goes on behind it. -/
inductive Lp (R S : Type) where
  | ret (r : R)
  | go (s : S)
section
variable {α : Type}
/-- Cells, so many each, that say these, one behind the other. -/
def elems (size : Nat) (E : Rd α) (w : World) (S : Nat → Prop) : List Value → List α → Prop
  | cs, [] => cs = []
  | cs, x :: xs => (cs.take size).length = size ∧ E.P w S (cs.take size) x ∧ elems size E w S (cs.drop size) xs
variable {size : Nat} {E : Rd α} {w w' : World} {S S' : Nat → Prop}
theorem elems_mono : ∀ {xs : List α} {cs : List Value}, elems size E w S cs xs → (∀ k, S k → S' k) → elems size E w S' cs xs
  | [], _, h, _ => h
  | _ :: _, _, ⟨h0, h1, h2⟩, k => ⟨h0, E.mono h1 k, elems_mono h2 k⟩
theorem elems_move : ∀ {xs : List α} {cs : List Value}, elems size E w S cs xs → (∀ k, S k → w'.heap[k]? = w.heap[k]?) → elems size E w' S cs xs
  | [], _, h, _ => h
  | _ :: _, _, ⟨h0, h1, h2⟩, k => ⟨h0, E.move h1 k, elems_move h2 k⟩
theorem elems_length : ∀ {xs : List α} {cs : List Value}, elems size E w S cs xs → cs.length = xs.length * size
  | [], cs, h => by simp [show cs = [] from h]
  | x :: xs, cs, ⟨h0, _, h2⟩ => by
    have h3 := elems_length h2
    rw [List.length_take] at h0
    rw [List.length_drop] at h3
    rw [List.length_cons, Nat.add_mul, Nat.one_mul]
    omega
theorem elems_snoc : ∀ {xs : List α} {cs news : List Value} {x : α}, elems size E w S cs xs → news.length = size → E.P w S news x → elems size E w S (cs ++ news) (xs ++ [x])
  | [], cs, news, x, h, hl, hx => by
    obtain rfl : cs = [] := h
    exact ⟨by simp [hl], by rw [List.nil_append, List.take_of_length_le (by omega)]; exact hx, by rw [List.nil_append, List.drop_of_length_le (by omega)]; exact rfl⟩
  | y :: ys, cs, news, x, ⟨h0, h1, h2⟩, hl, hx => by
    have hle : size ≤ cs.length := by rw [List.length_take] at h0; omega
    refine ⟨?_, ?_, ?_⟩
    · rw [List.take_append_of_le_length hle]; exact h0
    · rw [List.take_append_of_le_length hle]; exact h1
    · rw [List.drop_append_of_le_length hle]; exact elems_snoc h2 hl hx
theorem elems_get : ∀ {xs : List α} {cs : List Value} {i : Nat} {x : α}, elems size E w S cs xs → xs[i]? = some x → ((cs.drop (i * size)).take size).length = size ∧ E.P w S ((cs.drop (i * size)).take size) x
  | [], _, i, _, _, hi => by simp at hi
  | y :: ys, cs, 0, x, ⟨h0, h1, _⟩, hi => by
    obtain rfl : y = x := by simpa using hi
    rw [Nat.zero_mul, List.drop_zero]
    exact ⟨h0, h1⟩
  | y :: ys, cs, i + 1, x, ⟨_, _, h2⟩, hi => by
    have h3 := elems_get (i := i) h2 (by simpa using hi)
    rw [List.drop_drop] at h3
    rwa [show size + i * size = (i + 1) * size by rw [Nat.add_mul]; omega] at h3
/-- An own row, and what its elements lead to. -/
def OwnR (T : TypeId) (size : Nat) (E : Rd α) (v : Value) (xs : List α) : Res where
  P := fun w G => ∃ cells S, w.ownsRow 0 T size v xs.length cells ∧ elems size E w S cells xs ∧ (∀ k, S k → k < w.heap.size) ∧ (∀ k, v.ownBlock = some k → ¬ S k) ∧ ∀ k, G k ↔ v.ownBlock = some k ∨ S k
  lt := by
    rintro w G ⟨cells, S, h1, h2, h3, h4, h5⟩ k hk
    rcases (h5 k).1 hk with h | h
    · exact row_lt h1 k h
    · exact h3 k h
  move := by
    rintro w w' G ⟨cells, S, h1, h2, h3, h4, h5⟩ hm
    refine ⟨cells, S, row_move h1 (fun k hk => hm k ((h5 k).2 (.inl hk))), elems_move h2 (fun k hk => hm k ((h5 k).2 (.inr hk))), fun k hk => ?_, h4, h5⟩
    have h6 := h3 k hk
    have h7 := hm k ((h5 k).2 (.inr hk))
    rw [Array.getElem?_eq_getElem h6] at h7
    exact (Array.getElem?_eq_some_iff.1 h7).1
theorem own_reads {T : TypeId} {v : Value} {xs : List α} (hp : 0 < size) : ∀ w G, (OwnR T size E v xs).P w G → (RX.of (sliceRd size E) [v] xs).P w G := by
  rintro w G ⟨cells, S, h1, h2, h3, h4, h5⟩
  have hb := h1
  rcases h1.2 with ⟨rfl, hn⟩ | ⟨g, cap, cur, rfl, hbg, hg, hnc, hcm, hcs, htake⟩
  · exact .inl ⟨rfl, List.eq_nil_of_length_eq_zero hn⟩
  · refine .inr ⟨⟨g, 0, none⟩, cap, rfl, hnc, hcm, fun _ => (h5 g).2 (.inl rfl), fun i x hx => ?_⟩
    obtain ⟨k1, k2⟩ := elems_get h2 hx
    have hi : i < xs.length := (List.getElem?_eq_some_iff.1 hx).1
    refine ⟨_, k1, fun j hj => ?_, E.mono k2 (fun k hk => (h5 k).2 (.inr hk))⟩
    have hadd : (⟨g, 0, none⟩ : Addr).add (i * size + j) = ⟨g, i * size + j, none⟩ := by unfold Addr.add; split <;> simp_all
    have hlt : i * size + j < xs.length * size := by
      have : (i + 1) * size ≤ xs.length * size := Nat.mul_le_mul_right _ (by omega)
      rw [Nat.add_mul] at this
      omega
    rw [hadd, hb.cellAt _ hlt, List.getElem?_take, if_pos hj, List.getElem?_drop]
theorem rd_reads {cs : List Value} {a : α} : ∀ w G, (RdR E cs a).P w G → (RX.of E cs a).P w G := fun _ _ h => h.1
theorem slice_nil : ∀ w S, (RX.of (sliceRd size E) [.slice none 0 0] []).P w S := fun _ _ => .inl ⟨rfl, rfl⟩
theorem slice_nil_reads {F : Nat → Prop} : (RX.of (sliceRd size E) [.slice none 0 0] []).reads w F := ⟨fun _ => False, .inl ⟨rfl, rfl⟩, fun _ h => h.elim⟩
theorem Src.nil {F0 : Nat → Prop} {w0 : World} {Rs : List Res} (i : Nat) : Src F0 w0 Rs w i (RX.of (sliceRd size E) [.slice none 0 0] []) := fun _ _ _ _ _ _ => slice_nil_reads
/-- The i-th element of what is read: its cells, and what they say. -/
theorem RX.elem {F : Nat → Prop} {A : Option Addr} {n c i : Nat} {l : List α} {x : α} (hp : 0 < size) (h : (RX.of (sliceRd size E) [.slice A n c] l).reads w F) (hx : l[i]? = some x) :
    ∃ g o : Nat, A = some ⟨g, o, none⟩ ∧ ∃ cs, cs.length = size ∧ (∀ j, j < size → w.cell? ⟨g, o + i * size + j, none⟩ = cs[j]?) ∧ (¬ F g ∧ g < w.heap.size) ∧ (RX.of E cs x).reads w F := by
  obtain ⟨S, h, hS⟩ := h
  rcases h with ⟨h, rfl⟩ | ⟨a, cap, h, _, _, hb, h2⟩
  · simp at hx
  · injection h with h
    injection h with h3 h4 h5
    subst h3
    have hl : 0 < l.length := by have := (List.getElem?_eq_some_iff.1 hx).1; omega
    obtain ⟨cs0, k1, k2, _⟩ := h2 0 l[0] (List.getElem?_eq_getElem hl)
    have k3 := k2 0 hp
    rw [List.getElem?_eq_getElem (by omega)] at k3
    have k4 : a.add (0 * size + 0) = a := by simp [Addr.add]
    rw [k4] at k3
    have k5 := spot_none k3
    obtain ⟨cs, k6, k7, k8⟩ := h2 i x hx
    refine ⟨a.block, a.off, by rw [← k5], cs, k6, fun j hj => ?_, hS _ (hb hl), S, k8, hS⟩
    rw [← k7 j hj, k5, WideShapes.add_plain, Nat.add_assoc]
/-- .. of which the address is known. -/
theorem RX.elem' {F : Nat → Prop} {g o n c i : Nat} {l : List α} {x : α} (hp : 0 < size) (h : (RX.of (sliceRd size E) [.slice (some ⟨g, o, none⟩) n c] l).reads w F) (hx : l[i]? = some x) :
    ∃ cs, cs.length = size ∧ (∀ j, j < size → w.cell? ⟨g, o + i * size + j, none⟩ = cs[j]?) ∧ (¬ F g ∧ g < w.heap.size) ∧ (RX.of E cs x).reads w F := by
  obtain ⟨g', o', h1, cs, h2⟩ := RX.elem hp h hx
  injection h1 with h1
  injection h1 with h3 h4
  subst h3 h4
  exact ⟨cs, h2⟩
theorem RX.len_le {F : Nat → Prop} {A : Option Addr} {n c : Nat} {l : List α} (h : (RX.of (sliceRd size E) [.slice A n c] l).reads w F) : l.length ≤ 9223372036854775807 := by
  obtain ⟨S, h, hS⟩ := h
  rcases h with ⟨h, rfl⟩ | ⟨a, cap, h, h1, h2, _⟩
  · simp
  · have : maxLen = 9223372036854775807 := rfl
    omega
/-- An old cell of what isn't turned, later. -/
theorem St.old2 {F0 : Nat → Prop} {w wr : World} {Rs : List Res} {v : Option Value} {g o : Nat} (h : St F0 w Rs wr) (hb : ¬ F0 g ∧ g < w.heap.size) (hc : w.cell? ⟨g, o, none⟩ = v) : wr.cell? ⟨g, o, none⟩ = v := by
  rw [← hc]
  have e := h.fr.block g hb.2 hb.1
  simp only [World.cell?, e]
theorem drop_cons {l : List α} {k : Nat} {x : α} (h : l[k]? = some x) : l.drop k = x :: l.drop (k + 1) := by
  obtain ⟨hk, rfl⟩ := List.getElem?_eq_some_iff.1 h
  exact List.drop_eq_getElem_cons hk
theorem RdR.nil {F0 : Nat → Prop} {w0 : World} {Rs : List Res} (size : Nat) (E : Rd α) (h : St F0 w0 Rs w) : St F0 w0 (RdR (sliceRd size E) [.slice none 0 0] [] :: Rs) w :=
  h.grow (Ns := [RdR (sliceRd size E) [.slice none 0 0] []]) (Fr.refl _ _) ⟨fun _ => False, ⟨.inl ⟨rfl, rfl⟩, fun _ h => h.elim⟩, fun _ h => h.elim, trivial⟩
theorem OwnR.shut {F0 : Nat → Prop} {w0 : World} {Rs : List Res} {T : TypeId} {v : Value} {xs : List α} (hp : 0 < size) (i : Nat) (h : St F0 w0 Rs w) (hi : Rs[i]? = some (OwnR T size E v xs)) : St F0 w0 (Rs.set i (RdR (sliceRd size E) [v] xs)) w :=
  h.weaken i hi (fun G hG => ⟨own_reads hp _ _ hG, fun k hk => (OwnR T size E v xs).lt hG k hk⟩)
/-- The form of a slice that is read. -/
theorem slice_form {v : Value} {l : List α} (h : (sliceRd size E).P w S [v] l) : ∃ A c, v = .slice A l.length c := by
  rcases h with ⟨h, rfl⟩ | ⟨a, cap, h, _⟩
  · injection h with h; exact ⟨none, 0, h⟩
  · injection h with h; exact ⟨_, _, h⟩
section
variable {F0 : Nat → Prop} {w0 w1 : World} {Rs : List Res} {T : TypeId} {v v1 : Value} {xs : List α} {B : Res}
theorem OwnR.nil (T : TypeId) (size : Nat) (E : Rd α) (h : St F0 w0 Rs w) : St F0 w0 (OwnR T size E (.slice none 0 0) [] :: Rs) w :=
  h.grow (Ns := [OwnR T size E (.slice none 0 0) []]) (Fr.refl _ _) ⟨fun _ => False, ⟨[], fun _ => False, World.ownsRow_nil _ _ _ _, rfl, fun _ h => h.elim, fun _ _ h => h, fun k => by simp [Value.ownBlock]⟩, fun _ h => h.elim, trivial⟩
theorem OwnR.lit (E : Rd α) (h : St F0 w0 Rs w) (cs : Array Value) (xs : List α) (hm : xs.length ≤ maxLen) (he : elems size E (w.alloc (.cells cs T)) (fun _ => False) cs.toList xs) :
    St F0 w0 (OwnR T size E (.slice (some ⟨w.heap.size, 0, none⟩) xs.length xs.length) xs :: Rs) (w.alloc (.cells cs T)) :=
  h.grow (Ns := [OwnR T size E (.slice (some ⟨w.heap.size, 0, none⟩) xs.length xs.length) xs]) (Fr.of_below ((Below.refl _ _).alloc (Nat.le_refl _) _))
    ⟨fun k => k = w.heap.size, ⟨cs.toList, fun _ => False, World.ownsRow_lit w cs xs.length (Nat.zero_le _) hm (by have := elems_length he; simpa using this), he, fun _ h => h.elim, fun _ _ h => h, fun k => by simp [Value.ownBlock, eq_comm]⟩, fun k hk => by omega, trivial⟩
/-- An own row, opened for an append of one element. -/
theorem OwnR.open_ (i : Nat) (h : St F0 w0 Rs w) (hi : Rs[i]? = some (OwnR T size E v xs)) :
    ∃ cells, w.ownsRow 0 T size v xs.length cells ∧ ∀ v1 w1 news x, w1.ownsRow 0 T size v1 (xs.length + 1) (cells ++ news) → w.grownBy w1 v.ownBlock → (v1.ownBlock = v.ownBlock ∨ ∃ k, v1.ownBlock = some k ∧ w.heap.size ≤ k) → news.length = size →
      (∀ w S, E.P w S news x) → St F0 w0 (Rs.set i (OwnR T size E v1 (xs ++ [x]))) w1 := by
  obtain ⟨f, hs⟩ := h
  obtain ⟨G, ⟨cells, S, h1, h2, h3, h4, h5⟩, hG, hr⟩ := Sep.pick i hi hs
  refine ⟨cells, h1, fun v1 w1 news x ho hg hat hl hx => ?_⟩
  have hst : St F0 w0 Rs w := ⟨f, hs⟩
  have hne : ∀ k, S k → k < w.heap.size ∧ some k ≠ v.ownBlock := fun k hk => ⟨h3 k hk, fun e => h4 k e.symm hk⟩
  have hS1 : elems size E w1 S cells xs := elems_move h2 (fun k hk => hg.block k (hne k hk).1 (hne k hk).2)
  have hle := hg.size
  have f2 : Fr G w w1 := Fr.of_grown hg (fun k hk => (h5 k).2 (.inl hk))
  refine ⟨f.trans f2 hG, ?_⟩
  have hfs := f.size
  have hR : Sep (Rs.eraseIdx i) w1 (fun k => ((F0 k ∨ w0.heap.size ≤ k) ∧ ¬ G k) ∧ k < w.heap.size) := hr.inside.move (fun k hk _ => f2.block k hk.2 hk.1.2)
  refine Sep.back (G := fun k => v1.ownBlock = some k ∨ S k) i hi ⟨cells ++ news, S, ?_, elems_snoc hS1 hl (hx _ _), fun k hk => Nat.lt_of_lt_of_le (h3 k hk) hle, ?_, fun _ => Iff.rfl⟩ ?_ (hR.mono (fun k hk => ⟨hk.1.1, ?_⟩))
  · rw [List.length_append]; exact ho
  · intro k hk
    rcases hat with e | ⟨k', e, hk'⟩
    · rw [e] at hk; exact h4 k hk
    · rw [e] at hk
      injection hk with hk
      subst hk
      intro hs'
      have := h3 _ hs'
      omega
  · rintro k (hk | hk)
    · rcases hat with e | ⟨k', e, hk'⟩
      · rw [e] at hk; exact hG k ((h5 k).2 (.inl hk))
      · rw [e] at hk
        injection hk with hk
        subst hk
        exact .inr (by omega)
    · exact hG k ((h5 k).2 (.inr hk))
  · rintro (h6 | h6)
    · rcases hat with e | ⟨k', e, hk'⟩
      · rw [e] at h6; exact hk.1.2 ((h5 k).2 (.inl h6))
      · rw [e] at h6
        injection h6 with h6
        subst h6
        have := hk.2
        omega
    · exact hk.1.2 ((h5 k).2 (.inr h6))
/-- .. of one whose cells lead to what the j-th of the others says. -/
theorem OwnR.open2 (i j : Nat) (h : St F0 w0 Rs w) (hi : Rs[i]? = some (OwnR T size E v xs)) (hj : (Rs.eraseIdx i)[j]? = some B) :
    ∃ cells, w.ownsRow 0 T size v xs.length cells ∧ ∀ v1 w1 news x, w1.ownsRow 0 T size v1 (xs.length + 1) (cells ++ news) → w.grownBy w1 v.ownBlock → (v1.ownBlock = v.ownBlock ∨ ∃ k, v1.ownBlock = some k ∧ w.heap.size ≤ k) → news.length = size →
      (∀ w G, B.P w G → E.P w G news x) → St F0 w0 (OwnR T size E v1 (xs ++ [x]) :: (Rs.eraseIdx i).eraseIdx j) w1 := by
  obtain ⟨f, hs⟩ := h
  obtain ⟨G, ⟨cells, S, h1, h2, h3, h4, h5⟩, hG, hr⟩ := Sep.pick i hi hs
  obtain ⟨H, hB, hH, hr2⟩ := Sep.pick j hj hr
  refine ⟨cells, h1, fun v1 w1 news x ho hg hat hl hx => ?_⟩
  have hne : ∀ k, S k → k < w.heap.size ∧ some k ≠ v.ownBlock := fun k hk => ⟨h3 k hk, fun e => h4 k e.symm hk⟩
  have hS1 : elems size E w1 S cells xs := elems_move h2 (fun k hk => hg.block k (hne k hk).1 (hne k hk).2)
  have hle := hg.size
  have f2 : Fr G w w1 := Fr.of_grown hg (fun k hk => (h5 k).2 (.inl hk))
  have hfs := f.size
  have hB1 : B.P w1 H := B.move hB (fun k hk => f2.block k (B.lt hB k hk) (hH k hk).2)
  refine ⟨f.trans f2 hG, ?_⟩
  have hR : Sep ((Rs.eraseIdx i).eraseIdx j) w1 (fun k => (((F0 k ∨ w0.heap.size ≤ k) ∧ ¬ G k) ∧ ¬ H k) ∧ k < w.heap.size) := hr2.inside.move (fun k hk _ => f2.block k hk.2 hk.1.1.2)
  have hlt1 := B.lt hB
  refine ⟨fun k => v1.ownBlock = some k ∨ (S k ∨ H k), ⟨cells ++ news, fun k => S k ∨ H k, ?_, elems_snoc (elems_mono hS1 (fun _ h => .inl h)) hl (E.mono (hx _ _ hB1) (fun _ h => .inr h)), ?_, ?_, fun _ => Iff.rfl⟩, ?_, hR.mono (fun k hk => ⟨hk.1.1.1, ?_⟩)⟩
  · rw [List.length_append]; exact ho
  · rintro k (hk | hk)
    · exact Nat.lt_of_lt_of_le (h3 k hk) hle
    · exact Nat.lt_of_lt_of_le (hlt1 k hk) hle
  · intro k hk
    rcases hat with e | ⟨k', e, hk'⟩
    · rw [e] at hk
      rintro (h6 | h6)
      · exact h4 k hk h6
      · exact (hH k h6).2 ((h5 k).2 (.inl hk))
    · rw [e] at hk
      injection hk with hk
      subst hk
      rintro (h6 | h6)
      · have := h3 _ h6; omega
      · have := hlt1 _ h6; omega
  · rintro k (hk | hk | hk)
    · rcases hat with e | ⟨k', e, hk'⟩
      · rw [e] at hk; exact hG k ((h5 k).2 (.inl hk))
      · rw [e] at hk
        injection hk with hk
        subst hk
        exact .inr (by omega)
    · exact hG k ((h5 k).2 (.inr hk))
    · exact (hH k hk).1
  · rintro (h6 | h6 | h6)
    · rcases hat with e | ⟨k', e, hk'⟩
      · rw [e] at h6; exact hk.1.1.2 ((h5 k).2 (.inl h6))
      · rw [e] at h6
        injection h6 with h6
        subst h6
        have := hk.2
        omega
    · exact hk.1.1.2 ((h5 k).2 (.inr h6))
    · exact hk.1.2 h6
end
end
section
variable {P : Program} (w : World)
/-- An append of one element of so many cells; the goal's world is that of the element's own block. -/
theorem wp_append_elem_at {ops : Array Oper} {rest : List Oper} {o : Oper} {a : Act} {Q : Exit → Act → World → Prop} (hgd : o.guard = none) (sl x : Operand) (t : TypeId)
    (ho : o.op = .call { callee := .builtin .append, args := #[sl, x], argTypes := #[t, t] })
    (e : TypeId) (z : Value) (size bytes : Nat) (hp : 0 < size) (ht : P.underlying t = some (.slice e)) (hinfo : (P.info? e).map (fun i => (i.zero, i.size, i.bytes)) = some (some z, size, bytes)) (hz : z.cells.size = size)
    (v : Value) (n : Nat) (xs : List Value) (hs : a.eval sl = v) (hown : w.ownsRow 0 e size v n xs) (ys : Array Value) (hys : ys.size = size) (hy : ∀ u ∈ ys.toList, u.oneCell' = true) (nb : Nat) (hnb : nb = w.heap.size) (hx : a.eval x = .slice (some ⟨nb, 0, none⟩) 1 1)
    (hbytes : (n + 1) * bytes ≤ 140737488355328) (hmax : n + 1 ≤ 140737488355328)
    (h : ∀ v' w', w'.ownsRow 0 e size v' (n + 1) (xs ++ ys.toList) → w.grownBy w' v.ownBlock → (v'.ownBlock = v.ownBlock ∨ ∃ k, v'.ownBlock = some k ∧ w.heap.size ≤ k) → wpList P ops Q rest (a.put o.dst v') w') :
    wpList P ops Q (o :: rest) a (w.alloc (.cells ys e)) := by
  subst hnb
  obtain ⟨i, hi, hzz⟩ := Option.map_eq_some_iff.1 hinfo
  simp only [Prod.mk.injEq] at hzz
  obtain ⟨hz0, hz1, hz2⟩ := hzz
  refine wpList_append_own_at (w.alloc (.cells ys e)) hgd sl x t ho 0 e i z size bytes ht hi hz0 hz1 hz2 hz hp v n xs hs (hown.alloc _) ⟨w.heap.size, 0, none⟩ 1 1 ys.toList hx (by simp [hys])
    (World.news_of_block (cs := ys) (t := e) (fr := (0, 0)) (heap_alloc_new w (.cells ys e))) hy (by simp only [maxLen]; omega) hbytes (Nat.zero_le _) ?_
  intro v' w' hown' hg _ hat
  refine h v' w' hown' (World.grownBy.trans (World.grownBy_alloc w _ _) hg) ?_
  rcases hat with h1 | h1
  · exact .inl h1
  · exact .inr ⟨_, h1, by rw [World.size_alloc]; omega⟩
end
end Go.Proofs.Ytdlpmcbglmgpiaa.Sl
