/- prefixWrites_holds: part 1. -/
import Derived.Laws.MakeOwn
import Derived.Laws.CopyRow
import Derived.Test.YtpiiopppbgpbpaaK0
namespace Go.Proofs.Ytpiiopppbgpbpaa.Sl
open Go.RowKit
set_option linter.unusedVariables false
section
variable {P : Program} {n : Nat} {F0 : Nat → Prop} {w0 : World} {e e' : Env} {Rs Rs' : List Res} {Q : Exit → Act → World → Prop} {c : Code} {d : Nat} {v v' : Value}
def JK (n : Nat) (F0 : Nat → Prop) (w0 : World) (R : Env → List Res → Prop) (a : Act) (w : World) : Prop := ∃ e Rs, R e Rs ∧ Has n e a ∧ St F0 w0 Rs w
theorem T.jq (R : Env → List Res → Prop) (h : T P n F0 w0 e Rs c (Exit.then (JK n F0 w0 R) Q)) (k : ∀ e' Rs', R e' Rs' → X n F0 w0 e' Rs' .normal Q) : T P n F0 w0 e Rs c Q := by
  intro a w ha hs
  refine wp_mono (h a w ha hs) ?_
  intro x a' w' hx
  cases x <;> first | exact hx | skip
  obtain ⟨e', Rs', hR, ha', hs'⟩ := hx
  exact k e' Rs' hR a' w' ha' hs'
theorem X.jq {R : Env → List Res → Prop} (is : List Nat) (hR : R e' Rs') (he : Sub e' e) (hr : Sel Rs is Rs') : X n F0 w0 e Rs .normal (Exit.then (JK n F0 w0 R) Q) := fun a w ha hs => ⟨e', Rs', hR, ha.sub he.get, hs.sel is hr⟩
theorem X.as {z : Exit} (hv : e.get d = some v) (h : v = v') (k : X n F0 w0 ((d, v') :: e) Rs z Q) : X n F0 w0 e Rs z Q := fun a w ha hs => k a w (ha.as hv h) hs
end
end Go.Proofs.Ytpiiopppbgpbpaa.Sl
namespace Go.Proofs.Ytpiiopppbgpbpaa.Sl
open Go.RowKit
set_option linter.unusedVariables false
set_option linter.unusedSimpArgs false
section
variable {P : Program} {n : Nat} {F0 : Nat → Prop} {w0 : World} {e : Env} {Rs : List Res} {S : World → Prop} {d : Option Tmp} {ty : TypeId} {pos : String} {af : Array Edge} {gd : Option (Nat × Bool)} {v : Value} {x y ix : Operand} {t t' el : TypeId}
theorem Ex.ixL {g o m c z k : Nat} {i : Int} {q : IntKind} (hx : e.ev x = some (.slice (some ⟨g, o, none⟩) m c)) (hi : e.ev ix = some (.int q i)) (hik : i = (k : Int)) (hu : ∀ w, (underlying t).run P w = .ok (.slice el) w) (hz : ∀ w, (sizeOf el).run P w = .ok z w) (hk : k < m) {r : Nat} (hr : o + k * z = r) :
    Ex P n e S ⟨d, .indexAddr t x ix, ty, pos, af, gd⟩ (.pointer (some ⟨g, r, none⟩)) := by
  subst hr
  exact Ex.ixS hx hi hik hu hz hk
end
end Go.Proofs.Ytpiiopppbgpbpaa.Sl
namespace Go.Proofs.Ytpiiopppbgpbpaa.Sl
open Go.RowKit Go.Deep Go.ChangeShapes
set_option linter.unusedVariables false
set_option linter.unusedSimpArgs false
def oldRd {α : Type} (w0 : World) (S : Nat → Prop) (E : Rd α) : Rd α where
  P := fun w G cs x => ∀ W : World, (∀ k, G k → W.heap[k]? = w.heap[k]?) → (∀ k, S k → W.heap[k]? = w0.heap[k]?) → E.P W (fun k => G k ∨ S k) cs x
  mono := fun h hS W h1 h2 => E.mono (h W (fun k hk => h1 k (hS k hk)) h2) (fun k hk => hk.imp (hS k) id)
  move := fun h hm W h1 h2 => h W (fun k hk => (h1 k hk).trans (hm k hk)) h2
section
variable {α : Type} {w0 w w1 : World} {S G F : Nat → Prop} {E : Rd α} {cs : List Value} {x : α} {X Y : RX} {size : Nat}
end
structure RO where
  α : Type
  E : Rd α
  cs : List Value
  x : α
def RO.res (w0 : World) (S : Nat → Prop) (o : RO) : Res := RdR (oldRd w0 S o.E) o.cs o.x
section
variable {P : Program} {n : Nat} {F0 : Nat → Prop} {w0 w : World} {S : Nat → Prop} {e : Env} {Rs Rs' Rf Bs : List Res} {L : List RO} {B : Res} {Xr Y : RX}
theorem Sep.split : ∀ {Bs Rs : List Res} {w : World} {F : Nat → Prop}, Sep (Bs ++ Rs) w F → ∃ G, Sep Bs w G ∧ (∀ k, G k → F k) ∧ (∀ k, G k → k < w.heap.size) ∧ Sep Rs w (fun k => F k ∧ ¬ G k)
  | [], Rs, w, F, h => ⟨fun _ => False, trivial, fun _ h => h.elim, fun _ h => h.elim, h.mono (fun k hk => ⟨hk, fun h => h⟩)⟩
  | B :: Bs, Rs, w, F, ⟨G1, h1, h2, h3⟩ => by
    obtain ⟨G, k1, k2, k3, k4⟩ := Sep.split h3
    refine ⟨fun k => G1 k ∨ G k, ⟨G1, h1, fun k hk => .inl hk, k1.mono (fun k hk => ⟨.inr hk, (k2 k hk).2⟩)⟩, fun k hk => hk.elim (h2 k) (fun h => (k2 k h).1), fun k hk => hk.elim (B.lt h1 k) (k3 k), k4.mono (fun k hk => ⟨hk.1.1, fun h => h.elim hk.1.2 hk.2⟩)⟩
variable {d : Option Tmp} {ty : TypeId} {pos : String} {af : Array Edge} {gd : Option (Nat × Bool)} {R : Value → Res → List RO → Prop}
variable {Q : Exit → Act → World → Prop} {ops : Array Oper} {i dd : Nat} {cl : Call} {f : FuncId} {vs : List Value}
variable {α : Type} {E : Rd α} {size : Nat} {T : TypeId} {u : Value} {xs : List α}
end
end Go.Proofs.Ytpiiopppbgpbpaa.Sl
namespace Go.Proofs.Ytpiiopppbgpbpaa.Sl
open Go.RowKit
set_option linter.unusedVariables false
set_option linter.unusedSimpArgs false
section
variable {α : Type} {size : Nat} {E : Rd α} {w : World} {S : Nat → Prop}
theorem elems_set : ∀ {xs : List α} {cs new : List Value} {k : Nat} {x x' : α}, elems size E w S cs xs → xs[k]? = some x → new.length = size → E.P w S new x' → elems size E w S (cs.take (k * size) ++ new ++ cs.drop ((k + 1) * size)) (xs.set k x')
  | [], _, _, k, _, _, _, hk, _, _ => by simp at hk
  | y :: ys, cs, new, 0, x, x', ⟨h0, _, h2⟩, _, hn, hx => by
    rw [Nat.zero_mul, List.take_zero, List.nil_append, Nat.zero_add, Nat.one_mul]
    exact ⟨by rw [List.take_append_of_le_length (by omega), List.take_of_length_le (by omega)]; exact hn, by rw [List.take_append_of_le_length (by omega), List.take_of_length_le (by omega)]; exact hx,
      by rw [List.drop_append_of_le_length (by omega), List.drop_of_length_le (by omega)]; exact h2⟩
  | y :: ys, cs, new, k + 1, x, x', ⟨h0, h1, h2⟩, hk, hn, hx => by
    have hle : size ≤ cs.length := by rw [List.length_take] at h0; omega
    have ih := elems_set (k := k) (x := x) h2 (by simpa using hk) hn hx
    have hc : cs = cs.take size ++ cs.drop size := (List.take_append_drop size cs).symm
    have e0 : (cs.take size).length = size := h0
    have e1 : cs.take ((k + 1) * size) = cs.take size ++ (cs.drop size).take (k * size) := by
      conv => lhs; rw [hc]
      rw [List.take_append, e0, show (k + 1) * size - size = k * size by rw [Nat.add_mul]; omega, List.take_of_length_le (by rw [e0, Nat.add_mul]; omega)]
    have e2 : cs.drop ((k + 1 + 1) * size) = (cs.drop size).drop ((k + 1) * size) := by
      rw [List.drop_drop, show size + (k + 1) * size = (k + 1 + 1) * size by rw [Nat.add_mul (k + 1)]; omega]
    rw [e1, e2, List.append_assoc, List.append_assoc, ← List.append_assoc ((cs.drop size).take (k * size))]
    exact ⟨by rw [List.take_append_of_le_length (by omega), List.take_of_length_le (by omega)]; exact h0, by rw [List.take_append_of_le_length (by omega), List.take_of_length_le (by omega)]; exact h1,
      by rw [List.drop_append_of_le_length (by omega), List.drop_of_length_le (by omega), List.nil_append]; exact ih⟩
theorem OwnR.stored {T m c g o k off q : Nat} {G : Nat → Prop} {xs : List α} {x x' : α} {us : List Value} (h : (OwnR T size E (.slice (some ⟨g, o, none⟩) m c) xs).P w G) (hk : xs[k]? = some x) (hq : q = o + k * size + off) (hl : off + us.length ≤ size)
    (hE : ∀ w S cs, cs.length = size → E.P w S cs x → E.P w S (cs.take off ++ us ++ cs.drop (off + us.length)) x') :
    ∃ cur, w.heap[g]? = some (.cells cur T (0, 0)) ∧ q + us.length ≤ cur.size ∧ (∀ k, k = g → G k) ∧ (OwnR T size E (.slice (some ⟨g, o, none⟩) m c) (xs.set k x')).P (w.setRow g (cur.toList.take q ++ us ++ cur.toList.drop (q + us.length)).toArray) G := by
  obtain ⟨cells, S, ⟨hlen, hown⟩, h2, h3, h4, h5⟩ := h
  rcases hown with ⟨hv, _⟩ | ⟨g', cap, cur, hv, hb0, hg, hnc, hcm, hcs, htk⟩
  · cases hv
  injection hv with hv1 hv2 hv3
  injection hv1 with hv1
  injection hv1 with hv4 hv5
  subst hv4 hv5 hv2 hv3
  have hkl : k < xs.length := (List.getElem?_eq_some_iff.1 hk).1
  have hks : (k + 1) * size ≤ xs.length * size := Nat.mul_le_mul_right _ hkl
  have hcap : xs.length * size ≤ c * size := Nat.mul_le_mul_right _ hnc
  have hk1 : (k + 1) * size = k * size + size := by rw [Nat.add_mul, Nat.one_mul]
  have hfit : q + us.length ≤ cur.size := by rw [hcs]; omega
  refine ⟨cur, hg, hfit, fun k hk => by subst hk; exact (h5 _).2 (.inl rfl), ?_⟩
  obtain ⟨c1, c2⟩ := elems_get h2 hk
  have hgS : ¬ S g := h4 g rfl
  have hnew : ((cells.drop (k * size)).take size).take off ++ us ++ ((cells.drop (k * size)).take size).drop (off + us.length) = ((cells.drop (k * size)).take size).take off ++ us ++ ((cells.drop (k * size)).take size).drop (off + us.length) := rfl
  have hset := elems_set h2 hk (new := ((cells.drop (k * size)).take size).take off ++ us ++ ((cells.drop (k * size)).take size).drop (off + us.length)) (by simp only [List.length_append, List.length_take, List.length_drop] at c1 ⊢; omega) (hE w S _ c1 c2)
  have hset' : elems size E (w.setRow g (cur.toList.take q ++ us ++ cur.toList.drop (q + us.length)).toArray) S _ (xs.set k x') := elems_move hset (fun k hk => setRow_other w g k _ (fun e => hgS (e ▸ hk)))
  refine ⟨_, S, ⟨?_, .inr ⟨g, c, _, by rw [List.length_set], hb0, setRow_heap w g cur _ T (0, 0) hg, by rw [List.length_set]; exact hnc, hcm, ?_, ?_⟩⟩, hset', fun k hk => by rw [size_setRow]; exact h3 k hk, h4, h5⟩
  · have := elems_length hset
    exact this
  · simp only [List.size_toArray, List.length_append, List.length_take, List.length_drop, Array.length_toList]
    omega
  · rw [List.length_set]
    have hcl : cur.toList.length = c * size := by simpa using hcs
    have hcells : cells.length = xs.length * size := hlen
    have d1 : (cells.drop (k * size)).take size = (cells.drop (k * size)).take size := rfl
    have hq2 : q + us.length ≤ xs.length * size := by omega
    have r1 : cells.take (k * size) ++ ((cells.drop (k * size)).take size).take off = cells.take q := by
      rw [List.take_take, Nat.min_eq_left (by omega), ← List.take_add, show k * size + off = q by omega]
    have r2 : ((cells.drop (k * size)).take size).drop (off + us.length) ++ cells.drop ((k + 1) * size) = cells.drop (q + us.length) := by
      have e1 : cells.drop ((k + 1) * size) = (cells.drop (k * size)).drop size := by rw [List.drop_drop, hk1]
      have e2 : cells.drop (q + us.length) = (cells.drop (k * size)).drop (off + us.length) := by rw [List.drop_drop, show k * size + (off + us.length) = q + us.length by omega]
      rw [e1, e2, ← List.drop_append_of_le_length (by omega), List.take_append_drop]
    have r3 : cells.take (k * size) ++ (((cells.drop (k * size)).take size).take off ++ us ++ ((cells.drop (k * size)).take size).drop (off + us.length)) ++ cells.drop ((k + 1) * size) = cells.take q ++ us ++ cells.drop (q + us.length) := by
      rw [← r1, ← r2]
      simp only [List.append_assoc]
    rw [r3, ← htk, List.drop_take, List.take_take, Nat.min_eq_left (by omega)]
    have l1 : (cur.toList.take q ++ us).length = q + us.length := by rw [List.length_append, List.length_take]; omega
    rw [List.toList_toArray, List.take_append, l1, List.take_of_length_le (by omega)]
end
section
variable {P : Program} {n : Nat} {F0 : Nat → Prop} {w0 : World} {e : Env} {Rs Rf : List Res} {Q : Exit → Act → World → Prop} {ops : Array Oper} {d : Option Tmp} {i : Nat} {ty t t' el : TypeId} {pos : String} {af : Array Edge} {gd : Option (Nat × Bool)} {v v' : Value} {x y : Operand} {l : List Nat} {lo : Sch} {c : Code} {S : World → Prop}
theorem TD.unf {α : Type} {E : Rd α} {B : Res} {q g : Nat} {cs : List Value} {u : α} (i : Nat) (hi : Rs[i]? = some (RowK B E g q cs u)) (h : TD P n F0 w0 ops lo Rf e (Rs.set i B) Q) : TD P n F0 w0 ops lo Rf e Rs Q := fun a w ha hs => h a w ha (hs.unf i hi)
section
variable {α : Type} {E : Rd α} {T m cp size g o k off q z : Nat} {xs : List α} {u u' : α}
end
section
variable {α : Type} {E : Rd α} {T bytes k : Nat} {zv : Value} {u : α} {m : Int} {kl : IntKind} {d' : Nat}
end
def bitOp : BinOp → Bool
  | .and | .or | .xor | .andNot => true
  | _ => false
theorem Ex.bitw {bo : BinOp} {k : IntKind} {p q : Int} (hb : bitOp bo = true) (hx : e.ev x = some (.int k p)) (hy : e.ev y = some (.int k q)) : Ex P n e S ⟨d, .binOp bo t x y t', ty, pos, af, gd⟩ (.int k (Go.bits bo k p q)) := by
  intro a w ha _
  have h1 : Op.intBits bo k p q = pure (.int k (Go.bits bo k p q)) := by cases bo <;> first | rfl | exact absurd hb (by decide)
  have h2 : (binOp bo t (.int k p) (.int k q)).run P w = .ok (.int k (Go.bits bo k p q)) w := by
    cases bo <;> first | exact absurd hb (by decide) | simp only [binOp, h1, ne_eq, not_true, if_false, Sem.run_pure]
  have h3 : eqGuard bo t x y (.int k p) (.int k q) = pure () := by cases bo <;> first | exact absurd hb (by decide) | rfl
  simp only [execOp, ha.ev hx, ha.ev hy, h3, Sem.run_bind, Sem.run_pure, Result.andThen_ok, h2]
end
end Go.Proofs.Ytpiiopppbgpbpaa.Sl
namespace Go.Proofs.Ytpiiopppbgpbpaa.Sl
open Go.RowKit
set_option linter.unusedVariables false
set_option linter.unusedSimpArgs false
section
variable {P : Program} {n : Nat} {F0 : Nat → Prop} {w0 w : World} {e : Env} {Rs Rf : List Res} {Q : Exit → Act → World → Prop} {ops : Array Oper} {d : Option Tmp} {i : Nat} {ty t t' el : TypeId} {pos : String} {af : Array Edge} {gd : Option (Nat × Bool)} {v v' : Value} {x y ix : Operand} {L : List Nat} {lo : Sch} {c : Code} {S : World → Prop}
variable {T g k : Nat} {l : List Int} {u u' : Int}
end
def LW (P : Program) (c : Code) (Q : Exit → Act → World → Prop) (a : Act) (w : World) : Prop := ∀ b k cs, ∃ x a' w', Q x a' w' ∧ Arrives P (lone (b.at a (.code c :: .inLoop c :: k)) cs w) b k cs x a' w'
def TW (P : Program) (n : Nat) (F0 : Nat → Prop) (w0 : World) (e : Env) (Rs : List Res) (c : Code) (Q : Exit → Act → World → Prop) : Prop := ∀ a w, Has n e a → St F0 w0 Rs w → LW P c Q a w
section
variable {P : Program} {n : Nat} {F0 : Nat → Prop} {w0 : World} {e : Env} {Rs : List Res} {Q : Exit → Act → World → Prop} {c : Code}
theorem T.unroll0 (h : TW P n F0 w0 e Rs c Q) : T P n F0 w0 e Rs (.loop c) Q := by
  intro a w ha hs b k cs
  obtain ⟨x, a', w', hq, harr⟩ := h a w ha hs b k cs
  exact ⟨x, a', w', hq, .of_steps (.one step_loop) harr⟩
theorem TW.step (h : T P n F0 w0 e Rs c (Exit.then (LW P c Q) Q)) : TW P n F0 w0 e Rs c Q := by
  intro a w ha hs b k cs
  obtain ⟨x, a₁, w₁, hq, harr⟩ := h a w ha hs b (.inLoop c :: k) cs
  cases x with
  | normal =>
    obtain ⟨x₂, a₂, w₂, hq₂, harr₂⟩ := hq b k cs
    exact ⟨x₂, a₂, w₂, hq₂, .of_steps (Steps.trans harr (.one step_inLoop)) harr₂⟩
  | exit id => exact ⟨_, a₁, w₁, hq, .pass (x := .inLoop c) rfl (fun _ _ => .inl (by simp)) harr⟩
  | goto l => exact ⟨_, a₁, w₁, hq, .pass (x := .inLoop c) rfl (fun _ _ => .inl (by simp)) harr⟩
  | ret => exact ⟨_, a₁, w₁, hq, .pass (x := .inLoop c) rfl (fun _ _ => .inl (by simp)) harr⟩
  | panic ch => exact ⟨_, a₁, w₁, hq, .pass (x := .inLoop c) rfl (fun _ _ => .inl (by simp)) harr⟩
  | outgrown => exact ⟨_, a₁, w₁, hq, .pass (x := .inLoop c) rfl (fun _ _ => .inl (by simp)) harr⟩
theorem X.un (h : TW P n F0 w0 e Rs c Q) : X n F0 w0 e Rs .normal (Exit.then (LW P c Q) Q) := h
end
end Go.Proofs.Ytpiiopppbgpbpaa.Sl
namespace Go.Proofs.Ytpiiopppbgpbpaa.Sl
open Go.RowKit
set_option linter.unusedVariables false
set_option linter.unusedSimpArgs false
set_option maxRecDepth 100000
def ft_prefix : FTab := [(38, 0, 0), (38, 1, 1), (38, 2, 2), (38, 3, 3), (38, 4, 4), (38, 5, 5), (38, 6, 6), (38, 7, 7), (38, 8, 8), (38, 9, 9), (38, 10, 10), (38, 11, 11), (127, 0, 0), (127, 1, 1)]
theorem ft_prefix_ok : (ft_prefix).OK Try.prog := ⟨FOK.mk Try.runUnderlying38 rfl Try.sizeOf3 rfl, FOK.mk Try.runUnderlying38 rfl Try.sizeOf3 rfl, FOK.mk Try.runUnderlying38 rfl Try.sizeOf3 rfl, FOK.mk Try.runUnderlying38 rfl Try.sizeOf3 rfl, FOK.mk Try.runUnderlying38 rfl Try.sizeOf3 rfl, FOK.mk Try.runUnderlying38 rfl Try.sizeOf3 rfl, FOK.mk Try.runUnderlying38 rfl Try.sizeOf3 rfl, FOK.mk Try.runUnderlying38 rfl Try.sizeOf3 rfl, FOK.mk Try.runUnderlying38 rfl Try.sizeOf3 rfl, FOK.mk Try.runUnderlying38 rfl Try.sizeOf3 rfl, FOK.mk Try.runUnderlying38 rfl Try.sizeOf3 rfl, FOK.mk Try.runUnderlying38 rfl Try.sizeOf3 rfl, FOK.mk Try.runUnderlying127 rfl Try.sizeOf125 rfl, FOK.mk Try.runUnderlying127 rfl Try.sizeOf3 rfl, trivial⟩
theorem mix_prefix : Try.prog.follows .mixedOrders = true := by kernel_rfl
theorem bok_prefix_38 : BOK Try.prog 38 #[.int .i64 0, .int .i64 0, .int .i64 0, .int .i64 0, .int .i64 0, .int .i64 0, .int .i64 0, .int .i64 0, .int .i64 0, .int .i64 0, .int .i64 0, .int .i64 0] [(0, 1), (1, 1), (2, 1), (3, 1), (4, 1), (5, 1), (6, 1), (7, 1), (8, 1), (9, 1), (10, 1), (11, 1)] := BOK.mk Try.zeroValue38 Try.runUnderlying38 (by intro w; simp)
theorem bok_prefix_127 : BOK Try.prog 127 #[.pointer none, .int .i64 0] [(0, 1), (1, 1)] := BOK.mk Try.zeroValue127 Try.runUnderlying127 (by intro w; simp)
theorem sok_prefix_123_13 : SOK Try.prog 123 127 13 2 #[.pointer none, .int .i64 0, .pointer none, .int .i64 0, .pointer none, .int .i64 0, .pointer none, .int .i64 0, .pointer none, .int .i64 0, .pointer none, .int .i64 0, .pointer none, .int .i64 0, .pointer none, .int .i64 0, .pointer none, .int .i64 0, .pointer none, .int .i64 0, .pointer none, .int .i64 0, .pointer none, .int .i64 0, .pointer none, .int .i64 0] := SOK.mk Try.runUnderlying123 Try.sizeOf127 Try.zeroValue127 (by decide) (by kernel_rfl)
def f_prefix_PrefixFields (p0 : Nat) (p1 : Nat) : Option (Unit) := some ()
set_option maxRecDepth 100000 in
set_option maxHeartbeats 4000000 in
theorem f_prefix_PrefixFields_spec (p0 : Nat) (p1 : Nat) (r : Unit) (h : f_prefix_PrefixFields p0 p1 = some r) : SpecX Try.prog 75 #[.pointer (some ⟨p0, 0, none⟩), .pointer (some ⟨p1, 0, none⟩)] .triv (EmpR) (fun v A' N => ∃ q : Nat, v = .slice (some ⟨q, 0, none⟩) 13 13 ∧ A' = EmpR ∧ N = [BlkR q 127 #[.pointer (some ⟨p0, 0, none⟩), .int .i64 8, .pointer (some ⟨p0, 1, none⟩), .int .i64 4, .pointer (some ⟨p0, 2, none⟩), .int .i64 4, .pointer (some ⟨p1, 0, none⟩), .int .i64 1, .pointer (some ⟨p0, 3, none⟩), .int .i64 4, .pointer (some ⟨p0, 4, none⟩), .int .i64 2, .pointer (some ⟨p0, 5, none⟩), .int .i64 4, .pointer (some ⟨p0, 6, none⟩), .int .i64 8, .pointer (some ⟨p0, 7, none⟩), .int .i64 8, .pointer (some ⟨p0, 8, none⟩), .int .i64 8, .pointer (some ⟨p0, 9, none⟩), .int .i64 2, .pointer (some ⟨p0, 10, none⟩), .int .i64 4, .pointer (some ⟨p0, 11, none⟩), .int .i64 4]]) := by
  refine enterA Try.func75 rfl Try.ntmps75 rfl ?_
  intro F w hX
  unfold f_prefix_PrefixFields at h
  refine T.seq (T.region rfl ?_)
  refine TL.run ft_prefix_ok [0] rfl rfl ?_
  refine TL.nil (X.seq (T.seq (T.draw (.q 0 (.q 1 (.q 2 (.q 3 (.q 4 (.q 5 (.q 6 (.q 7 (.q 8 (.q 9 (.q 10 (.q 11 (.q 12 (.q 13 (.q 14 (.q 15 (.q 16 (.q 17 (.q 18 (.q 19 (.q 20 (.q 21 (.q 22 (.q 23 (.q 24 (.q 25 (.q 26 (.q 27 (.q 28 (.q 29 (.q 30 (.q 31 (.q 32 (.q 33 (.q 34 (.q 35 (.q 36 (.q 37 (.q 38 (.q 39 (.q 40 (.q 41 (.q 42 (.q 43 (.q 44 (.q 45 (.q 46 (.q 47 (.q 48 (.q 49 (.e 50 (.q 51 .nil)))))))))))))))))))))))))))))))))))))))))))))))))))) [0] rfl mix_prefix (NoP.seq np_post) (by kernel_rfl) ?_)))
  refine TD.run ft_prefix_ok [0, 1, 2] rfl rfl ?_
  refine TD.q rfl .u (Ex.bld (cells := #[.pointer (some ⟨p0, 0, none⟩), .int .i64 8]) bok_prefix_127 rfl (by kernel_rfl)) rfl ?_
  refine TD.run ft_prefix_ok [4, 5, 6] rfl rfl ?_
  refine TD.q rfl .u (Ex.bld (cells := #[.pointer (some ⟨p0, 1, none⟩), .int .i64 4]) bok_prefix_127 rfl (by kernel_rfl)) rfl ?_
  refine TD.run ft_prefix_ok [8, 9, 10] rfl rfl ?_
  refine TD.q rfl .u (Ex.bld (cells := #[.pointer (some ⟨p0, 2, none⟩), .int .i64 4]) bok_prefix_127 rfl (by kernel_rfl)) rfl ?_
  refine TD.run ft_prefix_ok [12] rfl rfl ?_
  refine TD.q rfl .u (Ex.bld (cells := #[.pointer (some ⟨p1, 0, none⟩), .int .i64 1]) bok_prefix_127 rfl (by kernel_rfl)) rfl ?_
  refine TD.run ft_prefix_ok [14, 15, 16] rfl rfl ?_
  refine TD.q rfl .u (Ex.bld (cells := #[.pointer (some ⟨p0, 3, none⟩), .int .i64 4]) bok_prefix_127 rfl (by kernel_rfl)) rfl ?_
  refine TD.run ft_prefix_ok [18, 19, 20] rfl rfl ?_
  refine TD.q rfl .u (Ex.bld (cells := #[.pointer (some ⟨p0, 4, none⟩), .int .i64 2]) bok_prefix_127 rfl (by kernel_rfl)) rfl ?_
  refine TD.run ft_prefix_ok [22, 23, 24] rfl rfl ?_
  refine TD.q rfl .u (Ex.bld (cells := #[.pointer (some ⟨p0, 5, none⟩), .int .i64 4]) bok_prefix_127 rfl (by kernel_rfl)) rfl ?_
  refine TD.run ft_prefix_ok [26, 27, 28] rfl rfl ?_
  refine TD.q rfl .u (Ex.bld (cells := #[.pointer (some ⟨p0, 6, none⟩), .int .i64 8]) bok_prefix_127 rfl (by kernel_rfl)) rfl ?_
  refine TD.run ft_prefix_ok [30, 31, 32] rfl rfl ?_
  refine TD.q rfl .u (Ex.bld (cells := #[.pointer (some ⟨p0, 7, none⟩), .int .i64 8]) bok_prefix_127 rfl (by kernel_rfl)) rfl ?_
  refine TD.run ft_prefix_ok [34, 35, 36] rfl rfl ?_
  refine TD.q rfl .u (Ex.bld (cells := #[.pointer (some ⟨p0, 8, none⟩), .int .i64 8]) bok_prefix_127 rfl (by kernel_rfl)) rfl ?_
  refine TD.run ft_prefix_ok [38, 39, 40] rfl rfl ?_
  refine TD.q rfl .u (Ex.bld (cells := #[.pointer (some ⟨p0, 9, none⟩), .int .i64 2]) bok_prefix_127 rfl (by kernel_rfl)) rfl ?_
  refine TD.run ft_prefix_ok [42, 43, 44] rfl rfl ?_
  refine TD.q rfl .u (Ex.bld (cells := #[.pointer (some ⟨p0, 10, none⟩), .int .i64 4]) bok_prefix_127 rfl (by kernel_rfl)) rfl ?_
  refine TD.run ft_prefix_ok [46, 47, 48] rfl rfl ?_
  refine TD.q rfl .u (Ex.bld (cells := #[.pointer (some ⟨p0, 11, none⟩), .int .i64 4]) bok_prefix_127 rfl (by kernel_rfl)) rfl ?_
  refine TD.lit (cells := #[.pointer (some ⟨p0, 0, none⟩), .int .i64 8, .pointer (some ⟨p0, 1, none⟩), .int .i64 4, .pointer (some ⟨p0, 2, none⟩), .int .i64 4, .pointer (some ⟨p1, 0, none⟩), .int .i64 1, .pointer (some ⟨p0, 3, none⟩), .int .i64 4, .pointer (some ⟨p0, 4, none⟩), .int .i64 2, .pointer (some ⟨p0, 5, none⟩), .int .i64 4, .pointer (some ⟨p0, 6, none⟩), .int .i64 8, .pointer (some ⟨p0, 7, none⟩), .int .i64 8, .pointer (some ⟨p0, 8, none⟩), .int .i64 8, .pointer (some ⟨p0, 9, none⟩), .int .i64 2, .pointer (some ⟨p0, 10, none⟩), .int .i64 4, .pointer (some ⟨p0, 11, none⟩), .int .i64 4]) rfl .u sok_prefix_123_13 rfl (by kernel_rfl) rfl [1] (fun _ => rfl) (fun b1 => ?_)
  refine TD.run ft_prefix_ok [51] rfl rfl ?_
  obtain rfl := Option.some.inj h
  exact TD.nil (X.seq (T.ret (X.done1 [1, 0] Try.results75 (RV.tm rfl) ⟨_, rfl, rfl, rfl⟩ (by rfl) (.inl rfl))))
def f_prefix_Write (st : List UInt8 × Int) (a1 : Pfx) : Option (List UInt8 × Int) := (if a1.fSum < 0 then some true else (if a1.fSum > 4294967295 then some true else some false)).bind fun y4 => (if y4 = true then ((gOFail st 11).bind fun st14 => some st14) else some st).bind fun st11 => if -9223372036854775808 ≤ (IntKind.i32.wrap (IntKind.u32.wrap a1.fSum)) ∧ (IntKind.i32.wrap (IntKind.u32.wrap a1.fSum)) ≤ 9223372036854775807 then ((gOInt st11 a1.fBase 8).bind fun st19 => (gOInt st19 a1.fLength 4).bind fun st22 => (gOInt st22 a1.fLeader 4).bind fun st25 => (gOInt st25 2 1).bind fun st28 => (gOInt st28 (IntKind.i32.wrap (IntKind.u32.wrap a1.fSum)) 4).bind fun st31 => (gOInt st31 a1.fAttr 2).bind fun st34 => (gOInt st34 a1.fLast 4).bind fun st37 => (gOInt st37 a1.fFirst 8).bind fun st40 => (gOInt st40 a1.fMax 8).bind fun st43 => (gOInt st43 a1.fProducer 8).bind fun st46 => (gOInt st46 a1.fEpoch 2).bind fun st49 => (gOInt st49 a1.fSequence 4).bind fun st52 => (gOInt st52 a1.fCount 4).bind fun st55 => some st55) else none
set_option maxRecDepth 100000 in
set_option maxHeartbeats 4000000 in
theorem f_prefix_Write_spec (g : Nat) (st : List UInt8 × Int) (a1 : Pfx) (r : List UInt8 × Int) (h : f_prefix_Write st a1 = some r) : SpecX Try.prog 23 #[.pointer (some ⟨g, 0, none⟩), .agg #[.int .i64 a1.fBase, .int .i64 a1.fLength, .int .i64 a1.fLeader, .int .i64 a1.fSum, .int .i64 a1.fAttr, .int .i64 a1.fLast, .int .i64 a1.fFirst, .int .i64 a1.fMax, .int .i64 a1.fProducer, .int .i64 a1.fEpoch, .int .i64 a1.fSequence, .int .i64 a1.fCount]] .triv (OutR g st) (fun v A' N => v = .tuple #[] ∧ A' = OutR g r ∧ N = []) := by
  refine enterA Try.func23 rfl Try.ntmps23 rfl ?_
  intro F w hX
  unfold f_prefix_Write at h
  refine T.seq (T.region rfl ?_)
  refine TL.box rfl .u rfl rfl (fun b1 => ?_)
  refine TL.nil (X.seq (T.seq (T.region rfl ?_)))
  refine TL.alloc rfl .u Try.zeroValue3 rfl (fun b2 => ?_)
  refine TL.st0 (cs' := #[.int .i64 2]) rfl .u rfl rfl Try.sizeOf3 rfl rfl rfl rfl ?_
  refine TL.nil (X.seq (T.seq (T.seq ?_)))
  obtain ⟨y4, h, hk5⟩ := Option.bind_eq_some_iff.1 h
  refine T.jq (fun e Rs => e = [(0, .pointer (some ⟨g, 0, none⟩)), (3, .pointer (some ⟨b1, 0, none⟩)), (4, .pointer (some ⟨b2, 0, none⟩)), (14, .bool y4)] ∧ Rs = [BlkR b2 3 #[.int .i64 2], BlkR b1 38 #[.int .i64 a1.fBase, .int .i64 a1.fLength, .int .i64 a1.fLeader, .int .i64 a1.fSum, .int .i64 a1.fAttr, .int .i64 a1.fLast, .int .i64 a1.fFirst, .int .i64 a1.fMax, .int .i64 a1.fProducer, .int .i64 a1.fEpoch, .int .i64 a1.fSequence, .int .i64 a1.fCount], OutR g st]) ?_ ?_
  · clear hk5
    refine T.region rfl ?_
    refine TL.run ft_prefix_ok [0] rfl rfl ?_
    refine TL.q rfl .u (Ex.b1 1 rfl Try.isAgg3 rfl rfl) rfl ?_
    by_cases c6 : a1.fSum < 0
    · replace h := ifT c6 h
      refine TL.run ft_prefix_ok [2, 3] rfl rfl ?_
      refine TL.no rfl (.gn rfl rfl (decide_eq_true c6)) rfl ?_
      refine TL.no rfl (.gn rfl rfl (decide_eq_true c6)) rfl ?_
      refine TL.no rfl (.gn rfl rfl (decide_eq_true c6)) rfl ?_
      refine TL.q rfl .u (Ex.py rfl (decide_eq_true c6) rfl) rfl ?_
      cases h
      exact TL.nil (X.jq [0, 0, 0] ⟨rfl, rfl⟩ (by rfl) (by rfl))
    · replace h := ifF c6 h
      refine TL.run ft_prefix_ok [2, 3] rfl rfl ?_
      refine TL.q rfl (.g rfl rfl (decide_eq_false c6)) (Ex.ft ft_prefix_ok rfl) rfl ?_
      refine TL.q rfl (.g rfl rfl (decide_eq_false c6)) (Ex.b1 1 rfl Try.isAgg3 rfl rfl) rfl ?_
      refine TL.q rfl (.g rfl rfl (decide_eq_false c6)) (Ex.ft ft_prefix_ok rfl) rfl ?_
      refine TL.q rfl .u (Ex.pn rfl (decide_eq_false c6) rfl) rfl ?_
      by_cases c7 : a1.fSum > 4294967295
      · replace h := ifT c7 h
        cases h
        exact TL.nil (X.as (d := 14) (v' := .bool true) rfl (congrArg Value.bool (decide_eq_true c7)) (X.jq [0, 0, 0] ⟨rfl, rfl⟩ (by rfl) (by rfl)))
      · replace h := ifF c7 h
        cases h
        exact TL.nil (X.as (d := 14) (v' := .bool false) rfl (congrArg Value.bool (decide_eq_false c7)) (X.jq [0, 0, 0] ⟨rfl, rfl⟩ (by rfl) (by rfl)))
  · rintro _ _ ⟨rfl, rfl⟩
    clear h
    have h := hk5
    clear hk5
    try dsimp only at h
    refine X.seq ?_
    obtain ⟨st11, h, hk12⟩ := Option.bind_eq_some_iff.1 h
    refine T.jq (fun e Rs => e = [(0, .pointer (some ⟨g, 0, none⟩)), (3, .pointer (some ⟨b1, 0, none⟩)), (4, .pointer (some ⟨b2, 0, none⟩))] ∧ Rs = [BlkR b2 3 #[.int .i64 2], BlkR b1 38 #[.int .i64 a1.fBase, .int .i64 a1.fLength, .int .i64 a1.fLeader, .int .i64 a1.fSum, .int .i64 a1.fAttr, .int .i64 a1.fLast, .int .i64 a1.fFirst, .int .i64 a1.fMax, .int .i64 a1.fProducer, .int .i64 a1.fEpoch, .int .i64 a1.fSequence, .int .i64 a1.fCount], OutR g st11]) ?_ ?_
    · clear hk12
      by_cases c13 : y4 = true
      · replace h := ifT c13 h
        refine T.yes rfl c13 ?_
        refine T.region rfl ?_
        obtain ⟨st14, hx15, h⟩ := Option.bind_eq_some_iff.1 h
        refine TL.run ft_prefix_ok [0] rfl rfl ?_
        refine TL.c2 rfl .u (.fn Try.call74 rfl) (gOFail_spec g st 11 _ hx15) (fun _ hs => (Src.triv _)) rfl ?_
        cases h
        exact TL.nil (X.jq [0, 0, 0] ⟨rfl, rfl⟩ (by rfl) (by rfl))
      · replace h := ifF c13 h
        replace c13 := eq_false_of_ne_true c13
        refine T.no rfl c13 ?_
        cases h
        exact T.skip (X.jq [0, 0, 0] ⟨rfl, rfl⟩ (by rfl) (by rfl))
    · rintro _ _ ⟨rfl, rfl⟩
      clear h
      have h := hk12
      clear hk12
      try dsimp only at h
      refine X.seq (T.seq (T.region rfl ?_))
      refine TL.run ft_prefix_ok [0] rfl rfl ?_
      refine TL.q rfl .u (Ex.b1 1 rfl Try.isAgg3 rfl rfl) rfl ?_
      refine TL.q rfl .u (Ex.conv rfl Try.runUnderlying3 Try.runUnderlying87) rfl ?_
      refine TL.q rfl .u (Ex.conv rfl Try.runUnderlying87 Try.runUnderlying21) rfl ?_
      replace h := guard_some h
      obtain ⟨c16, h⟩ := h
      refine TL.q rfl .u (Ex.conv64 rfl Try.runUnderlying21 Try.runUnderlying3 c16) rfl ?_
      refine TL.run ft_prefix_ok [5] rfl rfl ?_
      refine TL.st1 (cs' := #[.int .i64 a1.fBase, .int .i64 a1.fLength, .int .i64 a1.fLeader, .int .i64 (IntKind.i32.wrap (IntKind.u32.wrap a1.fSum)), .int .i64 a1.fAttr, .int .i64 a1.fLast, .int .i64 a1.fFirst, .int .i64 a1.fMax, .int .i64 a1.fProducer, .int .i64 a1.fEpoch, .int .i64 a1.fSequence, .int .i64 a1.fCount]) rfl .u rfl rfl Try.sizeOf3 rfl rfl rfl rfl ?_
      refine TL.nil (X.seq (T.seq (T.region rfl ?_)))
      refine TL.cge rfl .u (.fn Try.call75 rfl) (f_prefix_PrefixFields_spec b1 b2 () rfl) (fun _ hs => RX.reads_triv _ _) rfl ?_
      rintro _ _ _ ⟨b17, rfl, rfl, rfl⟩
      refine TL.sel [0, 0, 0, 0] rfl ?_
      refine TL.q rfl .u (Ex.lenS rfl Try.runUnderlying123) rfl ?_
      refine TL.run ft_prefix_ok [2] rfl rfl ?_
      refine TL.nil (X.seq (T.block ?_))
      refine T.unroll0 (TW.step (T.seq (T.region rfl ?_)))
      refine TL.run ft_prefix_ok [0] rfl rfl ?_
      refine TL.nil (X.seq (T.seq ?_))
      refine T.yes rfl (decide_eq_true (show 0 < 13 by omega)) ?_
      refine T.skip (X.seq (T.seq (T.block (T.seq (T.region rfl ?_)))))
      refine TL.q rfl .u (Ex.ixL (k := 0) (r := 0) rfl rfl rfl Try.runUnderlying123 Try.sizeOf127 (by decide) rfl) rfl ?_
      refine TL.q rfl .u (Ex.bS (us := [.pointer (some ⟨b1, 0, none⟩), .int .i64 8]) 0 rfl Try.isAgg127 Try.sizeOf127 rfl rfl rfl) rfl ?_
      refine TL.alloc rfl .u Try.zeroValue127 rfl (fun b18 => ?_)
      refine TL.st0 (cs' := #[.pointer (some ⟨b1, 0, none⟩), .int .i64 8]) rfl .u rfl rfl Try.sizeOf127 rfl rfl rfl rfl ?_
      refine TL.nil (X.seq (T.draw (.q 0 (.q 1 (.q 2 (.q 3 (.q 4 (.q 5 (.q 6 (.e 7 .nil)))))))) [0, 0, 0, 0] rfl mix_prefix (NoP.blk (NoP.seq (NoP.seq (NoP.blk np_post)))) (by kernel_rfl) ?_))
      refine TD.run ft_prefix_ok [0, 1] rfl rfl ?_
      refine TD.q rfl .u (Ex.b1 0 rfl Try.isAgg125 rfl rfl) rfl ?_
      refine TD.run ft_prefix_ok [3] rfl rfl ?_
      refine TD.q rfl .u (Ex.b1 3 rfl Try.isAgg3 rfl rfl) rfl ?_
      refine TD.run ft_prefix_ok [5] rfl rfl ?_
      refine TD.q rfl .u (Ex.b1 0 rfl Try.isAgg3 rfl rfl) rfl ?_
      obtain ⟨st19, hx20, h⟩ := Option.bind_eq_some_iff.1 h
      refine TD.c4 rfl .u (.fn Try.call34 rfl) (gOInt_spec g st11 a1.fBase 8 _ hx20) (fun _ hs => (Src.triv _)) rfl [0, 0, 0, 0] (rfl) ?_
      refine TD.nil (X.blk (X.seq (T.region rfl ?_)))
      refine TL.q rfl .u (Ex.add rfl rfl (by omega)) rfl ?_
      refine TL.run ft_prefix_ok [1] rfl rfl ?_
      refine TL.nil (X.un (TW.step (T.seq (T.region rfl ?_))))
      refine TL.run ft_prefix_ok [0] rfl rfl ?_
      refine TL.nil (X.seq (T.seq ?_))
      refine T.yes rfl (decide_eq_true (show 1 < 13 by omega)) ?_
      refine T.skip (X.seq (T.seq (T.block (T.seq (T.region rfl ?_)))))
      refine TL.q rfl .u (Ex.ixL (k := 1) (r := 2) rfl rfl rfl Try.runUnderlying123 Try.sizeOf127 (by decide) rfl) rfl ?_
      refine TL.q rfl .u (Ex.bS (us := [.pointer (some ⟨b1, 1, none⟩), .int .i64 4]) 1 rfl Try.isAgg127 Try.sizeOf127 rfl rfl rfl) rfl ?_
      refine TL.alloc rfl .u Try.zeroValue127 rfl (fun b21 => ?_)
      refine TL.st0 (cs' := #[.pointer (some ⟨b1, 1, none⟩), .int .i64 4]) rfl .u rfl rfl Try.sizeOf127 rfl rfl rfl rfl ?_
      refine TL.nil (X.seq (T.draw (.q 0 (.q 1 (.q 2 (.q 3 (.q 4 (.q 5 (.q 6 (.e 7 .nil)))))))) [0, 0, 0, 0, 0] rfl mix_prefix (NoP.blk (NoP.seq (NoP.seq (NoP.blk np_post)))) (by kernel_rfl) ?_))
      refine TD.run ft_prefix_ok [0, 1] rfl rfl ?_
      refine TD.q rfl .u (Ex.b1 0 rfl Try.isAgg125 rfl rfl) rfl ?_
      refine TD.run ft_prefix_ok [3] rfl rfl ?_
      refine TD.q rfl .u (Ex.b1 4 rfl Try.isAgg3 rfl rfl) rfl ?_
      refine TD.run ft_prefix_ok [5] rfl rfl ?_
      refine TD.q rfl .u (Ex.b1 0 rfl Try.isAgg3 rfl rfl) rfl ?_
      obtain ⟨st22, hx23, h⟩ := Option.bind_eq_some_iff.1 h
      refine TD.c5 rfl .u (.fn Try.call34 rfl) (gOInt_spec g st19 a1.fLength 4 _ hx23) (fun _ hs => (Src.triv _)) rfl [0, 0, 0, 0, 0] (rfl) ?_
      refine TD.nil (X.blk (X.seq (T.region rfl ?_)))
      refine TL.q rfl .u (Ex.add rfl rfl (by omega)) rfl ?_
      refine TL.run ft_prefix_ok [1] rfl rfl ?_
      refine TL.nil ?_
      refine X.sel [0, 1, 1, 1, 1] rfl ?_
      refine X.un (TW.step (T.seq (T.region rfl ?_)))
      refine TL.run ft_prefix_ok [0] rfl rfl ?_
      refine TL.nil (X.seq (T.seq ?_))
      refine T.yes rfl (decide_eq_true (show 2 < 13 by omega)) ?_
      refine T.skip (X.seq (T.seq (T.block (T.seq (T.region rfl ?_)))))
      refine TL.q rfl .u (Ex.ixL (k := 2) (r := 4) rfl rfl rfl Try.runUnderlying123 Try.sizeOf127 (by decide) rfl) rfl ?_
      refine TL.q rfl .u (Ex.bS (us := [.pointer (some ⟨b1, 2, none⟩), .int .i64 4]) 1 rfl Try.isAgg127 Try.sizeOf127 rfl rfl rfl) rfl ?_
      refine TL.alloc rfl .u Try.zeroValue127 rfl (fun b24 => ?_)
      refine TL.st0 (cs' := #[.pointer (some ⟨b1, 2, none⟩), .int .i64 4]) rfl .u rfl rfl Try.sizeOf127 rfl rfl rfl rfl ?_
      refine TL.nil (X.seq (T.draw (.q 0 (.q 1 (.q 2 (.q 3 (.q 4 (.q 5 (.q 6 (.e 7 .nil)))))))) [0, 0, 0, 0, 0] rfl mix_prefix (NoP.blk (NoP.seq (NoP.seq (NoP.blk np_post)))) (by kernel_rfl) ?_))
      refine TD.run ft_prefix_ok [0, 1] rfl rfl ?_
      refine TD.q rfl .u (Ex.b1 0 rfl Try.isAgg125 rfl rfl) rfl ?_
      refine TD.run ft_prefix_ok [3] rfl rfl ?_
      refine TD.q rfl .u (Ex.b1 4 rfl Try.isAgg3 rfl rfl) rfl ?_
      refine TD.run ft_prefix_ok [5] rfl rfl ?_
      refine TD.q rfl .u (Ex.b1 0 rfl Try.isAgg3 rfl rfl) rfl ?_
      obtain ⟨st25, hx26, h⟩ := Option.bind_eq_some_iff.1 h
      refine TD.c5 rfl .u (.fn Try.call34 rfl) (gOInt_spec g st22 a1.fLeader 4 _ hx26) (fun _ hs => (Src.triv _)) rfl [0, 0, 0, 0, 0] (rfl) ?_
      refine TD.nil (X.blk (X.seq (T.region rfl ?_)))
      refine TL.q rfl .u (Ex.add rfl rfl (by omega)) rfl ?_
      refine TL.run ft_prefix_ok [1] rfl rfl ?_
      refine TL.nil ?_
      refine X.sel [0, 1, 1, 1, 1] rfl ?_
      refine X.un (TW.step (T.seq (T.region rfl ?_)))
      refine TL.run ft_prefix_ok [0] rfl rfl ?_
      refine TL.nil (X.seq (T.seq ?_))
      refine T.yes rfl (decide_eq_true (show 3 < 13 by omega)) ?_
      refine T.skip (X.seq (T.seq (T.block (T.seq (T.region rfl ?_)))))
      refine TL.q rfl .u (Ex.ixL (k := 3) (r := 6) rfl rfl rfl Try.runUnderlying123 Try.sizeOf127 (by decide) rfl) rfl ?_
      refine TL.q rfl .u (Ex.bS (us := [.pointer (some ⟨b2, 0, none⟩), .int .i64 1]) 1 rfl Try.isAgg127 Try.sizeOf127 rfl rfl rfl) rfl ?_
      refine TL.alloc rfl .u Try.zeroValue127 rfl (fun b27 => ?_)
      refine TL.st0 (cs' := #[.pointer (some ⟨b2, 0, none⟩), .int .i64 1]) rfl .u rfl rfl Try.sizeOf127 rfl rfl rfl rfl ?_
      refine TL.nil (X.seq (T.draw (.q 0 (.q 1 (.q 2 (.q 3 (.q 4 (.q 5 (.q 6 (.e 7 .nil)))))))) [0, 0, 0, 0, 0] rfl mix_prefix (NoP.blk (NoP.seq (NoP.seq (NoP.blk np_post)))) (by kernel_rfl) ?_))
      refine TD.run ft_prefix_ok [0, 1] rfl rfl ?_
      refine TD.q rfl .u (Ex.b1 0 rfl Try.isAgg125 rfl rfl) rfl ?_
      refine TD.run ft_prefix_ok [3] rfl rfl ?_
      refine TD.q rfl .u (Ex.b1 3 rfl Try.isAgg3 rfl rfl) rfl ?_
      refine TD.run ft_prefix_ok [5] rfl rfl ?_
      refine TD.q rfl .u (Ex.b1 0 rfl Try.isAgg3 rfl rfl) rfl ?_
      obtain ⟨st28, hx29, h⟩ := Option.bind_eq_some_iff.1 h
      refine TD.c5 rfl .u (.fn Try.call34 rfl) (gOInt_spec g st25 2 1 _ hx29) (fun _ hs => (Src.triv _)) rfl [0, 0, 0, 0, 0] (rfl) ?_
      refine TD.nil (X.blk (X.seq (T.region rfl ?_)))
      refine TL.q rfl .u (Ex.add rfl rfl (by omega)) rfl ?_
      refine TL.run ft_prefix_ok [1] rfl rfl ?_
      refine TL.nil ?_
      refine X.sel [0, 1, 1, 1, 1] rfl ?_
      refine X.un (TW.step (T.seq (T.region rfl ?_)))
      refine TL.run ft_prefix_ok [0] rfl rfl ?_
      refine TL.nil (X.seq (T.seq ?_))
      refine T.yes rfl (decide_eq_true (show 4 < 13 by omega)) ?_
      refine T.skip (X.seq (T.seq (T.block (T.seq (T.region rfl ?_)))))
      refine TL.q rfl .u (Ex.ixL (k := 4) (r := 8) rfl rfl rfl Try.runUnderlying123 Try.sizeOf127 (by decide) rfl) rfl ?_
      refine TL.q rfl .u (Ex.bS (us := [.pointer (some ⟨b1, 3, none⟩), .int .i64 4]) 1 rfl Try.isAgg127 Try.sizeOf127 rfl rfl rfl) rfl ?_
      refine TL.alloc rfl .u Try.zeroValue127 rfl (fun b30 => ?_)
      refine TL.st0 (cs' := #[.pointer (some ⟨b1, 3, none⟩), .int .i64 4]) rfl .u rfl rfl Try.sizeOf127 rfl rfl rfl rfl ?_
      refine TL.nil (X.seq (T.draw (.q 0 (.q 1 (.q 2 (.q 3 (.q 4 (.q 5 (.q 6 (.e 7 .nil)))))))) [0, 0, 0, 0, 0] rfl mix_prefix (NoP.blk (NoP.seq (NoP.seq (NoP.blk np_post)))) (by kernel_rfl) ?_))
      refine TD.run ft_prefix_ok [0, 1] rfl rfl ?_
      refine TD.q rfl .u (Ex.b1 0 rfl Try.isAgg125 rfl rfl) rfl ?_
      refine TD.run ft_prefix_ok [3] rfl rfl ?_
      refine TD.q rfl .u (Ex.b1 4 rfl Try.isAgg3 rfl rfl) rfl ?_
      refine TD.run ft_prefix_ok [5] rfl rfl ?_
      refine TD.q rfl .u (Ex.b1 0 rfl Try.isAgg3 rfl rfl) rfl ?_
      obtain ⟨st31, hx32, h⟩ := Option.bind_eq_some_iff.1 h
      refine TD.c5 rfl .u (.fn Try.call34 rfl) (gOInt_spec g st28 (IntKind.i32.wrap (IntKind.u32.wrap a1.fSum)) 4 _ hx32) (fun _ hs => (Src.triv _)) rfl [0, 0, 0, 0, 0] (rfl) ?_
      refine TD.nil (X.blk (X.seq (T.region rfl ?_)))
      refine TL.q rfl .u (Ex.add rfl rfl (by omega)) rfl ?_
      refine TL.run ft_prefix_ok [1] rfl rfl ?_
      refine TL.nil ?_
      refine X.sel [0, 1, 1, 1, 1] rfl ?_
      refine X.un (TW.step (T.seq (T.region rfl ?_)))
      refine TL.run ft_prefix_ok [0] rfl rfl ?_
      refine TL.nil (X.seq (T.seq ?_))
      refine T.yes rfl (decide_eq_true (show 5 < 13 by omega)) ?_
      refine T.skip (X.seq (T.seq (T.block (T.seq (T.region rfl ?_)))))
      refine TL.q rfl .u (Ex.ixL (k := 5) (r := 10) rfl rfl rfl Try.runUnderlying123 Try.sizeOf127 (by decide) rfl) rfl ?_
      refine TL.q rfl .u (Ex.bS (us := [.pointer (some ⟨b1, 4, none⟩), .int .i64 2]) 1 rfl Try.isAgg127 Try.sizeOf127 rfl rfl rfl) rfl ?_
      refine TL.alloc rfl .u Try.zeroValue127 rfl (fun b33 => ?_)
      refine TL.st0 (cs' := #[.pointer (some ⟨b1, 4, none⟩), .int .i64 2]) rfl .u rfl rfl Try.sizeOf127 rfl rfl rfl rfl ?_
      refine TL.nil (X.seq (T.draw (.q 0 (.q 1 (.q 2 (.q 3 (.q 4 (.q 5 (.q 6 (.e 7 .nil)))))))) [0, 0, 0, 0, 0] rfl mix_prefix (NoP.blk (NoP.seq (NoP.seq (NoP.blk np_post)))) (by kernel_rfl) ?_))
      refine TD.run ft_prefix_ok [0, 1] rfl rfl ?_
      refine TD.q rfl .u (Ex.b1 0 rfl Try.isAgg125 rfl rfl) rfl ?_
      refine TD.run ft_prefix_ok [3] rfl rfl ?_
      refine TD.q rfl .u (Ex.b1 4 rfl Try.isAgg3 rfl rfl) rfl ?_
      refine TD.run ft_prefix_ok [5] rfl rfl ?_
      refine TD.q rfl .u (Ex.b1 0 rfl Try.isAgg3 rfl rfl) rfl ?_
      obtain ⟨st34, hx35, h⟩ := Option.bind_eq_some_iff.1 h
      refine TD.c5 rfl .u (.fn Try.call34 rfl) (gOInt_spec g st31 a1.fAttr 2 _ hx35) (fun _ hs => (Src.triv _)) rfl [0, 0, 0, 0, 0] (rfl) ?_
      refine TD.nil (X.blk (X.seq (T.region rfl ?_)))
      refine TL.q rfl .u (Ex.add rfl rfl (by omega)) rfl ?_
      refine TL.run ft_prefix_ok [1] rfl rfl ?_
      refine TL.nil ?_
      refine X.sel [0, 1, 1, 1, 1] rfl ?_
      refine X.un (TW.step (T.seq (T.region rfl ?_)))
      refine TL.run ft_prefix_ok [0] rfl rfl ?_
      refine TL.nil (X.seq (T.seq ?_))
      refine T.yes rfl (decide_eq_true (show 6 < 13 by omega)) ?_
      refine T.skip (X.seq (T.seq (T.block (T.seq (T.region rfl ?_)))))
      refine TL.q rfl .u (Ex.ixL (k := 6) (r := 12) rfl rfl rfl Try.runUnderlying123 Try.sizeOf127 (by decide) rfl) rfl ?_
      refine TL.q rfl .u (Ex.bS (us := [.pointer (some ⟨b1, 5, none⟩), .int .i64 4]) 1 rfl Try.isAgg127 Try.sizeOf127 rfl rfl rfl) rfl ?_
      refine TL.alloc rfl .u Try.zeroValue127 rfl (fun b36 => ?_)
      refine TL.st0 (cs' := #[.pointer (some ⟨b1, 5, none⟩), .int .i64 4]) rfl .u rfl rfl Try.sizeOf127 rfl rfl rfl rfl ?_
      refine TL.nil (X.seq (T.draw (.q 0 (.q 1 (.q 2 (.q 3 (.q 4 (.q 5 (.q 6 (.e 7 .nil)))))))) [0, 0, 0, 0, 0] rfl mix_prefix (NoP.blk (NoP.seq (NoP.seq (NoP.blk np_post)))) (by kernel_rfl) ?_))
      refine TD.run ft_prefix_ok [0, 1] rfl rfl ?_
      refine TD.q rfl .u (Ex.b1 0 rfl Try.isAgg125 rfl rfl) rfl ?_
      refine TD.run ft_prefix_ok [3] rfl rfl ?_
      refine TD.q rfl .u (Ex.b1 4 rfl Try.isAgg3 rfl rfl) rfl ?_
      refine TD.run ft_prefix_ok [5] rfl rfl ?_
      refine TD.q rfl .u (Ex.b1 0 rfl Try.isAgg3 rfl rfl) rfl ?_
      obtain ⟨st37, hx38, h⟩ := Option.bind_eq_some_iff.1 h
      refine TD.c5 rfl .u (.fn Try.call34 rfl) (gOInt_spec g st34 a1.fLast 4 _ hx38) (fun _ hs => (Src.triv _)) rfl [0, 0, 0, 0, 0] (rfl) ?_
      refine TD.nil (X.blk (X.seq (T.region rfl ?_)))
      refine TL.q rfl .u (Ex.add rfl rfl (by omega)) rfl ?_
      refine TL.run ft_prefix_ok [1] rfl rfl ?_
      refine TL.nil ?_
      refine X.sel [0, 1, 1, 1, 1] rfl ?_
      refine X.un (TW.step (T.seq (T.region rfl ?_)))
      refine TL.run ft_prefix_ok [0] rfl rfl ?_
      refine TL.nil (X.seq (T.seq ?_))
      refine T.yes rfl (decide_eq_true (show 7 < 13 by omega)) ?_
      refine T.skip (X.seq (T.seq (T.block (T.seq (T.region rfl ?_)))))
      refine TL.q rfl .u (Ex.ixL (k := 7) (r := 14) rfl rfl rfl Try.runUnderlying123 Try.sizeOf127 (by decide) rfl) rfl ?_
      refine TL.q rfl .u (Ex.bS (us := [.pointer (some ⟨b1, 6, none⟩), .int .i64 8]) 1 rfl Try.isAgg127 Try.sizeOf127 rfl rfl rfl) rfl ?_
      refine TL.alloc rfl .u Try.zeroValue127 rfl (fun b39 => ?_)
      refine TL.st0 (cs' := #[.pointer (some ⟨b1, 6, none⟩), .int .i64 8]) rfl .u rfl rfl Try.sizeOf127 rfl rfl rfl rfl ?_
      refine TL.nil (X.seq (T.draw (.q 0 (.q 1 (.q 2 (.q 3 (.q 4 (.q 5 (.q 6 (.e 7 .nil)))))))) [0, 0, 0, 0, 0] rfl mix_prefix (NoP.blk (NoP.seq (NoP.seq (NoP.blk np_post)))) (by kernel_rfl) ?_))
      refine TD.run ft_prefix_ok [0, 1] rfl rfl ?_
      refine TD.q rfl .u (Ex.b1 0 rfl Try.isAgg125 rfl rfl) rfl ?_
      refine TD.run ft_prefix_ok [3] rfl rfl ?_
      refine TD.q rfl .u (Ex.b1 4 rfl Try.isAgg3 rfl rfl) rfl ?_
      refine TD.run ft_prefix_ok [5] rfl rfl ?_
      refine TD.q rfl .u (Ex.b1 0 rfl Try.isAgg3 rfl rfl) rfl ?_
      obtain ⟨st40, hx41, h⟩ := Option.bind_eq_some_iff.1 h
      refine TD.c5 rfl .u (.fn Try.call34 rfl) (gOInt_spec g st37 a1.fFirst 8 _ hx41) (fun _ hs => (Src.triv _)) rfl [0, 0, 0, 0, 0] (rfl) ?_
      refine TD.nil (X.blk (X.seq (T.region rfl ?_)))
      refine TL.q rfl .u (Ex.add rfl rfl (by omega)) rfl ?_
      refine TL.run ft_prefix_ok [1] rfl rfl ?_
      refine TL.nil ?_
      refine X.sel [0, 1, 1, 1, 1] rfl ?_
      refine X.un (TW.step (T.seq (T.region rfl ?_)))
      refine TL.run ft_prefix_ok [0] rfl rfl ?_
      refine TL.nil (X.seq (T.seq ?_))
      refine T.yes rfl (decide_eq_true (show 8 < 13 by omega)) ?_
      refine T.skip (X.seq (T.seq (T.block (T.seq (T.region rfl ?_)))))
      refine TL.q rfl .u (Ex.ixL (k := 8) (r := 16) rfl rfl rfl Try.runUnderlying123 Try.sizeOf127 (by decide) rfl) rfl ?_
      refine TL.q rfl .u (Ex.bS (us := [.pointer (some ⟨b1, 7, none⟩), .int .i64 8]) 1 rfl Try.isAgg127 Try.sizeOf127 rfl rfl rfl) rfl ?_
      refine TL.alloc rfl .u Try.zeroValue127 rfl (fun b42 => ?_)
      refine TL.st0 (cs' := #[.pointer (some ⟨b1, 7, none⟩), .int .i64 8]) rfl .u rfl rfl Try.sizeOf127 rfl rfl rfl rfl ?_
      refine TL.nil (X.seq (T.draw (.q 0 (.q 1 (.q 2 (.q 3 (.q 4 (.q 5 (.q 6 (.e 7 .nil)))))))) [0, 0, 0, 0, 0] rfl mix_prefix (NoP.blk (NoP.seq (NoP.seq (NoP.blk np_post)))) (by kernel_rfl) ?_))
      refine TD.run ft_prefix_ok [0, 1] rfl rfl ?_
      refine TD.q rfl .u (Ex.b1 0 rfl Try.isAgg125 rfl rfl) rfl ?_
      refine TD.run ft_prefix_ok [3] rfl rfl ?_
      refine TD.q rfl .u (Ex.b1 4 rfl Try.isAgg3 rfl rfl) rfl ?_
      refine TD.run ft_prefix_ok [5] rfl rfl ?_
      refine TD.q rfl .u (Ex.b1 0 rfl Try.isAgg3 rfl rfl) rfl ?_
      obtain ⟨st43, hx44, h⟩ := Option.bind_eq_some_iff.1 h
      refine TD.c5 rfl .u (.fn Try.call34 rfl) (gOInt_spec g st40 a1.fMax 8 _ hx44) (fun _ hs => (Src.triv _)) rfl [0, 0, 0, 0, 0] (rfl) ?_
      refine TD.nil (X.blk (X.seq (T.region rfl ?_)))
      refine TL.q rfl .u (Ex.add rfl rfl (by omega)) rfl ?_
      refine TL.run ft_prefix_ok [1] rfl rfl ?_
      refine TL.nil ?_
      refine X.sel [0, 1, 1, 1, 1] rfl ?_
      refine X.un (TW.step (T.seq (T.region rfl ?_)))
      refine TL.run ft_prefix_ok [0] rfl rfl ?_
      refine TL.nil (X.seq (T.seq ?_))
      refine T.yes rfl (decide_eq_true (show 9 < 13 by omega)) ?_
      refine T.skip (X.seq (T.seq (T.block (T.seq (T.region rfl ?_)))))
      refine TL.q rfl .u (Ex.ixL (k := 9) (r := 18) rfl rfl rfl Try.runUnderlying123 Try.sizeOf127 (by decide) rfl) rfl ?_
      refine TL.q rfl .u (Ex.bS (us := [.pointer (some ⟨b1, 8, none⟩), .int .i64 8]) 1 rfl Try.isAgg127 Try.sizeOf127 rfl rfl rfl) rfl ?_
      refine TL.alloc rfl .u Try.zeroValue127 rfl (fun b45 => ?_)
      refine TL.st0 (cs' := #[.pointer (some ⟨b1, 8, none⟩), .int .i64 8]) rfl .u rfl rfl Try.sizeOf127 rfl rfl rfl rfl ?_
      refine TL.nil (X.seq (T.draw (.q 0 (.q 1 (.q 2 (.q 3 (.q 4 (.q 5 (.q 6 (.e 7 .nil)))))))) [0, 0, 0, 0, 0] rfl mix_prefix (NoP.blk (NoP.seq (NoP.seq (NoP.blk np_post)))) (by kernel_rfl) ?_))
      refine TD.run ft_prefix_ok [0, 1] rfl rfl ?_
      refine TD.q rfl .u (Ex.b1 0 rfl Try.isAgg125 rfl rfl) rfl ?_
      refine TD.run ft_prefix_ok [3] rfl rfl ?_
      refine TD.q rfl .u (Ex.b1 4 rfl Try.isAgg3 rfl rfl) rfl ?_
      refine TD.run ft_prefix_ok [5] rfl rfl ?_
      refine TD.q rfl .u (Ex.b1 0 rfl Try.isAgg3 rfl rfl) rfl ?_
      obtain ⟨st46, hx47, h⟩ := Option.bind_eq_some_iff.1 h
      refine TD.c5 rfl .u (.fn Try.call34 rfl) (gOInt_spec g st43 a1.fProducer 8 _ hx47) (fun _ hs => (Src.triv _)) rfl [0, 0, 0, 0, 0] (rfl) ?_
      refine TD.nil (X.blk (X.seq (T.region rfl ?_)))
      refine TL.q rfl .u (Ex.add rfl rfl (by omega)) rfl ?_
      refine TL.run ft_prefix_ok [1] rfl rfl ?_
      refine TL.nil ?_
      refine X.sel [0, 1, 1, 1, 1] rfl ?_
      refine X.un (TW.step (T.seq (T.region rfl ?_)))
      refine TL.run ft_prefix_ok [0] rfl rfl ?_
      refine TL.nil (X.seq (T.seq ?_))
      refine T.yes rfl (decide_eq_true (show 10 < 13 by omega)) ?_
      refine T.skip (X.seq (T.seq (T.block (T.seq (T.region rfl ?_)))))
      refine TL.q rfl .u (Ex.ixL (k := 10) (r := 20) rfl rfl rfl Try.runUnderlying123 Try.sizeOf127 (by decide) rfl) rfl ?_
      refine TL.q rfl .u (Ex.bS (us := [.pointer (some ⟨b1, 9, none⟩), .int .i64 2]) 1 rfl Try.isAgg127 Try.sizeOf127 rfl rfl rfl) rfl ?_
      refine TL.alloc rfl .u Try.zeroValue127 rfl (fun b48 => ?_)
      refine TL.st0 (cs' := #[.pointer (some ⟨b1, 9, none⟩), .int .i64 2]) rfl .u rfl rfl Try.sizeOf127 rfl rfl rfl rfl ?_
      refine TL.nil (X.seq (T.draw (.q 0 (.q 1 (.q 2 (.q 3 (.q 4 (.q 5 (.q 6 (.e 7 .nil)))))))) [0, 0, 0, 0, 0] rfl mix_prefix (NoP.blk (NoP.seq (NoP.seq (NoP.blk np_post)))) (by kernel_rfl) ?_))
      refine TD.run ft_prefix_ok [0, 1] rfl rfl ?_
      refine TD.q rfl .u (Ex.b1 0 rfl Try.isAgg125 rfl rfl) rfl ?_
      refine TD.run ft_prefix_ok [3] rfl rfl ?_
      refine TD.q rfl .u (Ex.b1 4 rfl Try.isAgg3 rfl rfl) rfl ?_
      refine TD.run ft_prefix_ok [5] rfl rfl ?_
      refine TD.q rfl .u (Ex.b1 0 rfl Try.isAgg3 rfl rfl) rfl ?_
      obtain ⟨st49, hx50, h⟩ := Option.bind_eq_some_iff.1 h
      refine TD.c5 rfl .u (.fn Try.call34 rfl) (gOInt_spec g st46 a1.fEpoch 2 _ hx50) (fun _ hs => (Src.triv _)) rfl [0, 0, 0, 0, 0] (rfl) ?_
      refine TD.nil (X.blk (X.seq (T.region rfl ?_)))
      refine TL.q rfl .u (Ex.add rfl rfl (by omega)) rfl ?_
      refine TL.run ft_prefix_ok [1] rfl rfl ?_
      refine TL.nil ?_
      refine X.sel [0, 1, 1, 1, 1] rfl ?_
      refine X.un (TW.step (T.seq (T.region rfl ?_)))
      refine TL.run ft_prefix_ok [0] rfl rfl ?_
      refine TL.nil (X.seq (T.seq ?_))
      refine T.yes rfl (decide_eq_true (show 11 < 13 by omega)) ?_
      refine T.skip (X.seq (T.seq (T.block (T.seq (T.region rfl ?_)))))
      refine TL.q rfl .u (Ex.ixL (k := 11) (r := 22) rfl rfl rfl Try.runUnderlying123 Try.sizeOf127 (by decide) rfl) rfl ?_
      refine TL.q rfl .u (Ex.bS (us := [.pointer (some ⟨b1, 10, none⟩), .int .i64 4]) 1 rfl Try.isAgg127 Try.sizeOf127 rfl rfl rfl) rfl ?_
      refine TL.alloc rfl .u Try.zeroValue127 rfl (fun b51 => ?_)
      refine TL.st0 (cs' := #[.pointer (some ⟨b1, 10, none⟩), .int .i64 4]) rfl .u rfl rfl Try.sizeOf127 rfl rfl rfl rfl ?_
      refine TL.nil (X.seq (T.draw (.q 0 (.q 1 (.q 2 (.q 3 (.q 4 (.q 5 (.q 6 (.e 7 .nil)))))))) [0, 0, 0, 0, 0] rfl mix_prefix (NoP.blk (NoP.seq (NoP.seq (NoP.blk np_post)))) (by kernel_rfl) ?_))
      refine TD.run ft_prefix_ok [0, 1] rfl rfl ?_
      refine TD.q rfl .u (Ex.b1 0 rfl Try.isAgg125 rfl rfl) rfl ?_
      refine TD.run ft_prefix_ok [3] rfl rfl ?_
      refine TD.q rfl .u (Ex.b1 4 rfl Try.isAgg3 rfl rfl) rfl ?_
      refine TD.run ft_prefix_ok [5] rfl rfl ?_
      refine TD.q rfl .u (Ex.b1 0 rfl Try.isAgg3 rfl rfl) rfl ?_
      obtain ⟨st52, hx53, h⟩ := Option.bind_eq_some_iff.1 h
      refine TD.c5 rfl .u (.fn Try.call34 rfl) (gOInt_spec g st49 a1.fSequence 4 _ hx53) (fun _ hs => (Src.triv _)) rfl [0, 0, 0, 0, 0] (rfl) ?_
      refine TD.nil (X.blk (X.seq (T.region rfl ?_)))
      refine TL.q rfl .u (Ex.add rfl rfl (by omega)) rfl ?_
      refine TL.run ft_prefix_ok [1] rfl rfl ?_
      refine TL.nil ?_
      refine X.sel [0, 1, 1, 1, 1] rfl ?_
      refine X.un (TW.step (T.seq (T.region rfl ?_)))
      refine TL.run ft_prefix_ok [0] rfl rfl ?_
      refine TL.nil (X.seq (T.seq ?_))
      refine T.yes rfl (decide_eq_true (show 12 < 13 by omega)) ?_
      refine T.skip (X.seq (T.seq (T.block (T.seq (T.region rfl ?_)))))
      refine TL.q rfl .u (Ex.ixL (k := 12) (r := 24) rfl rfl rfl Try.runUnderlying123 Try.sizeOf127 (by decide) rfl) rfl ?_
      refine TL.q rfl .u (Ex.bS (us := [.pointer (some ⟨b1, 11, none⟩), .int .i64 4]) 1 rfl Try.isAgg127 Try.sizeOf127 rfl rfl rfl) rfl ?_
      refine TL.alloc rfl .u Try.zeroValue127 rfl (fun b54 => ?_)
      refine TL.st0 (cs' := #[.pointer (some ⟨b1, 11, none⟩), .int .i64 4]) rfl .u rfl rfl Try.sizeOf127 rfl rfl rfl rfl ?_
      refine TL.nil (X.seq (T.draw (.q 0 (.q 1 (.q 2 (.q 3 (.q 4 (.q 5 (.q 6 (.e 7 .nil)))))))) [0, 0, 0, 0, 0] rfl mix_prefix (NoP.blk (NoP.seq (NoP.seq (NoP.blk np_post)))) (by kernel_rfl) ?_))
      refine TD.run ft_prefix_ok [0, 1] rfl rfl ?_
      refine TD.q rfl .u (Ex.b1 0 rfl Try.isAgg125 rfl rfl) rfl ?_
      refine TD.run ft_prefix_ok [3] rfl rfl ?_
      refine TD.q rfl .u (Ex.b1 4 rfl Try.isAgg3 rfl rfl) rfl ?_
      refine TD.run ft_prefix_ok [5] rfl rfl ?_
      refine TD.q rfl .u (Ex.b1 0 rfl Try.isAgg3 rfl rfl) rfl ?_
      obtain ⟨st55, hx56, h⟩ := Option.bind_eq_some_iff.1 h
      refine TD.c5 rfl .u (.fn Try.call34 rfl) (gOInt_spec g st52 a1.fCount 4 _ hx56) (fun _ hs => (Src.triv _)) rfl [0, 0, 0, 0, 0] (rfl) ?_
      refine TD.nil (X.blk (X.seq (T.region rfl ?_)))
      refine TL.q rfl .u (Ex.add rfl rfl (by omega)) rfl ?_
      refine TL.run ft_prefix_ok [1] rfl rfl ?_
      refine TL.nil ?_
      refine X.sel [0, 1, 1, 1, 1] rfl ?_
      refine X.un (TW.step (T.seq (T.region rfl ?_)))
      refine TL.run ft_prefix_ok [0] rfl rfl ?_
      refine TL.nil (X.seq (T.seq ?_))
      refine T.no rfl (decide_eq_false (show ¬ (13 < 13) by omega)) ?_
      obtain rfl := Option.some.inj h
      exact T.exit (X.exs (X.exs (X.ex (X.done0 [4] Try.results23 ⟨rfl, rfl, rfl⟩ (by rfl) (.inr rfl)))))
def f_prefix_Read (st : I)  : Option (Pfx × I) := (gInt st 8).bind fun (x6, st7) => (gInt st7 4).bind fun (x10, st11) => (gInt st11 4).bind fun (x14, st15) => (gInt st15 1).bind fun (x18, st19) => (gInt st19 4).bind fun (x22, st23) => (gInt st23 2).bind fun (x26, st27) => (gInt st27 4).bind fun (x30, st31) => (gInt st31 8).bind fun (x34, st35) => (gInt st35 8).bind fun (x38, st39) => (gInt st39 8).bind fun (x42, st43) => (gInt st43 2).bind fun (x46, st47) => (gInt st47 4).bind fun (x50, st51) => (gInt st51 4).bind fun (x54, st55) => (gErr st55).bind fun (x57, st58) => (if x57 = 0 then ((if x18 = 2 then ((if x10 < 49 then ((gIFail st58 4).bind fun st164 => some st164) else ((if x54 < 0 then ((gIFail st58 10).bind fun st172 => some st172) else some st58).bind fun st169 => some st169)).bind fun st161 => some st161) else ((gIFail st58 6).bind fun st174 => some st174)).bind fun st147 => some st147) else some st58).bind fun st117 => (gErr st117).bind fun (x176, st177) => if x176 = 0 then (some ((⟨x6, x10, x14, (Go.bits .and .i64 x22 4294967295), x26, x30, x34, x38, x42, x46, x50, x54⟩ : Pfx), st177)) else (some ((⟨0, 0, 0, 0, 0, 0, 0, 0, 0, 0, 0, 0⟩ : Pfx), st177))
set_option maxRecDepth 100000 in
set_option maxHeartbeats 4000000 in
theorem f_prefix_Read_spec (g : Nat) (st : I)  (r : Pfx × I) (h : f_prefix_Read st  = some r) : SpecX Try.prog 28 #[.pointer (some ⟨g, 0, none⟩)] .triv (InR g st) (fun v A' N => v = .agg #[.int .i64 r.1.fBase, .int .i64 r.1.fLength, .int .i64 r.1.fLeader, .int .i64 r.1.fSum, .int .i64 r.1.fAttr, .int .i64 r.1.fLast, .int .i64 r.1.fFirst, .int .i64 r.1.fMax, .int .i64 r.1.fProducer, .int .i64 r.1.fEpoch, .int .i64 r.1.fSequence, .int .i64 r.1.fCount] ∧ A' = InR g r.2 ∧ N = []) := by
  refine enterA Try.func28 rfl Try.ntmps28 rfl ?_
  intro F w hX
  unfold f_prefix_Read at h
  refine T.seq (T.region rfl ?_)
  refine TL.alloc rfl .u Try.zeroValue38 rfl (fun b1 => ?_)
  refine TL.nil (X.seq (T.seq (T.region rfl ?_)))
  refine TL.alloc rfl .u Try.zeroValue38 rfl (fun b2 => ?_)
  refine TL.nil (X.seq (T.seq (T.region rfl ?_)))
  refine TL.alloc rfl .u Try.zeroValue3 rfl (fun b3 => ?_)
  refine TL.st0 (cs' := #[.int .i64 0]) rfl .u rfl rfl Try.sizeOf3 rfl rfl rfl rfl ?_
  refine TL.nil (X.seq (T.seq (T.seq (T.region rfl ?_))))
  refine TL.cge rfl .u (.fn Try.call75 rfl) (f_prefix_PrefixFields_spec b2 b3 () rfl) (fun _ hs => RX.reads_triv _ _) rfl ?_
  rintro _ _ _ ⟨b4, rfl, rfl, rfl⟩
  refine TL.sel [0, 0, 0, 0, 0] rfl ?_
  refine TL.q rfl .u (Ex.lenS rfl Try.runUnderlying123) rfl ?_
  refine TL.run ft_prefix_ok [2] rfl rfl ?_
  refine TL.nil (X.seq (T.block ?_))
  refine T.unroll0 (TW.step (T.seq (T.region rfl ?_)))
  refine TL.run ft_prefix_ok [0] rfl rfl ?_
  refine TL.nil (X.seq (T.seq ?_))
  refine T.yes rfl (decide_eq_true (show 0 < 13 by omega)) ?_
  refine T.skip (X.seq (T.seq (T.block (T.seq (T.region rfl ?_)))))
  refine TL.q rfl .u (Ex.ixL (k := 0) (r := 0) rfl rfl rfl Try.runUnderlying123 Try.sizeOf127 (by decide) rfl) rfl ?_
  refine TL.q rfl .u (Ex.bS (us := [.pointer (some ⟨b2, 0, none⟩), .int .i64 8]) 0 rfl Try.isAgg127 Try.sizeOf127 rfl rfl rfl) rfl ?_
  refine TL.alloc rfl .u Try.zeroValue127 rfl (fun b5 => ?_)
  refine TL.st0 (cs' := #[.pointer (some ⟨b2, 0, none⟩), .int .i64 8]) rfl .u rfl rfl Try.sizeOf127 rfl rfl rfl rfl ?_
  refine TL.nil (X.seq (T.draw (.q 0 (.q 1 (.q 2 (.q 3 (.q 4 (.e 5 (.q 6 (.e 7 .nil)))))))) [0, 0, 0, 1] rfl mix_prefix (NoP.blk (NoP.seq (NoP.seq (NoP.blk (NoP.seq np_post))))) (by kernel_rfl) ?_))
  refine TD.run ft_prefix_ok [0] rfl rfl ?_
  refine TD.q rfl .u (Ex.b1 0 rfl Try.isAgg125 rfl rfl) rfl ?_
  refine TD.run ft_prefix_ok [2, 3] rfl rfl ?_
  refine TD.q rfl .u (Ex.b1 0 rfl Try.isAgg3 rfl rfl) rfl ?_
  obtain ⟨⟨x6, st7⟩, hx8, h⟩ := Option.bind_eq_some_iff.1 h
  try dsimp only at h
  refine TD.c5 rfl .u (.fn Try.call37 rfl) (gInt_spec g st 8 _ hx8) (fun _ hs => (Src.triv _)) rfl [0, 0, 0, 1] (rfl) ?_
  refine TD.run ft_prefix_ok [6] rfl rfl ?_
  refine TD.st3 (cs' := #[.int .i64 x6, .int .i64 0, .int .i64 0, .int .i64 0, .int .i64 0, .int .i64 0, .int .i64 0, .int .i64 0, .int .i64 0, .int .i64 0, .int .i64 0, .int .i64 0]) rfl .u rfl rfl Try.sizeOf3 rfl rfl rfl rfl [0, 0, 0, 1] (rfl) ?_
  refine TD.nil (X.blk (X.seq (T.region rfl ?_)))
  refine TL.q rfl .u (Ex.add rfl rfl (by omega)) rfl ?_
  refine TL.run ft_prefix_ok [1] rfl rfl ?_
  refine TL.nil (X.un (TW.step (T.seq (T.region rfl ?_))))
  refine TL.run ft_prefix_ok [0] rfl rfl ?_
  refine TL.nil (X.seq (T.seq ?_))
  refine T.yes rfl (decide_eq_true (show 1 < 13 by omega)) ?_
  refine T.skip (X.seq (T.seq (T.block (T.seq (T.region rfl ?_)))))
  refine TL.q rfl .u (Ex.ixL (k := 1) (r := 2) rfl rfl rfl Try.runUnderlying123 Try.sizeOf127 (by decide) rfl) rfl ?_
  refine TL.q rfl .u (Ex.bS (us := [.pointer (some ⟨b2, 1, none⟩), .int .i64 4]) 1 rfl Try.isAgg127 Try.sizeOf127 rfl rfl rfl) rfl ?_
  refine TL.alloc rfl .u Try.zeroValue127 rfl (fun b9 => ?_)
  refine TL.st0 (cs' := #[.pointer (some ⟨b2, 1, none⟩), .int .i64 4]) rfl .u rfl rfl Try.sizeOf127 rfl rfl rfl rfl ?_
  refine TL.nil (X.seq (T.draw (.q 0 (.q 1 (.q 2 (.q 3 (.q 4 (.e 5 (.q 6 (.e 7 .nil)))))))) [0, 0, 0, 0, 1] rfl mix_prefix (NoP.blk (NoP.seq (NoP.seq (NoP.blk (NoP.seq np_post))))) (by kernel_rfl) ?_))
  refine TD.run ft_prefix_ok [0] rfl rfl ?_
  refine TD.q rfl .u (Ex.b1 0 rfl Try.isAgg125 rfl rfl) rfl ?_
  refine TD.run ft_prefix_ok [2, 3] rfl rfl ?_
  refine TD.q rfl .u (Ex.b1 0 rfl Try.isAgg3 rfl rfl) rfl ?_
  obtain ⟨⟨x10, st11⟩, hx12, h⟩ := Option.bind_eq_some_iff.1 h
  try dsimp only at h
  refine TD.c6 rfl .u (.fn Try.call37 rfl) (gInt_spec g st7 4 _ hx12) (fun _ hs => (Src.triv _)) rfl [0, 0, 0, 0, 1] (rfl) ?_
  refine TD.run ft_prefix_ok [6] rfl rfl ?_
  refine TD.st4 (cs' := #[.int .i64 x6, .int .i64 x10, .int .i64 0, .int .i64 0, .int .i64 0, .int .i64 0, .int .i64 0, .int .i64 0, .int .i64 0, .int .i64 0, .int .i64 0, .int .i64 0]) rfl .u rfl rfl Try.sizeOf3 rfl rfl rfl rfl [0, 0, 0, 0, 1] (rfl) ?_
  refine TD.nil (X.blk (X.seq (T.region rfl ?_)))
  refine TL.q rfl .u (Ex.add rfl rfl (by omega)) rfl ?_
  refine TL.run ft_prefix_ok [1] rfl rfl ?_
  refine TL.nil ?_
  refine X.sel [0, 1, 1, 1, 1, 1] rfl ?_
  refine X.un (TW.step (T.seq (T.region rfl ?_)))
  refine TL.run ft_prefix_ok [0] rfl rfl ?_
  refine TL.nil (X.seq (T.seq ?_))
  refine T.yes rfl (decide_eq_true (show 2 < 13 by omega)) ?_
  refine T.skip (X.seq (T.seq (T.block (T.seq (T.region rfl ?_)))))
  refine TL.q rfl .u (Ex.ixL (k := 2) (r := 4) rfl rfl rfl Try.runUnderlying123 Try.sizeOf127 (by decide) rfl) rfl ?_
  refine TL.q rfl .u (Ex.bS (us := [.pointer (some ⟨b2, 2, none⟩), .int .i64 4]) 1 rfl Try.isAgg127 Try.sizeOf127 rfl rfl rfl) rfl ?_
  refine TL.alloc rfl .u Try.zeroValue127 rfl (fun b13 => ?_)
  refine TL.st0 (cs' := #[.pointer (some ⟨b2, 2, none⟩), .int .i64 4]) rfl .u rfl rfl Try.sizeOf127 rfl rfl rfl rfl ?_
  refine TL.nil (X.seq (T.draw (.q 0 (.q 1 (.q 2 (.q 3 (.q 4 (.e 5 (.q 6 (.e 7 .nil)))))))) [0, 0, 0, 0, 1] rfl mix_prefix (NoP.blk (NoP.seq (NoP.seq (NoP.blk (NoP.seq np_post))))) (by kernel_rfl) ?_))
  refine TD.run ft_prefix_ok [0] rfl rfl ?_
  refine TD.q rfl .u (Ex.b1 0 rfl Try.isAgg125 rfl rfl) rfl ?_
  refine TD.run ft_prefix_ok [2, 3] rfl rfl ?_
  refine TD.q rfl .u (Ex.b1 0 rfl Try.isAgg3 rfl rfl) rfl ?_
  obtain ⟨⟨x14, st15⟩, hx16, h⟩ := Option.bind_eq_some_iff.1 h
  try dsimp only at h
  refine TD.c6 rfl .u (.fn Try.call37 rfl) (gInt_spec g st11 4 _ hx16) (fun _ hs => (Src.triv _)) rfl [0, 0, 0, 0, 1] (rfl) ?_
  refine TD.run ft_prefix_ok [6] rfl rfl ?_
  refine TD.st4 (cs' := #[.int .i64 x6, .int .i64 x10, .int .i64 x14, .int .i64 0, .int .i64 0, .int .i64 0, .int .i64 0, .int .i64 0, .int .i64 0, .int .i64 0, .int .i64 0, .int .i64 0]) rfl .u rfl rfl Try.sizeOf3 rfl rfl rfl rfl [0, 0, 0, 0, 1] (rfl) ?_
  refine TD.nil (X.blk (X.seq (T.region rfl ?_)))
  refine TL.q rfl .u (Ex.add rfl rfl (by omega)) rfl ?_
  refine TL.run ft_prefix_ok [1] rfl rfl ?_
  refine TL.nil ?_
  refine X.sel [0, 1, 1, 1, 1, 1] rfl ?_
  refine X.un (TW.step (T.seq (T.region rfl ?_)))
  refine TL.run ft_prefix_ok [0] rfl rfl ?_
  refine TL.nil (X.seq (T.seq ?_))
  refine T.yes rfl (decide_eq_true (show 3 < 13 by omega)) ?_
  refine T.skip (X.seq (T.seq (T.block (T.seq (T.region rfl ?_)))))
  refine TL.q rfl .u (Ex.ixL (k := 3) (r := 6) rfl rfl rfl Try.runUnderlying123 Try.sizeOf127 (by decide) rfl) rfl ?_
  refine TL.q rfl .u (Ex.bS (us := [.pointer (some ⟨b3, 0, none⟩), .int .i64 1]) 1 rfl Try.isAgg127 Try.sizeOf127 rfl rfl rfl) rfl ?_
  refine TL.alloc rfl .u Try.zeroValue127 rfl (fun b17 => ?_)
  refine TL.st0 (cs' := #[.pointer (some ⟨b3, 0, none⟩), .int .i64 1]) rfl .u rfl rfl Try.sizeOf127 rfl rfl rfl rfl ?_
  refine TL.nil (X.seq (T.draw (.q 0 (.q 1 (.q 2 (.q 3 (.q 4 (.e 5 (.q 6 (.e 7 .nil)))))))) [0, 0, 0, 1, 1] rfl mix_prefix (NoP.blk (NoP.seq (NoP.seq (NoP.blk (NoP.seq np_post))))) (by kernel_rfl) ?_))
  refine TD.run ft_prefix_ok [0] rfl rfl ?_
  refine TD.q rfl .u (Ex.b1 0 rfl Try.isAgg125 rfl rfl) rfl ?_
  refine TD.run ft_prefix_ok [2, 3] rfl rfl ?_
  refine TD.q rfl .u (Ex.b1 0 rfl Try.isAgg3 rfl rfl) rfl ?_
  obtain ⟨⟨x18, st19⟩, hx20, h⟩ := Option.bind_eq_some_iff.1 h
  try dsimp only at h
  refine TD.c6 rfl .u (.fn Try.call37 rfl) (gInt_spec g st15 1 _ hx20) (fun _ hs => (Src.triv _)) rfl [0, 0, 0, 1, 1] (rfl) ?_
  refine TD.run ft_prefix_ok [6] rfl rfl ?_
  refine TD.st3 (cs' := #[.int .i64 x18]) rfl .u rfl rfl Try.sizeOf3 rfl rfl rfl rfl [0, 0, 0, 1, 1] (rfl) ?_
  refine TD.nil (X.blk (X.seq (T.region rfl ?_)))
  refine TL.q rfl .u (Ex.add rfl rfl (by omega)) rfl ?_
  refine TL.run ft_prefix_ok [1] rfl rfl ?_
  refine TL.nil ?_
  refine X.sel [0, 1, 1, 1, 1, 1] rfl ?_
  refine X.un (TW.step (T.seq (T.region rfl ?_)))
  refine TL.run ft_prefix_ok [0] rfl rfl ?_
  refine TL.nil (X.seq (T.seq ?_))
  refine T.yes rfl (decide_eq_true (show 4 < 13 by omega)) ?_
  refine T.skip (X.seq (T.seq (T.block (T.seq (T.region rfl ?_)))))
  refine TL.q rfl .u (Ex.ixL (k := 4) (r := 8) rfl rfl rfl Try.runUnderlying123 Try.sizeOf127 (by decide) rfl) rfl ?_
  refine TL.q rfl .u (Ex.bS (us := [.pointer (some ⟨b2, 3, none⟩), .int .i64 4]) 1 rfl Try.isAgg127 Try.sizeOf127 rfl rfl rfl) rfl ?_
  refine TL.alloc rfl .u Try.zeroValue127 rfl (fun b21 => ?_)
  refine TL.st0 (cs' := #[.pointer (some ⟨b2, 3, none⟩), .int .i64 4]) rfl .u rfl rfl Try.sizeOf127 rfl rfl rfl rfl ?_
  refine TL.nil (X.seq (T.draw (.q 0 (.q 1 (.q 2 (.q 3 (.q 4 (.e 5 (.q 6 (.e 7 .nil)))))))) [0, 0, 0, 0, 1] rfl mix_prefix (NoP.blk (NoP.seq (NoP.seq (NoP.blk (NoP.seq np_post))))) (by kernel_rfl) ?_))
  refine TD.run ft_prefix_ok [0] rfl rfl ?_
  refine TD.q rfl .u (Ex.b1 0 rfl Try.isAgg125 rfl rfl) rfl ?_
  refine TD.run ft_prefix_ok [2, 3] rfl rfl ?_
  refine TD.q rfl .u (Ex.b1 0 rfl Try.isAgg3 rfl rfl) rfl ?_
  obtain ⟨⟨x22, st23⟩, hx24, h⟩ := Option.bind_eq_some_iff.1 h
  try dsimp only at h
  refine TD.c6 rfl .u (.fn Try.call37 rfl) (gInt_spec g st19 4 _ hx24) (fun _ hs => (Src.triv _)) rfl [0, 0, 0, 0, 1] (rfl) ?_
  refine TD.run ft_prefix_ok [6] rfl rfl ?_
  refine TD.st4 (cs' := #[.int .i64 x6, .int .i64 x10, .int .i64 x14, .int .i64 x22, .int .i64 0, .int .i64 0, .int .i64 0, .int .i64 0, .int .i64 0, .int .i64 0, .int .i64 0, .int .i64 0]) rfl .u rfl rfl Try.sizeOf3 rfl rfl rfl rfl [0, 0, 0, 0, 1] (rfl) ?_
  refine TD.nil (X.blk (X.seq (T.region rfl ?_)))
  refine TL.q rfl .u (Ex.add rfl rfl (by omega)) rfl ?_
  refine TL.run ft_prefix_ok [1] rfl rfl ?_
  refine TL.nil ?_
  refine X.sel [0, 1, 1, 1, 1, 1] rfl ?_
  refine X.un (TW.step (T.seq (T.region rfl ?_)))
  refine TL.run ft_prefix_ok [0] rfl rfl ?_
  refine TL.nil (X.seq (T.seq ?_))
  refine T.yes rfl (decide_eq_true (show 5 < 13 by omega)) ?_
  refine T.skip (X.seq (T.seq (T.block (T.seq (T.region rfl ?_)))))
  refine TL.q rfl .u (Ex.ixL (k := 5) (r := 10) rfl rfl rfl Try.runUnderlying123 Try.sizeOf127 (by decide) rfl) rfl ?_
  refine TL.q rfl .u (Ex.bS (us := [.pointer (some ⟨b2, 4, none⟩), .int .i64 2]) 1 rfl Try.isAgg127 Try.sizeOf127 rfl rfl rfl) rfl ?_
  refine TL.alloc rfl .u Try.zeroValue127 rfl (fun b25 => ?_)
  refine TL.st0 (cs' := #[.pointer (some ⟨b2, 4, none⟩), .int .i64 2]) rfl .u rfl rfl Try.sizeOf127 rfl rfl rfl rfl ?_
  refine TL.nil (X.seq (T.draw (.q 0 (.q 1 (.q 2 (.q 3 (.q 4 (.e 5 (.q 6 (.e 7 .nil)))))))) [0, 0, 0, 0, 1] rfl mix_prefix (NoP.blk (NoP.seq (NoP.seq (NoP.blk (NoP.seq np_post))))) (by kernel_rfl) ?_))
  refine TD.run ft_prefix_ok [0] rfl rfl ?_
  refine TD.q rfl .u (Ex.b1 0 rfl Try.isAgg125 rfl rfl) rfl ?_
  refine TD.run ft_prefix_ok [2, 3] rfl rfl ?_
  refine TD.q rfl .u (Ex.b1 0 rfl Try.isAgg3 rfl rfl) rfl ?_
  obtain ⟨⟨x26, st27⟩, hx28, h⟩ := Option.bind_eq_some_iff.1 h
  try dsimp only at h
  refine TD.c6 rfl .u (.fn Try.call37 rfl) (gInt_spec g st23 2 _ hx28) (fun _ hs => (Src.triv _)) rfl [0, 0, 0, 0, 1] (rfl) ?_
  refine TD.run ft_prefix_ok [6] rfl rfl ?_
  refine TD.st4 (cs' := #[.int .i64 x6, .int .i64 x10, .int .i64 x14, .int .i64 x22, .int .i64 x26, .int .i64 0, .int .i64 0, .int .i64 0, .int .i64 0, .int .i64 0, .int .i64 0, .int .i64 0]) rfl .u rfl rfl Try.sizeOf3 rfl rfl rfl rfl [0, 0, 0, 0, 1] (rfl) ?_
  refine TD.nil (X.blk (X.seq (T.region rfl ?_)))
  refine TL.q rfl .u (Ex.add rfl rfl (by omega)) rfl ?_
  refine TL.run ft_prefix_ok [1] rfl rfl ?_
  refine TL.nil ?_
  refine X.sel [0, 1, 1, 1, 1, 1] rfl ?_
  refine X.un (TW.step (T.seq (T.region rfl ?_)))
  refine TL.run ft_prefix_ok [0] rfl rfl ?_
  refine TL.nil (X.seq (T.seq ?_))
  refine T.yes rfl (decide_eq_true (show 6 < 13 by omega)) ?_
  refine T.skip (X.seq (T.seq (T.block (T.seq (T.region rfl ?_)))))
  refine TL.q rfl .u (Ex.ixL (k := 6) (r := 12) rfl rfl rfl Try.runUnderlying123 Try.sizeOf127 (by decide) rfl) rfl ?_
  refine TL.q rfl .u (Ex.bS (us := [.pointer (some ⟨b2, 5, none⟩), .int .i64 4]) 1 rfl Try.isAgg127 Try.sizeOf127 rfl rfl rfl) rfl ?_
  refine TL.alloc rfl .u Try.zeroValue127 rfl (fun b29 => ?_)
  refine TL.st0 (cs' := #[.pointer (some ⟨b2, 5, none⟩), .int .i64 4]) rfl .u rfl rfl Try.sizeOf127 rfl rfl rfl rfl ?_
  refine TL.nil (X.seq (T.draw (.q 0 (.q 1 (.q 2 (.q 3 (.q 4 (.e 5 (.q 6 (.e 7 .nil)))))))) [0, 0, 0, 0, 1] rfl mix_prefix (NoP.blk (NoP.seq (NoP.seq (NoP.blk (NoP.seq np_post))))) (by kernel_rfl) ?_))
  refine TD.run ft_prefix_ok [0] rfl rfl ?_
  refine TD.q rfl .u (Ex.b1 0 rfl Try.isAgg125 rfl rfl) rfl ?_
  refine TD.run ft_prefix_ok [2, 3] rfl rfl ?_
  refine TD.q rfl .u (Ex.b1 0 rfl Try.isAgg3 rfl rfl) rfl ?_
  obtain ⟨⟨x30, st31⟩, hx32, h⟩ := Option.bind_eq_some_iff.1 h
  try dsimp only at h
  refine TD.c6 rfl .u (.fn Try.call37 rfl) (gInt_spec g st27 4 _ hx32) (fun _ hs => (Src.triv _)) rfl [0, 0, 0, 0, 1] (rfl) ?_
  refine TD.run ft_prefix_ok [6] rfl rfl ?_
  refine TD.st4 (cs' := #[.int .i64 x6, .int .i64 x10, .int .i64 x14, .int .i64 x22, .int .i64 x26, .int .i64 x30, .int .i64 0, .int .i64 0, .int .i64 0, .int .i64 0, .int .i64 0, .int .i64 0]) rfl .u rfl rfl Try.sizeOf3 rfl rfl rfl rfl [0, 0, 0, 0, 1] (rfl) ?_
  refine TD.nil (X.blk (X.seq (T.region rfl ?_)))
  refine TL.q rfl .u (Ex.add rfl rfl (by omega)) rfl ?_
  refine TL.run ft_prefix_ok [1] rfl rfl ?_
  refine TL.nil ?_
  refine X.sel [0, 1, 1, 1, 1, 1] rfl ?_
  refine X.un (TW.step (T.seq (T.region rfl ?_)))
  refine TL.run ft_prefix_ok [0] rfl rfl ?_
  refine TL.nil (X.seq (T.seq ?_))
  refine T.yes rfl (decide_eq_true (show 7 < 13 by omega)) ?_
  refine T.skip (X.seq (T.seq (T.block (T.seq (T.region rfl ?_)))))
  refine TL.q rfl .u (Ex.ixL (k := 7) (r := 14) rfl rfl rfl Try.runUnderlying123 Try.sizeOf127 (by decide) rfl) rfl ?_
  refine TL.q rfl .u (Ex.bS (us := [.pointer (some ⟨b2, 6, none⟩), .int .i64 8]) 1 rfl Try.isAgg127 Try.sizeOf127 rfl rfl rfl) rfl ?_
  refine TL.alloc rfl .u Try.zeroValue127 rfl (fun b33 => ?_)
  refine TL.st0 (cs' := #[.pointer (some ⟨b2, 6, none⟩), .int .i64 8]) rfl .u rfl rfl Try.sizeOf127 rfl rfl rfl rfl ?_
  refine TL.nil (X.seq (T.draw (.q 0 (.q 1 (.q 2 (.q 3 (.q 4 (.e 5 (.q 6 (.e 7 .nil)))))))) [0, 0, 0, 0, 1] rfl mix_prefix (NoP.blk (NoP.seq (NoP.seq (NoP.blk (NoP.seq np_post))))) (by kernel_rfl) ?_))
  refine TD.run ft_prefix_ok [0] rfl rfl ?_
  refine TD.q rfl .u (Ex.b1 0 rfl Try.isAgg125 rfl rfl) rfl ?_
  refine TD.run ft_prefix_ok [2, 3] rfl rfl ?_
  refine TD.q rfl .u (Ex.b1 0 rfl Try.isAgg3 rfl rfl) rfl ?_
  obtain ⟨⟨x34, st35⟩, hx36, h⟩ := Option.bind_eq_some_iff.1 h
  try dsimp only at h
  refine TD.c6 rfl .u (.fn Try.call37 rfl) (gInt_spec g st31 8 _ hx36) (fun _ hs => (Src.triv _)) rfl [0, 0, 0, 0, 1] (rfl) ?_
  refine TD.run ft_prefix_ok [6] rfl rfl ?_
  refine TD.st4 (cs' := #[.int .i64 x6, .int .i64 x10, .int .i64 x14, .int .i64 x22, .int .i64 x26, .int .i64 x30, .int .i64 x34, .int .i64 0, .int .i64 0, .int .i64 0, .int .i64 0, .int .i64 0]) rfl .u rfl rfl Try.sizeOf3 rfl rfl rfl rfl [0, 0, 0, 0, 1] (rfl) ?_
  refine TD.nil (X.blk (X.seq (T.region rfl ?_)))
  refine TL.q rfl .u (Ex.add rfl rfl (by omega)) rfl ?_
  refine TL.run ft_prefix_ok [1] rfl rfl ?_
  refine TL.nil ?_
  refine X.sel [0, 1, 1, 1, 1, 1] rfl ?_
  refine X.un (TW.step (T.seq (T.region rfl ?_)))
  refine TL.run ft_prefix_ok [0] rfl rfl ?_
  refine TL.nil (X.seq (T.seq ?_))
  refine T.yes rfl (decide_eq_true (show 8 < 13 by omega)) ?_
  refine T.skip (X.seq (T.seq (T.block (T.seq (T.region rfl ?_)))))
  refine TL.q rfl .u (Ex.ixL (k := 8) (r := 16) rfl rfl rfl Try.runUnderlying123 Try.sizeOf127 (by decide) rfl) rfl ?_
  refine TL.q rfl .u (Ex.bS (us := [.pointer (some ⟨b2, 7, none⟩), .int .i64 8]) 1 rfl Try.isAgg127 Try.sizeOf127 rfl rfl rfl) rfl ?_
  refine TL.alloc rfl .u Try.zeroValue127 rfl (fun b37 => ?_)
  refine TL.st0 (cs' := #[.pointer (some ⟨b2, 7, none⟩), .int .i64 8]) rfl .u rfl rfl Try.sizeOf127 rfl rfl rfl rfl ?_
  refine TL.nil (X.seq (T.draw (.q 0 (.q 1 (.q 2 (.q 3 (.q 4 (.e 5 (.q 6 (.e 7 .nil)))))))) [0, 0, 0, 0, 1] rfl mix_prefix (NoP.blk (NoP.seq (NoP.seq (NoP.blk (NoP.seq np_post))))) (by kernel_rfl) ?_))
  refine TD.run ft_prefix_ok [0] rfl rfl ?_
  refine TD.q rfl .u (Ex.b1 0 rfl Try.isAgg125 rfl rfl) rfl ?_
  refine TD.run ft_prefix_ok [2, 3] rfl rfl ?_
  refine TD.q rfl .u (Ex.b1 0 rfl Try.isAgg3 rfl rfl) rfl ?_
  obtain ⟨⟨x38, st39⟩, hx40, h⟩ := Option.bind_eq_some_iff.1 h
  try dsimp only at h
  refine TD.c6 rfl .u (.fn Try.call37 rfl) (gInt_spec g st35 8 _ hx40) (fun _ hs => (Src.triv _)) rfl [0, 0, 0, 0, 1] (rfl) ?_
  refine TD.run ft_prefix_ok [6] rfl rfl ?_
  refine TD.st4 (cs' := #[.int .i64 x6, .int .i64 x10, .int .i64 x14, .int .i64 x22, .int .i64 x26, .int .i64 x30, .int .i64 x34, .int .i64 x38, .int .i64 0, .int .i64 0, .int .i64 0, .int .i64 0]) rfl .u rfl rfl Try.sizeOf3 rfl rfl rfl rfl [0, 0, 0, 0, 1] (rfl) ?_
  refine TD.nil (X.blk (X.seq (T.region rfl ?_)))
  refine TL.q rfl .u (Ex.add rfl rfl (by omega)) rfl ?_
  refine TL.run ft_prefix_ok [1] rfl rfl ?_
  refine TL.nil ?_
  refine X.sel [0, 1, 1, 1, 1, 1] rfl ?_
  refine X.un (TW.step (T.seq (T.region rfl ?_)))
  refine TL.run ft_prefix_ok [0] rfl rfl ?_
  refine TL.nil (X.seq (T.seq ?_))
  refine T.yes rfl (decide_eq_true (show 9 < 13 by omega)) ?_
  refine T.skip (X.seq (T.seq (T.block (T.seq (T.region rfl ?_)))))
  refine TL.q rfl .u (Ex.ixL (k := 9) (r := 18) rfl rfl rfl Try.runUnderlying123 Try.sizeOf127 (by decide) rfl) rfl ?_
  refine TL.q rfl .u (Ex.bS (us := [.pointer (some ⟨b2, 8, none⟩), .int .i64 8]) 1 rfl Try.isAgg127 Try.sizeOf127 rfl rfl rfl) rfl ?_
  refine TL.alloc rfl .u Try.zeroValue127 rfl (fun b41 => ?_)
  refine TL.st0 (cs' := #[.pointer (some ⟨b2, 8, none⟩), .int .i64 8]) rfl .u rfl rfl Try.sizeOf127 rfl rfl rfl rfl ?_
  refine TL.nil (X.seq (T.draw (.q 0 (.q 1 (.q 2 (.q 3 (.q 4 (.e 5 (.q 6 (.e 7 .nil)))))))) [0, 0, 0, 0, 1] rfl mix_prefix (NoP.blk (NoP.seq (NoP.seq (NoP.blk (NoP.seq np_post))))) (by kernel_rfl) ?_))
  refine TD.run ft_prefix_ok [0] rfl rfl ?_
  refine TD.q rfl .u (Ex.b1 0 rfl Try.isAgg125 rfl rfl) rfl ?_
  refine TD.run ft_prefix_ok [2, 3] rfl rfl ?_
  refine TD.q rfl .u (Ex.b1 0 rfl Try.isAgg3 rfl rfl) rfl ?_
  obtain ⟨⟨x42, st43⟩, hx44, h⟩ := Option.bind_eq_some_iff.1 h
  try dsimp only at h
  refine TD.c6 rfl .u (.fn Try.call37 rfl) (gInt_spec g st39 8 _ hx44) (fun _ hs => (Src.triv _)) rfl [0, 0, 0, 0, 1] (rfl) ?_
  refine TD.run ft_prefix_ok [6] rfl rfl ?_
  refine TD.st4 (cs' := #[.int .i64 x6, .int .i64 x10, .int .i64 x14, .int .i64 x22, .int .i64 x26, .int .i64 x30, .int .i64 x34, .int .i64 x38, .int .i64 x42, .int .i64 0, .int .i64 0, .int .i64 0]) rfl .u rfl rfl Try.sizeOf3 rfl rfl rfl rfl [0, 0, 0, 0, 1] (rfl) ?_
  refine TD.nil (X.blk (X.seq (T.region rfl ?_)))
  refine TL.q rfl .u (Ex.add rfl rfl (by omega)) rfl ?_
  refine TL.run ft_prefix_ok [1] rfl rfl ?_
  refine TL.nil ?_
  refine X.sel [0, 1, 1, 1, 1, 1] rfl ?_
  refine X.un (TW.step (T.seq (T.region rfl ?_)))
  refine TL.run ft_prefix_ok [0] rfl rfl ?_
  refine TL.nil (X.seq (T.seq ?_))
  refine T.yes rfl (decide_eq_true (show 10 < 13 by omega)) ?_
  refine T.skip (X.seq (T.seq (T.block (T.seq (T.region rfl ?_)))))
  refine TL.q rfl .u (Ex.ixL (k := 10) (r := 20) rfl rfl rfl Try.runUnderlying123 Try.sizeOf127 (by decide) rfl) rfl ?_
  refine TL.q rfl .u (Ex.bS (us := [.pointer (some ⟨b2, 9, none⟩), .int .i64 2]) 1 rfl Try.isAgg127 Try.sizeOf127 rfl rfl rfl) rfl ?_
  refine TL.alloc rfl .u Try.zeroValue127 rfl (fun b45 => ?_)
  refine TL.st0 (cs' := #[.pointer (some ⟨b2, 9, none⟩), .int .i64 2]) rfl .u rfl rfl Try.sizeOf127 rfl rfl rfl rfl ?_
  refine TL.nil (X.seq (T.draw (.q 0 (.q 1 (.q 2 (.q 3 (.q 4 (.e 5 (.q 6 (.e 7 .nil)))))))) [0, 0, 0, 0, 1] rfl mix_prefix (NoP.blk (NoP.seq (NoP.seq (NoP.blk (NoP.seq np_post))))) (by kernel_rfl) ?_))
  refine TD.run ft_prefix_ok [0] rfl rfl ?_
  refine TD.q rfl .u (Ex.b1 0 rfl Try.isAgg125 rfl rfl) rfl ?_
  refine TD.run ft_prefix_ok [2, 3] rfl rfl ?_
  refine TD.q rfl .u (Ex.b1 0 rfl Try.isAgg3 rfl rfl) rfl ?_
  obtain ⟨⟨x46, st47⟩, hx48, h⟩ := Option.bind_eq_some_iff.1 h
  try dsimp only at h
  refine TD.c6 rfl .u (.fn Try.call37 rfl) (gInt_spec g st43 2 _ hx48) (fun _ hs => (Src.triv _)) rfl [0, 0, 0, 0, 1] (rfl) ?_
  refine TD.run ft_prefix_ok [6] rfl rfl ?_
  refine TD.st4 (cs' := #[.int .i64 x6, .int .i64 x10, .int .i64 x14, .int .i64 x22, .int .i64 x26, .int .i64 x30, .int .i64 x34, .int .i64 x38, .int .i64 x42, .int .i64 x46, .int .i64 0, .int .i64 0]) rfl .u rfl rfl Try.sizeOf3 rfl rfl rfl rfl [0, 0, 0, 0, 1] (rfl) ?_
  refine TD.nil (X.blk (X.seq (T.region rfl ?_)))
  refine TL.q rfl .u (Ex.add rfl rfl (by omega)) rfl ?_
  refine TL.run ft_prefix_ok [1] rfl rfl ?_
  refine TL.nil ?_
  refine X.sel [0, 1, 1, 1, 1, 1] rfl ?_
  refine X.un (TW.step (T.seq (T.region rfl ?_)))
  refine TL.run ft_prefix_ok [0] rfl rfl ?_
  refine TL.nil (X.seq (T.seq ?_))
  refine T.yes rfl (decide_eq_true (show 11 < 13 by omega)) ?_
  refine T.skip (X.seq (T.seq (T.block (T.seq (T.region rfl ?_)))))
  refine TL.q rfl .u (Ex.ixL (k := 11) (r := 22) rfl rfl rfl Try.runUnderlying123 Try.sizeOf127 (by decide) rfl) rfl ?_
  refine TL.q rfl .u (Ex.bS (us := [.pointer (some ⟨b2, 10, none⟩), .int .i64 4]) 1 rfl Try.isAgg127 Try.sizeOf127 rfl rfl rfl) rfl ?_
  refine TL.alloc rfl .u Try.zeroValue127 rfl (fun b49 => ?_)
  refine TL.st0 (cs' := #[.pointer (some ⟨b2, 10, none⟩), .int .i64 4]) rfl .u rfl rfl Try.sizeOf127 rfl rfl rfl rfl ?_
  refine TL.nil (X.seq (T.draw (.q 0 (.q 1 (.q 2 (.q 3 (.q 4 (.e 5 (.q 6 (.e 7 .nil)))))))) [0, 0, 0, 0, 1] rfl mix_prefix (NoP.blk (NoP.seq (NoP.seq (NoP.blk (NoP.seq np_post))))) (by kernel_rfl) ?_))
  refine TD.run ft_prefix_ok [0] rfl rfl ?_
  refine TD.q rfl .u (Ex.b1 0 rfl Try.isAgg125 rfl rfl) rfl ?_
  refine TD.run ft_prefix_ok [2, 3] rfl rfl ?_
  refine TD.q rfl .u (Ex.b1 0 rfl Try.isAgg3 rfl rfl) rfl ?_
  obtain ⟨⟨x50, st51⟩, hx52, h⟩ := Option.bind_eq_some_iff.1 h
  try dsimp only at h
  refine TD.c6 rfl .u (.fn Try.call37 rfl) (gInt_spec g st47 4 _ hx52) (fun _ hs => (Src.triv _)) rfl [0, 0, 0, 0, 1] (rfl) ?_
  refine TD.run ft_prefix_ok [6] rfl rfl ?_
  refine TD.st4 (cs' := #[.int .i64 x6, .int .i64 x10, .int .i64 x14, .int .i64 x22, .int .i64 x26, .int .i64 x30, .int .i64 x34, .int .i64 x38, .int .i64 x42, .int .i64 x46, .int .i64 x50, .int .i64 0]) rfl .u rfl rfl Try.sizeOf3 rfl rfl rfl rfl [0, 0, 0, 0, 1] (rfl) ?_
  refine TD.nil (X.blk (X.seq (T.region rfl ?_)))
  refine TL.q rfl .u (Ex.add rfl rfl (by omega)) rfl ?_
  refine TL.run ft_prefix_ok [1] rfl rfl ?_
  refine TL.nil ?_
  refine X.sel [0, 1, 1, 1, 1, 1] rfl ?_
  refine X.un (TW.step (T.seq (T.region rfl ?_)))
  refine TL.run ft_prefix_ok [0] rfl rfl ?_
  refine TL.nil (X.seq (T.seq ?_))
  refine T.yes rfl (decide_eq_true (show 12 < 13 by omega)) ?_
  refine T.skip (X.seq (T.seq (T.block (T.seq (T.region rfl ?_)))))
  refine TL.q rfl .u (Ex.ixL (k := 12) (r := 24) rfl rfl rfl Try.runUnderlying123 Try.sizeOf127 (by decide) rfl) rfl ?_
  refine TL.q rfl .u (Ex.bS (us := [.pointer (some ⟨b2, 11, none⟩), .int .i64 4]) 1 rfl Try.isAgg127 Try.sizeOf127 rfl rfl rfl) rfl ?_
  refine TL.alloc rfl .u Try.zeroValue127 rfl (fun b53 => ?_)
  refine TL.st0 (cs' := #[.pointer (some ⟨b2, 11, none⟩), .int .i64 4]) rfl .u rfl rfl Try.sizeOf127 rfl rfl rfl rfl ?_
  refine TL.nil (X.seq (T.draw (.q 0 (.q 1 (.q 2 (.q 3 (.q 4 (.e 5 (.q 6 (.e 7 .nil)))))))) [0, 0, 0, 0, 1] rfl mix_prefix (NoP.blk (NoP.seq (NoP.seq (NoP.blk (NoP.seq np_post))))) (by kernel_rfl) ?_))
  refine TD.run ft_prefix_ok [0] rfl rfl ?_
  refine TD.q rfl .u (Ex.b1 0 rfl Try.isAgg125 rfl rfl) rfl ?_
  refine TD.run ft_prefix_ok [2, 3] rfl rfl ?_
  refine TD.q rfl .u (Ex.b1 0 rfl Try.isAgg3 rfl rfl) rfl ?_
  obtain ⟨⟨x54, st55⟩, hx56, h⟩ := Option.bind_eq_some_iff.1 h
  try dsimp only at h
  refine TD.c6 rfl .u (.fn Try.call37 rfl) (gInt_spec g st51 4 _ hx56) (fun _ hs => (Src.triv _)) rfl [0, 0, 0, 0, 1] (rfl) ?_
  refine TD.run ft_prefix_ok [6] rfl rfl ?_
  refine TD.st4 (cs' := #[.int .i64 x6, .int .i64 x10, .int .i64 x14, .int .i64 x22, .int .i64 x26, .int .i64 x30, .int .i64 x34, .int .i64 x38, .int .i64 x42, .int .i64 x46, .int .i64 x50, .int .i64 x54]) rfl .u rfl rfl Try.sizeOf3 rfl rfl rfl rfl [0, 0, 0, 0, 1] (rfl) ?_
  refine TD.nil (X.blk (X.seq (T.region rfl ?_)))
  refine TL.q rfl .u (Ex.add rfl rfl (by omega)) rfl ?_
  refine TL.run ft_prefix_ok [1] rfl rfl ?_
  refine TL.nil ?_
  refine X.sel [0, 1, 1, 1, 1, 1] rfl ?_
  refine X.un (TW.step (T.seq (T.region rfl ?_)))
  refine TL.run ft_prefix_ok [0] rfl rfl ?_
  refine TL.nil (X.seq (T.seq ?_))
  refine T.no rfl (decide_eq_false (show ¬ (13 < 13) by omega)) ?_
  refine T.exit (X.exs (X.exs (X.ex (X.seq (T.seq (T.region rfl ?_))))))
  refine TL.run ft_prefix_ok [0] rfl rfl ?_
  refine TL.q rfl .u (Ex.b1 3 rfl Try.isAgg3 rfl rfl) rfl ?_
  refine TL.q rfl .u (Ex.bitw rfl rfl rfl) rfl ?_
  refine TL.run ft_prefix_ok [3] rfl rfl ?_
  refine TL.st3 (cs' := #[.int .i64 x6, .int .i64 x10, .int .i64 x14, .int .i64 (Go.bits .and .i64 x22 4294967295), .int .i64 x26, .int .i64 x30, .int .i64 x34, .int .i64 x38, .int .i64 x42, .int .i64 x46, .int .i64 x50, .int .i64 x54]) rfl .u rfl rfl Try.sizeOf3 rfl rfl rfl rfl ?_
  refine TL.nil (X.seq (T.seq (T.block (T.seq (T.region rfl ?_)))))
  obtain ⟨⟨x57, st58⟩, hx59, h⟩ := Option.bind_eq_some_iff.1 h
  try dsimp only at h
  refine TL.run ft_prefix_ok [0] rfl rfl ?_
  refine TL.c5 rfl .u (.fn Try.call29 rfl) (gErr_spec g st55 _ hx59) (fun _ hs => (Src.triv _)) rfl ?_
  refine TL.run ft_prefix_ok [2, 3] rfl rfl ?_
  refine TL.nil (X.seq ?_)
  obtain ⟨st117, h, hk118⟩ := Option.bind_eq_some_iff.1 h
  refine T.jq (fun e Rs => e = [(0, .pointer (some ⟨g, 0, none⟩)), (2, .pointer (some ⟨b1, 0, none⟩)), (3, .pointer (some ⟨b2, 0, none⟩))] ∧ Rs = [BlkR b53 127 #[.pointer (some ⟨b2, 11, none⟩), .int .i64 4], BlkR b4 127 #[.pointer (some ⟨b2, 0, none⟩), .int .i64 8, .pointer (some ⟨b2, 1, none⟩), .int .i64 4, .pointer (some ⟨b2, 2, none⟩), .int .i64 4, .pointer (some ⟨b3, 0, none⟩), .int .i64 1, .pointer (some ⟨b2, 3, none⟩), .int .i64 4, .pointer (some ⟨b2, 4, none⟩), .int .i64 2, .pointer (some ⟨b2, 5, none⟩), .int .i64 4, .pointer (some ⟨b2, 6, none⟩), .int .i64 8, .pointer (some ⟨b2, 7, none⟩), .int .i64 8, .pointer (some ⟨b2, 8, none⟩), .int .i64 8, .pointer (some ⟨b2, 9, none⟩), .int .i64 2, .pointer (some ⟨b2, 10, none⟩), .int .i64 4, .pointer (some ⟨b2, 11, none⟩), .int .i64 4], BlkR b3 3 #[.int .i64 x18], BlkR b2 38 #[.int .i64 x6, .int .i64 x10, .int .i64 x14, .int .i64 (Go.bits .and .i64 x22 4294967295), .int .i64 x26, .int .i64 x30, .int .i64 x34, .int .i64 x38, .int .i64 x42, .int .i64 x46, .int .i64 x50, .int .i64 x54], BlkR b1 38 #[.int .i64 0, .int .i64 0, .int .i64 0, .int .i64 0, .int .i64 0, .int .i64 0, .int .i64 0, .int .i64 0, .int .i64 0, .int .i64 0, .int .i64 0, .int .i64 0], InR g st117]) ?_ ?_
  · clear hk118
    by_cases c119 : x57 = 0
    · replace h := ifT c119 h
      refine T.no rfl (bn_f (decide_eq_true c119)) ?_
      refine T.seq (T.region rfl ?_)
      refine TL.q rfl .u (Ex.b1 2 rfl Try.isAgg3 rfl rfl) rfl ?_
      refine TL.run ft_prefix_ok [1, 2] rfl rfl ?_
      refine TL.nil (X.seq ?_)
      obtain ⟨st147, h, hk148⟩ := Option.bind_eq_some_iff.1 h
      refine T.jq (fun e Rs => e = [(0, .pointer (some ⟨g, 0, none⟩)), (2, .pointer (some ⟨b1, 0, none⟩)), (3, .pointer (some ⟨b2, 0, none⟩))] ∧ Rs = [BlkR b53 127 #[.pointer (some ⟨b2, 11, none⟩), .int .i64 4], BlkR b4 127 #[.pointer (some ⟨b2, 0, none⟩), .int .i64 8, .pointer (some ⟨b2, 1, none⟩), .int .i64 4, .pointer (some ⟨b2, 2, none⟩), .int .i64 4, .pointer (some ⟨b3, 0, none⟩), .int .i64 1, .pointer (some ⟨b2, 3, none⟩), .int .i64 4, .pointer (some ⟨b2, 4, none⟩), .int .i64 2, .pointer (some ⟨b2, 5, none⟩), .int .i64 4, .pointer (some ⟨b2, 6, none⟩), .int .i64 8, .pointer (some ⟨b2, 7, none⟩), .int .i64 8, .pointer (some ⟨b2, 8, none⟩), .int .i64 8, .pointer (some ⟨b2, 9, none⟩), .int .i64 2, .pointer (some ⟨b2, 10, none⟩), .int .i64 4, .pointer (some ⟨b2, 11, none⟩), .int .i64 4], BlkR b3 3 #[.int .i64 x18], BlkR b2 38 #[.int .i64 x6, .int .i64 x10, .int .i64 x14, .int .i64 (Go.bits .and .i64 x22 4294967295), .int .i64 x26, .int .i64 x30, .int .i64 x34, .int .i64 x38, .int .i64 x42, .int .i64 x46, .int .i64 x50, .int .i64 x54], BlkR b1 38 #[.int .i64 0, .int .i64 0, .int .i64 0, .int .i64 0, .int .i64 0, .int .i64 0, .int .i64 0, .int .i64 0, .int .i64 0, .int .i64 0, .int .i64 0, .int .i64 0], InR g st147]) ?_ ?_
      · clear hk148
        by_cases c149 : x18 = 2
        · replace h := ifT c149 h
          refine T.no rfl (bn_f (decide_eq_true c149)) ?_
          refine T.seq (T.region rfl ?_)
          refine TL.run ft_prefix_ok [0] rfl rfl ?_
          refine TL.q rfl .u (Ex.b1 3 rfl Try.isAgg3 rfl rfl) rfl ?_
          refine TL.run ft_prefix_ok [2, 3] rfl rfl ?_
          refine TL.nil (X.seq ?_)
          obtain ⟨st161, h, hk162⟩ := Option.bind_eq_some_iff.1 h
          refine T.jq (fun e Rs => e = [(0, .pointer (some ⟨g, 0, none⟩)), (2, .pointer (some ⟨b1, 0, none⟩)), (3, .pointer (some ⟨b2, 0, none⟩))] ∧ Rs = [BlkR b53 127 #[.pointer (some ⟨b2, 11, none⟩), .int .i64 4], BlkR b4 127 #[.pointer (some ⟨b2, 0, none⟩), .int .i64 8, .pointer (some ⟨b2, 1, none⟩), .int .i64 4, .pointer (some ⟨b2, 2, none⟩), .int .i64 4, .pointer (some ⟨b3, 0, none⟩), .int .i64 1, .pointer (some ⟨b2, 3, none⟩), .int .i64 4, .pointer (some ⟨b2, 4, none⟩), .int .i64 2, .pointer (some ⟨b2, 5, none⟩), .int .i64 4, .pointer (some ⟨b2, 6, none⟩), .int .i64 8, .pointer (some ⟨b2, 7, none⟩), .int .i64 8, .pointer (some ⟨b2, 8, none⟩), .int .i64 8, .pointer (some ⟨b2, 9, none⟩), .int .i64 2, .pointer (some ⟨b2, 10, none⟩), .int .i64 4, .pointer (some ⟨b2, 11, none⟩), .int .i64 4], BlkR b3 3 #[.int .i64 x18], BlkR b2 38 #[.int .i64 x6, .int .i64 x10, .int .i64 x14, .int .i64 (Go.bits .and .i64 x22 4294967295), .int .i64 x26, .int .i64 x30, .int .i64 x34, .int .i64 x38, .int .i64 x42, .int .i64 x46, .int .i64 x50, .int .i64 x54], BlkR b1 38 #[.int .i64 0, .int .i64 0, .int .i64 0, .int .i64 0, .int .i64 0, .int .i64 0, .int .i64 0, .int .i64 0, .int .i64 0, .int .i64 0, .int .i64 0, .int .i64 0], InR g st161]) ?_ ?_
          · clear hk162
            by_cases c163 : x10 < 49
            · replace h := ifT c163 h
              refine T.yes rfl (decide_eq_true c163) ?_
              refine T.region rfl ?_
              obtain ⟨st164, hx165, h⟩ := Option.bind_eq_some_iff.1 h
              refine TL.run ft_prefix_ok [0] rfl rfl ?_
              refine TL.c5 rfl .u (.fn Try.call61 rfl) (gIFail_spec g st58 4 _ hx165) (fun _ hs => (Src.triv _)) rfl ?_
              cases h
              exact TL.nil (X.jq [0, 0, 0, 0, 0, 0] ⟨rfl, rfl⟩ (by rfl) (by rfl))
            · replace h := ifF c163 h
              refine T.no rfl (decide_eq_false c163) ?_
              refine T.seq (T.region rfl ?_)
              refine TL.run ft_prefix_ok [0] rfl rfl ?_
              refine TL.q rfl .u (Ex.b1 3 rfl Try.isAgg3 rfl rfl) rfl ?_
              refine TL.run ft_prefix_ok [2, 3] rfl rfl ?_
              refine TL.nil (X.seq ?_)
              obtain ⟨st169, h, hk170⟩ := Option.bind_eq_some_iff.1 h
              refine T.jq (fun e Rs => e = [(0, .pointer (some ⟨g, 0, none⟩)), (2, .pointer (some ⟨b1, 0, none⟩)), (3, .pointer (some ⟨b2, 0, none⟩))] ∧ Rs = [BlkR b53 127 #[.pointer (some ⟨b2, 11, none⟩), .int .i64 4], BlkR b4 127 #[.pointer (some ⟨b2, 0, none⟩), .int .i64 8, .pointer (some ⟨b2, 1, none⟩), .int .i64 4, .pointer (some ⟨b2, 2, none⟩), .int .i64 4, .pointer (some ⟨b3, 0, none⟩), .int .i64 1, .pointer (some ⟨b2, 3, none⟩), .int .i64 4, .pointer (some ⟨b2, 4, none⟩), .int .i64 2, .pointer (some ⟨b2, 5, none⟩), .int .i64 4, .pointer (some ⟨b2, 6, none⟩), .int .i64 8, .pointer (some ⟨b2, 7, none⟩), .int .i64 8, .pointer (some ⟨b2, 8, none⟩), .int .i64 8, .pointer (some ⟨b2, 9, none⟩), .int .i64 2, .pointer (some ⟨b2, 10, none⟩), .int .i64 4, .pointer (some ⟨b2, 11, none⟩), .int .i64 4], BlkR b3 3 #[.int .i64 x18], BlkR b2 38 #[.int .i64 x6, .int .i64 x10, .int .i64 x14, .int .i64 (Go.bits .and .i64 x22 4294967295), .int .i64 x26, .int .i64 x30, .int .i64 x34, .int .i64 x38, .int .i64 x42, .int .i64 x46, .int .i64 x50, .int .i64 x54], BlkR b1 38 #[.int .i64 0, .int .i64 0, .int .i64 0, .int .i64 0, .int .i64 0, .int .i64 0, .int .i64 0, .int .i64 0, .int .i64 0, .int .i64 0, .int .i64 0, .int .i64 0], InR g st169]) ?_ ?_
              · clear hk170
                by_cases c171 : x54 < 0
                · replace h := ifT c171 h
                  refine T.yes rfl (decide_eq_true c171) ?_
                  refine T.region rfl ?_
                  obtain ⟨st172, hx173, h⟩ := Option.bind_eq_some_iff.1 h
                  refine TL.run ft_prefix_ok [0] rfl rfl ?_
                  refine TL.c5 rfl .u (.fn Try.call61 rfl) (gIFail_spec g st58 10 _ hx173) (fun _ hs => (Src.triv _)) rfl ?_
                  cases h
                  exact TL.nil (X.jq [0, 0, 0, 0, 0, 0] ⟨rfl, rfl⟩ (by rfl) (by rfl))
                · replace h := ifF c171 h
                  refine T.no rfl (decide_eq_false c171) ?_
                  cases h
                  exact T.skip (X.jq [0, 0, 0, 0, 0, 0] ⟨rfl, rfl⟩ (by rfl) (by rfl))
              · rintro _ _ ⟨rfl, rfl⟩
                clear h
                have h := hk170
                clear hk170
                try dsimp only at h
                cases h
                exact X.jq [0, 0, 0, 0, 0, 0] ⟨rfl, rfl⟩ (by rfl) (by rfl)
          · rintro _ _ ⟨rfl, rfl⟩
            clear h
            have h := hk162
            clear hk162
            try dsimp only at h
            cases h
            exact X.jq [0, 0, 0, 0, 0, 0] ⟨rfl, rfl⟩ (by rfl) (by rfl)
        · replace h := ifF c149 h
          refine T.yes rfl (bn_t (decide_eq_false c149)) ?_
          refine T.region rfl ?_
          obtain ⟨st174, hx175, h⟩ := Option.bind_eq_some_iff.1 h
          refine TL.run ft_prefix_ok [0] rfl rfl ?_
          refine TL.c5 rfl .u (.fn Try.call61 rfl) (gIFail_spec g st58 6 _ hx175) (fun _ hs => (Src.triv _)) rfl ?_
          cases h
          exact TL.nil (X.jq [0, 0, 0, 0, 0, 0] ⟨rfl, rfl⟩ (by rfl) (by rfl))
      · rintro _ _ ⟨rfl, rfl⟩
        clear h
        have h := hk148
        clear hk148
        try dsimp only at h
        cases h
        exact X.jq [0, 0, 0, 0, 0, 0] ⟨rfl, rfl⟩ (by rfl) (by rfl)
    · replace h := ifF c119 h
      refine T.yes rfl (bn_t (decide_eq_false c119)) ?_
      cases h
      exact T.skip (X.jq [0, 0, 0, 0, 0, 0] ⟨rfl, rfl⟩ (by rfl) (by rfl))
  · rintro _ _ ⟨rfl, rfl⟩
    clear h
    have h := hk118
    clear hk118
    try dsimp only at h
    refine X.blk (X.seq (T.seq (T.seq (T.region rfl ?_))))
    obtain ⟨⟨x176, st177⟩, hx178, h⟩ := Option.bind_eq_some_iff.1 h
    try dsimp only at h
    refine TL.run ft_prefix_ok [0] rfl rfl ?_
    refine TL.c5 rfl .u (.fn Try.call29 rfl) (gErr_spec g st117 _ hx178) (fun _ hs => (Src.triv _)) rfl ?_
    refine TL.run ft_prefix_ok [2] rfl rfl ?_
    by_cases c179 : x176 = 0
    · replace h := ifT c179 h
      refine TL.nil (X.seq ?_)
      refine T.no rfl (bn_f (decide_eq_true c179)) ?_
      refine T.skip (X.seq (T.seq (T.region rfl ?_)))
      refine TL.q rfl .u (Ex.bS (us := [.int .i64 x6, .int .i64 x10, .int .i64 x14, .int .i64 (Go.bits .and .i64 x22 4294967295), .int .i64 x26, .int .i64 x30, .int .i64 x34, .int .i64 x38, .int .i64 x42, .int .i64 x46, .int .i64 x50, .int .i64 x54]) 3 rfl Try.isAgg38 Try.sizeOf38 rfl rfl rfl) rfl ?_
      refine TL.st4 (cs' := #[.int .i64 x6, .int .i64 x10, .int .i64 x14, .int .i64 (Go.bits .and .i64 x22 4294967295), .int .i64 x26, .int .i64 x30, .int .i64 x34, .int .i64 x38, .int .i64 x42, .int .i64 x46, .int .i64 x50, .int .i64 x54]) rfl .u rfl rfl Try.sizeOf38 rfl rfl rfl rfl ?_
      obtain rfl := Option.some.inj h
      exact TL.nil (X.seq (T.ret (X.done1 [5] Try.results28 (RV.cS (us := #[.int .i64 x6, .int .i64 x10, .int .i64 x14, .int .i64 (Go.bits .and .i64 x22 4294967295), .int .i64 x26, .int .i64 x30, .int .i64 x34, .int .i64 x38, .int .i64 x42, .int .i64 x46, .int .i64 x50, .int .i64 x54]) 4 rfl Try.isAgg38 Try.sizeOf38 rfl rfl) ⟨rfl, rfl, rfl⟩ (by rfl) (.inl rfl))))
    · replace h := ifF c179 h
      refine TL.nil (X.seq ?_)
      refine T.yes rfl (bn_t (decide_eq_false c179)) ?_
      refine T.seq (T.region rfl ?_)
      refine TL.q rfl .u (Ex.bld (cells := #[.int .i64 0, .int .i64 0, .int .i64 0, .int .i64 0, .int .i64 0, .int .i64 0, .int .i64 0, .int .i64 0, .int .i64 0, .int .i64 0, .int .i64 0, .int .i64 0]) bok_prefix_38 rfl (by kernel_rfl)) rfl ?_
      refine TL.st4 (cs' := #[.int .i64 0, .int .i64 0, .int .i64 0, .int .i64 0, .int .i64 0, .int .i64 0, .int .i64 0, .int .i64 0, .int .i64 0, .int .i64 0, .int .i64 0, .int .i64 0]) rfl .u rfl rfl Try.sizeOf38 rfl rfl rfl rfl ?_
      obtain rfl := Option.some.inj h
      exact TL.nil (X.seq (T.ret (X.rs (X.done1 [5] Try.results28 (RV.cS (us := #[.int .i64 0, .int .i64 0, .int .i64 0, .int .i64 0, .int .i64 0, .int .i64 0, .int .i64 0, .int .i64 0, .int .i64 0, .int .i64 0, .int .i64 0, .int .i64 0]) 4 rfl Try.isAgg38 Try.sizeOf38 rfl rfl) ⟨rfl, rfl, rfl⟩ (by rfl) (.inl rfl)))))
def f_prefix_Peek (a0 : List UInt8) : Option (Int × Int) := if (a0.length : Int) < 61 then some (0, 0) else (if 61 ≤ a0.length then ((gNew (a0.take 61)).bind fun st3 => (f_prefix_Read st3).bind fun (x6, st7) => (gErr st7).bind fun (x10, st11) => if x10 = 0 then (if -9223372036854775808 ≤ (x6.fLength + 12) ∧ (x6.fLength + 12) ≤ 9223372036854775807 then (some ((x6.fLength + 12), 0)) else none) else some (0, x10)) else none)
set_option maxRecDepth 100000 in
set_option maxHeartbeats 4000000 in
theorem f_prefix_Peek_spec (a0 : List UInt8) (r : Int × Int) (h : f_prefix_Peek a0 = some r) : SpecX Try.prog 32 #[.string (bsOf a0)] .triv (EmpR) (fun v A' N => v = .tuple #[.int .i64 r.1, .int .i64 r.2] ∧ A' = EmpR ∧ N = []) := by
  refine enterA Try.func32 rfl Try.ntmps32 rfl ?_
  intro F w hX
  unfold f_prefix_Peek at h
  refine T.seq (T.region rfl ?_)
  refine TL.run ft_prefix_ok [0, 1] rfl rfl ?_
  refine TL.nil (X.seq (T.seq (T.seq (T.region rfl ?_))))
  refine TL.run ft_prefix_ok [0] rfl rfl ?_
  refine TL.q rfl .u (Ex.lenB rfl Try.runUnderlying9) rfl ?_
  refine TL.run ft_prefix_ok [2] rfl rfl ?_
  by_cases c1 : (a0.length : Int) < 61
  · replace h := ifT c1 h
    refine TL.nil (X.seq ?_)
    refine T.yes rfl (decide_eq_true c1) ?_
    refine T.seq (T.region rfl ?_)
    refine TL.run ft_prefix_ok [0, 1] rfl rfl ?_
    obtain rfl := Option.some.inj h
    exact TL.nil (X.seq (T.ret (X.rs (X.done2 [0] Try.results32 (RV.tm rfl) (RV.tm rfl) ⟨rfl, rfl, rfl⟩ (by rfl) (.inl rfl)))))
  · replace h := ifF c1 h
    refine TL.nil (X.seq ?_)
    refine T.no rfl (decide_eq_false c1) ?_
    refine T.skip (X.seq (T.seq (T.region rfl ?_)))
    replace h := guard_some h
    obtain ⟨c2, h⟩ := h
    refine TL.run ft_prefix_ok [0] rfl rfl ?_
    replace c2 : 61 ≤ a0.length := c2
    refine TL.q rfl .u (Ex.sSl (p := 0) (q := 61) (m := (a0.take 61)) rfl Try.runUnderlying9 .none (.some rfl rfl) (by first | omega | (dsimp only; omega)) (by simp)) rfl ?_
    obtain ⟨st3, hx4, h⟩ := Option.bind_eq_some_iff.1 h
    refine TL.cge rfl .u (.fn Try.call27 rfl) (gNew_spec (a0.take 61) _ hx4) (fun _ hs => (RX.reads_triv _ _)) rfl ?_
    rintro _ _ _ ⟨b5, rfl, rfl, rfl⟩
    refine TL.sel [0, 0] rfl ?_
    refine TL.run ft_prefix_ok [3] rfl rfl ?_
    refine TL.nil (X.seq (T.seq (T.region rfl ?_)))
    obtain ⟨⟨x6, st7⟩, hx8, h⟩ := Option.bind_eq_some_iff.1 h
    try dsimp only at h
    refine TL.run ft_prefix_ok [0] rfl rfl ?_
    refine TL.c0 rfl .u (.fn Try.call28 rfl) (f_prefix_Read_spec b5 st3 _ hx8) (fun _ hs => (Src.triv _)) rfl ?_
    refine TL.alloc rfl .u Try.zeroValue38 rfl (fun b9 => ?_)
    refine TL.st0 (cs' := #[.int .i64 x6.fBase, .int .i64 x6.fLength, .int .i64 x6.fLeader, .int .i64 x6.fSum, .int .i64 x6.fAttr, .int .i64 x6.fLast, .int .i64 x6.fFirst, .int .i64 x6.fMax, .int .i64 x6.fProducer, .int .i64 x6.fEpoch, .int .i64 x6.fSequence, .int .i64 x6.fCount]) rfl .u rfl rfl Try.sizeOf38 rfl rfl rfl rfl ?_
    refine TL.nil (X.seq (T.seq (T.seq (T.region rfl ?_))))
    obtain ⟨⟨x10, st11⟩, hx12, h⟩ := Option.bind_eq_some_iff.1 h
    try dsimp only at h
    refine TL.run ft_prefix_ok [0] rfl rfl ?_
    refine TL.c1 rfl .u (.fn Try.call29 rfl) (gErr_spec b5 st7 _ hx12) (fun _ hs => (Src.triv _)) rfl ?_
    refine TL.run ft_prefix_ok [2] rfl rfl ?_
    refine TL.nil (X.seq (T.seq (T.region rfl ?_)))
    refine TL.run ft_prefix_ok [0, 1] rfl rfl ?_
    by_cases c13 : x10 = 0
    · replace h := ifT c13 h
      refine TL.nil (X.seq ?_)
      refine T.no rfl (bn_f (decide_eq_true c13)) ?_
      refine T.skip (X.seq (T.seq (T.region rfl ?_)))
      refine TL.run ft_prefix_ok [0] rfl rfl ?_
      refine TL.q rfl .u (Ex.b1 0 rfl Try.isAgg3 rfl rfl) rfl ?_
      replace h := guard_some h
      obtain ⟨c14, h⟩ := h
      refine TL.q rfl .u (Ex.add rfl rfl c14) rfl ?_
      refine TL.run ft_prefix_ok [3, 4] rfl rfl ?_
      obtain rfl := Option.some.inj h
      exact TL.nil (X.seq (T.ret (X.done2 [2] Try.results32 (RV.tm rfl) (RV.tm rfl) ⟨rfl, rfl, rfl⟩ (by rfl) (.inl rfl))))
    · replace h := ifF c13 h
      refine TL.nil (X.seq ?_)
      refine T.yes rfl (bn_t (decide_eq_false c13)) ?_
      refine T.seq (T.region rfl ?_)
      refine TL.run ft_prefix_ok [0, 1, 2] rfl rfl ?_
      obtain rfl := Option.some.inj h
      exact TL.nil (X.seq (T.ret (X.rs (X.done2 [2] Try.results32 (RV.tm rfl) (RV.tm rfl) ⟨rfl, rfl, rfl⟩ (by rfl) (.inl rfl)))))
end Go.Proofs.Ytpiiopppbgpbpaa.Sl
namespace Go.Proofs.Ytpiiopppbgpbpaa.Sl
open Go.RowKit
set_option linter.unusedVariables false
set_option linter.unusedSimpArgs false
theorem Pr.bind_assoc {α β γ : Type} (p : Pr α) (f : α → Pr β) (g : β → Pr γ) : (p.bind f).bind g = p.bind fun a => (f a).bind g := by
  funext s q
  unfold Pr.bind
  cases p s q with
  | error e => rfl
  | ok x => rfl
theorem Pr.ret_bind {α β : Type} (a : α) (f : α → Pr β) : (Pr.ret a).bind f = f a := by
  funext s q
  rfl
def pInts : List Nat → Pr (List Int)
  | [] => .ret []
  | k :: ks => (pInt k).bind fun a => (pInts ks).bind fun l => .ret (a :: l)
def encI : List Nat → List Int → List UInt8
  | k :: ks, x :: xs => be x k ++ encI ks xs
  | _, _ => []
def okI : List Nat → List Int → Prop
  | [], [] => True
  | k :: ks, x :: xs => fits x k = true ∧ okI ks xs
  | _, _ => False
theorem Sp_ints : ∀ ks : List Nat, (∀ k, k ∈ ks → 1 ≤ k ∧ k ≤ 8) → Sp (pInts ks) (encI ks) (okI ks)
  | [], _ => by
    refine ⟨fun s q l r hq h => ?_, fun s t q l hq hl hd => ?_⟩
    · injection h with h
      obtain ⟨rfl, rfl⟩ := Prod.mk.inj h
      exact ⟨Nat.le_refl _, hq, rfl, by simp [encI], trivial⟩
    · cases l with
      | nil => rfl
      | cons x xs => exact nomatch hl
  | k :: ks, hk => by
    have hp := Sp_int k (hk k (List.mem_cons_self ..)).1 (hk k (List.mem_cons_self ..)).2
    have ih := Sp_ints ks (fun j hj => hk j (List.mem_cons_of_mem _ hj))
    refine ⟨fun s q l r hq h => ?_, fun s t q l hq hl hd => ?_⟩
    · obtain ⟨a, m, h1, h2⟩ := Pr.bind_ok h
      obtain ⟨xs, m2, h3, h4⟩ := Pr.bind_ok h2
      injection h4 with h4
      obtain ⟨rfl, rfl⟩ := Prod.mk.inj h4
      obtain ⟨a1, a2, a3, a4, a5⟩ := hp.spell s q a m hq h1
      obtain ⟨b1, b2, b3, b4, b5⟩ := ih.spell s m xs m2 a2 h3
      exact ⟨by omega, b2, by simp only [encI, List.length_append]; omega, by rw [b4, a4, encI, List.append_assoc], a5, b5⟩
    · cases l with
      | nil => exact nomatch hl
      | cons x xs =>
        rw [encI, List.append_assoc] at hd
        have h1 := hp.back s _ q x hq hl.1 hd
        have hl2 := congrArg List.length hd
        rw [List.length_drop, List.length_append] at hl2
        have h2 := ih.back s t _ xs (by omega) hl.2 (drop_step hd)
        rw [pInts, Pr.bind_of h1, Pr.bind_of h2, encI, List.length_append, ← Nat.add_assoc]
        rfl
def KS : List Nat := [8, 4, 4, 1, 4, 2, 4, 8, 8, 8, 2, 4, 4]
theorem KS_ok : ∀ k, k ∈ KS → 1 ≤ k ∧ k ≤ 8 := by decide
def s32 (n : Int) : Int := if n > 2147483647 then n - 4294967296 else n
def toL (p : Pfx) : List Int := [p.fBase, p.fLength, p.fLeader, 2, s32 p.fSum, p.fAttr, p.fLast, p.fFirst, p.fMax, p.fProducer, p.fEpoch, p.fSequence, p.fCount]
def ckE (b m ct : Int) : Int := if m = 2 then (if b < 49 then 4 else if ct < 0 then 10 else 0) else 6
def chkP : List Int → Pr Pfx
  | [a, b, c, m, s, at', la, fi, mx, pr, ep, sq, ct] => if ckE b m ct = 0 then .ret ⟨a, b, c, s % 4294967296, at', la, fi, mx, pr, ep, sq, ct⟩ else .err (ckE b m ct)
  | _ => .err 1
def pPfx : Pr Pfx := (pInts KS).bind chkP
def encP (p : Pfx) : List UInt8 := encI KS (toL p)
def okP (p : Pfx) : Prop := okI KS (toL p) ∧ (0 ≤ p.fSum ∧ p.fSum ≤ 4294967295) ∧ 49 ≤ p.fLength ∧ 0 ≤ p.fCount
theorem okI_len : ∀ {ks : List Nat} {l : List Int}, okI ks l → l.length = ks.length
  | [], [], _ => rfl
  | k :: ks, x :: xs, h => by rw [List.length_cons, List.length_cons, okI_len h.2]
  | [], _ :: _, h => nomatch h
  | _ :: _, [], h => nomatch h
theorem encI_len : ∀ {ks : List Nat} {l : List Int}, okI ks l → (encI ks l).length = ks.sum
  | [], [], _ => rfl
  | k :: ks, x :: xs, h => by rw [encI, List.length_append, be_length, encI_len h.2, List.sum_cons]
  | [], _ :: _, h => nomatch h
  | _ :: _, [], h => nomatch h
theorem len13 {l : List Int} (h : l.length = 13) : ∃ a b c m s t la fi mx pr ep sq ct, l = [a, b, c, m, s, t, la, fi, mx, pr, ep, sq, ct] := by
  match l, h with
  | [a, b, c, m, s, t, la, fi, mx, pr, ep, sq, ct], _ => exact ⟨a, b, c, m, s, t, la, fi, mx, pr, ep, sq, ct, rfl⟩
theorem s32_back {s : Int} (h : fits s 4 = true) : s32 (s % 4294967296) = s := by
  rw [fits_4] at h
  have := of_decide_eq_true h
  unfold s32
  split <;> omega
theorem s32_mod {s : Int} (h : 0 ≤ s ∧ s ≤ 4294967295) : s32 s % 4294967296 = s := by
  unfold s32
  split <;> omega
theorem ckE_zero {b m ct : Int} (h : ckE b m ct = 0) : m = 2 ∧ 49 ≤ b ∧ 0 ≤ ct := by
  unfold ckE at h
  by_cases h1 : m = 2
  · rw [if_pos h1] at h
    by_cases h2 : b < 49
    · rw [if_pos h2] at h; cases h
    · rw [if_neg h2] at h
      by_cases h3 : ct < 0
      · rw [if_pos h3] at h; cases h
      · exact ⟨h1, by omega, by omega⟩
  · rw [if_neg h1] at h; cases h
theorem ckE_of {b ct : Int} (h1 : 49 ≤ b) (h2 : 0 ≤ ct) : ckE b 2 ct = 0 := by
  unfold ckE
  rw [if_pos rfl, if_neg (by omega), if_neg (by omega)]
theorem Sp_pfx : Sp pPfx encP okP := by
  refine ⟨fun s q p r hq h => ?_, fun s t q p hq hp hd => ?_⟩
  · obtain ⟨l, m, h1, h2⟩ := Pr.bind_ok h
    obtain ⟨a1, a2, a3, a4, a5⟩ := (Sp_ints KS KS_ok).spell s q l m hq h1
    obtain ⟨a, b, c, mg, sm, t, la, fi, mx, pr, ep, sq, ct, rfl⟩ := len13 (okI_len a5)
    have hs : fits sm 4 = true := a5.2.2.2.2.1
    unfold chkP at h2
    dsimp only at h2
    by_cases hc : ckE b mg ct = 0
    · rw [if_pos hc] at h2
      injection h2 with h2
      obtain ⟨rfl, rfl⟩ := Prod.mk.inj h2
      obtain ⟨rfl, c2, c3⟩ := ckE_zero hc
      have e : toL ⟨a, b, c, sm % 4294967296, t, la, fi, mx, pr, ep, sq, ct⟩ = [a, b, c, 2, sm, t, la, fi, mx, pr, ep, sq, ct] := by
        unfold toL
        rw [s32_back hs]
      unfold encP okP
      rw [e]
      exact ⟨a1, a2, a3, a4, a5, by show 0 ≤ sm % 4294967296 ∧ sm % 4294967296 ≤ 4294967295; omega, c2, c3⟩
    · rw [if_neg hc] at h2
      exact nomatch h2
  · have h1 := (Sp_ints KS KS_ok).back s t q (toL p) hq hp.1 hd
    rw [pPfx, Pr.bind_of h1]
    unfold toL chkP
    dsimp only
    rw [if_pos (ckE_of hp.2.2.1 hp.2.2.2), s32_mod hp.2.1]
    rfl
theorem and32 (n : Int) : Go.bits .and .i64 n 4294967295 = n % 4294967296 := by
  rw [show (4294967295 : Int) = ((4294967295 : Nat) : Int) from rfl, and_nat n _ (by decide), show (4294967295 : Nat) = 2 ^ 32 - 1 from rfl, Nat.and_two_pow_sub_one_eq_mod]
  omega
def zP : Pfx := ⟨0, 0, 0, 0, 0, 0, 0, 0, 0, 0, 0, 0⟩
def tailP (a b c m s t la fi mx pr ep sq ct : Int) (st : I) : Option (Pfx × I) := (gErr st).bind fun (x57, st58) => (if x57 = 0 then ((if m = 2 then ((if b < 49 then ((gIFail st58 4).bind fun st164 => some st164) else ((if ct < 0 then ((gIFail st58 10).bind fun st172 => some st172) else some st58).bind fun st169 => some st169)).bind fun st161 => some st161) else ((gIFail st58 6).bind fun st174 => some st174)).bind fun st147 => some st147) else some st58).bind fun st117 => (gErr st117).bind fun (x176, st177) => if x176 = 0 then (some ((⟨a, b, c, (Go.bits .and .i64 s 4294967295), t, la, fi, mx, pr, ep, sq, ct⟩ : Pfx), st177)) else (some ((⟨0, 0, 0, 0, 0, 0, 0, 0, 0, 0, 0, 0⟩ : Pfx), st177))
theorem B_tail (a b c m s t la fi mx pr ep sq ct : Int) : CB (tailP a b c m s t la fi mx pr ep sq ct) (chkP [a, b, c, m, s, t, la, fi, mx, pr, ep, sq, ct]) zP := by
  refine CB_chk (fun st h => ?_) (fun st h => ?_)
  · unfold tailP
    rw [gErr_eq, Option.bind_some]
    dsimp only
    rw [if_neg h, Option.bind_some, gErr_eq, Option.bind_some]
    dsimp only
    rw [if_neg h]
    rfl
  · obtain ⟨l, q, e⟩ := st
    obtain rfl : e = 0 := h
    unfold tailP ckE
    rw [gErr_eq, Option.bind_some]
    dsimp only
    rw [if_pos rfl, and32]
    by_cases h1 : m = 2
    · rw [if_pos h1, if_pos h1]
      by_cases h2 : b < 49
      · rw [if_pos h2, if_pos h2, if_neg (by decide)]; rfl
      · rw [if_neg h2, if_neg h2]
        by_cases h3 : ct < 0
        · rw [if_pos h3, if_pos h3, if_neg (by decide)]; rfl
        · rw [if_neg h3, if_neg h3, if_pos rfl]; rfl
    · rw [if_neg h1, if_neg h1, if_neg (by decide)]; rfl
theorem B_pfx : CB (fun st => f_prefix_Read st) pPfx zP := by
  have w : ∀ {p : Pr Int} (s : List UInt8) (q : Nat) (a : Int) (r : Nat), s.length ≤ 1000000 → q ≤ s.length → p s q = .ok (a, r) → (fun _ : Int => True) a := fun _ _ _ _ _ _ _ => trivial
  have h := CB.bind (fun _ => True) Q8.cb w trivial fun a _ => CB.bind (fun _ => True) Q4.cb w trivial fun b _ => CB.bind (fun _ => True) Q4.cb w trivial fun c _ => CB.bind (fun _ => True) Q1.cb w trivial fun m _ => CB.bind (fun _ => True) Q4.cb w trivial fun s _ =>
    CB.bind (fun _ => True) Q2.cb w trivial fun t _ => CB.bind (fun _ => True) Q4.cb w trivial fun la _ => CB.bind (fun _ => True) Q8.cb w trivial fun fi _ => CB.bind (fun _ => True) Q8.cb w trivial fun mx _ => CB.bind (fun _ => True) Q8.cb w trivial fun pr _ =>
    CB.bind (fun _ => True) Q2.cb w trivial fun ep _ => CB.bind (fun _ => True) Q4.cb w trivial fun sq _ => CB.bind (fun _ => True) Q4.cb w trivial fun ct _ => B_tail a b c m s t la fi mx pr ep sq ct
  refine (h.congr (fun st => rfl)).pr ?_
  unfold pPfx KS
  simp only [pInts, Pr.bind_assoc, Pr.ret_bind]
end Go.Proofs.Ytpiiopppbgpbpaa.Sl
namespace Go.Proofs.Ytpiiopppbgpbpaa.Sl
open Go.RowKit
set_option linter.unusedVariables false
set_option linter.unusedSimpArgs false
set_option maxRecDepth 100000
def ft_cursitorref10 : FTab := []
theorem ft_cursitorref10_ok : (ft_cursitorref10).OK Try.prog := trivial
theorem sok_cursitorref10_25_12 : SOK Try.prog 25 3 12 1 #[.int .i64 0, .int .i64 0, .int .i64 0, .int .i64 0, .int .i64 0, .int .i64 0, .int .i64 0, .int .i64 0, .int .i64 0, .int .i64 0, .int .i64 0, .int .i64 0] := SOK.mk Try.runUnderlying25 Try.sizeOf3 Try.zeroValue3 (by decide) (by kernel_rfl)
def f_r10_Bytes_l1 (a0 : List Int) : Nat → List UInt8 → Bool → List UInt8 → Nat → Option (Lp (List UInt8 × Bool) (List UInt8 × Bool × List UInt8 × Nat))
  | 0, _, _, _, _ => none
  | m11 + 1, y4, y5, y6, k7 => if (k7 : Int) < 12 then ((a0[k7]?).bind fun x16 => if (k7 : Int) = 3 then ((if x16 < 0 then some true else (if x16 > 4294967295 then some true else some false)).bind fun y21 => if y21 = true then (some (Lp.ret ([], false))) else ((if x16 > 2147483647 then (if -9223372036854775808 ≤ (x16 - 4294967296) ∧ (x16 - 4294967296) ≤ 9223372036854775807 then some (x16 - 4294967296) else none) else some x16).bind fun y28 => (gRBytes 2 1).bind fun x32 => if y6.length + x32.length ≤ 9223372036854775807 then (([8, 4, 4, 4, 2, 4, 8, 8, 8, 2, 4, 4][k7]?).bind fun x35 => (gRFits y28 x35).bind fun x38 => if x38 = true then ((gRBytes y28 x35).bind fun x41 => if (y6 ++ x32).length + x41.length ≤ 9223372036854775807 then (if -9223372036854775808 ≤ ((k7 : Int) + 1) ∧ ((k7 : Int) + 1) ≤ 9223372036854775807 then (f_r10_Bytes_l1 a0 m11 y4 y5 ((y6 ++ x32) ++ x41) (k7 + 1)) else none) else none) else (some (Lp.ret ([], false)))) else none)) else (([8, 4, 4, 4, 2, 4, 8, 8, 8, 2, 4, 4][k7]?).bind fun x45 => (gRFits x16 x45).bind fun x48 => if x48 = true then ((gRBytes x16 x45).bind fun x51 => if y6.length + x51.length ≤ 9223372036854775807 then (if -9223372036854775808 ≤ ((k7 : Int) + 1) ∧ ((k7 : Int) + 1) ≤ 9223372036854775807 then (f_r10_Bytes_l1 a0 m11 y4 y5 (y6 ++ x51) (k7 + 1)) else none) else none) else (some (Lp.ret ([], false))))) else (some (Lp.go (y4, y5, y6, k7)))
def f_r10_Bytes (a0 : List Int) : Option (List UInt8 × Bool) := (f_r10_Bytes_l1 a0 ((12 : Int).toNat + 1) [] false [] 0).bind fun e => match e with | .ret r => some r | .go (y55, y56, y57, k58) => some (y57, true)
set_option maxRecDepth 100000 in
set_option maxHeartbeats 4000000 in
theorem f_r10_Bytes_spec (a0 : List Int) (A1 : Option Addr) (c2 : Nat) (r : List UInt8 × Bool) (h : f_r10_Bytes a0 = some r) : SpecX Try.prog 25 #[.slice A1 a0.length c2] (RX.of (sliceRd 1 intE) [.slice A1 a0.length c2] a0) (EmpR) (fun v A' N => v = .tuple #[.string (bsOf r.1), .bool r.2] ∧ A' = EmpR ∧ N = []) := by
  refine enterA Try.func25 rfl Try.ntmps25 rfl ?_
  intro F w hX
  unfold f_r10_Bytes at h
  refine T.seq (T.region rfl ?_)
  refine TL.run ft_cursitorref10_ok [0, 1] rfl rfl ?_
  refine TL.nil (X.seq (T.seq (T.region rfl ?_)))
  refine TL.lit (cells := #[.int .i64 8, .int .i64 4, .int .i64 4, .int .i64 4, .int .i64 2, .int .i64 4, .int .i64 8, .int .i64 8, .int .i64 8, .int .i64 2, .int .i64 4, .int .i64 4]) rfl .u sok_cursitorref10_25_12 rfl (by kernel_rfl) rfl (fun b3 => ?_)
  refine TL.rowOf (us := [.int .i64 8, .int .i64 4, .int .i64 4, .int .i64 4, .int .i64 2, .int .i64 4, .int .i64 8, .int .i64 8, .int .i64 8, .int .i64 2, .int .i64 4, .int .i64 4]) (xs := [8, 4, 4, 4, 2, 4, 8, 8, 8, 2, 4, 4]) (E := intE) (z := 1) rfl (Nat.le_of_ble_eq_true rfl) (fun _ => ⟨rfl, rfl, ⟨rfl, rfl, ⟨rfl, rfl, ⟨rfl, rfl, ⟨rfl, rfl, ⟨rfl, rfl, ⟨rfl, rfl, ⟨rfl, rfl, ⟨rfl, rfl, ⟨rfl, rfl, ⟨rfl, rfl, ⟨rfl, rfl, rfl⟩⟩⟩⟩⟩⟩⟩⟩⟩⟩⟩⟩) ?_
  refine TL.run ft_cursitorref10_ok [1] rfl rfl ?_
  refine TL.nil (X.seq (T.seq (T.region rfl ?_)))
  refine TL.run ft_cursitorref10_ok [0] rfl rfl ?_
  refine TL.nil (X.seq (T.seq (T.seq (T.region rfl ?_))))
  refine TL.run ft_cursitorref10_ok [0] rfl rfl ?_
  refine TL.nil (X.seq (T.block ?_))
  obtain ⟨E8, hE9, hO10⟩ := Option.bind_eq_some_iff.1 h
  refine T.lp (fun m e Rs => ∃ (y4 : List UInt8) (y5 : Bool) (y6 : List UInt8) (k7 : Nat), e = [(0, .slice A1 a0.length c2), (2, .string (bsOf y4)), (3, .bool y5), (4, .slice (some ⟨b3, 0, none⟩) 12 12), (5, .string (bsOf y6)), (6, .int .i64 (k7 : Int))] ∧ Rs = [OwnR 3 1 intE (.slice (some ⟨b3, 0, none⟩) 12 12) [8, 4, 4, 4, 2, 4, 8, 8, 8, 2, 4, 4], EmpR] ∧ f_r10_Bytes_l1 a0 m y4 y5 y6 k7 = some E8) ((12 : Int).toNat + 1) [0, 0] ⟨[], false, [], 0, rfl, rfl, by exact hE9⟩ (by rfl) (by rfl) ?_
  rintro m11 _ _ ⟨y4, y5, y6, k7, rfl, rfl, hl13⟩
  clear hE9 h
  cases m11 with
  | zero =>
    rw [f_r10_Bytes_l1] at hl13
    cases hl13
  | succ m11 =>
    have h := hl13
    clear hl13
    rw [f_r10_Bytes_l1] at h
    refine T.seq (T.seq (T.region rfl ?_))
    refine TL.run ft_cursitorref10_ok [0, 1] rfl rfl ?_
    by_cases c15 : (k7 : Int) < 12
    · replace h := ifT c15 h
      refine TL.nil (X.seq ?_)
      refine T.yes rfl (decide_eq_true c15) ?_
      refine T.skip (X.seq (T.seq (T.block (T.seq (T.region rfl ?_)))))
      obtain ⟨x16, hx17, h⟩ := Option.bind_eq_some_iff.1 h
      obtain ⟨gz18, oz18, rfl, z18cs, z18cl, z18cc, z18nf, z18r⟩ := RX.elem (by decide) hX hx17
      obtain ⟨z18S, z18r, z18rr⟩ := z18r
      obtain rfl : z18cs = [.int .i64 x16] := z18r
      refine TL.run ft_cursitorref10_ok [0, 1] rfl rfl ?_
      refine TL.q rfl .u (Ex.ixS (k := k7) rfl rfl rfl Try.runUnderlying25 Try.sizeOf3 (List.getElem?_eq_some_iff.1 hx17).1) rfl ?_
      refine TL.q rfl .u (Ex.o1 0 rfl Try.isAgg3 z18nf z18cc rfl rfl) rfl ?_
      refine TL.run ft_cursitorref10_ok [4] rfl rfl ?_
      refine TL.nil (X.seq (T.seq (T.seq (T.region rfl ?_))))
      refine TL.run ft_cursitorref10_ok [0, 1] rfl rfl ?_
      by_cases c19 : (k7 : Int) = 3
      · replace h := ifT c19 h
        refine TL.nil (X.seq ?_)
        refine T.yes rfl (decide_eq_true c19) ?_
        refine T.seq (T.seq ?_)
        obtain ⟨y21, h, hk22⟩ := Option.bind_eq_some_iff.1 h
        refine T.jq (fun e Rs => e = [(0, .slice (some ⟨gz18, oz18, none⟩) a0.length c2), (2, .string (bsOf y4)), (3, .bool y5), (4, .slice (some ⟨b3, 0, none⟩) 12 12), (5, .string (bsOf y6)), (6, .int .i64 (k7 : Int)), (7, .int .i64 x16), (24, .bool y21)] ∧ Rs = [OwnR 3 1 intE (.slice (some ⟨b3, 0, none⟩) 12 12) [8, 4, 4, 4, 2, 4, 8, 8, 8, 2, 4, 4], EmpR]) ?_ ?_
        · clear hk22
          refine T.region rfl ?_
          by_cases c23 : x16 < 0
          · replace h := ifT c23 h
            refine TL.run ft_cursitorref10_ok [0, 1, 2] rfl rfl ?_
            refine TL.no rfl (.gn rfl rfl (decide_eq_true c23)) rfl ?_
            refine TL.no rfl (.gn rfl rfl (decide_eq_true c23)) rfl ?_
            refine TL.q rfl .u (Ex.py rfl (decide_eq_true c23) rfl) rfl ?_
            cases h
            exact TL.nil (X.jq [0, 0] ⟨rfl, rfl⟩ (by rfl) (by rfl))
          · replace h := ifF c23 h
            refine TL.run ft_cursitorref10_ok [0, 1, 2] rfl rfl ?_
            refine TL.q rfl (.g rfl rfl (decide_eq_false c23)) (Ex.ft ft_cursitorref10_ok rfl) rfl ?_
            refine TL.q rfl (.g rfl rfl (decide_eq_false c23)) (Ex.ft ft_cursitorref10_ok rfl) rfl ?_
            refine TL.q rfl .u (Ex.pn rfl (decide_eq_false c23) rfl) rfl ?_
            by_cases c24 : x16 > 4294967295
            · replace h := ifT c24 h
              cases h
              exact TL.nil (X.as (d := 24) (v' := .bool true) rfl (congrArg Value.bool (decide_eq_true c24)) (X.jq [0, 0] ⟨rfl, rfl⟩ (by rfl) (by rfl)))
            · replace h := ifF c24 h
              cases h
              exact TL.nil (X.as (d := 24) (v' := .bool false) rfl (congrArg Value.bool (decide_eq_false c24)) (X.jq [0, 0] ⟨rfl, rfl⟩ (by rfl) (by rfl)))
        · rintro _ _ ⟨rfl, rfl⟩
          clear h
          have h := hk22
          clear hk22
          try dsimp only at h
          by_cases c25 : y21 = true
          · replace h := ifT c25 h
            refine X.seq ?_
            refine T.yes rfl c25 ?_
            refine T.seq (T.region rfl ?_)
            refine TL.run ft_cursitorref10_ok [0, 1] rfl rfl ?_
            obtain rfl := Option.some.inj h
            replace h := hO10
            clear hO10
            try dsimp only at h
            obtain rfl := Option.some.inj h
            exact TL.nil (X.seq (T.ret (X.rs (X.rs (X.rb (X.rs (X.rs (X.rb (X.rs (X.done2 [1] Try.results25 (RV.tm rfl) (RV.tm rfl) ⟨rfl, rfl, rfl⟩ (by rfl) (.inl rfl)))))))))))
          · replace h := ifF c25 h
            replace c25 := eq_false_of_ne_true c25
            refine X.seq ?_
            refine T.no rfl c25 ?_
            refine T.skip (X.seq (T.seq (T.seq (T.region rfl ?_))))
            refine TL.run ft_cursitorref10_ok [0, 1] rfl rfl ?_
            refine TL.nil (X.seq ?_)
            obtain ⟨y28, h, hk29⟩ := Option.bind_eq_some_iff.1 h
            refine T.jq (fun e Rs => e = [(0, .slice (some ⟨gz18, oz18, none⟩) a0.length c2), (2, .string (bsOf y4)), (3, .bool y5), (4, .slice (some ⟨b3, 0, none⟩) 12 12), (5, .string (bsOf y6)), (6, .int .i64 (k7 : Int)), (7, .int .i64 y28)] ∧ Rs = [OwnR 3 1 intE (.slice (some ⟨b3, 0, none⟩) 12 12) [8, 4, 4, 4, 2, 4, 8, 8, 8, 2, 4, 4], EmpR]) ?_ ?_
            · clear hk29
              by_cases c30 : x16 > 2147483647
              · replace h := ifT c30 h
                refine T.yes rfl (decide_eq_true c30) ?_
                refine T.region rfl ?_
                replace h := guard_some h
                obtain ⟨c31, h⟩ := h
                refine TL.run ft_cursitorref10_ok [0] rfl rfl ?_
                refine TL.q rfl .u (Ex.sub rfl rfl c31) rfl ?_
                refine TL.run ft_cursitorref10_ok [2] rfl rfl ?_
                cases h
                exact TL.nil (X.jq [0, 0] ⟨rfl, rfl⟩ (by rfl) (by rfl))
              · replace h := ifF c30 h
                refine T.no rfl (decide_eq_false c30) ?_
                cases h
                exact T.skip (X.jq [0, 0] ⟨rfl, rfl⟩ (by rfl) (by rfl))
            · rintro _ _ ⟨rfl, rfl⟩
              clear h
              have h := hk29
              clear hk29
              try dsimp only at h
              refine X.seq (T.region rfl ?_)
              obtain ⟨x32, hx33, h⟩ := Option.bind_eq_some_iff.1 h
              refine TL.run ft_cursitorref10_ok [0] rfl rfl ?_
              refine TL.ce rfl .u (.fn Try.call76 rfl) (gRBytes_spec 2 1 _ hx33) (fun _ hs => (RX.reads_triv _ _)) rfl ?_
              replace h := guard_some h
              obtain ⟨c34, h⟩ := h
              refine TL.q rfl .u (Ex.sAdd rfl rfl c34) rfl ?_
              refine TL.run ft_cursitorref10_ok [3] rfl rfl ?_
              refine TL.nil (X.seq (T.seq (T.seq (T.region rfl ?_))))
              obtain ⟨x35, hx36, h⟩ := Option.bind_eq_some_iff.1 h
              refine TL.run ft_cursitorref10_ok [0, 1, 2] rfl rfl ?_
              refine TL.foc (E := intE) (k := k7) 0 rfl (fun w G h => own_reads (by decide) w G h) (by decide) hx36 ?_
              rintro gg oo z37cs hA z37cl ⟨_, _, z37r⟩
              cases hA
              obtain rfl : z37cs = [.int .i64 x35] := z37r
              clear z37cl
              refine TL.sel [0, 0] rfl ?_
              refine TL.q rfl .u (Ex.ixS (k := k7) rfl rfl rfl Try.runUnderlying25 Try.sizeOf3 (List.getElem?_eq_some_iff.1 hx36).1) rfl ?_
              refine TL.q rfl .u (Ex.k1 (cs := [.int .i64 x35]) 0 0 rfl Try.isAgg3 rfl (fun _ _ h => h.2.2.1) rfl) rfl ?_
              obtain ⟨x38, hx39, h⟩ := Option.bind_eq_some_iff.1 h
              refine TL.ce rfl .u (.fn Try.call36 rfl) (gRFits_spec y28 x35 _ hx39) (fun _ hs => (RX.reads_triv _ _)) rfl ?_
              refine TL.run ft_cursitorref10_ok [6] rfl rfl ?_
              by_cases c40 : x38 = true
              · replace h := ifT c40 h
                refine TL.nil (X.seq ?_)
                refine T.no rfl (bn_f c40) ?_
                refine T.skip (X.seq (T.region rfl ?_))
                refine TL.run ft_cursitorref10_ok [0, 1, 2, 3] rfl rfl ?_
                refine TL.q rfl .u (Ex.ixS (k := k7) rfl rfl rfl Try.runUnderlying25 Try.sizeOf3 (List.getElem?_eq_some_iff.1 hx36).1) rfl ?_
                refine TL.q rfl .u (Ex.k1 (cs := [.int .i64 x35]) 0 0 rfl Try.isAgg3 rfl (fun _ _ h => h.2.2.1) rfl) rfl ?_
                obtain ⟨x41, hx42, h⟩ := Option.bind_eq_some_iff.1 h
                refine TL.ce rfl .u (.fn Try.call76 rfl) (gRBytes_spec y28 x35 _ hx42) (fun _ hs => (RX.reads_triv _ _)) rfl ?_
                replace h := guard_some h
                obtain ⟨c43, h⟩ := h
                refine TL.q rfl .u (Ex.sAdd rfl rfl c43) rfl ?_
                refine TL.run ft_cursitorref10_ok [8] rfl rfl ?_
                refine TL.nil (X.blk (X.seq (T.region rfl ?_)))
                replace h := guard_some h
                obtain ⟨c44, h⟩ := h
                refine TL.run ft_cursitorref10_ok [0] rfl rfl ?_
                refine TL.q rfl .u (Ex.add rfl rfl c44) rfl ?_
                refine TL.run ft_cursitorref10_ok [2] rfl rfl ?_
                refine TL.nil ?_
                refine X.unf 0 rfl ?_
                refine X.sel [0, 0] rfl ?_
                exact X.back (m' := m11) [0, 0] (by omega) ⟨y4, y5, ((y6 ++ x32) ++ x41), k7 + 1, rfl, rfl, h⟩ (by rfl) (by rfl)
              · replace h := ifF c40 h
                replace c40 := eq_false_of_ne_true c40
                refine TL.nil (X.seq ?_)
                refine T.yes rfl (bn_t c40) ?_
                refine T.seq (T.region rfl ?_)
                refine TL.run ft_cursitorref10_ok [0, 1] rfl rfl ?_
                obtain rfl := Option.some.inj h
                replace h := hO10
                clear hO10
                try dsimp only at h
                obtain rfl := Option.some.inj h
                exact TL.nil (X.seq (T.ret (X.rs (X.rb (X.rs (X.rs (X.rb (X.rs (X.done2 [1] Try.results25 (RV.tm rfl) (RV.tm rfl) ⟨rfl, rfl, rfl⟩ (by rfl) (.inl rfl))))))))))
      · replace h := ifF c19 h
        refine TL.nil (X.seq ?_)
        refine T.no rfl (decide_eq_false c19) ?_
        refine T.skip (X.seq (T.seq (T.seq (T.region rfl ?_))))
        obtain ⟨x45, hx46, h⟩ := Option.bind_eq_some_iff.1 h
        refine TL.run ft_cursitorref10_ok [0, 1, 2] rfl rfl ?_
        refine TL.foc (E := intE) (k := k7) 0 rfl (fun w G h => own_reads (by decide) w G h) (by decide) hx46 ?_
        rintro gg oo z47cs hA z47cl ⟨_, _, z47r⟩
        cases hA
        obtain rfl : z47cs = [.int .i64 x45] := z47r
        clear z47cl
        refine TL.sel [0, 0] rfl ?_
        refine TL.q rfl .u (Ex.ixS (k := k7) rfl rfl rfl Try.runUnderlying25 Try.sizeOf3 (List.getElem?_eq_some_iff.1 hx46).1) rfl ?_
        refine TL.q rfl .u (Ex.k1 (cs := [.int .i64 x45]) 0 0 rfl Try.isAgg3 rfl (fun _ _ h => h.2.2.1) rfl) rfl ?_
        obtain ⟨x48, hx49, h⟩ := Option.bind_eq_some_iff.1 h
        refine TL.ce rfl .u (.fn Try.call36 rfl) (gRFits_spec x16 x45 _ hx49) (fun _ hs => (RX.reads_triv _ _)) rfl ?_
        refine TL.run ft_cursitorref10_ok [6] rfl rfl ?_
        by_cases c50 : x48 = true
        · replace h := ifT c50 h
          refine TL.nil (X.seq ?_)
          refine T.no rfl (bn_f c50) ?_
          refine T.skip (X.seq (T.region rfl ?_))
          refine TL.run ft_cursitorref10_ok [0, 1, 2, 3] rfl rfl ?_
          refine TL.q rfl .u (Ex.ixS (k := k7) rfl rfl rfl Try.runUnderlying25 Try.sizeOf3 (List.getElem?_eq_some_iff.1 hx46).1) rfl ?_
          refine TL.q rfl .u (Ex.k1 (cs := [.int .i64 x45]) 0 0 rfl Try.isAgg3 rfl (fun _ _ h => h.2.2.1) rfl) rfl ?_
          obtain ⟨x51, hx52, h⟩ := Option.bind_eq_some_iff.1 h
          refine TL.ce rfl .u (.fn Try.call76 rfl) (gRBytes_spec x16 x45 _ hx52) (fun _ hs => (RX.reads_triv _ _)) rfl ?_
          replace h := guard_some h
          obtain ⟨c53, h⟩ := h
          refine TL.q rfl .u (Ex.sAdd rfl rfl c53) rfl ?_
          refine TL.run ft_cursitorref10_ok [8] rfl rfl ?_
          refine TL.nil (X.blk (X.seq (T.region rfl ?_)))
          replace h := guard_some h
          obtain ⟨c54, h⟩ := h
          refine TL.run ft_cursitorref10_ok [0] rfl rfl ?_
          refine TL.q rfl .u (Ex.add rfl rfl c54) rfl ?_
          refine TL.run ft_cursitorref10_ok [2] rfl rfl ?_
          refine TL.nil ?_
          refine X.unf 0 rfl ?_
          refine X.sel [0, 0] rfl ?_
          exact X.back (m' := m11) [0, 0] (by omega) ⟨y4, y5, (y6 ++ x51), k7 + 1, rfl, rfl, h⟩ (by rfl) (by rfl)
        · replace h := ifF c50 h
          replace c50 := eq_false_of_ne_true c50
          refine TL.nil (X.seq ?_)
          refine T.yes rfl (bn_t c50) ?_
          refine T.seq (T.region rfl ?_)
          refine TL.run ft_cursitorref10_ok [0, 1] rfl rfl ?_
          obtain rfl := Option.some.inj h
          replace h := hO10
          clear hO10
          try dsimp only at h
          obtain rfl := Option.some.inj h
          exact TL.nil (X.seq (T.ret (X.rs (X.rb (X.rs (X.rs (X.rb (X.rs (X.done2 [1] Try.results25 (RV.tm rfl) (RV.tm rfl) ⟨rfl, rfl, rfl⟩ (by rfl) (.inl rfl))))))))))
    · replace h := ifF c15 h
      refine TL.nil (X.seq ?_)
      refine T.no rfl (decide_eq_false c15) ?_
      obtain rfl := Option.some.inj h
      replace h := hO10
      clear hO10
      try dsimp only at h
      refine T.exit (X.exs (X.exs (X.ex (X.seq (T.seq (T.region rfl ?_))))))
      refine TL.run ft_cursitorref10_ok [0, 1, 2] rfl rfl ?_
      obtain rfl := Option.some.inj h
      exact TL.nil (X.seq (T.ret (X.done2 [1] Try.results25 (RV.tm rfl) (RV.tm rfl) ⟨rfl, rfl, rfl⟩ (by rfl) (.inl rfl))))
end Go.Proofs.Ytpiiopppbgpbpaa.Sl
namespace Go.Proofs.Ytpiiopppbgpbpaa.Sl
open Go.RowKit
set_option linter.unusedVariables false
set_option linter.unusedSimpArgs false
def r64 (n : Int) : Prop := -9223372036854775808 ≤ n ∧ n ≤ 9223372036854775807
def wrI : List Nat → List Int → List UInt8 × Int → Option (List UInt8 × Int)
  | k :: ks, x :: xs, st => (gOInt st x (k : Int)).bind fun st => wrI ks xs st
  | _, _, st => some st
theorem wrI_dead : ∀ (ks : List Nat) (l : List Int) (st : List UInt8 × Int), st.2 ≠ 0 → (∀ x, x ∈ l → r64 x) → st.1.length ≤ 1000000 → wrI ks l st = some st
  | [], _, _, _, _, _ => by unfold wrI; rfl
  | _ :: _, [], _, _, _, _ => by unfold wrI; rfl
  | k :: ks, x :: xs, st, h, hx, hl => by
    rw [wrI, gOInt_d h (hx x (List.mem_cons_self ..)) (by omega), Option.bind_some]
    exact wrI_dead ks xs st h (fun y hy => hx y (List.mem_cons_of_mem _ hy)) hl
theorem wrI_ok : ∀ (ks : List Nat) (l : List Int) (t : List UInt8), okI ks l → t.length + ks.sum ≤ 1000000 → wrI ks l (t, 0) = some (t ++ encI ks l, 0)
  | [], [], t, _, _ => by unfold wrI encI; rw [List.append_nil]
  | [], _ :: _, _, h, _ => nomatch h
  | _ :: _, [], _, h, _ => nomatch h
  | k :: ks, x :: xs, t, h, hl => by
    rw [List.sum_cons] at hl
    rw [wrI, gOInt_z h.1 (by omega), Option.bind_some, Int.toNat_natCast, wrI_ok ks xs _ h.2 (by rw [List.length_append, be_length]; omega), encI, List.append_assoc]
theorem wrI_no : ∀ (ks : List Nat) (l : List Int) (t : List UInt8), ks.length = l.length → ¬ okI ks l → (∀ x, x ∈ l → r64 x) → t.length + ks.sum ≤ 1000000 → ∃ t', wrI ks l (t, 0) = some (t', 11)
  | [], [], t, _, h, _, _ => absurd trivial h
  | [], _ :: _, _, hl, _, _, _ => nomatch hl
  | _ :: _, [], _, hl, _, _, _ => nomatch hl
  | k :: ks, x :: xs, t, hl, h, hx, hb => by
    rw [List.sum_cons] at hb
    have hx1 := hx x (List.mem_cons_self ..)
    by_cases hf : fits x k = true
    · rw [wrI, gOInt_z hf (by omega), Option.bind_some, Int.toNat_natCast]
      exact wrI_no ks xs _ (by simpa using hl) (fun h2 => h ⟨hf, h2⟩) (fun y hy => hx y (List.mem_cons_of_mem _ hy)) (by rw [List.length_append, be_length]; omega)
    · rw [wrI, gOInt_no (by simpa using hf) hx1 (by omega), Option.bind_some]
      exact ⟨t, wrI_dead ks xs (t, 11) (show (11 : Int) ≠ 0 by decide) (fun y hy => hx y (List.mem_cons_of_mem _ hy)) (by show t.length ≤ _; omega)⟩
def w32 (n : Int) : Int := IntKind.i32.wrap (IntKind.u32.wrap n)
theorem w32_rng (n : Int) : -2147483648 ≤ w32 n ∧ w32 n ≤ 2147483647 := by
  unfold w32
  rw [IntKind.wrap_i32]
  omega
theorem w32_s {n : Int} (h : 0 ≤ n ∧ n ≤ 4294967295) : w32 n = s32 n := by
  unfold w32 s32
  rw [IntKind.wrap_i32, IntKind.wrap_u32]
  split <;> omega
def toW (p : Pfx) : List Int := [p.fBase, p.fLength, p.fLeader, 2, w32 p.fSum, p.fAttr, p.fLast, p.fFirst, p.fMax, p.fProducer, p.fEpoch, p.fSequence, p.fCount]
def wP (p : Pfx) : Prop := r64 p.fBase ∧ r64 p.fLength ∧ r64 p.fLeader ∧ r64 p.fSum ∧ r64 p.fAttr ∧ r64 p.fLast ∧ r64 p.fFirst ∧ r64 p.fMax ∧ r64 p.fProducer ∧ r64 p.fEpoch ∧ r64 p.fSequence ∧ r64 p.fCount
theorem toW_rng {p : Pfx} (h : wP p) : ∀ x, x ∈ toW p → r64 x := by
  obtain ⟨h1, h2, h3, h4, h5, h6, h7, h8, h9, h10, h11, h12⟩ := h
  have hw := w32_rng p.fSum
  intro x hx
  simp only [toW, List.mem_cons, List.not_mem_nil, or_false] at hx
  rcases hx with rfl | rfl | rfl | rfl | rfl | rfl | rfl | rfl | rfl | rfl | rfl | rfl | rfl
  all_goals first | assumption | exact ⟨by omega, by omega⟩
theorem write_eq (st : List UInt8 × Int) (p : Pfx) : f_prefix_Write st p = wrI KS (toW p) (if p.fSum < 0 ∨ p.fSum > 4294967295 then ofail st 11 else st) := by
  have hw := w32_rng p.fSum
  unfold f_prefix_Write
  have e : ((if p.fSum < 0 then some true else (if p.fSum > 4294967295 then some true else some false)).bind fun y4 => (if y4 = true then ((gOFail st 11).bind fun st14 => some st14) else some st)) = some (if p.fSum < 0 ∨ p.fSum > 4294967295 then ofail st 11 else st) := by
    by_cases h1 : p.fSum < 0
    · rw [if_pos h1, Option.bind_some, if_pos rfl, if_pos (.inl h1)]; rfl
    · rw [if_neg h1]
      by_cases h2 : p.fSum > 4294967295
      · rw [if_pos h2, Option.bind_some, if_pos rfl, if_pos (.inr h2)]; rfl
      · rw [if_neg h2, Option.bind_some, if_neg (by decide), if_neg (by omega)]
  have e2 : ∀ (K : List UInt8 × Int → Option (List UInt8 × Int)), ((if p.fSum < 0 then some true else (if p.fSum > 4294967295 then some true else some false)).bind fun y4 => (if y4 = true then ((gOFail st 11).bind fun st14 => some st14) else some st).bind K) = K (if p.fSum < 0 ∨ p.fSum > 4294967295 then ofail st 11 else st) := by
    intro K
    rw [← Option.bind_assoc, e, Option.bind_some]
  rw [e2]
  show (if -9223372036854775808 ≤ w32 p.fSum ∧ w32 p.fSum ≤ 9223372036854775807 then _ else _) = _
  rw [if_pos (by omega)]
  rfl
def okW (p : Pfx) : Prop := okI KS (toL p) ∧ 0 ≤ p.fSum ∧ p.fSum ≤ 4294967295
theorem encP_len {p : Pfx} (h : okI KS (toL p)) : (encP p).length = 61 := by
  unfold encP
  rw [encI_len h]
  rfl
theorem write_ok {p : Pfx} (t : List UInt8) (h : okW p) (ht : t.length ≤ 900000) : f_prefix_Write (t, 0) p = some (t ++ encP p, 0) := by
  have e : toW p = toL p := by
    unfold toW toL
    rw [w32_s h.2]
  have h2 := h.2
  rw [write_eq, if_neg (by omega), e]
  exact wrI_ok KS (toL p) t h.1 (by show t.length + 61 ≤ _; omega)
theorem write_no {p : Pfx} (h : ¬ okW p) (hw : wP p) : ∃ t, f_prefix_Write ([], 0) p = some (t, 11) := by
  rw [write_eq]
  by_cases h1 : p.fSum < 0 ∨ p.fSum > 4294967295
  · rw [if_pos h1, ofail_z]
    exact ⟨[], wrI_dead _ _ _ (by decide) (toW_rng hw) (by decide)⟩
  · have h2 : 0 ≤ p.fSum ∧ p.fSum ≤ 4294967295 := by omega
    have e : toW p = toL p := by
      unfold toW toL
      rw [w32_s h2]
    rw [if_neg h1]
    have h3 := wrI_no KS (toL p) [] rfl (fun h3 => h ⟨h3, h2⟩) (by rw [← e]; exact toW_rng hw) (by decide)
    rw [← e] at h3
    exact h3
def listP (p : Pfx) : List Int := [p.fBase, p.fLength, p.fLeader, p.fSum, p.fAttr, p.fLast, p.fFirst, p.fMax, p.fProducer, p.fEpoch, p.fSequence, p.fCount]
theorem rb_step (l : List Int) (m : Nat) (y4 acc : List UInt8) (y5 : Bool) (k : Nat) (x : Int) (z : Nat) (hk : k < 12) (h3 : k ≠ 3) (hx : l[k]? = some x) (hz : [(8 : Int), 4, 4, 4, 2, 4, 8, 8, 8, 2, 4, 4][k]? = some (z : Int)) (h8 : z ≤ 8) (hr : r64 x) (ha : acc.length ≤ 1000) :
    f_r10_Bytes_l1 l (m + 1) y4 y5 acc k = if fits x z = true then f_r10_Bytes_l1 l m y4 y5 (acc ++ be x z) (k + 1) else some (.ret ([], false)) := by
  rw [f_r10_Bytes_l1, if_pos (by omega), hx, Option.bind_some, if_neg (by omega), hz, Option.bind_some, gRFits_eq _ _ hr, Option.bind_some]
  by_cases h : fits x z = true
  · rw [if_pos h, if_pos h, gRBytes_eq _ _ ⟨hr, by omega, by omega⟩, Option.bind_some, Int.toNat_natCast, if_pos (by rw [be_length]; omega), if_pos (by omega)]
  · rw [if_neg h, if_neg h]
theorem rb_step3 (l : List Int) (m : Nat) (y4 acc : List UInt8) (y5 : Bool) (x : Int) (hx : l[3]? = some x) (hr : r64 x) (ha : acc.length ≤ 1000) :
    f_r10_Bytes_l1 l (m + 1) y4 y5 acc 3 = if (0 ≤ x ∧ x ≤ 4294967295) then (if fits (s32 x) 4 = true then f_r10_Bytes_l1 l m y4 y5 (acc ++ be 2 1 ++ be (s32 x) 4) 4 else some (.ret ([], false))) else some (.ret ([], false)) := by
  obtain ⟨r1, r2⟩ := hr
  rw [f_r10_Bytes_l1, if_pos (by decide), hx, Option.bind_some, if_pos (by decide)]
  by_cases h : 0 ≤ x ∧ x ≤ 4294967295
  · have e1 : (if x < 0 then some true else (if x > 4294967295 then some true else some false)) = some false := by rw [if_neg (by omega), if_neg (by omega)]
    have e2 : (if x > 2147483647 then (if -9223372036854775808 ≤ (x - 4294967296) ∧ (x - 4294967296) ≤ 9223372036854775807 then some (x - 4294967296) else none) else some x) = some (s32 x) := by
      unfold s32
      by_cases q : x > 2147483647
      · rw [if_pos q, if_pos q, if_pos (by omega)]
      · rw [if_neg q, if_neg q]
    have e3 : r64 (s32 x) := by unfold s32 r64; split <;> omega
    rw [e1, Option.bind_some, if_neg (by decide), e2, Option.bind_some, gRBytes_eq _ _ ⟨by decide, by decide, by decide⟩, Option.bind_some, if_pos (by rw [be_length]; show _ + 1 ≤ _; omega), if_pos h]
    show ((some (4 : Int)).bind _) = _
    rw [Option.bind_some, gRFits_eq _ _ e3, Option.bind_some]
    by_cases hf : fits (s32 x) 4 = true
    · rw [if_pos hf, if_pos hf, gRBytes_eq _ _ ⟨e3, by decide, by decide⟩, Option.bind_some, if_pos (by rw [List.length_append, be_length, be_length]; show _ + 1 + 4 ≤ _; omega), if_pos (by decide)]
      rfl
    · rw [if_neg hf, if_neg hf]
  · have e1 : (if x < 0 then some true else (if x > 4294967295 then some true else some false)) = some true := by
      by_cases q : x < 0
      · rw [if_pos q]
      · rw [if_neg q, if_pos (by omega)]
    rw [e1, Option.bind_some, if_pos rfl, if_neg h]
theorem rb_end (l : List Int) (m : Nat) (y4 acc : List UInt8) (y5 : Bool) : f_r10_Bytes_l1 l (m + 1) y4 y5 acc 12 = some (.go (y4, y5, acc, 12)) := by
  rw [f_r10_Bytes_l1, if_neg (by decide)]
open Classical in
theorem r10_bytes (p : Pfx) (hw : wP p) : f_r10_Bytes (listP p) = some (if okW p then (encP p, true) else ([], false)) := by
  obtain ⟨h1, h2, h3, h4, h5, h6, h7, h8, h9, h10, h11, h12⟩ := hw
  unfold f_r10_Bytes
  rw [show (12 : Int).toNat + 1 = 12 + 1 from rfl]
  have no : ¬ okW p → ∀ (o : Option (Lp (List UInt8 × Bool) (List UInt8 × Bool × List UInt8 × Nat))), o = some (.ret ([], false)) → (o.bind fun e => match e with | .ret r => some r | .go (y55, y56, y57, k58) => some (y57, true)) = some (if okW p then (encP p, true) else ([], false)) := by
    intro h o ho
    rw [ho, if_neg h]
    rfl
  by_cases f1 : fits p.fBase (8 : Nat) = true
  rotate_left
  · exact no (fun h => f1 h.1.1) _ (by rw [rb_step (listP p) 12 [] [] false 0 p.fBase 8 (by decide) (by decide) rfl rfl (by decide) h1 (by decide), if_neg f1])
  by_cases f2 : fits p.fLength (4 : Nat) = true
  rotate_left
  · exact no (fun h => f2 h.1.2.1) _ (by rw [rb_step (listP p) 12 [] [] false 0 p.fBase 8 (by decide) (by decide) rfl rfl (by decide) h1 (by decide), if_pos f1, rb_step (listP p) 11 [] _ false 1 p.fLength 4 (by decide) (by decide) rfl rfl (by decide) h2 (by simp [be_length]), if_neg f2])
  by_cases f3 : fits p.fLeader (4 : Nat) = true
  rotate_left
  · exact no (fun h => f3 h.1.2.2.1) _ (by rw [rb_step (listP p) 12 [] [] false 0 p.fBase 8 (by decide) (by decide) rfl rfl (by decide) h1 (by decide), if_pos f1, rb_step (listP p) 11 [] _ false 1 p.fLength 4 (by decide) (by decide) rfl rfl (by decide) h2 (by simp [be_length]), if_pos f2,
      rb_step (listP p) 10 [] _ false 2 p.fLeader 4 (by decide) (by decide) rfl rfl (by decide) h3 (by simp [be_length]), if_neg f3])
  rw [rb_step (listP p) 12 [] [] false 0 p.fBase 8 (by decide) (by decide) rfl rfl (by decide) h1 (by decide), if_pos f1, rb_step (listP p) 11 [] _ false 1 p.fLength 4 (by decide) (by decide) rfl rfl (by decide) h2 (by simp [be_length]), if_pos f2,
    rb_step (listP p) 10 [] _ false 2 p.fLeader 4 (by decide) (by decide) rfl rfl (by decide) h3 (by simp [be_length]), if_pos f3, rb_step3 (listP p) 9 [] _ false p.fSum rfl h4 (by simp [be_length])]
  by_cases g4 : 0 ≤ p.fSum ∧ p.fSum ≤ 4294967295
  rotate_left
  · exact no (fun h => g4 h.2) _ (by rw [if_neg g4])
  rw [if_pos g4]
  by_cases f4 : fits (s32 p.fSum) 4 = true
  rotate_left
  · exact no (fun h => f4 h.1.2.2.2.2.1) _ (by rw [if_neg f4])
  rw [if_pos f4, rb_step (listP p) 8 [] _ false 4 p.fAttr 2 (by decide) (by decide) rfl rfl (by decide) h5 (by simp [be_length])]
  by_cases f5 : fits p.fAttr (2 : Nat) = true
  rotate_left
  · exact no (fun h => f5 h.1.2.2.2.2.2.1) _ (by rw [if_neg f5])
  rw [if_pos f5, rb_step (listP p) 7 [] _ false 5 p.fLast 4 (by decide) (by decide) rfl rfl (by decide) h6 (by simp [be_length])]
  by_cases f6 : fits p.fLast (4 : Nat) = true
  rotate_left
  · exact no (fun h => f6 h.1.2.2.2.2.2.2.1) _ (by rw [if_neg f6])
  rw [if_pos f6, rb_step (listP p) 6 [] _ false 6 p.fFirst 8 (by decide) (by decide) rfl rfl (by decide) h7 (by simp [be_length])]
  by_cases f7 : fits p.fFirst (8 : Nat) = true
  rotate_left
  · exact no (fun h => f7 h.1.2.2.2.2.2.2.2.1) _ (by rw [if_neg f7])
  rw [if_pos f7, rb_step (listP p) 5 [] _ false 7 p.fMax 8 (by decide) (by decide) rfl rfl (by decide) h8 (by simp [be_length])]
  by_cases f8 : fits p.fMax (8 : Nat) = true
  rotate_left
  · exact no (fun h => f8 h.1.2.2.2.2.2.2.2.2.1) _ (by rw [if_neg f8])
  rw [if_pos f8, rb_step (listP p) 4 [] _ false 8 p.fProducer 8 (by decide) (by decide) rfl rfl (by decide) h9 (by simp [be_length])]
  by_cases f9 : fits p.fProducer (8 : Nat) = true
  rotate_left
  · exact no (fun h => f9 h.1.2.2.2.2.2.2.2.2.2.1) _ (by rw [if_neg f9])
  rw [if_pos f9, rb_step (listP p) 3 [] _ false 9 p.fEpoch 2 (by decide) (by decide) rfl rfl (by decide) h10 (by simp [be_length])]
  by_cases f10 : fits p.fEpoch (2 : Nat) = true
  rotate_left
  · exact no (fun h => f10 h.1.2.2.2.2.2.2.2.2.2.2.1) _ (by rw [if_neg f10])
  rw [if_pos f10, rb_step (listP p) 2 [] _ false 10 p.fSequence 4 (by decide) (by decide) rfl rfl (by decide) h11 (by simp [be_length])]
  by_cases f11 : fits p.fSequence (4 : Nat) = true
  rotate_left
  · exact no (fun h => f11 h.1.2.2.2.2.2.2.2.2.2.2.2.1) _ (by rw [if_neg f11])
  rw [if_pos f11, rb_step (listP p) 1 [] _ false 11 p.fCount 4 (by decide) (by decide) rfl rfl (by decide) h12 (by simp [be_length])]
  by_cases f12 : fits p.fCount (4 : Nat) = true
  rotate_left
  · exact no (fun h => f12 h.1.2.2.2.2.2.2.2.2.2.2.2.2.1) _ (by rw [if_neg f12])
  have hok : okW p := ⟨⟨f1, f2, f3, rfl, f4, f5, f6, f7, f8, f9, f10, f11, f12, trivial⟩, g4⟩
  rw [if_pos f12, rb_end, Option.bind_some, if_pos hok]
  dsimp only
  unfold encP KS toL
  simp only [encI, List.append_assoc, List.nil_append, List.append_nil]
end Go.Proofs.Ytpiiopppbgpbpaa.Sl
