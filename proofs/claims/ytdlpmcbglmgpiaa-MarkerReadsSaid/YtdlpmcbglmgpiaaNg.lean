/- Interfaces, blocks that are only read, rows whose elements lead on (no program in it). -/
import Derived.Test.YtdlpmcbglmgpiaaNf
namespace Go.Proofs.Ytdlpmcbglmgpiaa.Sl
open Go.RowKit
set_option linter.unusedVariables false
set_option linter.unusedSimpArgs false
/-- A block that is read. -/
def RX.blk (b : Nat) (T : TypeId) (cs : Array Value) : RX := ⟨fun w S => w.heap[b]? = some (.cells cs T (0, 0)) ∧ S b, fun h k => ⟨h.1, k _ h.2⟩, fun h k => ⟨(k _ h.2).trans h.1, h.2⟩⟩
theorem blk_reads {b : Nat} {T : TypeId} {cs : Array Value} : ∀ w G, (BlkR b T cs).P w G → (RX.blk b T cs).P w G := fun _ _ h => ⟨h.1, (h.2 _).2 rfl⟩
section
variable {P : Program} {n : Nat} {F0 : Nat → Prop} {w0 w : World} {e : Env} {Rs Rf : List Res} {Q : Exit → Act → World → Prop} {ops : Array Oper} {d : Option Tmp} {i : Nat} {ty t t' el : TypeId} {pos : String} {af : Array Edge} {gd : Option (Nat × Bool)} {v v' : Value} {x y z : Operand} {l : List Nat} {lo : Sch} {c : Code} {S : World → Prop}
theorem xblk_at {b : Nat} {T : TypeId} {cs : Array Value} (hX : (RX.blk b T cs).reads w0 F0) (h : St F0 w0 Rs w) : w.heap[b]? = some (.cells cs T (0, 0)) := by
  obtain ⟨S, ⟨h1, h2⟩, h3⟩ := hX
  exact (h.fr.block b (h3 b h2).2 (h3 b h2).1).trans h1
theorem Ex.xb1 {b o : Nat} {T : TypeId} {cs : Array Value} (hX : (RX.blk b T cs).reads w0 F0) (hx : e.ev x = some (.pointer (some ⟨b, o, none⟩))) (ha : ∀ w, (isAgg t).run P w = .ok false w) (hv : cs[o]? = some v) : Ex P n e (St F0 w0 Rs) ⟨d, .load t x, ty, pos, af, gd⟩ v :=
  Ex.ld1 hx ha (fun w hw => (heap_at (xblk_at hX hw) o).trans hv)
theorem Ex.xbS {b o z : Nat} {T : TypeId} {cs : Array Value} {us : List Value} (hX : (RX.blk b T cs).reads w0 F0) (hx : e.ev x = some (.pointer (some ⟨b, o, none⟩))) (ha : ∀ w, (isAgg t).run P w = .ok true w) (hz : ∀ w, (sizeOf t).run P w = .ok z w)
    (hv : (cs.toList.drop o).take z = us) (hl : Nat.beq us.length z = true) : Ex P n e (St F0 w0 Rs) ⟨d, .load t x, ty, pos, af, gd⟩ (.agg us.toArray) := by
  refine Ex.ldS hx ha hz (Nat.eq_of_beq_eq_true hl) (fun w hw j u hj => ?_)
  have h2 : (⟨b, o, none⟩ : Addr).add j = ⟨b, o + j, none⟩ := by unfold Addr.add; split <;> simp_all
  rw [h2, heap_at (xblk_at hX hw)]
  subst hv
  rw [List.getElem?_take] at hj
  split at hj
  · rw [List.getElem?_drop] at hj
    simpa using hj
  · cases hj
theorem Ex.mkI {fs : Array Field} (hx : e.ev x = some v) (hu : ∀ w, (underlying t).run P w = .ok (.struct fs) w) : Ex P n e S ⟨d, .makeInterface t x, ty, pos, af, gd⟩ (.iface t v) := by
  intro a w ha _
  simp [execOp, ha.ev hx, Instr.makeInterface, hu]
/-- A method of a struct's value. -/
theorem method_val {nm : String} {f : FuncId} {fs : Array Field} {k : Nat} (hn : P.types.size + Made.depth = k + 1) (hm : ((P.info? t).bind fun i => i.methods.find? (·.name == nm)).map (fun m => (m.path.isEmpty, m.func)) = some (true, some (f, false))) (hu : ∀ w, (underlying t).run P w = .ok (.struct fs) w) (u : Value) (w : World) :
    (method (P.types.size + Made.depth) t u nm).run P w = .ok (f, u) w := by
  obtain ⟨m, h1, h2⟩ := Option.map_eq_some_iff.1 hm
  obtain ⟨ti, h3, h4⟩ := Option.bind_eq_some_iff.1 h1
  simp only [Prod.mk.injEq] at h2
  obtain ⟨h5, h6⟩ := h2
  have h7 : m.path.toList = [] := by
    have : m.path = #[] := by simpa using h5
    simp [this]
  rw [hn]
  simp only [method, Sem.run_bind, typeInfo]
  simp [h3, h4, h7, follow, h6, receiverAt, hu, Place.get]
/-- A row of a literal's block, whose elements lead on to what the j-th of the others says. -/
theorem St.rowOf2 {α : Type} {E : Rd α} {b T z m : Nat} {us : List Value} {l : List α} {B : Res} (j : Nat) (h : St F0 w0 (BlkR b T us.toArray :: Rs) w) (hj : Rs[j]? = some B) (hm : l.length = m) (hmm : m ≤ maxLen) (he : ∀ w G, B.P w G → elems z E w G us l) :
    St F0 w0 (OwnR T z E (.slice (some ⟨b, 0, none⟩) m m) l :: Rs.eraseIdx j) w := by
  subst hm
  obtain ⟨f, G, h1, h2, h3⟩ := h
  obtain ⟨H, k1, k2, k3⟩ := Sep.pick j hj h3
  have hE := he w H k1
  have hl := elems_length hE
  refine ⟨f, fun k => k = b ∨ H k, ⟨us, H, ⟨hl, .inr ⟨b, l.length, us.toArray, rfl, Nat.zero_le _, h1.1, Nat.le_refl _, hmm, by simpa using hl, ?_⟩⟩, hE, B.lt k1, ?_, fun k => ?_⟩, ?_, ?_⟩
  · simp [← hl]
  · intro k hk hh
    simp only [Value.ownBlock, Option.some.injEq] at hk
    subst hk
    exact (k2 _ hh).2 ((h1.2 _).2 rfl)
  · simp [Value.ownBlock, eq_comm]
  · rintro k (rfl | hk)
    · exact h2 _ ((h1.2 _).2 rfl)
    · exact (k2 k hk).1
  · refine k3.mono (fun k hk => ⟨hk.1.1, ?_⟩)
    rintro (rfl | h)
    · exact hk.1.2 ((h1.2 _).2 rfl)
    · exact hk.2 h
theorem TL.rowOf2 {α : Type} {E : Rd α} {b T z m : Nat} {us : List Value} {xs : List α} {B : Res} (j : Nat) (hj : Rs[j]? = some B) (hm : xs.length = m) (hmm : m ≤ maxLen) (he : ∀ w G, B.P w G → elems z E w G us xs) (h : TL P n F0 w0 ops l e (OwnR T z E (.slice (some ⟨b, 0, none⟩) m m) xs :: Rs.eraseIdx j) Q) : TL P n F0 w0 ops l e (BlkR b T us.toArray :: Rs) Q := fun a w ha hs => h a w ha (hs.rowOf2 j hj hm hmm he)
end
end Go.Proofs.Ytdlpmcbglmgpiaa.Sl
