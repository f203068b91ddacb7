/- Bytes of a row as a string; remainders of any kind (no program in it). -/
import Derived.Test.YtdlpmcbglmgpiaaNg
import Derived.Laws.BytesString
import Derived.Laws.Cells
namespace Go.Proofs.Ytdlpmcbglmgpiaa.Sl
open Go.RowKit
set_option linter.unusedVariables false
set_option linter.unusedSimpArgs false
def toBs (xs : List Int) : List UInt8 := xs.map fun n => UInt8.ofNat n.toNat
theorem push_bytes : ∀ (xs : List Int) (l : List UInt8), xs.foldl (fun r n => r.push (UInt8.ofNat n.toNat)) (bsOf l) = bsOf (l ++ toBs xs)
  | [], l => by simp [toBs]
  | x :: xs, l => by
    rw [List.foldl_cons]
    have e : (bsOf l).push (UInt8.ofNat x.toNat) = bsOf (l ++ [UInt8.ofNat x.toNat]) := by simp [bsOf, ByteArray.push]
    rw [e, push_bytes xs]
    simp [toBs]
section
variable {P : Program} {n : Nat} {F0 : Nat → Prop} {w0 w : World} {e : Env} {Rs : List Res} {d : Option Tmp} {ty t t' el : TypeId} {pos : String} {af : Array Edge} {gd : Option (Nat × Bool)} {x y : Operand} {S : World → Prop}
theorem rd_bytes {G : Nat → Prop} {A : Option Addr} {c : Nat} {xs : List Int} (h : (sliceRd 1 u8E).P w G [.slice A xs.length c] xs) : (Conv.bytesToString (.slice A xs.length c)).run P w = .ok (.string (bsOf (toBs xs))) w := by
  rcases h with ⟨h1, rfl⟩ | ⟨a, cap, h1, h2, h3, h4, h5⟩
  · injection h1 with h1 _
    injection h1 with h1 _ _
    subst h1
    rfl
  · injection h1 with h1 _
    injection h1 with h1 _ h6
    subst h1 h6
    have hl : (loadCells a xs.length).run P w = .ok (xs.map (Value.int .u8)).toArray w := by
      have := run_loadCells_list (P := P) (w := w) a (xs.map (Value.int .u8)) (fun j v hj => ?_)
      · rwa [List.length_map] at this
      · rw [List.getElem?_map] at hj
        obtain ⟨x, hx, rfl⟩ := Option.map_eq_some_iff.1 hj
        obtain ⟨cs, g1, g2, g3⟩ := h5 j x hx
        have g3 : cs = [.int .u8 x] := g3
        subst g3
        have := g2 0 (by decide)
        simpa using this
    rw [run_bytesToString w a xs.length c xs hl]
    have := push_bytes xs []
    rw [List.nil_append] at this
    exact congrArg (fun s => Result.ok (Value.string s) w) this
theorem Ex.rowStr {T c m : Nat} {A : Option Addr} {xs : List Int} (i : Nat) (hi : Rs[i]? = some (OwnR T 1 u8E (.slice A m c) xs)) (hm : xs.length = m) (hx : e.ev x = some (.slice A m c)) (hs : ∀ w, (underlying t).run P w = .ok (.slice el) w) (hd : ∀ w, (underlying t').run P w = .ok .string w) (hel : ∀ w, (underlying el).run P w = .ok (.int .u8) w) :
    Ex P n e (St F0 w0 Rs) ⟨d, .convert t t' x, ty, pos, af, gd⟩ (.string (bsOf (toBs xs))) := by
  subst hm
  intro a w ha hw
  obtain ⟨G, h1, h2⟩ := hw.get i hi
  have h4 := rd_bytes (P := P) (own_reads (size := 1) (E := u8E) (by decide) w G h1)
  simp [execOp, ha.ev hx, convert, hs, hd, hel, h4]
/-- A literal's block of bytes, as a string. -/
theorem Ex.blkStr {b T m : Nat} {cs : Array Value} {xs : List Int} (i : Nat) (hi : Rs[i]? = some (BlkR b T cs)) (hc : cs = (xs.map (Value.int .u8)).toArray) (hm : xs.length = m) (hx : e.ev x = some (.slice (some ⟨b, 0, none⟩) m m)) (hs : ∀ w, (underlying t).run P w = .ok (.slice el) w) (hd : ∀ w, (underlying t').run P w = .ok .string w) (hel : ∀ w, (underlying el).run P w = .ok (.int .u8) w) :
    Ex P n e (St F0 w0 Rs) ⟨d, .convert t t' x, ty, pos, af, gd⟩ (.string (bsOf (toBs xs))) := by
  subst hm
  intro a w ha hw
  have hl : (loadCells ⟨b, 0, none⟩ xs.length).run P w = .ok (xs.map (Value.int .u8)).toArray w := by
    have := run_loadCells_list (P := P) (w := w) ⟨b, 0, none⟩ (xs.map (Value.int .u8)) (fun j v hj => ?_)
    · rwa [List.length_map] at this
    · have h2 : (⟨b, 0, none⟩ : Addr).add j = ⟨b, j, none⟩ := by unfold Addr.add; split <;> simp_all
      rw [h2, heap_at (hw.blk i hi), hc, List.getElem?_toArray]
      exact hj
  have h4 := run_bytesToString w ⟨b, 0, none⟩ xs.length xs.length xs hl
  have h5 := push_bytes xs []
  rw [List.nil_append] at h5
  have h6 : (Conv.bytesToString (.slice (some ⟨b, 0, none⟩) xs.length xs.length)).run P w = .ok (.string (bsOf (toBs xs))) w := by
    rw [h4]
    exact congrArg (fun s => Result.ok (Value.string s) w) h5
  simp [execOp, ha.ev hx, convert, hs, hd, hel, h6]
theorem St.tl_ {B : Res} (h : St F0 w0 (B :: Rs) w) : St F0 w0 Rs w := by
  obtain ⟨f, G, h1, h2, h3⟩ := h
  exact ⟨f, h3.mono (fun k hk => hk.1)⟩
theorem Ex.subw {k : IntKind} {p q : Int} (hx : e.ev x = some (.int k p)) (hy : e.ev y = some (.int k q)) : Ex P n e S ⟨d, .binOp .sub t x y t', ty, pos, af, gd⟩ (.int k (k.wrap (p - q))) := by
  intro a w ha _
  simp [execOp, ha.ev hx, ha.ev hy, eqGuard, binOp, Op.intArith]
theorem Ex.mulw {k : IntKind} {p q : Int} (hx : e.ev x = some (.int k p)) (hy : e.ev y = some (.int k q)) : Ex P n e S ⟨d, .binOp .mul t x y t', ty, pos, af, gd⟩ (.int k (k.wrap (p * q))) := by
  intro a w ha _
  simp [execOp, ha.ev hx, ha.ev hy, eqGuard, binOp, Op.intArith]
theorem Ex.remK {k : IntKind} {p q : Int} (hx : e.ev x = some (.int k p)) (hy : e.ev y = some (.int k q)) (hq : 1 ≤ q) (h : 0 ≤ p) : Ex P n e S ⟨d, .binOp .rem t x y t', ty, pos, af, gd⟩ (.int k (p % q)) := by
  intro a w ha _
  have h0 : ¬ q = 0 := by omega
  simp [execOp, ha.ev hx, ha.ev hy, eqGuard, binOp, Op.intDiv, h0, IntWalk.rem_in _ _ h]
theorem TD.litK {Rf : List Res} {Q : Exit → Act → World → Prop} {ops : Array Oper} {i T z d' : Nat} {vs : List Value} {m : Nat} {zs cells : Array Value} {ps : List (Nat × Operand)} {l : Sch} (ho : ops[i]? = some ⟨some d', .buildSlice t m ps.toArray, ty, pos, af, gd⟩) (hw : Wd n ops e ⟨some d', .buildSlice t m ps.toArray, ty, pos, af, gd⟩ true) (hB : SOK P t T m z zs) (hv : e.evs (ps.map (·.2)) = some vs) (hf' : Instr.fill (fun i => some (i * z, z)) zs ((ps.map (·.1)).zip vs) = some cells) (hd : Nat.blt d' n = true) (is : List Nat) (hf : ∀ b, Sel (BlkR b T cells :: Rs) is (BlkR b T cells :: Rf)) (h : ∀ b, TD P n F0 w0 ops l (BlkR b T cells :: Rf) ((d', .slice (some ⟨b, 0, none⟩) m m) :: e) (BlkR b T cells :: Rs) Q) : TD P n F0 w0 ops (.e i l) Rf e Rs Q := by
  refine TD.ef ho hw (Ef.lit hB hv hf' hd) ?_
  rintro _ _ ⟨b, rfl, rfl⟩
  exact ⟨_, fun w hw => hw.sel is (hf b), fun _ h => h.tl_, h b⟩
end
end Go.Proofs.Ytdlpmcbglmgpiaa.Sl
