/- wholeBits_holds: part 1. -/
import Derived.Lib.ConvBytes
import Derived.Test.YtpiiopppbgpbpaaK0
namespace Go.Proofs.Ytpiiopppbgpbpaa.Sl
open Go.RowKit
set_option linter.unusedVariables false
set_option linter.unusedSimpArgs false
def bsI (l : List UInt8) : List Int := l.map fun c => (c.toNat : Int)
theorem bsI_length (l : List UInt8) : (bsI l).length = l.length := by simp [bsI]
def BsR (T b c : Nat) (xs : List Int) : Res where
  P := fun w G => (∃ (cur : Array Value) (lo hi : Nat), w.heap[b]? = some (.cells cur T (lo, hi)) ∧ xs.length ≤ lo ∧ ∀ (j : Nat) (u : Int), xs[j]? = some u → cur[j]? = some (.int .u8 u)) ∧ ∀ k, G k ↔ k = b
  lt := by
    rintro w G ⟨⟨cur, lo, hi, h1, _⟩, h2⟩ k hk
    obtain rfl := (h2 k).1 hk
    exact (Array.getElem?_eq_some_iff.1 h1).1
  move := by
    rintro w w' G ⟨⟨cur, lo, hi, h1, h3⟩, h2⟩ hm
    exact ⟨⟨cur, lo, hi, by rw [hm b ((h2 b).2 rfl)]; exact h1, h3⟩, h2⟩
section
variable {P : Program} {n : Nat} {F0 : Nat → Prop} {w0 w : World} {e : Env} {Rs Rf : List Res} {Q : Exit → Act → World → Prop} {ops : Array Oper} {d : Option Tmp} {i : Nat} {ty t t' el : TypeId} {pos : String} {af : Array Edge} {gd : Option (Nat × Bool)} {v v' : Value} {x y ix : Operand} {L : List Nat} {lo : Sch} {S : World → Prop}
variable {T b c k m : Nat} {xs : List Int} {u u' : Int}
theorem bs_get (j : Nat) (h : St F0 w0 Rs w) (hj : Rs[j]? = some (BsR T b c xs)) : ∃ (cur : Array Value) (lo hi : Nat), w.heap[b]? = some (.cells cur T (lo, hi)) ∧ xs.length ≤ lo ∧ ∀ (j : Nat) (u : Int), xs[j]? = some u → cur[j]? = some (.int .u8 u) := by
  obtain ⟨G, hG, _⟩ := h.get j hj
  exact hG.1
theorem bs_cell (j : Nat) (h : St F0 w0 Rs w) (hj : Rs[j]? = some (BsR T b c xs)) (hk : xs[k]? = some u) : w.cell? ⟨b, k, none⟩ = some (.int .u8 u) ∧ w.frozen? ⟨b, k, none⟩ = false := by
  obtain ⟨cur, lo, hi, h1, h2, h3⟩ := bs_get j h hj
  have hlt := (List.getElem?_eq_some_iff.1 hk).1
  refine ⟨by simp only [World.cell?, h1]; exact h3 k u hk, ?_⟩
  simp only [World.frozen?, h1, Bool.and_eq_false_iff, decide_eq_false_iff_not]
  exact .inl (by omega)
theorem Ex.bsIx {a : Int} {q : IntKind} (hx : e.ev x = some (.slice (some ⟨b, 0, none⟩) m c)) (hi : e.ev ix = some (.int q a)) (hik : a = (k : Int)) (hu : ∀ w, (underlying t).run P w = .ok (.slice el) w) (hz : ∀ w, (sizeOf el).run P w = .ok 1 w) (hk : xs[k]? = some u) (hm : m = xs.length) :
    Ex P n e S ⟨d, .indexAddr t x ix, ty, pos, af, gd⟩ (.pointer (some ⟨b, k, none⟩)) := by
  intro A w ha hs
  have h3 := Ex.ixS (S := fun _ => True) (d := d) (ty := ty) (pos := pos) (af := af) (gd := gd) hx hi hik hu hz (by rw [hm]; exact (List.getElem?_eq_some_iff.1 hk).1) A w ha trivial
  rwa [show 0 + k * 1 = k by omega] at h3
theorem Ef.bsSt (j : Nat) (hx : e.ev x = some (.pointer (some ⟨b, k, none⟩))) (hy : e.ev y = some (.int .u8 u')) (hz : ∀ w, (sizeOf t).run P w = .ok 1 w) (hj : Rs[j]? = some (BsR T b c xs)) (hk : xs[k]? = some u) :
    Ef P n F0 w0 e Rs ⟨none, .store t x y, ty, pos, af, gd⟩ (fun e' Rs' => e' = e ∧ Rs' = Rs.set j (BsR T b c (xs.set k u'))) := by
  intro a w K Q ha hs hk'
  have hkl : k < xs.length := (List.getElem?_eq_some_iff.1 hk).1
  obtain ⟨hc, hf⟩ := bs_cell j hs hj hk
  obtain ⟨cur, lo, hi, h1, h2, h3⟩ := bs_get j hs hj
  have hadd : (⟨b, k, none⟩ : Addr).add 0 = ⟨b, k, none⟩ := by unfold Addr.add; split <;> simp_all
  have h4 : (storeCells ⟨b, k, none⟩ [Value.int .u8 u'] 0).run P w = .ok () (w.setCell ⟨b, k, none⟩ (.int .u8 u')) := by
    have h5 : (store (⟨b, k, none⟩ : Addr) (.int .u8 u') .plain).run P w = .ok () (w.setCell ⟨b, k, none⟩ (.int .u8 u')) := by
      rw [run_store P w _ _ _ rfl, hc, hf]
      rfl
    simp only [storeCells, hadd, Sem.run_bind, h5, Result.andThen_ok, Sem.run_pure]
  have hw : (w.setCell ⟨b, k, none⟩ (.int .u8 u')) = w.setRow b (cur.setIfInBounds k (.int .u8 u')) := setCell_eq_setRow w b k cur T (lo, hi) (.int .u8 u') h1
  have h6 : (execOp a.eval ⟨none, .store t x y, ty, pos, af, gd⟩).run P w = .ok .skip (w.setRow b (cur.setIfInBounds k (.int .u8 u'))) := by
    rw [← hw]
    simp [execOp, ha.ev hx, ha.ev hy, Instr.storeAt, Instr.sureAddr, storeVar, hz, Value.cells, h4]
  unfold Oper.wp
  rw [h6]
  refine hk' _ _ ⟨rfl, rfl⟩ _ _ ha.put0 (hs.step j hj (Ns := []) (fun G hG => ?_))
  refine ⟨⟨rfl, rfl, rfl, by simp [World.setRow], fun q hq hn => setRow_other w b q _ (fun e => hn (e ▸ (hG.2 b).2 rfl))⟩, G, ⟨⟨_, lo, hi, setRow_heap w b _ _ T (lo, hi) h1, by rw [List.length_set]; exact h2, fun q z hq => ?_⟩, hG.2⟩, fun k hk => .inl hk, trivial⟩
  rw [Array.getElem?_setIfInBounds]
  rw [List.getElem?_set] at hq
  have hkc : k < cur.size := by
    have := h3 k u hk
    exact (Array.getElem?_eq_some_iff.1 this).1
  by_cases e1 : k = q
  · rw [if_pos e1, if_pos hkl] at hq
    rw [if_pos e1, if_pos hkc]
    injection hq with hq
    rw [hq]
  · rw [if_neg e1] at hq
    rw [if_neg e1]
    exact h3 q z hq
theorem TL.bsSt (j : Nat) (ho : ops[i]? = some ⟨none, .store t x y, ty, pos, af, gd⟩) (hw : Wd n ops e ⟨none, .store t x y, ty, pos, af, gd⟩ true) (hx : e.ev x = some (.pointer (some ⟨b, k, none⟩))) (hy : e.ev y = some (.int .u8 u')) (hz : ∀ w, (sizeOf t).run P w = .ok 1 w) (hj : Rs[j]? = some (BsR T b c xs)) (hk : xs[k]? = some u)
    (h : TL P n F0 w0 ops L e (Rs.set j (BsR T b c (xs.set k u'))) Q) : TL P n F0 w0 ops (i :: L) e Rs Q := by
  refine TL.ef ho hw (Ef.bsSt j hx hy hz hj hk) ?_
  rintro _ _ ⟨rfl, rfl⟩
  exact h
theorem TD.bsSt (j : Nat) (ho : ops[i]? = some ⟨none, .store t x y, ty, pos, af, gd⟩) (hw : Wd n ops e ⟨none, .store t x y, ty, pos, af, gd⟩ true) (hx : e.ev x = some (.pointer (some ⟨b, k, none⟩))) (hy : e.ev y = some (.int .u8 u')) (hz : ∀ w, (sizeOf t).run P w = .ok 1 w) (hj : Rs[j]? = some (BsR T b c xs)) (hk : xs[k]? = some u)
    (is : List Nat) (hf : Sel (Rs.set j (BsR T b c (xs.set k u'))) is Rf)
    (h : TD P n F0 w0 ops lo Rf e (Rs.set j (BsR T b c (xs.set k u'))) Q) : TD P n F0 w0 ops (.e i lo) Rf e Rs Q := by
  refine TD.ef ho hw (Ef.bsSt j hx hy hz hj hk) ?_
  rintro _ _ ⟨rfl, rfl⟩
  exact ⟨Rf, fun w hw => hw.sel is hf, fun _ h => h, h⟩
theorem Ef.toBs {l : List UInt8} {el : TypeId} (hx : e.ev x = some (.string (bsOf l))) (hs : P.underlying t = some .string) (hd : P.underlying t' = some (.slice el)) (he : P.underlying el = some (.int .u8)) (hdd : okd d n = true) :
    Ef P n F0 w0 e Rs ⟨d, .convert t t' x, ty, pos, af, gd⟩ (fun e' Rs' => ∃ b c, e' = envput d (.slice (some ⟨b, 0, none⟩) (bsI l).length c) e ∧ Rs' = BsR el b c (bsI l) :: Rs) := by
  intro a w K Q ha hst hk
  have h1 := Lib.run_convert_string_bytes (P := P) w t t' el (bsOf l) hs hd he
  have h2 : (execOp a.eval ⟨d, .convert t t' x, ty, pos, af, gd⟩).run P w = .ok (.value (.slice (some ⟨w.heap.size, 0, none⟩) (bsI l).length (grownCap w (bsOf l).size 0 el))) (Lib.bytesWorld w el (bsOf l)) := by
    rw [bsI_length, ← bsOf_size l]
    simp [execOp, ha.ev hx, h1]
  unfold Oper.wp
  rw [h2]
  refine hk _ _ ⟨_, _, rfl, rfl⟩ _ _ (ha.putd hdd) ?_
  refine hst.grow (Ns := [BsR el w.heap.size (grownCap w (bsOf l).size 0 el) (bsI l)]) ⟨rfl, rfl, rfl, ?_, fun q hq _ => Lib.bytesWorld_at_old w el (bsOf l) q hq⟩ ⟨fun k => k = w.heap.size, ⟨⟨_, _, _, Lib.bytesWorld_at_new w el (bsOf l), ?_, fun j z hj => ?_⟩, fun _ => Iff.rfl⟩, fun k hk => by omega, trivial⟩
  · rw [Lib.bytesWorld_size]; omega
  · rw [bsI_length]
    simp [Lib.bytesCells, bsOf]
  · have hlt : j < l.length := by rw [← bsI_length l]; exact (List.getElem?_eq_some_iff.1 hj).1
    unfold bsI at hj
    rw [List.getElem?_map, List.getElem?_eq_getElem hlt] at hj
    injection hj with hj
    simp [Lib.bytesCells, bsOf, Array.getElem?_append, hlt, ← hj]
theorem TL.toBs {l : List UInt8} {el : TypeId} {d : Nat} (ho : ops[i]? = some ⟨some d, .convert t t' x, ty, pos, af, gd⟩) (hw : Wd n ops e ⟨some d, .convert t t' x, ty, pos, af, gd⟩ true) (hx : e.ev x = some (.string (bsOf l))) (hs : P.underlying t = some .string) (hd : P.underlying t' = some (.slice el)) (he : P.underlying el = some (.int .u8)) (hdd : Nat.blt d n = true)
    (h : ∀ b c, TL P n F0 w0 ops L ((d, .slice (some ⟨b, 0, none⟩) (bsI l).length c) :: e) (BsR el b c (bsI l) :: Rs) Q) : TL P n F0 w0 ops (i :: L) e Rs Q := by
  refine TL.ef ho hw (Ef.toBs hx hs hd he hdd) ?_
  rintro _ _ ⟨b, c, rfl, rfl⟩
  exact h b c
theorem Ex.bsStr (j : Nat) (hx : e.ev x = some (.slice (some ⟨b, 0, none⟩) m c)) (hm : m = xs.length) (hs : ∀ w, (underlying t).run P w = .ok (.slice el) w) (hd : ∀ w, (underlying t').run P w = .ok .string w) (hel : ∀ w, (underlying el).run P w = .ok (.int .u8) w) (hj : Rs[j]? = some (BsR T b c xs)) :
    Ex P n e (St F0 w0 Rs) ⟨d, .convert t t' x, ty, pos, af, gd⟩ (.string (bsOf (toBs xs))) := by
  intro a w ha hst
  obtain ⟨cur, lo, hi, h1, h2, h3⟩ := bs_get j hst hj
  have hl : (loadCells ⟨b, 0, none⟩ xs.length).run P w = .ok (xs.map (Value.int .u8)).toArray w := by
    have := run_loadCells_list (P := P) w ⟨b, 0, none⟩ (xs.map (Value.int .u8)) (fun q z hq => by
      have hadd : (⟨b, 0, none⟩ : Addr).add q = ⟨b, q, none⟩ := by unfold Addr.add; split <;> simp_all
      rw [hadd]
      rw [List.getElem?_map] at hq
      obtain ⟨u, hu, rfl⟩ := Option.map_eq_some_iff.1 hq
      exact (bs_cell j hst hj hu).1)
    rwa [List.length_map] at this
  have h4 := run_bytesToString w ⟨b, 0, none⟩ xs.length c xs hl
  have h5 := push_bytes xs []
  rw [List.nil_append] at h5
  have h6 : (Conv.bytesToString (.slice (some ⟨b, 0, none⟩) m c)).run P w = .ok (.string (bsOf (toBs xs))) w := by
    rw [hm, h4]
    exact congrArg (fun s => Result.ok (Value.string s) w) h5
  simp [execOp, ha.ev hx, convert, hs, hd, hel, h6]
end
end Go.Proofs.Ytpiiopppbgpbpaa.Sl
namespace Go.Proofs.Ytpiiopppbgpbpaa.Sl
open Go.RowKit
set_option linter.unusedVariables false
set_option linter.unusedSimpArgs false
set_option maxRecDepth 100000
def ft_prefix : FTab := [(38, 0, 0), (38, 1, 1), (38, 2, 2), (38, 3, 3), (38, 4, 4), (38, 5, 5), (38, 6, 6), (38, 7, 7), (38, 8, 8), (38, 9, 9), (38, 10, 10), (38, 11, 11), (127, 0, 0), (127, 1, 1)]
theorem ft_prefix_ok : (ft_prefix).OK Try.prog := ⟨FOK.mk Try.runUnderlying38 rfl Try.sizeOf3 rfl, FOK.mk Try.runUnderlying38 rfl Try.sizeOf3 rfl, FOK.mk Try.runUnderlying38 rfl Try.sizeOf3 rfl, FOK.mk Try.runUnderlying38 rfl Try.sizeOf3 rfl, FOK.mk Try.runUnderlying38 rfl Try.sizeOf3 rfl, FOK.mk Try.runUnderlying38 rfl Try.sizeOf3 rfl, FOK.mk Try.runUnderlying38 rfl Try.sizeOf3 rfl, FOK.mk Try.runUnderlying38 rfl Try.sizeOf3 rfl, FOK.mk Try.runUnderlying38 rfl Try.sizeOf3 rfl, FOK.mk Try.runUnderlying38 rfl Try.sizeOf3 rfl, FOK.mk Try.runUnderlying38 rfl Try.sizeOf3 rfl, FOK.mk Try.runUnderlying38 rfl Try.sizeOf3 rfl, FOK.mk Try.runUnderlying127 rfl Try.sizeOf125 rfl, FOK.mk Try.runUnderlying127 rfl Try.sizeOf3 rfl, trivial⟩
theorem mix_prefix : Try.prog.follows .mixedOrders = true := by kernel_rfl
theorem bok_prefix_38 : BOK Try.prog 38 #[.int .i64 0, .int .i64 0, .int .i64 0, .int .i64 0, .int .i64 0, .int .i64 0, .int .i64 0, .int .i64 0, .int .i64 0, .int .i64 0, .int .i64 0, .int .i64 0] [(0, 1), (1, 1), (2, 1), (3, 1), (4, 1), (5, 1), (6, 1), (7, 1), (8, 1), (9, 1), (10, 1), (11, 1)] := BOK.mk Try.zeroValue38 Try.runUnderlying38 (by intro w; simp)
theorem bok_prefix_127 : BOK Try.prog 127 #[.pointer none, .int .i64 0] [(0, 1), (1, 1)] := BOK.mk Try.zeroValue127 Try.runUnderlying127 (by intro w; simp)
theorem sok_prefix_123_13 : SOK Try.prog 123 127 13 2 #[.pointer none, .int .i64 0, .pointer none, .int .i64 0, .pointer none, .int .i64 0, .pointer none, .int .i64 0, .pointer none, .int .i64 0, .pointer none, .int .i64 0, .pointer none, .int .i64 0, .pointer none, .int .i64 0, .pointer none, .int .i64 0, .pointer none, .int .i64 0, .pointer none, .int .i64 0, .pointer none, .int .i64 0, .pointer none, .int .i64 0] := SOK.mk Try.runUnderlying123 Try.sizeOf127 Try.zeroValue127 (by decide) (by kernel_rfl)
def f_prefix_PrefixFields (p0 : Nat) (p1 : Nat) : Option (Unit) := some ()
set_option maxRecDepth 100000 in
set_option maxHeartbeats 4000000 in
theorem f_prefix_PrefixFields_spec (p0 : Nat) (p1 : Nat) (r : Unit) (h : f_prefix_PrefixFields p0 p1 = some r) : SpecX Try.prog 75 #[.pointer (some ⟨p0, 0, none⟩), .pointer (some ⟨p1, 0, none⟩)] .triv (EmpR) (fun v A' N => ∃ q : Nat, v = .slice (some ⟨q, 0, none⟩) 13 13 ∧ A' = EmpR ∧ N = [BlkR q 127 #[.pointer (some ⟨p0, 0, none⟩), .int .i64 8, .pointer (some ⟨p0, 1, none⟩), .int .i64 4, .pointer (some ⟨p0, 2, none⟩), .int .i64 4, .pointer (some ⟨p1, 0, none⟩), .int .i64 1, .pointer (some ⟨p0, 3, none⟩), .int .i64 4, .pointer (some ⟨p0, 4, none⟩), .int .i64 2, .pointer (some ⟨p0, 5, none⟩), .int .i64 4, .pointer (some ⟨p0, 6, none⟩), .int .i64 8, .pointer (some ⟨p0, 7, none⟩), .int .i64 8, .pointer (some ⟨p0, 8, none⟩), .int .i64 8, .pointer (some ⟨p0, 9, none⟩), .int .i64 2, .pointer (some ⟨p0, 10, none⟩), .int .i64 4, .pointer (some ⟨p0, 11, none⟩), .int .i64 4]]) := by
  refine enterA Try.func75 rfl Try.ntmps75 rfl ?_
  intro F w hX
  unfold f_prefix_PrefixFields at h
  refine T.seq (T.region rfl ?_)
  refine TL.run ft_prefix_ok [0] rfl rfl ?_
  refine TL.nil (X.seq (T.seq (T.draw (.q 0 (.q 1 (.q 2 (.q 3 (.q 4 (.q 5 (.q 6 (.q 7 (.q 8 (.q 9 (.q 10 (.q 11 (.q 12 (.q 13 (.q 14 (.q 15 (.q 16 (.q 17 (.q 18 (.q 19 (.q 20 (.q 21 (.q 22 (.q 23 (.q 24 (.q 25 (.q 26 (.q 27 (.q 28 (.q 29 (.q 30 (.q 31 (.q 32 (.q 33 (.q 34 (.q 35 (.q 36 (.q 37 (.q 38 (.q 39 (.q 40 (.q 41 (.q 42 (.q 43 (.q 44 (.q 45 (.q 46 (.q 47 (.q 48 (.q 49 (.e 50 (.q 51 .nil)))))))))))))))))))))))))))))))))))))))))))))))))))) [0] rfl mix_prefix (NoP.seq np_post) (by kernel_rfl) ?_)))
  refine TD.run ft_prefix_ok [0, 1, 2] rfl rfl ?_
  refine TD.q rfl .u (Ex.bld (cells := #[.pointer (some ⟨p0, 0, none⟩), .int .i64 8]) bok_prefix_127 rfl (by kernel_rfl)) rfl ?_
  refine TD.run ft_prefix_ok [4, 5, 6] rfl rfl ?_
  refine TD.q rfl .u (Ex.bld (cells := #[.pointer (some ⟨p0, 1, none⟩), .int .i64 4]) bok_prefix_127 rfl (by kernel_rfl)) rfl ?_
  refine TD.run ft_prefix_ok [8, 9, 10] rfl rfl ?_
  refine TD.q rfl .u (Ex.bld (cells := #[.pointer (some ⟨p0, 2, none⟩), .int .i64 4]) bok_prefix_127 rfl (by kernel_rfl)) rfl ?_
  refine TD.run ft_prefix_ok [12] rfl rfl ?_
  refine TD.q rfl .u (Ex.bld (cells := #[.pointer (some ⟨p1, 0, none⟩), .int .i64 1]) bok_prefix_127 rfl (by kernel_rfl)) rfl ?_
  refine TD.run ft_prefix_ok [14, 15, 16] rfl rfl ?_
  refine TD.q rfl .u (Ex.bld (cells := #[.pointer (some ⟨p0, 3, none⟩), .int .i64 4]) bok_prefix_127 rfl (by kernel_rfl)) rfl ?_
  refine TD.run ft_prefix_ok [18, 19, 20] rfl rfl ?_
  refine TD.q rfl .u (Ex.bld (cells := #[.pointer (some ⟨p0, 4, none⟩), .int .i64 2]) bok_prefix_127 rfl (by kernel_rfl)) rfl ?_
  refine TD.run ft_prefix_ok [22, 23, 24] rfl rfl ?_
  refine TD.q rfl .u (Ex.bld (cells := #[.pointer (some ⟨p0, 5, none⟩), .int .i64 4]) bok_prefix_127 rfl (by kernel_rfl)) rfl ?_
  refine TD.run ft_prefix_ok [26, 27, 28] rfl rfl ?_
  refine TD.q rfl .u (Ex.bld (cells := #[.pointer (some ⟨p0, 6, none⟩), .int .i64 8]) bok_prefix_127 rfl (by kernel_rfl)) rfl ?_
  refine TD.run ft_prefix_ok [30, 31, 32] rfl rfl ?_
  refine TD.q rfl .u (Ex.bld (cells := #[.pointer (some ⟨p0, 7, none⟩), .int .i64 8]) bok_prefix_127 rfl (by kernel_rfl)) rfl ?_
  refine TD.run ft_prefix_ok [34, 35, 36] rfl rfl ?_
  refine TD.q rfl .u (Ex.bld (cells := #[.pointer (some ⟨p0, 8, none⟩), .int .i64 8]) bok_prefix_127 rfl (by kernel_rfl)) rfl ?_
  refine TD.run ft_prefix_ok [38, 39, 40] rfl rfl ?_
  refine TD.q rfl .u (Ex.bld (cells := #[.pointer (some ⟨p0, 9, none⟩), .int .i64 2]) bok_prefix_127 rfl (by kernel_rfl)) rfl ?_
  refine TD.run ft_prefix_ok [42, 43, 44] rfl rfl ?_
  refine TD.q rfl .u (Ex.bld (cells := #[.pointer (some ⟨p0, 10, none⟩), .int .i64 4]) bok_prefix_127 rfl (by kernel_rfl)) rfl ?_
  refine TD.run ft_prefix_ok [46, 47, 48] rfl rfl ?_
  refine TD.q rfl .u (Ex.bld (cells := #[.pointer (some ⟨p0, 11, none⟩), .int .i64 4]) bok_prefix_127 rfl (by kernel_rfl)) rfl ?_
  refine TD.lit (cells := #[.pointer (some ⟨p0, 0, none⟩), .int .i64 8, .pointer (some ⟨p0, 1, none⟩), .int .i64 4, .pointer (some ⟨p0, 2, none⟩), .int .i64 4, .pointer (some ⟨p1, 0, none⟩), .int .i64 1, .pointer (some ⟨p0, 3, none⟩), .int .i64 4, .pointer (some ⟨p0, 4, none⟩), .int .i64 2, .pointer (some ⟨p0, 5, none⟩), .int .i64 4, .pointer (some ⟨p0, 6, none⟩), .int .i64 8, .pointer (some ⟨p0, 7, none⟩), .int .i64 8, .pointer (some ⟨p0, 8, none⟩), .int .i64 8, .pointer (some ⟨p0, 9, none⟩), .int .i64 2, .pointer (some ⟨p0, 10, none⟩), .int .i64 4, .pointer (some ⟨p0, 11, none⟩), .int .i64 4]) rfl .u sok_prefix_123_13 rfl (by kernel_rfl) rfl [1] (fun _ => rfl) (fun b1 => ?_)
  refine TD.run ft_prefix_ok [51] rfl rfl ?_
  obtain rfl := Option.some.inj h
  exact TD.nil (X.seq (T.ret (X.done1 [1, 0] Try.results75 (RV.tm rfl) ⟨_, rfl, rfl, rfl⟩ (by rfl) (.inl rfl))))
def f_prefix_Write (st : List UInt8 × Int) (a1 : Pfx) : Option (List UInt8 × Int) := (if a1.fSum < 0 then some true else (if a1.fSum > 4294967295 then some true else some false)).bind fun y4 => (if y4 = true then ((gOFail st 11).bind fun st14 => some st14) else some st).bind fun st11 => if -9223372036854775808 ≤ (IntKind.i32.wrap (IntKind.u32.wrap a1.fSum)) ∧ (IntKind.i32.wrap (IntKind.u32.wrap a1.fSum)) ≤ 9223372036854775807 then ((gOInt st11 a1.fBase 8).bind fun st19 => (gOInt st19 a1.fLength 4).bind fun st22 => (gOInt st22 a1.fLeader 4).bind fun st25 => (gOInt st25 2 1).bind fun st28 => (gOInt st28 (IntKind.i32.wrap (IntKind.u32.wrap a1.fSum)) 4).bind fun st31 => (gOInt st31 a1.fAttr 2).bind fun st34 => (gOInt st34 a1.fLast 4).bind fun st37 => (gOInt st37 a1.fFirst 8).bind fun st40 => (gOInt st40 a1.fMax 8).bind fun st43 => (gOInt st43 a1.fProducer 8).bind fun st46 => (gOInt st46 a1.fEpoch 2).bind fun st49 => (gOInt st49 a1.fSequence 4).bind fun st52 => (gOInt st52 a1.fCount 4).bind fun st55 => some st55) else none
set_option maxRecDepth 100000 in
set_option maxHeartbeats 4000000 in
theorem f_prefix_Write_spec (g : Nat) (st : List UInt8 × Int) (a1 : Pfx) (r : List UInt8 × Int) (h : f_prefix_Write st a1 = some r) : SpecX Try.prog 23 #[.pointer (some ⟨g, 0, none⟩), .agg #[.int .i64 a1.fBase, .int .i64 a1.fLength, .int .i64 a1.fLeader, .int .i64 a1.fSum, .int .i64 a1.fAttr, .int .i64 a1.fLast, .int .i64 a1.fFirst, .int .i64 a1.fMax, .int .i64 a1.fProducer, .int .i64 a1.fEpoch, .int .i64 a1.fSequence, .int .i64 a1.fCount]] .triv (OutR g st) (fun v A' N => v = .tuple #[] ∧ A' = OutR g r ∧ N = []) := by
  refine enterA Try.func23 rfl Try.ntmps23 rfl ?_
  intro F w hX
  unfold f_prefix_Write at h
  refine T.seq (T.region rfl ?_)
  refine TL.box rfl .u rfl rfl (fun b1 => ?_)
  refine TL.nil (X.seq (T.seq (T.region rfl ?_)))
  refine TL.alloc rfl .u Try.zeroValue3 rfl (fun b2 => ?_)
  refine TL.st0 (cs' := #[.int .i64 2]) rfl .u rfl rfl Try.sizeOf3 rfl rfl rfl rfl ?_
  refine TL.nil (X.seq (T.seq (T.seq ?_)))
  obtain ⟨y4, h, hk5⟩ := Option.bind_eq_some_iff.1 h
  refine T.jq (fun e Rs => e = [(0, .pointer (some ⟨g, 0, none⟩)), (3, .pointer (some ⟨b1, 0, none⟩)), (4, .pointer (some ⟨b2, 0, none⟩)), (14, .bool y4)] ∧ Rs = [BlkR b2 3 #[.int .i64 2], BlkR b1 38 #[.int .i64 a1.fBase, .int .i64 a1.fLength, .int .i64 a1.fLeader, .int .i64 a1.fSum, .int .i64 a1.fAttr, .int .i64 a1.fLast, .int .i64 a1.fFirst, .int .i64 a1.fMax, .int .i64 a1.fProducer, .int .i64 a1.fEpoch, .int .i64 a1.fSequence, .int .i64 a1.fCount], OutR g st]) ?_ ?_
  · clear hk5
    refine T.region rfl ?_
    refine TL.run ft_prefix_ok [0] rfl rfl ?_
    refine TL.q rfl .u (Ex.b1 1 rfl Try.isAgg3 rfl rfl) rfl ?_
    by_cases c6 : a1.fSum < 0
    · replace h := ifT c6 h
      refine TL.run ft_prefix_ok [2, 3] rfl rfl ?_
      refine TL.no rfl (.gn rfl rfl (decide_eq_true c6)) rfl ?_
      refine TL.no rfl (.gn rfl rfl (decide_eq_true c6)) rfl ?_
      refine TL.no rfl (.gn rfl rfl (decide_eq_true c6)) rfl ?_
      refine TL.q rfl .u (Ex.py rfl (decide_eq_true c6) rfl) rfl ?_
      cases h
      exact TL.nil (X.jq [0, 0, 0] ⟨rfl, rfl⟩ (by rfl) (by rfl))
    · replace h := ifF c6 h
      refine TL.run ft_prefix_ok [2, 3] rfl rfl ?_
      refine TL.q rfl (.g rfl rfl (decide_eq_false c6)) (Ex.ft ft_prefix_ok rfl) rfl ?_
      refine TL.q rfl (.g rfl rfl (decide_eq_false c6)) (Ex.b1 1 rfl Try.isAgg3 rfl rfl) rfl ?_
      refine TL.q rfl (.g rfl rfl (decide_eq_false c6)) (Ex.ft ft_prefix_ok rfl) rfl ?_
      refine TL.q rfl .u (Ex.pn rfl (decide_eq_false c6) rfl) rfl ?_
      by_cases c7 : a1.fSum > 4294967295
      · replace h := ifT c7 h
        cases h
        exact TL.nil (X.as (d := 14) (v' := .bool true) rfl (congrArg Value.bool (decide_eq_true c7)) (X.jq [0, 0, 0] ⟨rfl, rfl⟩ (by rfl) (by rfl)))
      · replace h := ifF c7 h
        cases h
        exact TL.nil (X.as (d := 14) (v' := .bool false) rfl (congrArg Value.bool (decide_eq_false c7)) (X.jq [0, 0, 0] ⟨rfl, rfl⟩ (by rfl) (by rfl)))
  · rintro _ _ ⟨rfl, rfl⟩
    clear h
    have h := hk5
    clear hk5
    try dsimp only at h
    refine X.seq ?_
    obtain ⟨st11, h, hk12⟩ := Option.bind_eq_some_iff.1 h
    refine T.jq (fun e Rs => e = [(0, .pointer (some ⟨g, 0, none⟩)), (3, .pointer (some ⟨b1, 0, none⟩)), (4, .pointer (some ⟨b2, 0, none⟩))] ∧ Rs = [BlkR b2 3 #[.int .i64 2], BlkR b1 38 #[.int .i64 a1.fBase, .int .i64 a1.fLength, .int .i64 a1.fLeader, .int .i64 a1.fSum, .int .i64 a1.fAttr, .int .i64 a1.fLast, .int .i64 a1.fFirst, .int .i64 a1.fMax, .int .i64 a1.fProducer, .int .i64 a1.fEpoch, .int .i64 a1.fSequence, .int .i64 a1.fCount], OutR g st11]) ?_ ?_
    · clear hk12
      by_cases c13 : y4 = true
      · replace h := ifT c13 h
        refine T.yes rfl c13 ?_
        refine T.region rfl ?_
        obtain ⟨st14, hx15, h⟩ := Option.bind_eq_some_iff.1 h
        refine TL.run ft_prefix_ok [0] rfl rfl ?_
        refine TL.c2 rfl .u (.fn Try.call74 rfl) (gOFail_spec g st 11 _ hx15) (fun _ hs => (Src.triv _)) rfl ?_
        cases h
        exact TL.nil (X.jq [0, 0, 0] ⟨rfl, rfl⟩ (by rfl) (by rfl))
      · replace h := ifF c13 h
        replace c13 := eq_false_of_ne_true c13
        refine T.no rfl c13 ?_
        cases h
        exact T.skip (X.jq [0, 0, 0] ⟨rfl, rfl⟩ (by rfl) (by rfl))
    · rintro _ _ ⟨rfl, rfl⟩
      clear h
      have h := hk12
      clear hk12
      try dsimp only at h
      refine X.seq (T.seq (T.region rfl ?_))
      refine TL.run ft_prefix_ok [0] rfl rfl ?_
      refine TL.q rfl .u (Ex.b1 1 rfl Try.isAgg3 rfl rfl) rfl ?_
      refine TL.q rfl .u (Ex.conv rfl Try.runUnderlying3 Try.runUnderlying87) rfl ?_
      refine TL.q rfl .u (Ex.conv rfl Try.runUnderlying87 Try.runUnderlying21) rfl ?_
      replace h := guard_some h
      obtain ⟨c16, h⟩ := h
      refine TL.q rfl .u (Ex.conv64 rfl Try.runUnderlying21 Try.runUnderlying3 c16) rfl ?_
      refine TL.run ft_prefix_ok [5] rfl rfl ?_
      refine TL.st1 (cs' := #[.int .i64 a1.fBase, .int .i64 a1.fLength, .int .i64 a1.fLeader, .int .i64 (IntKind.i32.wrap (IntKind.u32.wrap a1.fSum)), .int .i64 a1.fAttr, .int .i64 a1.fLast, .int .i64 a1.fFirst, .int .i64 a1.fMax, .int .i64 a1.fProducer, .int .i64 a1.fEpoch, .int .i64 a1.fSequence, .int .i64 a1.fCount]) rfl .u rfl rfl Try.sizeOf3 rfl rfl rfl rfl ?_
      refine TL.nil (X.seq (T.seq (T.region rfl ?_)))
      refine TL.cge rfl .u (.fn Try.call75 rfl) (f_prefix_PrefixFields_spec b1 b2 () rfl) (fun _ hs => RX.reads_triv _ _) rfl ?_
      rintro _ _ _ ⟨b17, rfl, rfl, rfl⟩
      refine TL.sel [0, 0, 0, 0] rfl ?_
      refine TL.q rfl .u (Ex.lenS rfl Try.runUnderlying123) rfl ?_
      refine TL.run ft_prefix_ok [2] rfl rfl ?_
      refine TL.nil (X.seq (T.block ?_))
      refine T.unroll0 (TW.step (T.seq (T.region rfl ?_)))
      refine TL.run ft_prefix_ok [0] rfl rfl ?_
      refine TL.nil (X.seq (T.seq ?_))
      refine T.yes rfl (decide_eq_true (show 0 < 13 by omega)) ?_
      refine T.skip (X.seq (T.seq (T.block (T.seq (T.region rfl ?_)))))
      refine TL.q rfl .u (Ex.ixL (k := 0) (r := 0) rfl rfl rfl Try.runUnderlying123 Try.sizeOf127 (by decide) rfl) rfl ?_
      refine TL.q rfl .u (Ex.bS (us := [.pointer (some ⟨b1, 0, none⟩), .int .i64 8]) 0 rfl Try.isAgg127 Try.sizeOf127 rfl rfl rfl) rfl ?_
      refine TL.alloc rfl .u Try.zeroValue127 rfl (fun b18 => ?_)
      refine TL.st0 (cs' := #[.pointer (some ⟨b1, 0, none⟩), .int .i64 8]) rfl .u rfl rfl Try.sizeOf127 rfl rfl rfl rfl ?_
      refine TL.nil (X.seq (T.draw (.q 0 (.q 1 (.q 2 (.q 3 (.q 4 (.q 5 (.q 6 (.e 7 .nil)))))))) [0, 0, 0, 0] rfl mix_prefix (NoP.blk (NoP.seq (NoP.seq (NoP.blk np_post)))) (by kernel_rfl) ?_))
      refine TD.run ft_prefix_ok [0, 1] rfl rfl ?_
      refine TD.q rfl .u (Ex.b1 0 rfl Try.isAgg125 rfl rfl) rfl ?_
      refine TD.run ft_prefix_ok [3] rfl rfl ?_
      refine TD.q rfl .u (Ex.b1 3 rfl Try.isAgg3 rfl rfl) rfl ?_
      refine TD.run ft_prefix_ok [5] rfl rfl ?_
      refine TD.q rfl .u (Ex.b1 0 rfl Try.isAgg3 rfl rfl) rfl ?_
      obtain ⟨st19, hx20, h⟩ := Option.bind_eq_some_iff.1 h
      refine TD.c4 rfl .u (.fn Try.call34 rfl) (gOInt_spec g st11 a1.fBase 8 _ hx20) (fun _ hs => (Src.triv _)) rfl [0, 0, 0, 0] (rfl) ?_
      refine TD.nil (X.blk (X.seq (T.region rfl ?_)))
      refine TL.q rfl .u (Ex.add rfl rfl (by omega)) rfl ?_
      refine TL.run ft_prefix_ok [1] rfl rfl ?_
      refine TL.nil (X.un (TW.step (T.seq (T.region rfl ?_))))
      refine TL.run ft_prefix_ok [0] rfl rfl ?_
      refine TL.nil (X.seq (T.seq ?_))
      refine T.yes rfl (decide_eq_true (show 1 < 13 by omega)) ?_
      refine T.skip (X.seq (T.seq (T.block (T.seq (T.region rfl ?_)))))
      refine TL.q rfl .u (Ex.ixL (k := 1) (r := 2) rfl rfl rfl Try.runUnderlying123 Try.sizeOf127 (by decide) rfl) rfl ?_
      refine TL.q rfl .u (Ex.bS (us := [.pointer (some ⟨b1, 1, none⟩), .int .i64 4]) 1 rfl Try.isAgg127 Try.sizeOf127 rfl rfl rfl) rfl ?_
      refine TL.alloc rfl .u Try.zeroValue127 rfl (fun b21 => ?_)
      refine TL.st0 (cs' := #[.pointer (some ⟨b1, 1, none⟩), .int .i64 4]) rfl .u rfl rfl Try.sizeOf127 rfl rfl rfl rfl ?_
      refine TL.nil (X.seq (T.draw (.q 0 (.q 1 (.q 2 (.q 3 (.q 4 (.q 5 (.q 6 (.e 7 .nil)))))))) [0, 0, 0, 0, 0] rfl mix_prefix (NoP.blk (NoP.seq (NoP.seq (NoP.blk np_post)))) (by kernel_rfl) ?_))
      refine TD.run ft_prefix_ok [0, 1] rfl rfl ?_
      refine TD.q rfl .u (Ex.b1 0 rfl Try.isAgg125 rfl rfl) rfl ?_
      refine TD.run ft_prefix_ok [3] rfl rfl ?_
      refine TD.q rfl .u (Ex.b1 4 rfl Try.isAgg3 rfl rfl) rfl ?_
      refine TD.run ft_prefix_ok [5] rfl rfl ?_
      refine TD.q rfl .u (Ex.b1 0 rfl Try.isAgg3 rfl rfl) rfl ?_
      obtain ⟨st22, hx23, h⟩ := Option.bind_eq_some_iff.1 h
      refine TD.c5 rfl .u (.fn Try.call34 rfl) (gOInt_spec g st19 a1.fLength 4 _ hx23) (fun _ hs => (Src.triv _)) rfl [0, 0, 0, 0, 0] (rfl) ?_
      refine TD.nil (X.blk (X.seq (T.region rfl ?_)))
      refine TL.q rfl .u (Ex.add rfl rfl (by omega)) rfl ?_
      refine TL.run ft_prefix_ok [1] rfl rfl ?_
      refine TL.nil ?_
      refine X.sel [0, 1, 1, 1, 1] rfl ?_
      refine X.un (TW.step (T.seq (T.region rfl ?_)))
      refine TL.run ft_prefix_ok [0] rfl rfl ?_
      refine TL.nil (X.seq (T.seq ?_))
      refine T.yes rfl (decide_eq_true (show 2 < 13 by omega)) ?_
      refine T.skip (X.seq (T.seq (T.block (T.seq (T.region rfl ?_)))))
      refine TL.q rfl .u (Ex.ixL (k := 2) (r := 4) rfl rfl rfl Try.runUnderlying123 Try.sizeOf127 (by decide) rfl) rfl ?_
      refine TL.q rfl .u (Ex.bS (us := [.pointer (some ⟨b1, 2, none⟩), .int .i64 4]) 1 rfl Try.isAgg127 Try.sizeOf127 rfl rfl rfl) rfl ?_
      refine TL.alloc rfl .u Try.zeroValue127 rfl (fun b24 => ?_)
      refine TL.st0 (cs' := #[.pointer (some ⟨b1, 2, none⟩), .int .i64 4]) rfl .u rfl rfl Try.sizeOf127 rfl rfl rfl rfl ?_
      refine TL.nil (X.seq (T.draw (.q 0 (.q 1 (.q 2 (.q 3 (.q 4 (.q 5 (.q 6 (.e 7 .nil)))))))) [0, 0, 0, 0, 0] rfl mix_prefix (NoP.blk (NoP.seq (NoP.seq (NoP.blk np_post)))) (by kernel_rfl) ?_))
      refine TD.run ft_prefix_ok [0, 1] rfl rfl ?_
      refine TD.q rfl .u (Ex.b1 0 rfl Try.isAgg125 rfl rfl) rfl ?_
      refine TD.run ft_prefix_ok [3] rfl rfl ?_
      refine TD.q rfl .u (Ex.b1 4 rfl Try.isAgg3 rfl rfl) rfl ?_
      refine TD.run ft_prefix_ok [5] rfl rfl ?_
      refine TD.q rfl .u (Ex.b1 0 rfl Try.isAgg3 rfl rfl) rfl ?_
      obtain ⟨st25, hx26, h⟩ := Option.bind_eq_some_iff.1 h
      refine TD.c5 rfl .u (.fn Try.call34 rfl) (gOInt_spec g st22 a1.fLeader 4 _ hx26) (fun _ hs => (Src.triv _)) rfl [0, 0, 0, 0, 0] (rfl) ?_
      refine TD.nil (X.blk (X.seq (T.region rfl ?_)))
      refine TL.q rfl .u (Ex.add rfl rfl (by omega)) rfl ?_
      refine TL.run ft_prefix_ok [1] rfl rfl ?_
      refine TL.nil ?_
      refine X.sel [0, 1, 1, 1, 1] rfl ?_
      refine X.un (TW.step (T.seq (T.region rfl ?_)))
      refine TL.run ft_prefix_ok [0] rfl rfl ?_
      refine TL.nil (X.seq (T.seq ?_))
      refine T.yes rfl (decide_eq_true (show 3 < 13 by omega)) ?_
      refine T.skip (X.seq (T.seq (T.block (T.seq (T.region rfl ?_)))))
      refine TL.q rfl .u (Ex.ixL (k := 3) (r := 6) rfl rfl rfl Try.runUnderlying123 Try.sizeOf127 (by decide) rfl) rfl ?_
      refine TL.q rfl .u (Ex.bS (us := [.pointer (some ⟨b2, 0, none⟩), .int .i64 1]) 1 rfl Try.isAgg127 Try.sizeOf127 rfl rfl rfl) rfl ?_
      refine TL.alloc rfl .u Try.zeroValue127 rfl (fun b27 => ?_)
      refine TL.st0 (cs' := #[.pointer (some ⟨b2, 0, none⟩), .int .i64 1]) rfl .u rfl rfl Try.sizeOf127 rfl rfl rfl rfl ?_
      refine TL.nil (X.seq (T.draw (.q 0 (.q 1 (.q 2 (.q 3 (.q 4 (.q 5 (.q 6 (.e 7 .nil)))))))) [0, 0, 0, 0, 0] rfl mix_prefix (NoP.blk (NoP.seq (NoP.seq (NoP.blk np_post)))) (by kernel_rfl) ?_))
      refine TD.run ft_prefix_ok [0, 1] rfl rfl ?_
      refine TD.q rfl .u (Ex.b1 0 rfl Try.isAgg125 rfl rfl) rfl ?_
      refine TD.run ft_prefix_ok [3] rfl rfl ?_
      refine TD.q rfl .u (Ex.b1 3 rfl Try.isAgg3 rfl rfl) rfl ?_
      refine TD.run ft_prefix_ok [5] rfl rfl ?_
      refine TD.q rfl .u (Ex.b1 0 rfl Try.isAgg3 rfl rfl) rfl ?_
      obtain ⟨st28, hx29, h⟩ := Option.bind_eq_some_iff.1 h
      refine TD.c5 rfl .u (.fn Try.call34 rfl) (gOInt_spec g st25 2 1 _ hx29) (fun _ hs => (Src.triv _)) rfl [0, 0, 0, 0, 0] (rfl) ?_
      refine TD.nil (X.blk (X.seq (T.region rfl ?_)))
      refine TL.q rfl .u (Ex.add rfl rfl (by omega)) rfl ?_
      refine TL.run ft_prefix_ok [1] rfl rfl ?_
      refine TL.nil ?_
      refine X.sel [0, 1, 1, 1, 1] rfl ?_
      refine X.un (TW.step (T.seq (T.region rfl ?_)))
      refine TL.run ft_prefix_ok [0] rfl rfl ?_
      refine TL.nil (X.seq (T.seq ?_))
      refine T.yes rfl (decide_eq_true (show 4 < 13 by omega)) ?_
      refine T.skip (X.seq (T.seq (T.block (T.seq (T.region rfl ?_)))))
      refine TL.q rfl .u (Ex.ixL (k := 4) (r := 8) rfl rfl rfl Try.runUnderlying123 Try.sizeOf127 (by decide) rfl) rfl ?_
      refine TL.q rfl .u (Ex.bS (us := [.pointer (some ⟨b1, 3, none⟩), .int .i64 4]) 1 rfl Try.isAgg127 Try.sizeOf127 rfl rfl rfl) rfl ?_
      refine TL.alloc rfl .u Try.zeroValue127 rfl (fun b30 => ?_)
      refine TL.st0 (cs' := #[.pointer (some ⟨b1, 3, none⟩), .int .i64 4]) rfl .u rfl rfl Try.sizeOf127 rfl rfl rfl rfl ?_
      refine TL.nil (X.seq (T.draw (.q 0 (.q 1 (.q 2 (.q 3 (.q 4 (.q 5 (.q 6 (.e 7 .nil)))))))) [0, 0, 0, 0, 0] rfl mix_prefix (NoP.blk (NoP.seq (NoP.seq (NoP.blk np_post)))) (by kernel_rfl) ?_))
      refine TD.run ft_prefix_ok [0, 1] rfl rfl ?_
      refine TD.q rfl .u (Ex.b1 0 rfl Try.isAgg125 rfl rfl) rfl ?_
      refine TD.run ft_prefix_ok [3] rfl rfl ?_
      refine TD.q rfl .u (Ex.b1 4 rfl Try.isAgg3 rfl rfl) rfl ?_
      refine TD.run ft_prefix_ok [5] rfl rfl ?_
      refine TD.q rfl .u (Ex.b1 0 rfl Try.isAgg3 rfl rfl) rfl ?_
      obtain ⟨st31, hx32, h⟩ := Option.bind_eq_some_iff.1 h
      refine TD.c5 rfl .u (.fn Try.call34 rfl) (gOInt_spec g st28 (IntKind.i32.wrap (IntKind.u32.wrap a1.fSum)) 4 _ hx32) (fun _ hs => (Src.triv _)) rfl [0, 0, 0, 0, 0] (rfl) ?_
      refine TD.nil (X.blk (X.seq (T.region rfl ?_)))
      refine TL.q rfl .u (Ex.add rfl rfl (by omega)) rfl ?_
      refine TL.run ft_prefix_ok [1] rfl rfl ?_
      refine TL.nil ?_
      refine X.sel [0, 1, 1, 1, 1] rfl ?_
      refine X.un (TW.step (T.seq (T.region rfl ?_)))
      refine TL.run ft_prefix_ok [0] rfl rfl ?_
      refine TL.nil (X.seq (T.seq ?_))
      refine T.yes rfl (decide_eq_true (show 5 < 13 by omega)) ?_
      refine T.skip (X.seq (T.seq (T.block (T.seq (T.region rfl ?_)))))
      refine TL.q rfl .u (Ex.ixL (k := 5) (r := 10) rfl rfl rfl Try.runUnderlying123 Try.sizeOf127 (by decide) rfl) rfl ?_
      refine TL.q rfl .u (Ex.bS (us := [.pointer (some ⟨b1, 4, none⟩), .int .i64 2]) 1 rfl Try.isAgg127 Try.sizeOf127 rfl rfl rfl) rfl ?_
      refine TL.alloc rfl .u Try.zeroValue127 rfl (fun b33 => ?_)
      refine TL.st0 (cs' := #[.pointer (some ⟨b1, 4, none⟩), .int .i64 2]) rfl .u rfl rfl Try.sizeOf127 rfl rfl rfl rfl ?_
      refine TL.nil (X.seq (T.draw (.q 0 (.q 1 (.q 2 (.q 3 (.q 4 (.q 5 (.q 6 (.e 7 .nil)))))))) [0, 0, 0, 0, 0] rfl mix_prefix (NoP.blk (NoP.seq (NoP.seq (NoP.blk np_post)))) (by kernel_rfl) ?_))
      refine TD.run ft_prefix_ok [0, 1] rfl rfl ?_
      refine TD.q rfl .u (Ex.b1 0 rfl Try.isAgg125 rfl rfl) rfl ?_
      refine TD.run ft_prefix_ok [3] rfl rfl ?_
      refine TD.q rfl .u (Ex.b1 4 rfl Try.isAgg3 rfl rfl) rfl ?_
      refine TD.run ft_prefix_ok [5] rfl rfl ?_
      refine TD.q rfl .u (Ex.b1 0 rfl Try.isAgg3 rfl rfl) rfl ?_
      obtain ⟨st34, hx35, h⟩ := Option.bind_eq_some_iff.1 h
      refine TD.c5 rfl .u (.fn Try.call34 rfl) (gOInt_spec g st31 a1.fAttr 2 _ hx35) (fun _ hs => (Src.triv _)) rfl [0, 0, 0, 0, 0] (rfl) ?_
      refine TD.nil (X.blk (X.seq (T.region rfl ?_)))
      refine TL.q rfl .u (Ex.add rfl rfl (by omega)) rfl ?_
      refine TL.run ft_prefix_ok [1] rfl rfl ?_
      refine TL.nil ?_
      refine X.sel [0, 1, 1, 1, 1] rfl ?_
      refine X.un (TW.step (T.seq (T.region rfl ?_)))
      refine TL.run ft_prefix_ok [0] rfl rfl ?_
      refine TL.nil (X.seq (T.seq ?_))
      refine T.yes rfl (decide_eq_true (show 6 < 13 by omega)) ?_
      refine T.skip (X.seq (T.seq (T.block (T.seq (T.region rfl ?_)))))
      refine TL.q rfl .u (Ex.ixL (k := 6) (r := 12) rfl rfl rfl Try.runUnderlying123 Try.sizeOf127 (by decide) rfl) rfl ?_
      refine TL.q rfl .u (Ex.bS (us := [.pointer (some ⟨b1, 5, none⟩), .int .i64 4]) 1 rfl Try.isAgg127 Try.sizeOf127 rfl rfl rfl) rfl ?_
      refine TL.alloc rfl .u Try.zeroValue127 rfl (fun b36 => ?_)
      refine TL.st0 (cs' := #[.pointer (some ⟨b1, 5, none⟩), .int .i64 4]) rfl .u rfl rfl Try.sizeOf127 rfl rfl rfl rfl ?_
      refine TL.nil (X.seq (T.draw (.q 0 (.q 1 (.q 2 (.q 3 (.q 4 (.q 5 (.q 6 (.e 7 .nil)))))))) [0, 0, 0, 0, 0] rfl mix_prefix (NoP.blk (NoP.seq (NoP.seq (NoP.blk np_post)))) (by kernel_rfl) ?_))
      refine TD.run ft_prefix_ok [0, 1] rfl rfl ?_
      refine TD.q rfl .u (Ex.b1 0 rfl Try.isAgg125 rfl rfl) rfl ?_
      refine TD.run ft_prefix_ok [3] rfl rfl ?_
      refine TD.q rfl .u (Ex.b1 4 rfl Try.isAgg3 rfl rfl) rfl ?_
      refine TD.run ft_prefix_ok [5] rfl rfl ?_
      refine TD.q rfl .u (Ex.b1 0 rfl Try.isAgg3 rfl rfl) rfl ?_
      obtain ⟨st37, hx38, h⟩ := Option.bind_eq_some_iff.1 h
      refine TD.c5 rfl .u (.fn Try.call34 rfl) (gOInt_spec g st34 a1.fLast 4 _ hx38) (fun _ hs => (Src.triv _)) rfl [0, 0, 0, 0, 0] (rfl) ?_
      refine TD.nil (X.blk (X.seq (T.region rfl ?_)))
      refine TL.q rfl .u (Ex.add rfl rfl (by omega)) rfl ?_
      refine TL.run ft_prefix_ok [1] rfl rfl ?_
      refine TL.nil ?_
      refine X.sel [0, 1, 1, 1, 1] rfl ?_
      refine X.un (TW.step (T.seq (T.region rfl ?_)))
      refine TL.run ft_prefix_ok [0] rfl rfl ?_
      refine TL.nil (X.seq (T.seq ?_))
      refine T.yes rfl (decide_eq_true (show 7 < 13 by omega)) ?_
      refine T.skip (X.seq (T.seq (T.block (T.seq (T.region rfl ?_)))))
      refine TL.q rfl .u (Ex.ixL (k := 7) (r := 14) rfl rfl rfl Try.runUnderlying123 Try.sizeOf127 (by decide) rfl) rfl ?_
      refine TL.q rfl .u (Ex.bS (us := [.pointer (some ⟨b1, 6, none⟩), .int .i64 8]) 1 rfl Try.isAgg127 Try.sizeOf127 rfl rfl rfl) rfl ?_
      refine TL.alloc rfl .u Try.zeroValue127 rfl (fun b39 => ?_)
      refine TL.st0 (cs' := #[.pointer (some ⟨b1, 6, none⟩), .int .i64 8]) rfl .u rfl rfl Try.sizeOf127 rfl rfl rfl rfl ?_
      refine TL.nil (X.seq (T.draw (.q 0 (.q 1 (.q 2 (.q 3 (.q 4 (.q 5 (.q 6 (.e 7 .nil)))))))) [0, 0, 0, 0, 0] rfl mix_prefix (NoP.blk (NoP.seq (NoP.seq (NoP.blk np_post)))) (by kernel_rfl) ?_))
      refine TD.run ft_prefix_ok [0, 1] rfl rfl ?_
      refine TD.q rfl .u (Ex.b1 0 rfl Try.isAgg125 rfl rfl) rfl ?_
      refine TD.run ft_prefix_ok [3] rfl rfl ?_
      refine TD.q rfl .u (Ex.b1 4 rfl Try.isAgg3 rfl rfl) rfl ?_
      refine TD.run ft_prefix_ok [5] rfl rfl ?_
      refine TD.q rfl .u (Ex.b1 0 rfl Try.isAgg3 rfl rfl) rfl ?_
      obtain ⟨st40, hx41, h⟩ := Option.bind_eq_some_iff.1 h
      refine TD.c5 rfl .u (.fn Try.call34 rfl) (gOInt_spec g st37 a1.fFirst 8 _ hx41) (fun _ hs => (Src.triv _)) rfl [0, 0, 0, 0, 0] (rfl) ?_
      refine TD.nil (X.blk (X.seq (T.region rfl ?_)))
      refine TL.q rfl .u (Ex.add rfl rfl (by omega)) rfl ?_
      refine TL.run ft_prefix_ok [1] rfl rfl ?_
      refine TL.nil ?_
      refine X.sel [0, 1, 1, 1, 1] rfl ?_
      refine X.un (TW.step (T.seq (T.region rfl ?_)))
      refine TL.run ft_prefix_ok [0] rfl rfl ?_
      refine TL.nil (X.seq (T.seq ?_))
      refine T.yes rfl (decide_eq_true (show 8 < 13 by omega)) ?_
      refine T.skip (X.seq (T.seq (T.block (T.seq (T.region rfl ?_)))))
      refine TL.q rfl .u (Ex.ixL (k := 8) (r := 16) rfl rfl rfl Try.runUnderlying123 Try.sizeOf127 (by decide) rfl) rfl ?_
      refine TL.q rfl .u (Ex.bS (us := [.pointer (some ⟨b1, 7, none⟩), .int .i64 8]) 1 rfl Try.isAgg127 Try.sizeOf127 rfl rfl rfl) rfl ?_
      refine TL.alloc rfl .u Try.zeroValue127 rfl (fun b42 => ?_)
      refine TL.st0 (cs' := #[.pointer (some ⟨b1, 7, none⟩), .int .i64 8]) rfl .u rfl rfl Try.sizeOf127 rfl rfl rfl rfl ?_
      refine TL.nil (X.seq (T.draw (.q 0 (.q 1 (.q 2 (.q 3 (.q 4 (.q 5 (.q 6 (.e 7 .nil)))))))) [0, 0, 0, 0, 0] rfl mix_prefix (NoP.blk (NoP.seq (NoP.seq (NoP.blk np_post)))) (by kernel_rfl) ?_))
      refine TD.run ft_prefix_ok [0, 1] rfl rfl ?_
      refine TD.q rfl .u (Ex.b1 0 rfl Try.isAgg125 rfl rfl) rfl ?_
      refine TD.run ft_prefix_ok [3] rfl rfl ?_
      refine TD.q rfl .u (Ex.b1 4 rfl Try.isAgg3 rfl rfl) rfl ?_
      refine TD.run ft_prefix_ok [5] rfl rfl ?_
      refine TD.q rfl .u (Ex.b1 0 rfl Try.isAgg3 rfl rfl) rfl ?_
      obtain ⟨st43, hx44, h⟩ := Option.bind_eq_some_iff.1 h
      refine TD.c5 rfl .u (.fn Try.call34 rfl) (gOInt_spec g st40 a1.fMax 8 _ hx44) (fun _ hs => (Src.triv _)) rfl [0, 0, 0, 0, 0] (rfl) ?_
      refine TD.nil (X.blk (X.seq (T.region rfl ?_)))
      refine TL.q rfl .u (Ex.add rfl rfl (by omega)) rfl ?_
      refine TL.run ft_prefix_ok [1] rfl rfl ?_
      refine TL.nil ?_
      refine X.sel [0, 1, 1, 1, 1] rfl ?_
      refine X.un (TW.step (T.seq (T.region rfl ?_)))
      refine TL.run ft_prefix_ok [0] rfl rfl ?_
      refine TL.nil (X.seq (T.seq ?_))
      refine T.yes rfl (decide_eq_true (show 9 < 13 by omega)) ?_
      refine T.skip (X.seq (T.seq (T.block (T.seq (T.region rfl ?_)))))
      refine TL.q rfl .u (Ex.ixL (k := 9) (r := 18) rfl rfl rfl Try.runUnderlying123 Try.sizeOf127 (by decide) rfl) rfl ?_
      refine TL.q rfl .u (Ex.bS (us := [.pointer (some ⟨b1, 8, none⟩), .int .i64 8]) 1 rfl Try.isAgg127 Try.sizeOf127 rfl rfl rfl) rfl ?_
      refine TL.alloc rfl .u Try.zeroValue127 rfl (fun b45 => ?_)
      refine TL.st0 (cs' := #[.pointer (some ⟨b1, 8, none⟩), .int .i64 8]) rfl .u rfl rfl Try.sizeOf127 rfl rfl rfl rfl ?_
      refine TL.nil (X.seq (T.draw (.q 0 (.q 1 (.q 2 (.q 3 (.q 4 (.q 5 (.q 6 (.e 7 .nil)))))))) [0, 0, 0, 0, 0] rfl mix_prefix (NoP.blk (NoP.seq (NoP.seq (NoP.blk np_post)))) (by kernel_rfl) ?_))
      refine TD.run ft_prefix_ok [0, 1] rfl rfl ?_
      refine TD.q rfl .u (Ex.b1 0 rfl Try.isAgg125 rfl rfl) rfl ?_
      refine TD.run ft_prefix_ok [3] rfl rfl ?_
      refine TD.q rfl .u (Ex.b1 4 rfl Try.isAgg3 rfl rfl) rfl ?_
      refine TD.run ft_prefix_ok [5] rfl rfl ?_
      refine TD.q rfl .u (Ex.b1 0 rfl Try.isAgg3 rfl rfl) rfl ?_
      obtain ⟨st46, hx47, h⟩ := Option.bind_eq_some_iff.1 h
      refine TD.c5 rfl .u (.fn Try.call34 rfl) (gOInt_spec g st43 a1.fProducer 8 _ hx47) (fun _ hs => (Src.triv _)) rfl [0, 0, 0, 0, 0] (rfl) ?_
      refine TD.nil (X.blk (X.seq (T.region rfl ?_)))
      refine TL.q rfl .u (Ex.add rfl rfl (by omega)) rfl ?_
      refine TL.run ft_prefix_ok [1] rfl rfl ?_
      refine TL.nil ?_
      refine X.sel [0, 1, 1, 1, 1] rfl ?_
      refine X.un (TW.step (T.seq (T.region rfl ?_)))
      refine TL.run ft_prefix_ok [0] rfl rfl ?_
      refine TL.nil (X.seq (T.seq ?_))
      refine T.yes rfl (decide_eq_true (show 10 < 13 by omega)) ?_
      refine T.skip (X.seq (T.seq (T.block (T.seq (T.region rfl ?_)))))
      refine TL.q rfl .u (Ex.ixL (k := 10) (r := 20) rfl rfl rfl Try.runUnderlying123 Try.sizeOf127 (by decide) rfl) rfl ?_
      refine TL.q rfl .u (Ex.bS (us := [.pointer (some ⟨b1, 9, none⟩), .int .i64 2]) 1 rfl Try.isAgg127 Try.sizeOf127 rfl rfl rfl) rfl ?_
      refine TL.alloc rfl .u Try.zeroValue127 rfl (fun b48 => ?_)
      refine TL.st0 (cs' := #[.pointer (some ⟨b1, 9, none⟩), .int .i64 2]) rfl .u rfl rfl Try.sizeOf127 rfl rfl rfl rfl ?_
      refine TL.nil (X.seq (T.draw (.q 0 (.q 1 (.q 2 (.q 3 (.q 4 (.q 5 (.q 6 (.e 7 .nil)))))))) [0, 0, 0, 0, 0] rfl mix_prefix (NoP.blk (NoP.seq (NoP.seq (NoP.blk np_post)))) (by kernel_rfl) ?_))
      refine TD.run ft_prefix_ok [0, 1] rfl rfl ?_
      refine TD.q rfl .u (Ex.b1 0 rfl Try.isAgg125 rfl rfl) rfl ?_
      refine TD.run ft_prefix_ok [3] rfl rfl ?_
      refine TD.q rfl .u (Ex.b1 4 rfl Try.isAgg3 rfl rfl) rfl ?_
      refine TD.run ft_prefix_ok [5] rfl rfl ?_
      refine TD.q rfl .u (Ex.b1 0 rfl Try.isAgg3 rfl rfl) rfl ?_
      obtain ⟨st49, hx50, h⟩ := Option.bind_eq_some_iff.1 h
      refine TD.c5 rfl .u (.fn Try.call34 rfl) (gOInt_spec g st46 a1.fEpoch 2 _ hx50) (fun _ hs => (Src.triv _)) rfl [0, 0, 0, 0, 0] (rfl) ?_
      refine TD.nil (X.blk (X.seq (T.region rfl ?_)))
      refine TL.q rfl .u (Ex.add rfl rfl (by omega)) rfl ?_
      refine TL.run ft_prefix_ok [1] rfl rfl ?_
      refine TL.nil ?_
      refine X.sel [0, 1, 1, 1, 1] rfl ?_
      refine X.un (TW.step (T.seq (T.region rfl ?_)))
      refine TL.run ft_prefix_ok [0] rfl rfl ?_
      refine TL.nil (X.seq (T.seq ?_))
      refine T.yes rfl (decide_eq_true (show 11 < 13 by omega)) ?_
      refine T.skip (X.seq (T.seq (T.block (T.seq (T.region rfl ?_)))))
      refine TL.q rfl .u (Ex.ixL (k := 11) (r := 22) rfl rfl rfl Try.runUnderlying123 Try.sizeOf127 (by decide) rfl) rfl ?_
      refine TL.q rfl .u (Ex.bS (us := [.pointer (some ⟨b1, 10, none⟩), .int .i64 4]) 1 rfl Try.isAgg127 Try.sizeOf127 rfl rfl rfl) rfl ?_
      refine TL.alloc rfl .u Try.zeroValue127 rfl (fun b51 => ?_)
      refine TL.st0 (cs' := #[.pointer (some ⟨b1, 10, none⟩), .int .i64 4]) rfl .u rfl rfl Try.sizeOf127 rfl rfl rfl rfl ?_
      refine TL.nil (X.seq (T.draw (.q 0 (.q 1 (.q 2 (.q 3 (.q 4 (.q 5 (.q 6 (.e 7 .nil)))))))) [0, 0, 0, 0, 0] rfl mix_prefix (NoP.blk (NoP.seq (NoP.seq (NoP.blk np_post)))) (by kernel_rfl) ?_))
      refine TD.run ft_prefix_ok [0, 1] rfl rfl ?_
      refine TD.q rfl .u (Ex.b1 0 rfl Try.isAgg125 rfl rfl) rfl ?_
      refine TD.run ft_prefix_ok [3] rfl rfl ?_
      refine TD.q rfl .u (Ex.b1 4 rfl Try.isAgg3 rfl rfl) rfl ?_
      refine TD.run ft_prefix_ok [5] rfl rfl ?_
      refine TD.q rfl .u (Ex.b1 0 rfl Try.isAgg3 rfl rfl) rfl ?_
      obtain ⟨st52, hx53, h⟩ := Option.bind_eq_some_iff.1 h
      refine TD.c5 rfl .u (.fn Try.call34 rfl) (gOInt_spec g st49 a1.fSequence 4 _ hx53) (fun _ hs => (Src.triv _)) rfl [0, 0, 0, 0, 0] (rfl) ?_
      refine TD.nil (X.blk (X.seq (T.region rfl ?_)))
      refine TL.q rfl .u (Ex.add rfl rfl (by omega)) rfl ?_
      refine TL.run ft_prefix_ok [1] rfl rfl ?_
      refine TL.nil ?_
      refine X.sel [0, 1, 1, 1, 1] rfl ?_
      refine X.un (TW.step (T.seq (T.region rfl ?_)))
      refine TL.run ft_prefix_ok [0] rfl rfl ?_
      refine TL.nil (X.seq (T.seq ?_))
      refine T.yes rfl (decide_eq_true (show 12 < 13 by omega)) ?_
      refine T.skip (X.seq (T.seq (T.block (T.seq (T.region rfl ?_)))))
      refine TL.q rfl .u (Ex.ixL (k := 12) (r := 24) rfl rfl rfl Try.runUnderlying123 Try.sizeOf127 (by decide) rfl) rfl ?_
      refine TL.q rfl .u (Ex.bS (us := [.pointer (some ⟨b1, 11, none⟩), .int .i64 4]) 1 rfl Try.isAgg127 Try.sizeOf127 rfl rfl rfl) rfl ?_
      refine TL.alloc rfl .u Try.zeroValue127 rfl (fun b54 => ?_)
      refine TL.st0 (cs' := #[.pointer (some ⟨b1, 11, none⟩), .int .i64 4]) rfl .u rfl rfl Try.sizeOf127 rfl rfl rfl rfl ?_
      refine TL.nil (X.seq (T.draw (.q 0 (.q 1 (.q 2 (.q 3 (.q 4 (.q 5 (.q 6 (.e 7 .nil)))))))) [0, 0, 0, 0, 0] rfl mix_prefix (NoP.blk (NoP.seq (NoP.seq (NoP.blk np_post)))) (by kernel_rfl) ?_))
      refine TD.run ft_prefix_ok [0, 1] rfl rfl ?_
      refine TD.q rfl .u (Ex.b1 0 rfl Try.isAgg125 rfl rfl) rfl ?_
      refine TD.run ft_prefix_ok [3] rfl rfl ?_
      refine TD.q rfl .u (Ex.b1 4 rfl Try.isAgg3 rfl rfl) rfl ?_
      refine TD.run ft_prefix_ok [5] rfl rfl ?_
      refine TD.q rfl .u (Ex.b1 0 rfl Try.isAgg3 rfl rfl) rfl ?_
      obtain ⟨st55, hx56, h⟩ := Option.bind_eq_some_iff.1 h
      refine TD.c5 rfl .u (.fn Try.call34 rfl) (gOInt_spec g st52 a1.fCount 4 _ hx56) (fun _ hs => (Src.triv _)) rfl [0, 0, 0, 0, 0] (rfl) ?_
      refine TD.nil (X.blk (X.seq (T.region rfl ?_)))
      refine TL.q rfl .u (Ex.add rfl rfl (by omega)) rfl ?_
      refine TL.run ft_prefix_ok [1] rfl rfl ?_
      refine TL.nil ?_
      refine X.sel [0, 1, 1, 1, 1] rfl ?_
      refine X.un (TW.step (T.seq (T.region rfl ?_)))
      refine TL.run ft_prefix_ok [0] rfl rfl ?_
      refine TL.nil (X.seq (T.seq ?_))
      refine T.no rfl (decide_eq_false (show ¬ (13 < 13) by omega)) ?_
      obtain rfl := Option.some.inj h
      exact T.exit (X.exs (X.exs (X.ex (X.done0 [4] Try.results23 ⟨rfl, rfl, rfl⟩ (by rfl) (.inr rfl)))))
def f_prefix_Read (st : I)  : Option (Pfx × I) := (gInt st 8).bind fun (x6, st7) => (gInt st7 4).bind fun (x10, st11) => (gInt st11 4).bind fun (x14, st15) => (gInt st15 1).bind fun (x18, st19) => (gInt st19 4).bind fun (x22, st23) => (gInt st23 2).bind fun (x26, st27) => (gInt st27 4).bind fun (x30, st31) => (gInt st31 8).bind fun (x34, st35) => (gInt st35 8).bind fun (x38, st39) => (gInt st39 8).bind fun (x42, st43) => (gInt st43 2).bind fun (x46, st47) => (gInt st47 4).bind fun (x50, st51) => (gInt st51 4).bind fun (x54, st55) => (gErr st55).bind fun (x57, st58) => (if x57 = 0 then ((if x18 = 2 then ((if x10 < 49 then ((gIFail st58 4).bind fun st164 => some st164) else ((if x54 < 0 then ((gIFail st58 10).bind fun st172 => some st172) else some st58).bind fun st169 => some st169)).bind fun st161 => some st161) else ((gIFail st58 6).bind fun st174 => some st174)).bind fun st147 => some st147) else some st58).bind fun st117 => (gErr st117).bind fun (x176, st177) => if x176 = 0 then (some ((⟨x6, x10, x14, (Go.bits .and .i64 x22 4294967295), x26, x30, x34, x38, x42, x46, x50, x54⟩ : Pfx), st177)) else (some ((⟨0, 0, 0, 0, 0, 0, 0, 0, 0, 0, 0, 0⟩ : Pfx), st177))
set_option maxRecDepth 100000 in
set_option maxHeartbeats 4000000 in
theorem f_prefix_Read_spec (g : Nat) (st : I)  (r : Pfx × I) (h : f_prefix_Read st  = some r) : SpecX Try.prog 28 #[.pointer (some ⟨g, 0, none⟩)] .triv (InR g st) (fun v A' N => v = .agg #[.int .i64 r.1.fBase, .int .i64 r.1.fLength, .int .i64 r.1.fLeader, .int .i64 r.1.fSum, .int .i64 r.1.fAttr, .int .i64 r.1.fLast, .int .i64 r.1.fFirst, .int .i64 r.1.fMax, .int .i64 r.1.fProducer, .int .i64 r.1.fEpoch, .int .i64 r.1.fSequence, .int .i64 r.1.fCount] ∧ A' = InR g r.2 ∧ N = []) := by
  refine enterA Try.func28 rfl Try.ntmps28 rfl ?_
  intro F w hX
  unfold f_prefix_Read at h
  refine T.seq (T.region rfl ?_)
  refine TL.alloc rfl .u Try.zeroValue38 rfl (fun b1 => ?_)
  refine TL.nil (X.seq (T.seq (T.region rfl ?_)))
  refine TL.alloc rfl .u Try.zeroValue38 rfl (fun b2 => ?_)
  refine TL.nil (X.seq (T.seq (T.region rfl ?_)))
  refine TL.alloc rfl .u Try.zeroValue3 rfl (fun b3 => ?_)
  refine TL.st0 (cs' := #[.int .i64 0]) rfl .u rfl rfl Try.sizeOf3 rfl rfl rfl rfl ?_
  refine TL.nil (X.seq (T.seq (T.seq (T.region rfl ?_))))
  refine TL.cge rfl .u (.fn Try.call75 rfl) (f_prefix_PrefixFields_spec b2 b3 () rfl) (fun _ hs => RX.reads_triv _ _) rfl ?_
  rintro _ _ _ ⟨b4, rfl, rfl, rfl⟩
  refine TL.sel [0, 0, 0, 0, 0] rfl ?_
  refine TL.q rfl .u (Ex.lenS rfl Try.runUnderlying123) rfl ?_
  refine TL.run ft_prefix_ok [2] rfl rfl ?_
  refine TL.nil (X.seq (T.block ?_))
  refine T.unroll0 (TW.step (T.seq (T.region rfl ?_)))
  refine TL.run ft_prefix_ok [0] rfl rfl ?_
  refine TL.nil (X.seq (T.seq ?_))
  refine T.yes rfl (decide_eq_true (show 0 < 13 by omega)) ?_
  refine T.skip (X.seq (T.seq (T.block (T.seq (T.region rfl ?_)))))
  refine TL.q rfl .u (Ex.ixL (k := 0) (r := 0) rfl rfl rfl Try.runUnderlying123 Try.sizeOf127 (by decide) rfl) rfl ?_
  refine TL.q rfl .u (Ex.bS (us := [.pointer (some ⟨b2, 0, none⟩), .int .i64 8]) 0 rfl Try.isAgg127 Try.sizeOf127 rfl rfl rfl) rfl ?_
  refine TL.alloc rfl .u Try.zeroValue127 rfl (fun b5 => ?_)
  refine TL.st0 (cs' := #[.pointer (some ⟨b2, 0, none⟩), .int .i64 8]) rfl .u rfl rfl Try.sizeOf127 rfl rfl rfl rfl ?_
  refine TL.nil (X.seq (T.draw (.q 0 (.q 1 (.q 2 (.q 3 (.q 4 (.e 5 (.q 6 (.e 7 .nil)))))))) [0, 0, 0, 1] rfl mix_prefix (NoP.blk (NoP.seq (NoP.seq (NoP.blk (NoP.seq np_post))))) (by kernel_rfl) ?_))
  refine TD.run ft_prefix_ok [0] rfl rfl ?_
  refine TD.q rfl .u (Ex.b1 0 rfl Try.isAgg125 rfl rfl) rfl ?_
  refine TD.run ft_prefix_ok [2, 3] rfl rfl ?_
  refine TD.q rfl .u (Ex.b1 0 rfl Try.isAgg3 rfl rfl) rfl ?_
  obtain ⟨⟨x6, st7⟩, hx8, h⟩ := Option.bind_eq_some_iff.1 h
  try dsimp only at h
  refine TD.c5 rfl .u (.fn Try.call37 rfl) (gInt_spec g st 8 _ hx8) (fun _ hs => (Src.triv _)) rfl [0, 0, 0, 1] (rfl) ?_
  refine TD.run ft_prefix_ok [6] rfl rfl ?_
  refine TD.st3 (cs' := #[.int .i64 x6, .int .i64 0, .int .i64 0, .int .i64 0, .int .i64 0, .int .i64 0, .int .i64 0, .int .i64 0, .int .i64 0, .int .i64 0, .int .i64 0, .int .i64 0]) rfl .u rfl rfl Try.sizeOf3 rfl rfl rfl rfl [0, 0, 0, 1] (rfl) ?_
  refine TD.nil (X.blk (X.seq (T.region rfl ?_)))
  refine TL.q rfl .u (Ex.add rfl rfl (by omega)) rfl ?_
  refine TL.run ft_prefix_ok [1] rfl rfl ?_
  refine TL.nil (X.un (TW.step (T.seq (T.region rfl ?_))))
  refine TL.run ft_prefix_ok [0] rfl rfl ?_
  refine TL.nil (X.seq (T.seq ?_))
  refine T.yes rfl (decide_eq_true (show 1 < 13 by omega)) ?_
  refine T.skip (X.seq (T.seq (T.block (T.seq (T.region rfl ?_)))))
  refine TL.q rfl .u (Ex.ixL (k := 1) (r := 2) rfl rfl rfl Try.runUnderlying123 Try.sizeOf127 (by decide) rfl) rfl ?_
  refine TL.q rfl .u (Ex.bS (us := [.pointer (some ⟨b2, 1, none⟩), .int .i64 4]) 1 rfl Try.isAgg127 Try.sizeOf127 rfl rfl rfl) rfl ?_
  refine TL.alloc rfl .u Try.zeroValue127 rfl (fun b9 => ?_)
  refine TL.st0 (cs' := #[.pointer (some ⟨b2, 1, none⟩), .int .i64 4]) rfl .u rfl rfl Try.sizeOf127 rfl rfl rfl rfl ?_
  refine TL.nil (X.seq (T.draw (.q 0 (.q 1 (.q 2 (.q 3 (.q 4 (.e 5 (.q 6 (.e 7 .nil)))))))) [0, 0, 0, 0, 1] rfl mix_prefix (NoP.blk (NoP.seq (NoP.seq (NoP.blk (NoP.seq np_post))))) (by kernel_rfl) ?_))
  refine TD.run ft_prefix_ok [0] rfl rfl ?_
  refine TD.q rfl .u (Ex.b1 0 rfl Try.isAgg125 rfl rfl) rfl ?_
  refine TD.run ft_prefix_ok [2, 3] rfl rfl ?_
  refine TD.q rfl .u (Ex.b1 0 rfl Try.isAgg3 rfl rfl) rfl ?_
  obtain ⟨⟨x10, st11⟩, hx12, h⟩ := Option.bind_eq_some_iff.1 h
  try dsimp only at h
  refine TD.c6 rfl .u (.fn Try.call37 rfl) (gInt_spec g st7 4 _ hx12) (fun _ hs => (Src.triv _)) rfl [0, 0, 0, 0, 1] (rfl) ?_
  refine TD.run ft_prefix_ok [6] rfl rfl ?_
  refine TD.st4 (cs' := #[.int .i64 x6, .int .i64 x10, .int .i64 0, .int .i64 0, .int .i64 0, .int .i64 0, .int .i64 0, .int .i64 0, .int .i64 0, .int .i64 0, .int .i64 0, .int .i64 0]) rfl .u rfl rfl Try.sizeOf3 rfl rfl rfl rfl [0, 0, 0, 0, 1] (rfl) ?_
  refine TD.nil (X.blk (X.seq (T.region rfl ?_)))
  refine TL.q rfl .u (Ex.add rfl rfl (by omega)) rfl ?_
  refine TL.run ft_prefix_ok [1] rfl rfl ?_
  refine TL.nil ?_
  refine X.sel [0, 1, 1, 1, 1, 1] rfl ?_
  refine X.un (TW.step (T.seq (T.region rfl ?_)))
  refine TL.run ft_prefix_ok [0] rfl rfl ?_
  refine TL.nil (X.seq (T.seq ?_))
  refine T.yes rfl (decide_eq_true (show 2 < 13 by omega)) ?_
  refine T.skip (X.seq (T.seq (T.block (T.seq (T.region rfl ?_)))))
  refine TL.q rfl .u (Ex.ixL (k := 2) (r := 4) rfl rfl rfl Try.runUnderlying123 Try.sizeOf127 (by decide) rfl) rfl ?_
  refine TL.q rfl .u (Ex.bS (us := [.pointer (some ⟨b2, 2, none⟩), .int .i64 4]) 1 rfl Try.isAgg127 Try.sizeOf127 rfl rfl rfl) rfl ?_
  refine TL.alloc rfl .u Try.zeroValue127 rfl (fun b13 => ?_)
  refine TL.st0 (cs' := #[.pointer (some ⟨b2, 2, none⟩), .int .i64 4]) rfl .u rfl rfl Try.sizeOf127 rfl rfl rfl rfl ?_
  refine TL.nil (X.seq (T.draw (.q 0 (.q 1 (.q 2 (.q 3 (.q 4 (.e 5 (.q 6 (.e 7 .nil)))))))) [0, 0, 0, 0, 1] rfl mix_prefix (NoP.blk (NoP.seq (NoP.seq (NoP.blk (NoP.seq np_post))))) (by kernel_rfl) ?_))
  refine TD.run ft_prefix_ok [0] rfl rfl ?_
  refine TD.q rfl .u (Ex.b1 0 rfl Try.isAgg125 rfl rfl) rfl ?_
  refine TD.run ft_prefix_ok [2, 3] rfl rfl ?_
  refine TD.q rfl .u (Ex.b1 0 rfl Try.isAgg3 rfl rfl) rfl ?_
  obtain ⟨⟨x14, st15⟩, hx16, h⟩ := Option.bind_eq_some_iff.1 h
  try dsimp only at h
  refine TD.c6 rfl .u (.fn Try.call37 rfl) (gInt_spec g st11 4 _ hx16) (fun _ hs => (Src.triv _)) rfl [0, 0, 0, 0, 1] (rfl) ?_
  refine TD.run ft_prefix_ok [6] rfl rfl ?_
  refine TD.st4 (cs' := #[.int .i64 x6, .int .i64 x10, .int .i64 x14, .int .i64 0, .int .i64 0, .int .i64 0, .int .i64 0, .int .i64 0, .int .i64 0, .int .i64 0, .int .i64 0, .int .i64 0]) rfl .u rfl rfl Try.sizeOf3 rfl rfl rfl rfl [0, 0, 0, 0, 1] (rfl) ?_
  refine TD.nil (X.blk (X.seq (T.region rfl ?_)))
  refine TL.q rfl .u (Ex.add rfl rfl (by omega)) rfl ?_
  refine TL.run ft_prefix_ok [1] rfl rfl ?_
  refine TL.nil ?_
  refine X.sel [0, 1, 1, 1, 1, 1] rfl ?_
  refine X.un (TW.step (T.seq (T.region rfl ?_)))
  refine TL.run ft_prefix_ok [0] rfl rfl ?_
  refine TL.nil (X.seq (T.seq ?_))
  refine T.yes rfl (decide_eq_true (show 3 < 13 by omega)) ?_
  refine T.skip (X.seq (T.seq (T.block (T.seq (T.region rfl ?_)))))
  refine TL.q rfl .u (Ex.ixL (k := 3) (r := 6) rfl rfl rfl Try.runUnderlying123 Try.sizeOf127 (by decide) rfl) rfl ?_
  refine TL.q rfl .u (Ex.bS (us := [.pointer (some ⟨b3, 0, none⟩), .int .i64 1]) 1 rfl Try.isAgg127 Try.sizeOf127 rfl rfl rfl) rfl ?_
  refine TL.alloc rfl .u Try.zeroValue127 rfl (fun b17 => ?_)
  refine TL.st0 (cs' := #[.pointer (some ⟨b3, 0, none⟩), .int .i64 1]) rfl .u rfl rfl Try.sizeOf127 rfl rfl rfl rfl ?_
  refine TL.nil (X.seq (T.draw (.q 0 (.q 1 (.q 2 (.q 3 (.q 4 (.e 5 (.q 6 (.e 7 .nil)))))))) [0, 0, 0, 1, 1] rfl mix_prefix (NoP.blk (NoP.seq (NoP.seq (NoP.blk (NoP.seq np_post))))) (by kernel_rfl) ?_))
  refine TD.run ft_prefix_ok [0] rfl rfl ?_
  refine TD.q rfl .u (Ex.b1 0 rfl Try.isAgg125 rfl rfl) rfl ?_
  refine TD.run ft_prefix_ok [2, 3] rfl rfl ?_
  refine TD.q rfl .u (Ex.b1 0 rfl Try.isAgg3 rfl rfl) rfl ?_
  obtain ⟨⟨x18, st19⟩, hx20, h⟩ := Option.bind_eq_some_iff.1 h
  try dsimp only at h
  refine TD.c6 rfl .u (.fn Try.call37 rfl) (gInt_spec g st15 1 _ hx20) (fun _ hs => (Src.triv _)) rfl [0, 0, 0, 1, 1] (rfl) ?_
  refine TD.run ft_prefix_ok [6] rfl rfl ?_
  refine TD.st3 (cs' := #[.int .i64 x18]) rfl .u rfl rfl Try.sizeOf3 rfl rfl rfl rfl [0, 0, 0, 1, 1] (rfl) ?_
  refine TD.nil (X.blk (X.seq (T.region rfl ?_)))
  refine TL.q rfl .u (Ex.add rfl rfl (by omega)) rfl ?_
  refine TL.run ft_prefix_ok [1] rfl rfl ?_
  refine TL.nil ?_
  refine X.sel [0, 1, 1, 1, 1, 1] rfl ?_
  refine X.un (TW.step (T.seq (T.region rfl ?_)))
  refine TL.run ft_prefix_ok [0] rfl rfl ?_
  refine TL.nil (X.seq (T.seq ?_))
  refine T.yes rfl (decide_eq_true (show 4 < 13 by omega)) ?_
  refine T.skip (X.seq (T.seq (T.block (T.seq (T.region rfl ?_)))))
  refine TL.q rfl .u (Ex.ixL (k := 4) (r := 8) rfl rfl rfl Try.runUnderlying123 Try.sizeOf127 (by decide) rfl) rfl ?_
  refine TL.q rfl .u (Ex.bS (us := [.pointer (some ⟨b2, 3, none⟩), .int .i64 4]) 1 rfl Try.isAgg127 Try.sizeOf127 rfl rfl rfl) rfl ?_
  refine TL.alloc rfl .u Try.zeroValue127 rfl (fun b21 => ?_)
  refine TL.st0 (cs' := #[.pointer (some ⟨b2, 3, none⟩), .int .i64 4]) rfl .u rfl rfl Try.sizeOf127 rfl rfl rfl rfl ?_
  refine TL.nil (X.seq (T.draw (.q 0 (.q 1 (.q 2 (.q 3 (.q 4 (.e 5 (.q 6 (.e 7 .nil)))))))) [0, 0, 0, 0, 1] rfl mix_prefix (NoP.blk (NoP.seq (NoP.seq (NoP.blk (NoP.seq np_post))))) (by kernel_rfl) ?_))
  refine TD.run ft_prefix_ok [0] rfl rfl ?_
  refine TD.q rfl .u (Ex.b1 0 rfl Try.isAgg125 rfl rfl) rfl ?_
  refine TD.run ft_prefix_ok [2, 3] rfl rfl ?_
  refine TD.q rfl .u (Ex.b1 0 rfl Try.isAgg3 rfl rfl) rfl ?_
  obtain ⟨⟨x22, st23⟩, hx24, h⟩ := Option.bind_eq_some_iff.1 h
  try dsimp only at h
  refine TD.c6 rfl .u (.fn Try.call37 rfl) (gInt_spec g st19 4 _ hx24) (fun _ hs => (Src.triv _)) rfl [0, 0, 0, 0, 1] (rfl) ?_
  refine TD.run ft_prefix_ok [6] rfl rfl ?_
  refine TD.st4 (cs' := #[.int .i64 x6, .int .i64 x10, .int .i64 x14, .int .i64 x22, .int .i64 0, .int .i64 0, .int .i64 0, .int .i64 0, .int .i64 0, .int .i64 0, .int .i64 0, .int .i64 0]) rfl .u rfl rfl Try.sizeOf3 rfl rfl rfl rfl [0, 0, 0, 0, 1] (rfl) ?_
  refine TD.nil (X.blk (X.seq (T.region rfl ?_)))
  refine TL.q rfl .u (Ex.add rfl rfl (by omega)) rfl ?_
  refine TL.run ft_prefix_ok [1] rfl rfl ?_
  refine TL.nil ?_
  refine X.sel [0, 1, 1, 1, 1, 1] rfl ?_
  refine X.un (TW.step (T.seq (T.region rfl ?_)))
  refine TL.run ft_prefix_ok [0] rfl rfl ?_
  refine TL.nil (X.seq (T.seq ?_))
  refine T.yes rfl (decide_eq_true (show 5 < 13 by omega)) ?_
  refine T.skip (X.seq (T.seq (T.block (T.seq (T.region rfl ?_)))))
  refine TL.q rfl .u (Ex.ixL (k := 5) (r := 10) rfl rfl rfl Try.runUnderlying123 Try.sizeOf127 (by decide) rfl) rfl ?_
  refine TL.q rfl .u (Ex.bS (us := [.pointer (some ⟨b2, 4, none⟩), .int .i64 2]) 1 rfl Try.isAgg127 Try.sizeOf127 rfl rfl rfl) rfl ?_
  refine TL.alloc rfl .u Try.zeroValue127 rfl (fun b25 => ?_)
  refine TL.st0 (cs' := #[.pointer (some ⟨b2, 4, none⟩), .int .i64 2]) rfl .u rfl rfl Try.sizeOf127 rfl rfl rfl rfl ?_
  refine TL.nil (X.seq (T.draw (.q 0 (.q 1 (.q 2 (.q 3 (.q 4 (.e 5 (.q 6 (.e 7 .nil)))))))) [0, 0, 0, 0, 1] rfl mix_prefix (NoP.blk (NoP.seq (NoP.seq (NoP.blk (NoP.seq np_post))))) (by kernel_rfl) ?_))
  refine TD.run ft_prefix_ok [0] rfl rfl ?_
  refine TD.q rfl .u (Ex.b1 0 rfl Try.isAgg125 rfl rfl) rfl ?_
  refine TD.run ft_prefix_ok [2, 3] rfl rfl ?_
  refine TD.q rfl .u (Ex.b1 0 rfl Try.isAgg3 rfl rfl) rfl ?_
  obtain ⟨⟨x26, st27⟩, hx28, h⟩ := Option.bind_eq_some_iff.1 h
  try dsimp only at h
  refine TD.c6 rfl .u (.fn Try.call37 rfl) (gInt_spec g st23 2 _ hx28) (fun _ hs => (Src.triv _)) rfl [0, 0, 0, 0, 1] (rfl) ?_
  refine TD.run ft_prefix_ok [6] rfl rfl ?_
  refine TD.st4 (cs' := #[.int .i64 x6, .int .i64 x10, .int .i64 x14, .int .i64 x22, .int .i64 x26, .int .i64 0, .int .i64 0, .int .i64 0, .int .i64 0, .int .i64 0, .int .i64 0, .int .i64 0]) rfl .u rfl rfl Try.sizeOf3 rfl rfl rfl rfl [0, 0, 0, 0, 1] (rfl) ?_
  refine TD.nil (X.blk (X.seq (T.region rfl ?_)))
  refine TL.q rfl .u (Ex.add rfl rfl (by omega)) rfl ?_
  refine TL.run ft_prefix_ok [1] rfl rfl ?_
  refine TL.nil ?_
  refine X.sel [0, 1, 1, 1, 1, 1] rfl ?_
  refine X.un (TW.step (T.seq (T.region rfl ?_)))
  refine TL.run ft_prefix_ok [0] rfl rfl ?_
  refine TL.nil (X.seq (T.seq ?_))
  refine T.yes rfl (decide_eq_true (show 6 < 13 by omega)) ?_
  refine T.skip (X.seq (T.seq (T.block (T.seq (T.region rfl ?_)))))
  refine TL.q rfl .u (Ex.ixL (k := 6) (r := 12) rfl rfl rfl Try.runUnderlying123 Try.sizeOf127 (by decide) rfl) rfl ?_
  refine TL.q rfl .u (Ex.bS (us := [.pointer (some ⟨b2, 5, none⟩), .int .i64 4]) 1 rfl Try.isAgg127 Try.sizeOf127 rfl rfl rfl) rfl ?_
  refine TL.alloc rfl .u Try.zeroValue127 rfl (fun b29 => ?_)
  refine TL.st0 (cs' := #[.pointer (some ⟨b2, 5, none⟩), .int .i64 4]) rfl .u rfl rfl Try.sizeOf127 rfl rfl rfl rfl ?_
  refine TL.nil (X.seq (T.draw (.q 0 (.q 1 (.q 2 (.q 3 (.q 4 (.e 5 (.q 6 (.e 7 .nil)))))))) [0, 0, 0, 0, 1] rfl mix_prefix (NoP.blk (NoP.seq (NoP.seq (NoP.blk (NoP.seq np_post))))) (by kernel_rfl) ?_))
  refine TD.run ft_prefix_ok [0] rfl rfl ?_
  refine TD.q rfl .u (Ex.b1 0 rfl Try.isAgg125 rfl rfl) rfl ?_
  refine TD.run ft_prefix_ok [2, 3] rfl rfl ?_
  refine TD.q rfl .u (Ex.b1 0 rfl Try.isAgg3 rfl rfl) rfl ?_
  obtain ⟨⟨x30, st31⟩, hx32, h⟩ := Option.bind_eq_some_iff.1 h
  try dsimp only at h
  refine TD.c6 rfl .u (.fn Try.call37 rfl) (gInt_spec g st27 4 _ hx32) (fun _ hs => (Src.triv _)) rfl [0, 0, 0, 0, 1] (rfl) ?_
  refine TD.run ft_prefix_ok [6] rfl rfl ?_
  refine TD.st4 (cs' := #[.int .i64 x6, .int .i64 x10, .int .i64 x14, .int .i64 x22, .int .i64 x26, .int .i64 x30, .int .i64 0, .int .i64 0, .int .i64 0, .int .i64 0, .int .i64 0, .int .i64 0]) rfl .u rfl rfl Try.sizeOf3 rfl rfl rfl rfl [0, 0, 0, 0, 1] (rfl) ?_
  refine TD.nil (X.blk (X.seq (T.region rfl ?_)))
  refine TL.q rfl .u (Ex.add rfl rfl (by omega)) rfl ?_
  refine TL.run ft_prefix_ok [1] rfl rfl ?_
  refine TL.nil ?_
  refine X.sel [0, 1, 1, 1, 1, 1] rfl ?_
  refine X.un (TW.step (T.seq (T.region rfl ?_)))
  refine TL.run ft_prefix_ok [0] rfl rfl ?_
  refine TL.nil (X.seq (T.seq ?_))
  refine T.yes rfl (decide_eq_true (show 7 < 13 by omega)) ?_
  refine T.skip (X.seq (T.seq (T.block (T.seq (T.region rfl ?_)))))
  refine TL.q rfl .u (Ex.ixL (k := 7) (r := 14) rfl rfl rfl Try.runUnderlying123 Try.sizeOf127 (by decide) rfl) rfl ?_
  refine TL.q rfl .u (Ex.bS (us := [.pointer (some ⟨b2, 6, none⟩), .int .i64 8]) 1 rfl Try.isAgg127 Try.sizeOf127 rfl rfl rfl) rfl ?_
  refine TL.alloc rfl .u Try.zeroValue127 rfl (fun b33 => ?_)
  refine TL.st0 (cs' := #[.pointer (some ⟨b2, 6, none⟩), .int .i64 8]) rfl .u rfl rfl Try.sizeOf127 rfl rfl rfl rfl ?_
  refine TL.nil (X.seq (T.draw (.q 0 (.q 1 (.q 2 (.q 3 (.q 4 (.e 5 (.q 6 (.e 7 .nil)))))))) [0, 0, 0, 0, 1] rfl mix_prefix (NoP.blk (NoP.seq (NoP.seq (NoP.blk (NoP.seq np_post))))) (by kernel_rfl) ?_))
  refine TD.run ft_prefix_ok [0] rfl rfl ?_
  refine TD.q rfl .u (Ex.b1 0 rfl Try.isAgg125 rfl rfl) rfl ?_
  refine TD.run ft_prefix_ok [2, 3] rfl rfl ?_
  refine TD.q rfl .u (Ex.b1 0 rfl Try.isAgg3 rfl rfl) rfl ?_
  obtain ⟨⟨x34, st35⟩, hx36, h⟩ := Option.bind_eq_some_iff.1 h
  try dsimp only at h
  refine TD.c6 rfl .u (.fn Try.call37 rfl) (gInt_spec g st31 8 _ hx36) (fun _ hs => (Src.triv _)) rfl [0, 0, 0, 0, 1] (rfl) ?_
  refine TD.run ft_prefix_ok [6] rfl rfl ?_
  refine TD.st4 (cs' := #[.int .i64 x6, .int .i64 x10, .int .i64 x14, .int .i64 x22, .int .i64 x26, .int .i64 x30, .int .i64 x34, .int .i64 0, .int .i64 0, .int .i64 0, .int .i64 0, .int .i64 0]) rfl .u rfl rfl Try.sizeOf3 rfl rfl rfl rfl [0, 0, 0, 0, 1] (rfl) ?_
  refine TD.nil (X.blk (X.seq (T.region rfl ?_)))
  refine TL.q rfl .u (Ex.add rfl rfl (by omega)) rfl ?_
  refine TL.run ft_prefix_ok [1] rfl rfl ?_
  refine TL.nil ?_
  refine X.sel [0, 1, 1, 1, 1, 1] rfl ?_
  refine X.un (TW.step (T.seq (T.region rfl ?_)))
  refine TL.run ft_prefix_ok [0] rfl rfl ?_
  refine TL.nil (X.seq (T.seq ?_))
  refine T.yes rfl (decide_eq_true (show 8 < 13 by omega)) ?_
  refine T.skip (X.seq (T.seq (T.block (T.seq (T.region rfl ?_)))))
  refine TL.q rfl .u (Ex.ixL (k := 8) (r := 16) rfl rfl rfl Try.runUnderlying123 Try.sizeOf127 (by decide) rfl) rfl ?_
  refine TL.q rfl .u (Ex.bS (us := [.pointer (some ⟨b2, 7, none⟩), .int .i64 8]) 1 rfl Try.isAgg127 Try.sizeOf127 rfl rfl rfl) rfl ?_
  refine TL.alloc rfl .u Try.zeroValue127 rfl (fun b37 => ?_)
  refine TL.st0 (cs' := #[.pointer (some ⟨b2, 7, none⟩), .int .i64 8]) rfl .u rfl rfl Try.sizeOf127 rfl rfl rfl rfl ?_
  refine TL.nil (X.seq (T.draw (.q 0 (.q 1 (.q 2 (.q 3 (.q 4 (.e 5 (.q 6 (.e 7 .nil)))))))) [0, 0, 0, 0, 1] rfl mix_prefix (NoP.blk (NoP.seq (NoP.seq (NoP.blk (NoP.seq np_post))))) (by kernel_rfl) ?_))
  refine TD.run ft_prefix_ok [0] rfl rfl ?_
  refine TD.q rfl .u (Ex.b1 0 rfl Try.isAgg125 rfl rfl) rfl ?_
  refine TD.run ft_prefix_ok [2, 3] rfl rfl ?_
  refine TD.q rfl .u (Ex.b1 0 rfl Try.isAgg3 rfl rfl) rfl ?_
  obtain ⟨⟨x38, st39⟩, hx40, h⟩ := Option.bind_eq_some_iff.1 h
  try dsimp only at h
  refine TD.c6 rfl .u (.fn Try.call37 rfl) (gInt_spec g st35 8 _ hx40) (fun _ hs => (Src.triv _)) rfl [0, 0, 0, 0, 1] (rfl) ?_
  refine TD.run ft_prefix_ok [6] rfl rfl ?_
  refine TD.st4 (cs' := #[.int .i64 x6, .int .i64 x10, .int .i64 x14, .int .i64 x22, .int .i64 x26, .int .i64 x30, .int .i64 x34, .int .i64 x38, .int .i64 0, .int .i64 0, .int .i64 0, .int .i64 0]) rfl .u rfl rfl Try.sizeOf3 rfl rfl rfl rfl [0, 0, 0, 0, 1] (rfl) ?_
  refine TD.nil (X.blk (X.seq (T.region rfl ?_)))
  refine TL.q rfl .u (Ex.add rfl rfl (by omega)) rfl ?_
  refine TL.run ft_prefix_ok [1] rfl rfl ?_
  refine TL.nil ?_
  refine X.sel [0, 1, 1, 1, 1, 1] rfl ?_
  refine X.un (TW.step (T.seq (T.region rfl ?_)))
  refine TL.run ft_prefix_ok [0] rfl rfl ?_
  refine TL.nil (X.seq (T.seq ?_))
  refine T.yes rfl (decide_eq_true (show 9 < 13 by omega)) ?_
  refine T.skip (X.seq (T.seq (T.block (T.seq (T.region rfl ?_)))))
  refine TL.q rfl .u (Ex.ixL (k := 9) (r := 18) rfl rfl rfl Try.runUnderlying123 Try.sizeOf127 (by decide) rfl) rfl ?_
  refine TL.q rfl .u (Ex.bS (us := [.pointer (some ⟨b2, 8, none⟩), .int .i64 8]) 1 rfl Try.isAgg127 Try.sizeOf127 rfl rfl rfl) rfl ?_
  refine TL.alloc rfl .u Try.zeroValue127 rfl (fun b41 => ?_)
  refine TL.st0 (cs' := #[.pointer (some ⟨b2, 8, none⟩), .int .i64 8]) rfl .u rfl rfl Try.sizeOf127 rfl rfl rfl rfl ?_
  refine TL.nil (X.seq (T.draw (.q 0 (.q 1 (.q 2 (.q 3 (.q 4 (.e 5 (.q 6 (.e 7 .nil)))))))) [0, 0, 0, 0, 1] rfl mix_prefix (NoP.blk (NoP.seq (NoP.seq (NoP.blk (NoP.seq np_post))))) (by kernel_rfl) ?_))
  refine TD.run ft_prefix_ok [0] rfl rfl ?_
  refine TD.q rfl .u (Ex.b1 0 rfl Try.isAgg125 rfl rfl) rfl ?_
  refine TD.run ft_prefix_ok [2, 3] rfl rfl ?_
  refine TD.q rfl .u (Ex.b1 0 rfl Try.isAgg3 rfl rfl) rfl ?_
  obtain ⟨⟨x42, st43⟩, hx44, h⟩ := Option.bind_eq_some_iff.1 h
  try dsimp only at h
  refine TD.c6 rfl .u (.fn Try.call37 rfl) (gInt_spec g st39 8 _ hx44) (fun _ hs => (Src.triv _)) rfl [0, 0, 0, 0, 1] (rfl) ?_
  refine TD.run ft_prefix_ok [6] rfl rfl ?_
  refine TD.st4 (cs' := #[.int .i64 x6, .int .i64 x10, .int .i64 x14, .int .i64 x22, .int .i64 x26, .int .i64 x30, .int .i64 x34, .int .i64 x38, .int .i64 x42, .int .i64 0, .int .i64 0, .int .i64 0]) rfl .u rfl rfl Try.sizeOf3 rfl rfl rfl rfl [0, 0, 0, 0, 1] (rfl) ?_
  refine TD.nil (X.blk (X.seq (T.region rfl ?_)))
  refine TL.q rfl .u (Ex.add rfl rfl (by omega)) rfl ?_
  refine TL.run ft_prefix_ok [1] rfl rfl ?_
  refine TL.nil ?_
  refine X.sel [0, 1, 1, 1, 1, 1] rfl ?_
  refine X.un (TW.step (T.seq (T.region rfl ?_)))
  refine TL.run ft_prefix_ok [0] rfl rfl ?_
  refine TL.nil (X.seq (T.seq ?_))
  refine T.yes rfl (decide_eq_true (show 10 < 13 by omega)) ?_
  refine T.skip (X.seq (T.seq (T.block (T.seq (T.region rfl ?_)))))
  refine TL.q rfl .u (Ex.ixL (k := 10) (r := 20) rfl rfl rfl Try.runUnderlying123 Try.sizeOf127 (by decide) rfl) rfl ?_
  refine TL.q rfl .u (Ex.bS (us := [.pointer (some ⟨b2, 9, none⟩), .int .i64 2]) 1 rfl Try.isAgg127 Try.sizeOf127 rfl rfl rfl) rfl ?_
  refine TL.alloc rfl .u Try.zeroValue127 rfl (fun b45 => ?_)
  refine TL.st0 (cs' := #[.pointer (some ⟨b2, 9, none⟩), .int .i64 2]) rfl .u rfl rfl Try.sizeOf127 rfl rfl rfl rfl ?_
  refine TL.nil (X.seq (T.draw (.q 0 (.q 1 (.q 2 (.q 3 (.q 4 (.e 5 (.q 6 (.e 7 .nil)))))))) [0, 0, 0, 0, 1] rfl mix_prefix (NoP.blk (NoP.seq (NoP.seq (NoP.blk (NoP.seq np_post))))) (by kernel_rfl) ?_))
  refine TD.run ft_prefix_ok [0] rfl rfl ?_
  refine TD.q rfl .u (Ex.b1 0 rfl Try.isAgg125 rfl rfl) rfl ?_
  refine TD.run ft_prefix_ok [2, 3] rfl rfl ?_
  refine TD.q rfl .u (Ex.b1 0 rfl Try.isAgg3 rfl rfl) rfl ?_
  obtain ⟨⟨x46, st47⟩, hx48, h⟩ := Option.bind_eq_some_iff.1 h
  try dsimp only at h
  refine TD.c6 rfl .u (.fn Try.call37 rfl) (gInt_spec g st43 2 _ hx48) (fun _ hs => (Src.triv _)) rfl [0, 0, 0, 0, 1] (rfl) ?_
  refine TD.run ft_prefix_ok [6] rfl rfl ?_
  refine TD.st4 (cs' := #[.int .i64 x6, .int .i64 x10, .int .i64 x14, .int .i64 x22, .int .i64 x26, .int .i64 x30, .int .i64 x34, .int .i64 x38, .int .i64 x42, .int .i64 x46, .int .i64 0, .int .i64 0]) rfl .u rfl rfl Try.sizeOf3 rfl rfl rfl rfl [0, 0, 0, 0, 1] (rfl) ?_
  refine TD.nil (X.blk (X.seq (T.region rfl ?_)))
  refine TL.q rfl .u (Ex.add rfl rfl (by omega)) rfl ?_
  refine TL.run ft_prefix_ok [1] rfl rfl ?_
  refine TL.nil ?_
  refine X.sel [0, 1, 1, 1, 1, 1] rfl ?_
  refine X.un (TW.step (T.seq (T.region rfl ?_)))
  refine TL.run ft_prefix_ok [0] rfl rfl ?_
  refine TL.nil (X.seq (T.seq ?_))
  refine T.yes rfl (decide_eq_true (show 11 < 13 by omega)) ?_
  refine T.skip (X.seq (T.seq (T.block (T.seq (T.region rfl ?_)))))
  refine TL.q rfl .u (Ex.ixL (k := 11) (r := 22) rfl rfl rfl Try.runUnderlying123 Try.sizeOf127 (by decide) rfl) rfl ?_
  refine TL.q rfl .u (Ex.bS (us := [.pointer (some ⟨b2, 10, none⟩), .int .i64 4]) 1 rfl Try.isAgg127 Try.sizeOf127 rfl rfl rfl) rfl ?_
  refine TL.alloc rfl .u Try.zeroValue127 rfl (fun b49 => ?_)
  refine TL.st0 (cs' := #[.pointer (some ⟨b2, 10, none⟩), .int .i64 4]) rfl .u rfl rfl Try.sizeOf127 rfl rfl rfl rfl ?_
  refine TL.nil (X.seq (T.draw (.q 0 (.q 1 (.q 2 (.q 3 (.q 4 (.e 5 (.q 6 (.e 7 .nil)))))))) [0, 0, 0, 0, 1] rfl mix_prefix (NoP.blk (NoP.seq (NoP.seq (NoP.blk (NoP.seq np_post))))) (by kernel_rfl) ?_))
  refine TD.run ft_prefix_ok [0] rfl rfl ?_
  refine TD.q rfl .u (Ex.b1 0 rfl Try.isAgg125 rfl rfl) rfl ?_
  refine TD.run ft_prefix_ok [2, 3] rfl rfl ?_
  refine TD.q rfl .u (Ex.b1 0 rfl Try.isAgg3 rfl rfl) rfl ?_
  obtain ⟨⟨x50, st51⟩, hx52, h⟩ := Option.bind_eq_some_iff.1 h
  try dsimp only at h
  refine TD.c6 rfl .u (.fn Try.call37 rfl) (gInt_spec g st47 4 _ hx52) (fun _ hs => (Src.triv _)) rfl [0, 0, 0, 0, 1] (rfl) ?_
  refine TD.run ft_prefix_ok [6] rfl rfl ?_
  refine TD.st4 (cs' := #[.int .i64 x6, .int .i64 x10, .int .i64 x14, .int .i64 x22, .int .i64 x26, .int .i64 x30, .int .i64 x34, .int .i64 x38, .int .i64 x42, .int .i64 x46, .int .i64 x50, .int .i64 0]) rfl .u rfl rfl Try.sizeOf3 rfl rfl rfl rfl [0, 0, 0, 0, 1] (rfl) ?_
  refine TD.nil (X.blk (X.seq (T.region rfl ?_)))
  refine TL.q rfl .u (Ex.add rfl rfl (by omega)) rfl ?_
  refine TL.run ft_prefix_ok [1] rfl rfl ?_
  refine TL.nil ?_
  refine X.sel [0, 1, 1, 1, 1, 1] rfl ?_
  refine X.un (TW.step (T.seq (T.region rfl ?_)))
  refine TL.run ft_prefix_ok [0] rfl rfl ?_
  refine TL.nil (X.seq (T.seq ?_))
  refine T.yes rfl (decide_eq_true (show 12 < 13 by omega)) ?_
  refine T.skip (X.seq (T.seq (T.block (T.seq (T.region rfl ?_)))))
  refine TL.q rfl .u (Ex.ixL (k := 12) (r := 24) rfl rfl rfl Try.runUnderlying123 Try.sizeOf127 (by decide) rfl) rfl ?_
  refine TL.q rfl .u (Ex.bS (us := [.pointer (some ⟨b2, 11, none⟩), .int .i64 4]) 1 rfl Try.isAgg127 Try.sizeOf127 rfl rfl rfl) rfl ?_
  refine TL.alloc rfl .u Try.zeroValue127 rfl (fun b53 => ?_)
  refine TL.st0 (cs' := #[.pointer (some ⟨b2, 11, none⟩), .int .i64 4]) rfl .u rfl rfl Try.sizeOf127 rfl rfl rfl rfl ?_
  refine TL.nil (X.seq (T.draw (.q 0 (.q 1 (.q 2 (.q 3 (.q 4 (.e 5 (.q 6 (.e 7 .nil)))))))) [0, 0, 0, 0, 1] rfl mix_prefix (NoP.blk (NoP.seq (NoP.seq (NoP.blk (NoP.seq np_post))))) (by kernel_rfl) ?_))
  refine TD.run ft_prefix_ok [0] rfl rfl ?_
  refine TD.q rfl .u (Ex.b1 0 rfl Try.isAgg125 rfl rfl) rfl ?_
  refine TD.run ft_prefix_ok [2, 3] rfl rfl ?_
  refine TD.q rfl .u (Ex.b1 0 rfl Try.isAgg3 rfl rfl) rfl ?_
  obtain ⟨⟨x54, st55⟩, hx56, h⟩ := Option.bind_eq_some_iff.1 h
  try dsimp only at h
  refine TD.c6 rfl .u (.fn Try.call37 rfl) (gInt_spec g st51 4 _ hx56) (fun _ hs => (Src.triv _)) rfl [0, 0, 0, 0, 1] (rfl) ?_
  refine TD.run ft_prefix_ok [6] rfl rfl ?_
  refine TD.st4 (cs' := #[.int .i64 x6, .int .i64 x10, .int .i64 x14, .int .i64 x22, .int .i64 x26, .int .i64 x30, .int .i64 x34, .int .i64 x38, .int .i64 x42, .int .i64 x46, .int .i64 x50, .int .i64 x54]) rfl .u rfl rfl Try.sizeOf3 rfl rfl rfl rfl [0, 0, 0, 0, 1] (rfl) ?_
  refine TD.nil (X.blk (X.seq (T.region rfl ?_)))
  refine TL.q rfl .u (Ex.add rfl rfl (by omega)) rfl ?_
  refine TL.run ft_prefix_ok [1] rfl rfl ?_
  refine TL.nil ?_
  refine X.sel [0, 1, 1, 1, 1, 1] rfl ?_
  refine X.un (TW.step (T.seq (T.region rfl ?_)))
  refine TL.run ft_prefix_ok [0] rfl rfl ?_
  refine TL.nil (X.seq (T.seq ?_))
  refine T.no rfl (decide_eq_false (show ¬ (13 < 13) by omega)) ?_
  refine T.exit (X.exs (X.exs (X.ex (X.seq (T.seq (T.region rfl ?_))))))
  refine TL.run ft_prefix_ok [0] rfl rfl ?_
  refine TL.q rfl .u (Ex.b1 3 rfl Try.isAgg3 rfl rfl) rfl ?_
  refine TL.q rfl .u (Ex.bitw rfl rfl rfl) rfl ?_
  refine TL.run ft_prefix_ok [3] rfl rfl ?_
  refine TL.st3 (cs' := #[.int .i64 x6, .int .i64 x10, .int .i64 x14, .int .i64 (Go.bits .and .i64 x22 4294967295), .int .i64 x26, .int .i64 x30, .int .i64 x34, .int .i64 x38, .int .i64 x42, .int .i64 x46, .int .i64 x50, .int .i64 x54]) rfl .u rfl rfl Try.sizeOf3 rfl rfl rfl rfl ?_
  refine TL.nil (X.seq (T.seq (T.block (T.seq (T.region rfl ?_)))))
  obtain ⟨⟨x57, st58⟩, hx59, h⟩ := Option.bind_eq_some_iff.1 h
  try dsimp only at h
  refine TL.run ft_prefix_ok [0] rfl rfl ?_
  refine TL.c5 rfl .u (.fn Try.call29 rfl) (gErr_spec g st55 _ hx59) (fun _ hs => (Src.triv _)) rfl ?_
  refine TL.run ft_prefix_ok [2, 3] rfl rfl ?_
  refine TL.nil (X.seq ?_)
  obtain ⟨st117, h, hk118⟩ := Option.bind_eq_some_iff.1 h
  refine T.jq (fun e Rs => e = [(0, .pointer (some ⟨g, 0, none⟩)), (2, .pointer (some ⟨b1, 0, none⟩)), (3, .pointer (some ⟨b2, 0, none⟩))] ∧ Rs = [BlkR b53 127 #[.pointer (some ⟨b2, 11, none⟩), .int .i64 4], BlkR b4 127 #[.pointer (some ⟨b2, 0, none⟩), .int .i64 8, .pointer (some ⟨b2, 1, none⟩), .int .i64 4, .pointer (some ⟨b2, 2, none⟩), .int .i64 4, .pointer (some ⟨b3, 0, none⟩), .int .i64 1, .pointer (some ⟨b2, 3, none⟩), .int .i64 4, .pointer (some ⟨b2, 4, none⟩), .int .i64 2, .pointer (some ⟨b2, 5, none⟩), .int .i64 4, .pointer (some ⟨b2, 6, none⟩), .int .i64 8, .pointer (some ⟨b2, 7, none⟩), .int .i64 8, .pointer (some ⟨b2, 8, none⟩), .int .i64 8, .pointer (some ⟨b2, 9, none⟩), .int .i64 2, .pointer (some ⟨b2, 10, none⟩), .int .i64 4, .pointer (some ⟨b2, 11, none⟩), .int .i64 4], BlkR b3 3 #[.int .i64 x18], BlkR b2 38 #[.int .i64 x6, .int .i64 x10, .int .i64 x14, .int .i64 (Go.bits .and .i64 x22 4294967295), .int .i64 x26, .int .i64 x30, .int .i64 x34, .int .i64 x38, .int .i64 x42, .int .i64 x46, .int .i64 x50, .int .i64 x54], BlkR b1 38 #[.int .i64 0, .int .i64 0, .int .i64 0, .int .i64 0, .int .i64 0, .int .i64 0, .int .i64 0, .int .i64 0, .int .i64 0, .int .i64 0, .int .i64 0, .int .i64 0], InR g st117]) ?_ ?_
  · clear hk118
    by_cases c119 : x57 = 0
    · replace h := ifT c119 h
      refine T.no rfl (bn_f (decide_eq_true c119)) ?_
      refine T.seq (T.region rfl ?_)
      refine TL.q rfl .u (Ex.b1 2 rfl Try.isAgg3 rfl rfl) rfl ?_
      refine TL.run ft_prefix_ok [1, 2] rfl rfl ?_
      refine TL.nil (X.seq ?_)
      obtain ⟨st147, h, hk148⟩ := Option.bind_eq_some_iff.1 h
      refine T.jq (fun e Rs => e = [(0, .pointer (some ⟨g, 0, none⟩)), (2, .pointer (some ⟨b1, 0, none⟩)), (3, .pointer (some ⟨b2, 0, none⟩))] ∧ Rs = [BlkR b53 127 #[.pointer (some ⟨b2, 11, none⟩), .int .i64 4], BlkR b4 127 #[.pointer (some ⟨b2, 0, none⟩), .int .i64 8, .pointer (some ⟨b2, 1, none⟩), .int .i64 4, .pointer (some ⟨b2, 2, none⟩), .int .i64 4, .pointer (some ⟨b3, 0, none⟩), .int .i64 1, .pointer (some ⟨b2, 3, none⟩), .int .i64 4, .pointer (some ⟨b2, 4, none⟩), .int .i64 2, .pointer (some ⟨b2, 5, none⟩), .int .i64 4, .pointer (some ⟨b2, 6, none⟩), .int .i64 8, .pointer (some ⟨b2, 7, none⟩), .int .i64 8, .pointer (some ⟨b2, 8, none⟩), .int .i64 8, .pointer (some ⟨b2, 9, none⟩), .int .i64 2, .pointer (some ⟨b2, 10, none⟩), .int .i64 4, .pointer (some ⟨b2, 11, none⟩), .int .i64 4], BlkR b3 3 #[.int .i64 x18], BlkR b2 38 #[.int .i64 x6, .int .i64 x10, .int .i64 x14, .int .i64 (Go.bits .and .i64 x22 4294967295), .int .i64 x26, .int .i64 x30, .int .i64 x34, .int .i64 x38, .int .i64 x42, .int .i64 x46, .int .i64 x50, .int .i64 x54], BlkR b1 38 #[.int .i64 0, .int .i64 0, .int .i64 0, .int .i64 0, .int .i64 0, .int .i64 0, .int .i64 0, .int .i64 0, .int .i64 0, .int .i64 0, .int .i64 0, .int .i64 0], InR g st147]) ?_ ?_
      · clear hk148
        by_cases c149 : x18 = 2
        · replace h := ifT c149 h
          refine T.no rfl (bn_f (decide_eq_true c149)) ?_
          refine T.seq (T.region rfl ?_)
          refine TL.run ft_prefix_ok [0] rfl rfl ?_
          refine TL.q rfl .u (Ex.b1 3 rfl Try.isAgg3 rfl rfl) rfl ?_
          refine TL.run ft_prefix_ok [2, 3] rfl rfl ?_
          refine TL.nil (X.seq ?_)
          obtain ⟨st161, h, hk162⟩ := Option.bind_eq_some_iff.1 h
          refine T.jq (fun e Rs => e = [(0, .pointer (some ⟨g, 0, none⟩)), (2, .pointer (some ⟨b1, 0, none⟩)), (3, .pointer (some ⟨b2, 0, none⟩))] ∧ Rs = [BlkR b53 127 #[.pointer (some ⟨b2, 11, none⟩), .int .i64 4], BlkR b4 127 #[.pointer (some ⟨b2, 0, none⟩), .int .i64 8, .pointer (some ⟨b2, 1, none⟩), .int .i64 4, .pointer (some ⟨b2, 2, none⟩), .int .i64 4, .pointer (some ⟨b3, 0, none⟩), .int .i64 1, .pointer (some ⟨b2, 3, none⟩), .int .i64 4, .pointer (some ⟨b2, 4, none⟩), .int .i64 2, .pointer (some ⟨b2, 5, none⟩), .int .i64 4, .pointer (some ⟨b2, 6, none⟩), .int .i64 8, .pointer (some ⟨b2, 7, none⟩), .int .i64 8, .pointer (some ⟨b2, 8, none⟩), .int .i64 8, .pointer (some ⟨b2, 9, none⟩), .int .i64 2, .pointer (some ⟨b2, 10, none⟩), .int .i64 4, .pointer (some ⟨b2, 11, none⟩), .int .i64 4], BlkR b3 3 #[.int .i64 x18], BlkR b2 38 #[.int .i64 x6, .int .i64 x10, .int .i64 x14, .int .i64 (Go.bits .and .i64 x22 4294967295), .int .i64 x26, .int .i64 x30, .int .i64 x34, .int .i64 x38, .int .i64 x42, .int .i64 x46, .int .i64 x50, .int .i64 x54], BlkR b1 38 #[.int .i64 0, .int .i64 0, .int .i64 0, .int .i64 0, .int .i64 0, .int .i64 0, .int .i64 0, .int .i64 0, .int .i64 0, .int .i64 0, .int .i64 0, .int .i64 0], InR g st161]) ?_ ?_
          · clear hk162
            by_cases c163 : x10 < 49
            · replace h := ifT c163 h
              refine T.yes rfl (decide_eq_true c163) ?_
              refine T.region rfl ?_
              obtain ⟨st164, hx165, h⟩ := Option.bind_eq_some_iff.1 h
              refine TL.run ft_prefix_ok [0] rfl rfl ?_
              refine TL.c5 rfl .u (.fn Try.call61 rfl) (gIFail_spec g st58 4 _ hx165) (fun _ hs => (Src.triv _)) rfl ?_
              cases h
              exact TL.nil (X.jq [0, 0, 0, 0, 0, 0] ⟨rfl, rfl⟩ (by rfl) (by rfl))
            · replace h := ifF c163 h
              refine T.no rfl (decide_eq_false c163) ?_
              refine T.seq (T.region rfl ?_)
              refine TL.run ft_prefix_ok [0] rfl rfl ?_
              refine TL.q rfl .u (Ex.b1 3 rfl Try.isAgg3 rfl rfl) rfl ?_
              refine TL.run ft_prefix_ok [2, 3] rfl rfl ?_
              refine TL.nil (X.seq ?_)
              obtain ⟨st169, h, hk170⟩ := Option.bind_eq_some_iff.1 h
              refine T.jq (fun e Rs => e = [(0, .pointer (some ⟨g, 0, none⟩)), (2, .pointer (some ⟨b1, 0, none⟩)), (3, .pointer (some ⟨b2, 0, none⟩))] ∧ Rs = [BlkR b53 127 #[.pointer (some ⟨b2, 11, none⟩), .int .i64 4], BlkR b4 127 #[.pointer (some ⟨b2, 0, none⟩), .int .i64 8, .pointer (some ⟨b2, 1, none⟩), .int .i64 4, .pointer (some ⟨b2, 2, none⟩), .int .i64 4, .pointer (some ⟨b3, 0, none⟩), .int .i64 1, .pointer (some ⟨b2, 3, none⟩), .int .i64 4, .pointer (some ⟨b2, 4, none⟩), .int .i64 2, .pointer (some ⟨b2, 5, none⟩), .int .i64 4, .pointer (some ⟨b2, 6, none⟩), .int .i64 8, .pointer (some ⟨b2, 7, none⟩), .int .i64 8, .pointer (some ⟨b2, 8, none⟩), .int .i64 8, .pointer (some ⟨b2, 9, none⟩), .int .i64 2, .pointer (some ⟨b2, 10, none⟩), .int .i64 4, .pointer (some ⟨b2, 11, none⟩), .int .i64 4], BlkR b3 3 #[.int .i64 x18], BlkR b2 38 #[.int .i64 x6, .int .i64 x10, .int .i64 x14, .int .i64 (Go.bits .and .i64 x22 4294967295), .int .i64 x26, .int .i64 x30, .int .i64 x34, .int .i64 x38, .int .i64 x42, .int .i64 x46, .int .i64 x50, .int .i64 x54], BlkR b1 38 #[.int .i64 0, .int .i64 0, .int .i64 0, .int .i64 0, .int .i64 0, .int .i64 0, .int .i64 0, .int .i64 0, .int .i64 0, .int .i64 0, .int .i64 0, .int .i64 0], InR g st169]) ?_ ?_
              · clear hk170
                by_cases c171 : x54 < 0
                · replace h := ifT c171 h
                  refine T.yes rfl (decide_eq_true c171) ?_
                  refine T.region rfl ?_
                  obtain ⟨st172, hx173, h⟩ := Option.bind_eq_some_iff.1 h
                  refine TL.run ft_prefix_ok [0] rfl rfl ?_
                  refine TL.c5 rfl .u (.fn Try.call61 rfl) (gIFail_spec g st58 10 _ hx173) (fun _ hs => (Src.triv _)) rfl ?_
                  cases h
                  exact TL.nil (X.jq [0, 0, 0, 0, 0, 0] ⟨rfl, rfl⟩ (by rfl) (by rfl))
                · replace h := ifF c171 h
                  refine T.no rfl (decide_eq_false c171) ?_
                  cases h
                  exact T.skip (X.jq [0, 0, 0, 0, 0, 0] ⟨rfl, rfl⟩ (by rfl) (by rfl))
              · rintro _ _ ⟨rfl, rfl⟩
                clear h
                have h := hk170
                clear hk170
                try dsimp only at h
                cases h
                exact X.jq [0, 0, 0, 0, 0, 0] ⟨rfl, rfl⟩ (by rfl) (by rfl)
          · rintro _ _ ⟨rfl, rfl⟩
            clear h
            have h := hk162
            clear hk162
            try dsimp only at h
            cases h
            exact X.jq [0, 0, 0, 0, 0, 0] ⟨rfl, rfl⟩ (by rfl) (by rfl)
        · replace h := ifF c149 h
          refine T.yes rfl (bn_t (decide_eq_false c149)) ?_
          refine T.region rfl ?_
          obtain ⟨st174, hx175, h⟩ := Option.bind_eq_some_iff.1 h
          refine TL.run ft_prefix_ok [0] rfl rfl ?_
          refine TL.c5 rfl .u (.fn Try.call61 rfl) (gIFail_spec g st58 6 _ hx175) (fun _ hs => (Src.triv _)) rfl ?_
          cases h
          exact TL.nil (X.jq [0, 0, 0, 0, 0, 0] ⟨rfl, rfl⟩ (by rfl) (by rfl))
      · rintro _ _ ⟨rfl, rfl⟩
        clear h
        have h := hk148
        clear hk148
        try dsimp only at h
        cases h
        exact X.jq [0, 0, 0, 0, 0, 0] ⟨rfl, rfl⟩ (by rfl) (by rfl)
    · replace h := ifF c119 h
      refine T.yes rfl (bn_t (decide_eq_false c119)) ?_
      cases h
      exact T.skip (X.jq [0, 0, 0, 0, 0, 0] ⟨rfl, rfl⟩ (by rfl) (by rfl))
  · rintro _ _ ⟨rfl, rfl⟩
    clear h
    have h := hk118
    clear hk118
    try dsimp only at h
    refine X.blk (X.seq (T.seq (T.seq (T.region rfl ?_))))
    obtain ⟨⟨x176, st177⟩, hx178, h⟩ := Option.bind_eq_some_iff.1 h
    try dsimp only at h
    refine TL.run ft_prefix_ok [0] rfl rfl ?_
    refine TL.c5 rfl .u (.fn Try.call29 rfl) (gErr_spec g st117 _ hx178) (fun _ hs => (Src.triv _)) rfl ?_
    refine TL.run ft_prefix_ok [2] rfl rfl ?_
    by_cases c179 : x176 = 0
    · replace h := ifT c179 h
      refine TL.nil (X.seq ?_)
      refine T.no rfl (bn_f (decide_eq_true c179)) ?_
      refine T.skip (X.seq (T.seq (T.region rfl ?_)))
      refine TL.q rfl .u (Ex.bS (us := [.int .i64 x6, .int .i64 x10, .int .i64 x14, .int .i64 (Go.bits .and .i64 x22 4294967295), .int .i64 x26, .int .i64 x30, .int .i64 x34, .int .i64 x38, .int .i64 x42, .int .i64 x46, .int .i64 x50, .int .i64 x54]) 3 rfl Try.isAgg38 Try.sizeOf38 rfl rfl rfl) rfl ?_
      refine TL.st4 (cs' := #[.int .i64 x6, .int .i64 x10, .int .i64 x14, .int .i64 (Go.bits .and .i64 x22 4294967295), .int .i64 x26, .int .i64 x30, .int .i64 x34, .int .i64 x38, .int .i64 x42, .int .i64 x46, .int .i64 x50, .int .i64 x54]) rfl .u rfl rfl Try.sizeOf38 rfl rfl rfl rfl ?_
      obtain rfl := Option.some.inj h
      exact TL.nil (X.seq (T.ret (X.done1 [5] Try.results28 (RV.cS (us := #[.int .i64 x6, .int .i64 x10, .int .i64 x14, .int .i64 (Go.bits .and .i64 x22 4294967295), .int .i64 x26, .int .i64 x30, .int .i64 x34, .int .i64 x38, .int .i64 x42, .int .i64 x46, .int .i64 x50, .int .i64 x54]) 4 rfl Try.isAgg38 Try.sizeOf38 rfl rfl) ⟨rfl, rfl, rfl⟩ (by rfl) (.inl rfl))))
    · replace h := ifF c179 h
      refine TL.nil (X.seq ?_)
      refine T.yes rfl (bn_t (decide_eq_false c179)) ?_
      refine T.seq (T.region rfl ?_)
      refine TL.q rfl .u (Ex.bld (cells := #[.int .i64 0, .int .i64 0, .int .i64 0, .int .i64 0, .int .i64 0, .int .i64 0, .int .i64 0, .int .i64 0, .int .i64 0, .int .i64 0, .int .i64 0, .int .i64 0]) bok_prefix_38 rfl (by kernel_rfl)) rfl ?_
      refine TL.st4 (cs' := #[.int .i64 0, .int .i64 0, .int .i64 0, .int .i64 0, .int .i64 0, .int .i64 0, .int .i64 0, .int .i64 0, .int .i64 0, .int .i64 0, .int .i64 0, .int .i64 0]) rfl .u rfl rfl Try.sizeOf38 rfl rfl rfl rfl ?_
      obtain rfl := Option.some.inj h
      exact TL.nil (X.seq (T.ret (X.rs (X.done1 [5] Try.results28 (RV.cS (us := #[.int .i64 0, .int .i64 0, .int .i64 0, .int .i64 0, .int .i64 0, .int .i64 0, .int .i64 0, .int .i64 0, .int .i64 0, .int .i64 0, .int .i64 0, .int .i64 0]) 4 rfl Try.isAgg38 Try.sizeOf38 rfl rfl) ⟨rfl, rfl, rfl⟩ (by rfl) (.inl rfl)))))
def f_prefix_Peek (a0 : List UInt8) : Option (Int × Int) := if (a0.length : Int) < 61 then some (0, 0) else (if 61 ≤ a0.length then ((gNew (a0.take 61)).bind fun st3 => (f_prefix_Read st3).bind fun (x6, st7) => (gErr st7).bind fun (x10, st11) => if x10 = 0 then (if -9223372036854775808 ≤ (x6.fLength + 12) ∧ (x6.fLength + 12) ≤ 9223372036854775807 then (some ((x6.fLength + 12), 0)) else none) else some (0, x10)) else none)
set_option maxRecDepth 100000 in
set_option maxHeartbeats 4000000 in
theorem f_prefix_Peek_spec (a0 : List UInt8) (r : Int × Int) (h : f_prefix_Peek a0 = some r) : SpecX Try.prog 32 #[.string (bsOf a0)] .triv (EmpR) (fun v A' N => v = .tuple #[.int .i64 r.1, .int .i64 r.2] ∧ A' = EmpR ∧ N = []) := by
  refine enterA Try.func32 rfl Try.ntmps32 rfl ?_
  intro F w hX
  unfold f_prefix_Peek at h
  refine T.seq (T.region rfl ?_)
  refine TL.run ft_prefix_ok [0, 1] rfl rfl ?_
  refine TL.nil (X.seq (T.seq (T.seq (T.region rfl ?_))))
  refine TL.run ft_prefix_ok [0] rfl rfl ?_
  refine TL.q rfl .u (Ex.lenB rfl Try.runUnderlying9) rfl ?_
  refine TL.run ft_prefix_ok [2] rfl rfl ?_
  by_cases c1 : (a0.length : Int) < 61
  · replace h := ifT c1 h
    refine TL.nil (X.seq ?_)
    refine T.yes rfl (decide_eq_true c1) ?_
    refine T.seq (T.region rfl ?_)
    refine TL.run ft_prefix_ok [0, 1] rfl rfl ?_
    obtain rfl := Option.some.inj h
    exact TL.nil (X.seq (T.ret (X.rs (X.done2 [0] Try.results32 (RV.tm rfl) (RV.tm rfl) ⟨rfl, rfl, rfl⟩ (by rfl) (.inl rfl)))))
  · replace h := ifF c1 h
    refine TL.nil (X.seq ?_)
    refine T.no rfl (decide_eq_false c1) ?_
    refine T.skip (X.seq (T.seq (T.region rfl ?_)))
    replace h := guard_some h
    obtain ⟨c2, h⟩ := h
    refine TL.run ft_prefix_ok [0] rfl rfl ?_
    replace c2 : 61 ≤ a0.length := c2
    refine TL.q rfl .u (Ex.sSl (p := 0) (q := 61) (m := (a0.take 61)) rfl Try.runUnderlying9 .none (.some rfl rfl) (by first | omega | (dsimp only; omega)) (by simp)) rfl ?_
    obtain ⟨st3, hx4, h⟩ := Option.bind_eq_some_iff.1 h
    refine TL.cge rfl .u (.fn Try.call27 rfl) (gNew_spec (a0.take 61) _ hx4) (fun _ hs => (RX.reads_triv _ _)) rfl ?_
    rintro _ _ _ ⟨b5, rfl, rfl, rfl⟩
    refine TL.sel [0, 0] rfl ?_
    refine TL.run ft_prefix_ok [3] rfl rfl ?_
    refine TL.nil (X.seq (T.seq (T.region rfl ?_)))
    obtain ⟨⟨x6, st7⟩, hx8, h⟩ := Option.bind_eq_some_iff.1 h
    try dsimp only at h
    refine TL.run ft_prefix_ok [0] rfl rfl ?_
    refine TL.c0 rfl .u (.fn Try.call28 rfl) (f_prefix_Read_spec b5 st3 _ hx8) (fun _ hs => (Src.triv _)) rfl ?_
    refine TL.alloc rfl .u Try.zeroValue38 rfl (fun b9 => ?_)
    refine TL.st0 (cs' := #[.int .i64 x6.fBase, .int .i64 x6.fLength, .int .i64 x6.fLeader, .int .i64 x6.fSum, .int .i64 x6.fAttr, .int .i64 x6.fLast, .int .i64 x6.fFirst, .int .i64 x6.fMax, .int .i64 x6.fProducer, .int .i64 x6.fEpoch, .int .i64 x6.fSequence, .int .i64 x6.fCount]) rfl .u rfl rfl Try.sizeOf38 rfl rfl rfl rfl ?_
    refine TL.nil (X.seq (T.seq (T.seq (T.region rfl ?_))))
    obtain ⟨⟨x10, st11⟩, hx12, h⟩ := Option.bind_eq_some_iff.1 h
    try dsimp only at h
    refine TL.run ft_prefix_ok [0] rfl rfl ?_
    refine TL.c1 rfl .u (.fn Try.call29 rfl) (gErr_spec b5 st7 _ hx12) (fun _ hs => (Src.triv _)) rfl ?_
    refine TL.run ft_prefix_ok [2] rfl rfl ?_
    refine TL.nil (X.seq (T.seq (T.region rfl ?_)))
    refine TL.run ft_prefix_ok [0, 1] rfl rfl ?_
    by_cases c13 : x10 = 0
    · replace h := ifT c13 h
      refine TL.nil (X.seq ?_)
      refine T.no rfl (bn_f (decide_eq_true c13)) ?_
      refine T.skip (X.seq (T.seq (T.region rfl ?_)))
      refine TL.run ft_prefix_ok [0] rfl rfl ?_
      refine TL.q rfl .u (Ex.b1 0 rfl Try.isAgg3 rfl rfl) rfl ?_
      replace h := guard_some h
      obtain ⟨c14, h⟩ := h
      refine TL.q rfl .u (Ex.add rfl rfl c14) rfl ?_
      refine TL.run ft_prefix_ok [3, 4] rfl rfl ?_
      obtain rfl := Option.some.inj h
      exact TL.nil (X.seq (T.ret (X.done2 [2] Try.results32 (RV.tm rfl) (RV.tm rfl) ⟨rfl, rfl, rfl⟩ (by rfl) (.inl rfl))))
    · replace h := ifF c13 h
      refine TL.nil (X.seq ?_)
      refine T.yes rfl (bn_t (decide_eq_false c13)) ?_
      refine T.seq (T.region rfl ?_)
      refine TL.run ft_prefix_ok [0, 1, 2] rfl rfl ?_
      obtain rfl := Option.some.inj h
      exact TL.nil (X.seq (T.ret (X.rs (X.done2 [2] Try.results32 (RV.tm rfl) (RV.tm rfl) ⟨rfl, rfl, rfl⟩ (by rfl) (.inl rfl)))))
end Go.Proofs.Ytpiiopppbgpbpaa.Sl
namespace Go.Proofs.Ytpiiopppbgpbpaa.Sl
open Go.RowKit
set_option linter.unusedVariables false
set_option linter.unusedSimpArgs false
theorem Pr.bind_assoc {α β γ : Type} (p : Pr α) (f : α → Pr β) (g : β → Pr γ) : (p.bind f).bind g = p.bind fun a => (f a).bind g := by
  funext s q
  unfold Pr.bind
  cases p s q with
  | error e => rfl
  | ok x => rfl
theorem Pr.ret_bind {α β : Type} (a : α) (f : α → Pr β) : (Pr.ret a).bind f = f a := by
  funext s q
  rfl
def pInts : List Nat → Pr (List Int)
  | [] => .ret []
  | k :: ks => (pInt k).bind fun a => (pInts ks).bind fun l => .ret (a :: l)
def encI : List Nat → List Int → List UInt8
  | k :: ks, x :: xs => be x k ++ encI ks xs
  | _, _ => []
def okI : List Nat → List Int → Prop
  | [], [] => True
  | k :: ks, x :: xs => fits x k = true ∧ okI ks xs
  | _, _ => False
theorem Sp_ints : ∀ ks : List Nat, (∀ k, k ∈ ks → 1 ≤ k ∧ k ≤ 8) → Sp (pInts ks) (encI ks) (okI ks)
  | [], _ => by
    refine ⟨fun s q l r hq h => ?_, fun s t q l hq hl hd => ?_⟩
    · injection h with h
      obtain ⟨rfl, rfl⟩ := Prod.mk.inj h
      exact ⟨Nat.le_refl _, hq, rfl, by simp [encI], trivial⟩
    · cases l with
      | nil => rfl
      | cons x xs => exact nomatch hl
  | k :: ks, hk => by
    have hp := Sp_int k (hk k (List.mem_cons_self ..)).1 (hk k (List.mem_cons_self ..)).2
    have ih := Sp_ints ks (fun j hj => hk j (List.mem_cons_of_mem _ hj))
    refine ⟨fun s q l r hq h => ?_, fun s t q l hq hl hd => ?_⟩
    · obtain ⟨a, m, h1, h2⟩ := Pr.bind_ok h
      obtain ⟨xs, m2, h3, h4⟩ := Pr.bind_ok h2
      injection h4 with h4
      obtain ⟨rfl, rfl⟩ := Prod.mk.inj h4
      obtain ⟨a1, a2, a3, a4, a5⟩ := hp.spell s q a m hq h1
      obtain ⟨b1, b2, b3, b4, b5⟩ := ih.spell s m xs m2 a2 h3
      exact ⟨by omega, b2, by simp only [encI, List.length_append]; omega, by rw [b4, a4, encI, List.append_assoc], a5, b5⟩
    · cases l with
      | nil => exact nomatch hl
      | cons x xs =>
        rw [encI, List.append_assoc] at hd
        have h1 := hp.back s _ q x hq hl.1 hd
        have hl2 := congrArg List.length hd
        rw [List.length_drop, List.length_append] at hl2
        have h2 := ih.back s t _ xs (by omega) hl.2 (drop_step hd)
        rw [pInts, Pr.bind_of h1, Pr.bind_of h2, encI, List.length_append, ← Nat.add_assoc]
        rfl
def KS : List Nat := [8, 4, 4, 1, 4, 2, 4, 8, 8, 8, 2, 4, 4]
theorem KS_ok : ∀ k, k ∈ KS → 1 ≤ k ∧ k ≤ 8 := by decide
def s32 (n : Int) : Int := if n > 2147483647 then n - 4294967296 else n
def toL (p : Pfx) : List Int := [p.fBase, p.fLength, p.fLeader, 2, s32 p.fSum, p.fAttr, p.fLast, p.fFirst, p.fMax, p.fProducer, p.fEpoch, p.fSequence, p.fCount]
def ckE (b m ct : Int) : Int := if m = 2 then (if b < 49 then 4 else if ct < 0 then 10 else 0) else 6
def chkP : List Int → Pr Pfx
  | [a, b, c, m, s, at', la, fi, mx, pr, ep, sq, ct] => if ckE b m ct = 0 then .ret ⟨a, b, c, s % 4294967296, at', la, fi, mx, pr, ep, sq, ct⟩ else .err (ckE b m ct)
  | _ => .err 1
def pPfx : Pr Pfx := (pInts KS).bind chkP
def encP (p : Pfx) : List UInt8 := encI KS (toL p)
def okP (p : Pfx) : Prop := okI KS (toL p) ∧ (0 ≤ p.fSum ∧ p.fSum ≤ 4294967295) ∧ 49 ≤ p.fLength ∧ 0 ≤ p.fCount
theorem okI_len : ∀ {ks : List Nat} {l : List Int}, okI ks l → l.length = ks.length
  | [], [], _ => rfl
  | k :: ks, x :: xs, h => by rw [List.length_cons, List.length_cons, okI_len h.2]
  | [], _ :: _, h => nomatch h
  | _ :: _, [], h => nomatch h
theorem encI_len : ∀ {ks : List Nat} {l : List Int}, okI ks l → (encI ks l).length = ks.sum
  | [], [], _ => rfl
  | k :: ks, x :: xs, h => by rw [encI, List.length_append, be_length, encI_len h.2, List.sum_cons]
  | [], _ :: _, h => nomatch h
  | _ :: _, [], h => nomatch h
theorem len13 {l : List Int} (h : l.length = 13) : ∃ a b c m s t la fi mx pr ep sq ct, l = [a, b, c, m, s, t, la, fi, mx, pr, ep, sq, ct] := by
  match l, h with
  | [a, b, c, m, s, t, la, fi, mx, pr, ep, sq, ct], _ => exact ⟨a, b, c, m, s, t, la, fi, mx, pr, ep, sq, ct, rfl⟩
theorem s32_back {s : Int} (h : fits s 4 = true) : s32 (s % 4294967296) = s := by
  rw [fits_4] at h
  have := of_decide_eq_true h
  unfold s32
  split <;> omega
theorem s32_mod {s : Int} (h : 0 ≤ s ∧ s ≤ 4294967295) : s32 s % 4294967296 = s := by
  unfold s32
  split <;> omega
theorem ckE_zero {b m ct : Int} (h : ckE b m ct = 0) : m = 2 ∧ 49 ≤ b ∧ 0 ≤ ct := by
  unfold ckE at h
  by_cases h1 : m = 2
  · rw [if_pos h1] at h
    by_cases h2 : b < 49
    · rw [if_pos h2] at h; cases h
    · rw [if_neg h2] at h
      by_cases h3 : ct < 0
      · rw [if_pos h3] at h; cases h
      · exact ⟨h1, by omega, by omega⟩
  · rw [if_neg h1] at h; cases h
theorem ckE_of {b ct : Int} (h1 : 49 ≤ b) (h2 : 0 ≤ ct) : ckE b 2 ct = 0 := by
  unfold ckE
  rw [if_pos rfl, if_neg (by omega), if_neg (by omega)]
theorem Sp_pfx : Sp pPfx encP okP := by
  refine ⟨fun s q p r hq h => ?_, fun s t q p hq hp hd => ?_⟩
  · obtain ⟨l, m, h1, h2⟩ := Pr.bind_ok h
    obtain ⟨a1, a2, a3, a4, a5⟩ := (Sp_ints KS KS_ok).spell s q l m hq h1
    obtain ⟨a, b, c, mg, sm, t, la, fi, mx, pr, ep, sq, ct, rfl⟩ := len13 (okI_len a5)
    have hs : fits sm 4 = true := a5.2.2.2.2.1
    unfold chkP at h2
    dsimp only at h2
    by_cases hc : ckE b mg ct = 0
    · rw [if_pos hc] at h2
      injection h2 with h2
      obtain ⟨rfl, rfl⟩ := Prod.mk.inj h2
      obtain ⟨rfl, c2, c3⟩ := ckE_zero hc
      have e : toL ⟨a, b, c, sm % 4294967296, t, la, fi, mx, pr, ep, sq, ct⟩ = [a, b, c, 2, sm, t, la, fi, mx, pr, ep, sq, ct] := by
        unfold toL
        rw [s32_back hs]
      unfold encP okP
      rw [e]
      exact ⟨a1, a2, a3, a4, a5, by show 0 ≤ sm % 4294967296 ∧ sm % 4294967296 ≤ 4294967295; omega, c2, c3⟩
    · rw [if_neg hc] at h2
      exact nomatch h2
  · have h1 := (Sp_ints KS KS_ok).back s t q (toL p) hq hp.1 hd
    rw [pPfx, Pr.bind_of h1]
    unfold toL chkP
    dsimp only
    rw [if_pos (ckE_of hp.2.2.1 hp.2.2.2), s32_mod hp.2.1]
    rfl
theorem and32 (n : Int) : Go.bits .and .i64 n 4294967295 = n % 4294967296 := by
  rw [show (4294967295 : Int) = ((4294967295 : Nat) : Int) from rfl, and_nat n _ (by decide), show (4294967295 : Nat) = 2 ^ 32 - 1 from rfl, Nat.and_two_pow_sub_one_eq_mod]
  omega
def zP : Pfx := ⟨0, 0, 0, 0, 0, 0, 0, 0, 0, 0, 0, 0⟩
def tailP (a b c m s t la fi mx pr ep sq ct : Int) (st : I) : Option (Pfx × I) := (gErr st).bind fun (x57, st58) => (if x57 = 0 then ((if m = 2 then ((if b < 49 then ((gIFail st58 4).bind fun st164 => some st164) else ((if ct < 0 then ((gIFail st58 10).bind fun st172 => some st172) else some st58).bind fun st169 => some st169)).bind fun st161 => some st161) else ((gIFail st58 6).bind fun st174 => some st174)).bind fun st147 => some st147) else some st58).bind fun st117 => (gErr st117).bind fun (x176, st177) => if x176 = 0 then (some ((⟨a, b, c, (Go.bits .and .i64 s 4294967295), t, la, fi, mx, pr, ep, sq, ct⟩ : Pfx), st177)) else (some ((⟨0, 0, 0, 0, 0, 0, 0, 0, 0, 0, 0, 0⟩ : Pfx), st177))
theorem B_tail (a b c m s t la fi mx pr ep sq ct : Int) : CB (tailP a b c m s t la fi mx pr ep sq ct) (chkP [a, b, c, m, s, t, la, fi, mx, pr, ep, sq, ct]) zP := by
  refine CB_chk (fun st h => ?_) (fun st h => ?_)
  · unfold tailP
    rw [gErr_eq, Option.bind_some]
    dsimp only
    rw [if_neg h, Option.bind_some, gErr_eq, Option.bind_some]
    dsimp only
    rw [if_neg h]
    rfl
  · obtain ⟨l, q, e⟩ := st
    obtain rfl : e = 0 := h
    unfold tailP ckE
    rw [gErr_eq, Option.bind_some]
    dsimp only
    rw [if_pos rfl, and32]
    by_cases h1 : m = 2
    · rw [if_pos h1, if_pos h1]
      by_cases h2 : b < 49
      · rw [if_pos h2, if_pos h2, if_neg (by decide)]; rfl
      · rw [if_neg h2, if_neg h2]
        by_cases h3 : ct < 0
        · rw [if_pos h3, if_pos h3, if_neg (by decide)]; rfl
        · rw [if_neg h3, if_neg h3, if_pos rfl]; rfl
    · rw [if_neg h1, if_neg h1, if_neg (by decide)]; rfl
theorem B_pfx : CB (fun st => f_prefix_Read st) pPfx zP := by
  have w : ∀ {p : Pr Int} (s : List UInt8) (q : Nat) (a : Int) (r : Nat), s.length ≤ 1000000 → q ≤ s.length → p s q = .ok (a, r) → (fun _ : Int => True) a := fun _ _ _ _ _ _ _ => trivial
  have h := CB.bind (fun _ => True) Q8.cb w trivial fun a _ => CB.bind (fun _ => True) Q4.cb w trivial fun b _ => CB.bind (fun _ => True) Q4.cb w trivial fun c _ => CB.bind (fun _ => True) Q1.cb w trivial fun m _ => CB.bind (fun _ => True) Q4.cb w trivial fun s _ =>
    CB.bind (fun _ => True) Q2.cb w trivial fun t _ => CB.bind (fun _ => True) Q4.cb w trivial fun la _ => CB.bind (fun _ => True) Q8.cb w trivial fun fi _ => CB.bind (fun _ => True) Q8.cb w trivial fun mx _ => CB.bind (fun _ => True) Q8.cb w trivial fun pr _ =>
    CB.bind (fun _ => True) Q2.cb w trivial fun ep _ => CB.bind (fun _ => True) Q4.cb w trivial fun sq _ => CB.bind (fun _ => True) Q4.cb w trivial fun ct _ => B_tail a b c m s t la fi mx pr ep sq ct
  refine (h.congr (fun st => rfl)).pr ?_
  unfold pPfx KS
  simp only [pInts, Pr.bind_assoc, Pr.ret_bind]
end Go.Proofs.Ytpiiopppbgpbpaa.Sl
namespace Go.Proofs.Ytpiiopppbgpbpaa.Sl
open Go.RowKit
set_option linter.unusedVariables false
set_option linter.unusedSimpArgs false
def r64 (n : Int) : Prop := -9223372036854775808 ≤ n ∧ n ≤ 9223372036854775807
def wrI : List Nat → List Int → List UInt8 × Int → Option (List UInt8 × Int)
  | k :: ks, x :: xs, st => (gOInt st x (k : Int)).bind fun st => wrI ks xs st
  | _, _, st => some st
theorem wrI_dead : ∀ (ks : List Nat) (l : List Int) (st : List UInt8 × Int), st.2 ≠ 0 → (∀ x, x ∈ l → r64 x) → st.1.length ≤ 1000000 → wrI ks l st = some st
  | [], _, _, _, _, _ => by unfold wrI; rfl
  | _ :: _, [], _, _, _, _ => by unfold wrI; rfl
  | k :: ks, x :: xs, st, h, hx, hl => by
    rw [wrI, gOInt_d h (hx x (List.mem_cons_self ..)) (by omega), Option.bind_some]
    exact wrI_dead ks xs st h (fun y hy => hx y (List.mem_cons_of_mem _ hy)) hl
theorem wrI_ok : ∀ (ks : List Nat) (l : List Int) (t : List UInt8), okI ks l → t.length + ks.sum ≤ 1000000 → wrI ks l (t, 0) = some (t ++ encI ks l, 0)
  | [], [], t, _, _ => by unfold wrI encI; rw [List.append_nil]
  | [], _ :: _, _, h, _ => nomatch h
  | _ :: _, [], _, h, _ => nomatch h
  | k :: ks, x :: xs, t, h, hl => by
    rw [List.sum_cons] at hl
    rw [wrI, gOInt_z h.1 (by omega), Option.bind_some, Int.toNat_natCast, wrI_ok ks xs _ h.2 (by rw [List.length_append, be_length]; omega), encI, List.append_assoc]
theorem wrI_no : ∀ (ks : List Nat) (l : List Int) (t : List UInt8), ks.length = l.length → ¬ okI ks l → (∀ x, x ∈ l → r64 x) → t.length + ks.sum ≤ 1000000 → ∃ t', wrI ks l (t, 0) = some (t', 11)
  | [], [], t, _, h, _, _ => absurd trivial h
  | [], _ :: _, _, hl, _, _, _ => nomatch hl
  | _ :: _, [], _, hl, _, _, _ => nomatch hl
  | k :: ks, x :: xs, t, hl, h, hx, hb => by
    rw [List.sum_cons] at hb
    have hx1 := hx x (List.mem_cons_self ..)
    by_cases hf : fits x k = true
    · rw [wrI, gOInt_z hf (by omega), Option.bind_some, Int.toNat_natCast]
      exact wrI_no ks xs _ (by simpa using hl) (fun h2 => h ⟨hf, h2⟩) (fun y hy => hx y (List.mem_cons_of_mem _ hy)) (by rw [List.length_append, be_length]; omega)
    · rw [wrI, gOInt_no (by simpa using hf) hx1 (by omega), Option.bind_some]
      exact ⟨t, wrI_dead ks xs (t, 11) (show (11 : Int) ≠ 0 by decide) (fun y hy => hx y (List.mem_cons_of_mem _ hy)) (by show t.length ≤ _; omega)⟩
def w32 (n : Int) : Int := IntKind.i32.wrap (IntKind.u32.wrap n)
theorem w32_rng (n : Int) : -2147483648 ≤ w32 n ∧ w32 n ≤ 2147483647 := by
  unfold w32
  rw [IntKind.wrap_i32]
  omega
theorem w32_s {n : Int} (h : 0 ≤ n ∧ n ≤ 4294967295) : w32 n = s32 n := by
  unfold w32 s32
  rw [IntKind.wrap_i32, IntKind.wrap_u32]
  split <;> omega
def toW (p : Pfx) : List Int := [p.fBase, p.fLength, p.fLeader, 2, w32 p.fSum, p.fAttr, p.fLast, p.fFirst, p.fMax, p.fProducer, p.fEpoch, p.fSequence, p.fCount]
def wP (p : Pfx) : Prop := r64 p.fBase ∧ r64 p.fLength ∧ r64 p.fLeader ∧ r64 p.fSum ∧ r64 p.fAttr ∧ r64 p.fLast ∧ r64 p.fFirst ∧ r64 p.fMax ∧ r64 p.fProducer ∧ r64 p.fEpoch ∧ r64 p.fSequence ∧ r64 p.fCount
theorem toW_rng {p : Pfx} (h : wP p) : ∀ x, x ∈ toW p → r64 x := by
  obtain ⟨h1, h2, h3, h4, h5, h6, h7, h8, h9, h10, h11, h12⟩ := h
  have hw := w32_rng p.fSum
  intro x hx
  simp only [toW, List.mem_cons, List.not_mem_nil, or_false] at hx
  rcases hx with rfl | rfl | rfl | rfl | rfl | rfl | rfl | rfl | rfl | rfl | rfl | rfl | rfl
  all_goals first | assumption | exact ⟨by omega, by omega⟩
theorem write_eq (st : List UInt8 × Int) (p : Pfx) : f_prefix_Write st p = wrI KS (toW p) (if p.fSum < 0 ∨ p.fSum > 4294967295 then ofail st 11 else st) := by
  have hw := w32_rng p.fSum
  unfold f_prefix_Write
  have e : ((if p.fSum < 0 then some true else (if p.fSum > 4294967295 then some true else some false)).bind fun y4 => (if y4 = true then ((gOFail st 11).bind fun st14 => some st14) else some st)) = some (if p.fSum < 0 ∨ p.fSum > 4294967295 then ofail st 11 else st) := by
    by_cases h1 : p.fSum < 0
    · rw [if_pos h1, Option.bind_some, if_pos rfl, if_pos (.inl h1)]; rfl
    · rw [if_neg h1]
      by_cases h2 : p.fSum > 4294967295
      · rw [if_pos h2, Option.bind_some, if_pos rfl, if_pos (.inr h2)]; rfl
      · rw [if_neg h2, Option.bind_some, if_neg (by decide), if_neg (by omega)]
  have e2 : ∀ (K : List UInt8 × Int → Option (List UInt8 × Int)), ((if p.fSum < 0 then some true else (if p.fSum > 4294967295 then some true else some false)).bind fun y4 => (if y4 = true then ((gOFail st 11).bind fun st14 => some st14) else some st).bind K) = K (if p.fSum < 0 ∨ p.fSum > 4294967295 then ofail st 11 else st) := by
    intro K
    rw [← Option.bind_assoc, e, Option.bind_some]
  rw [e2]
  show (if -9223372036854775808 ≤ w32 p.fSum ∧ w32 p.fSum ≤ 9223372036854775807 then _ else _) = _
  rw [if_pos (by omega)]
  rfl
def okW (p : Pfx) : Prop := okI KS (toL p) ∧ 0 ≤ p.fSum ∧ p.fSum ≤ 4294967295
theorem encP_len {p : Pfx} (h : okI KS (toL p)) : (encP p).length = 61 := by
  unfold encP
  rw [encI_len h]
  rfl
theorem write_ok {p : Pfx} (t : List UInt8) (h : okW p) (ht : t.length ≤ 900000) : f_prefix_Write (t, 0) p = some (t ++ encP p, 0) := by
  have e : toW p = toL p := by
    unfold toW toL
    rw [w32_s h.2]
  have h2 := h.2
  rw [write_eq, if_neg (by omega), e]
  exact wrI_ok KS (toL p) t h.1 (by show t.length + 61 ≤ _; omega)
theorem write_no {p : Pfx} (h : ¬ okW p) (hw : wP p) : ∃ t, f_prefix_Write ([], 0) p = some (t, 11) := by
  rw [write_eq]
  by_cases h1 : p.fSum < 0 ∨ p.fSum > 4294967295
  · rw [if_pos h1, ofail_z]
    exact ⟨[], wrI_dead _ _ _ (by decide) (toW_rng hw) (by decide)⟩
  · have h2 : 0 ≤ p.fSum ∧ p.fSum ≤ 4294967295 := by omega
    have e : toW p = toL p := by
      unfold toW toL
      rw [w32_s h2]
    rw [if_neg h1]
    have h3 := wrI_no KS (toL p) [] rfl (fun h3 => h ⟨h3, h2⟩) (by rw [← e]; exact toW_rng hw) (by decide)
    rw [← e] at h3
    exact h3
end Go.Proofs.Ytpiiopppbgpbpaa.Sl
namespace Go.Proofs.Ytpiiopppbgpbpaa.Sl
open Go.RowKit Go.Deep Go.ChangeShapes
set_option linter.unusedVariables false
def andRd {α : Type} (E : Rd α) (W : α → Prop) : Rd α := ⟨fun w S cs a => E.P w S cs a ∧ W a, fun h k => ⟨E.mono h.1 k, h.2⟩, fun h k => ⟨E.move h.1 k, h.2⟩⟩
section
variable {H : Type} (enc : TypeId × Value → H) (P : Program) {α β : Type}
def OpensW (t : TypeId) (E : Rd α) : Prop :=
  ∀ (w : World) (fuel : Nat) (cs : List Value) (x : DataW H × List MemPlace), DataW.trod enc P w 0 (fun _ => true) true fuel t cs = some x → (∀ m, m ∈ x.1.weights P t → m ≤ reachBytes) → ∃ a, E.P w (fun k => k < w.heap.size) cs a
def OpensWFs (off : Nat) (fs : List Field) (n : Nat) (E : Rd α) : Prop :=
  ∀ (w : World) (fuel : Nat) (cs : List Value) (xs : List (DataW H × List MemPlace)), cs.length = off + n → xs.length = fs.length →
    (∀ (i : Nat) (f : Field), fs[i]? = some f → DataW.trod enc P w 0 (fun _ => true) true fuel f.type ((cs.drop f.offset).take (P.cellsOf f.type)) = xs[i]?) →
    (∀ m, m ∈ DataW.weightsEach P (fs.map (·.type)) (xs.map (·.1)) → m ≤ reachBytes) → ∃ a, E.P w (fun k => k < w.heap.size) (cs.drop off) a
variable {enc P}
theorem opensW_weak {t : TypeId} {E : Rd α} {E' : Rd β} (f : α → β) (h : OpensW enc P t E) (hf : ∀ w S cs a, E.P w S cs a → E'.P w S cs (f a)) : OpensW enc P t E' := by
  intro w fuel cs x hx hw
  obtain ⟨a, ha⟩ := h w fuel cs x hx hw
  exact ⟨f a, hf _ _ _ _ ha⟩
theorem opensW_of {t : TypeId} {E : Rd α} {E' : Rd β} (f : α → β) (h : Opens enc P t E) (hf : ∀ w S cs a, E.P w S cs a → E'.P w S cs (f a)) : OpensW enc P t E' := by
  intro w fuel cs x hx hw
  obtain ⟨a, ha⟩ := h w fuel cs x hx
  exact ⟨f a, hf _ _ _ _ ha⟩
def wI (n : Int) : Prop := -9223372036854775808 ≤ n ∧ n ≤ 9223372036854775807
def wB (_ : Bool) : Prop := True
theorem op_i64 {t : TypeId} (ht : P.underlying t = some (.int .i64)) : OpensW enc P t (andRd intE wI) := opensW_of id (opens_int ht) (fun w S cs a h => ⟨h.1, Go.bounds_i64 h.2⟩)
theorem op_bool {t : TypeId} (ht : P.underlying t = some .bool) : OpensW enc P t (andRd boolE wB) := opensW_of id (opens_bool ht) (fun w S cs a h => ⟨h, trivial⟩)
theorem weightsAll_mem {e : TypeId} {l : List (DataW H)} {d : DataW H} {m : Nat} (hd : d ∈ l) (hm : m ∈ d.weights P e) : m ∈ DataW.weightsAll P e l := by
  induction l with
  | nil => simp at hd
  | cons x l ih =>
    simp only [DataW.weightsAll, List.mem_append]
    rcases List.mem_cons.1 hd with rfl | h
    · exact .inl hm
    · exact .inr (ih h)
theorem opensWFs_nil (off : Nat) : OpensWFs enc P off [] 0 unitRd := by
  intro w fuel cs xs hl _ _ _
  exact ⟨(), List.drop_of_length_le (by omega)⟩
theorem opensWFs_cons {off n : Nat} (m : Nat) {f : Field} {fs : List Field} {A : Rd α} {B : Rd β} (ho : f.offset = off) (hc : P.cellsOf f.type = m) (hA : OpensW enc P f.type A) (hB : OpensWFs enc P (off + m) fs n B) :
    OpensWFs enc P off (f :: fs) (m + n) (pairRd A B) := by
  intro w fuel cs xs hl hx h hw
  cases xs with
  | nil => simp at hx
  | cons x xs =>
    have h0 := h 0 f rfl
    rw [ho, hc] at h0
    simp only [List.map_cons, DataW.weightsEach, List.mem_append] at hw
    obtain ⟨a, ha⟩ := hA _ _ _ _ h0 (fun m hm => hw m (.inl hm))
    obtain ⟨b, hb⟩ := hB w fuel cs xs (by omega) (by simpa using hx) (fun i f' hf => by simpa using h (i + 1) f' (by simpa using hf)) (fun m hm => hw m (.inr hm))
    refine ⟨(a, b), (cs.drop off).take m, cs.drop (off + m), ?_, ha, hb⟩
    rw [← List.drop_drop, List.take_append_drop]
theorem opensW_struct {t : TypeId} {fs : Array Field} {n : Nat} {E : Rd α} (ht : P.underlying t = some (.struct fs)) (hc : P.cellsOf t = n) (h : OpensWFs enc P 0 fs.toList n E) : OpensW enc P t E := by
  intro w fuel cs x hx hw
  obtain ⟨xs, k, rfl, rfl, hl, hxl, hf⟩ := DataW.trod_struct ht hx
  simp only [DataW.weights, ht] at hw
  obtain ⟨a, ha⟩ := h w k cs xs (by omega) (by simpa using hxl) (fun i f hi => hf i f (by simpa using hi)) hw
  exact ⟨a, by simpa using ha⟩
theorem weights_in : ∀ {ts : List TypeId} {ds : List (DataW H)} (j : Nat) {t : TypeId} {d : DataW H} {m : Nat}, ts[j]? = some t → ds[j]? = some d → m ∈ d.weights P t → m ∈ DataW.weightsEach P ts ds
  | [], _, j, _, _, _, ht, _, _ => by simp at ht
  | _ :: _, [], j, _, _, _, _, hd, _ => by simp at hd
  | t :: ts, d :: ds, 0, _, _, _, ht, hd, hm => by
    obtain rfl : t = _ := by simpa using ht
    obtain rfl : d = _ := by simpa using hd
    simp only [DataW.weightsEach, List.mem_append]
    exact .inl hm
  | t :: ts, d :: ds, j + 1, _, _, _, ht, hd, hm => by
    simp only [DataW.weightsEach, List.mem_append]
    exact .inr (weights_in j (by simpa using ht) (by simpa using hd) hm)
theorem opens_arg2 {t : TypeId} {fs : Array Field} {E : Rd α} {r : Reach} {b0 : Nat} {w : World} {v : Value} {d : DataW H} {p : List MemPlace} (ht : P.underlying t = some (.struct fs)) (hval : Value.okWide P w r b0 t v) (h : OpensW enc P t E)
    (hv : DataW.Trod enc P w 0 (fun _ => true) true t v d p) (hw : ∀ m, m ∈ d.weights P t → m ≤ reachBytes) : ∃ a cs, v = .agg cs ∧ E.P w (fun k => k < w.heap.size) cs.toList a := by
  obtain ⟨cs, rfl, _⟩ := Go.WideShapes.okWide_struct ht hval
  obtain ⟨fuel, hf⟩ := hv
  obtain ⟨a, ha⟩ := h _ _ _ _ hf hw
  exact ⟨a, cs, rfl, ha⟩
end
end Go.Proofs.Ytpiiopppbgpbpaa.Sl
namespace Go.Proofs.Ytpiiopppbgpbpaa.Sl
open Go.RowKit
set_option linter.unusedVariables false
def wf_Pfx (x : Pfx) : Prop := wI x.fBase ∧ wI x.fLength ∧ wI x.fLeader ∧ wI x.fSum ∧ wI x.fAttr ∧ wI x.fLast ∧ wI x.fFirst ∧ wI x.fMax ∧ wI x.fProducer ∧ wI x.fEpoch ∧ wI x.fSequence ∧ wI x.fCount
end Go.Proofs.Ytpiiopppbgpbpaa.Sl
namespace Go.Proofs.Ytpiiopppbgpbpaa.Sl
open Go.RowKit
set_option linter.unusedVariables false
set_option linter.unusedSimpArgs false
def vI (s : List UInt8) (q k : Nat) : Int := beInt ((s.drop q).take k)
def vals (s : List UInt8) : List Nat → Nat → List Int
  | [], _ => []
  | k :: ks, q => vI s q k :: vals s ks (q + k)
theorem pInts_at (s : List UInt8) : ∀ (ks : List Nat) (q : Nat), q + ks.sum ≤ s.length → pInts ks s q = .ok (vals s ks q, q + ks.sum)
  | [], q, _ => rfl
  | k :: ks, q, h => by
    rw [List.sum_cons] at h
    have h1 : pInt k s q = .ok (vI s q k, q + k) := by unfold pInt; rw [if_neg (by omega)]; rfl
    rw [pInts, Pr.bind_of h1, Pr.bind_of (pInts_at s ks (q + k) (by omega)), List.sum_cons, ← Nat.add_assoc]
    rfl
theorem vals_take (s : List UInt8) (n : Nat) : ∀ (ks : List Nat) (q : Nat), q + ks.sum ≤ n → vals (s.take n) ks q = vals s ks q
  | [], _, _ => rfl
  | k :: ks, q, h => by
    rw [List.sum_cons] at h
    unfold vals
    rw [vals_take s n ks (q + k) (by omega)]
    congr 1
    unfold vI
    rw [List.drop_take, List.take_take, Nat.min_eq_left (by omega)]
def pOf (s : List UInt8) : Pfx := ⟨vI s 0 8, vI s 8 4, vI s 12 4, vI s 17 4 % 4294967296, vI s 21 2, vI s 23 4, vI s 27 8, vI s 35 8, vI s 43 8, vI s 51 2, vI s 53 4, vI s 57 4⟩
def eOf (s : List UInt8) : Int := ckE (vI s 8 4) (vI s 16 1) (vI s 57 4)
theorem pPfx_at (s : List UInt8) (h : 61 ≤ s.length) : pPfx s 0 = if eOf s = 0 then .ok (pOf s, 61) else .error (eOf s) := by
  rw [pPfx, Pr.bind_of (pInts_at s KS 0 (by show 0 + 61 ≤ _; omega))]
  show (if eOf s = 0 then Pr.ret (pOf s) else Pr.err (eOf s)) s 61 = _
  by_cases he : eOf s = 0
  · rw [if_pos he, if_pos he]; rfl
  · rw [if_neg he, if_neg he]; rfl
theorem read_at (s : List UInt8) (h : 61 ≤ s.length) (hl : s.length ≤ 1000000) : (eOf s = 0 ∧ f_prefix_Read ⟨s, 0, 0⟩ = some (pOf s, ⟨s.drop 61, 61, 0⟩)) ∨ (eOf s ≠ 0 ∧ ∃ st : I, f_prefix_Read ⟨s, 0, 0⟩ = some (zP, st) ∧ st.err = eOf s) := by
  have h1 := pPfx_at s h
  rcases B_pfx.run s 0 hl (Nat.zero_le _) with ⟨e, st, p1, g1, x1, y1⟩ | ⟨b, r, p1, g1, n1, l1⟩
  · rw [p1] at h1
    by_cases he : eOf s = 0
    · rw [if_pos he] at h1; exact nomatch h1
    · rw [if_neg he] at h1
      injection h1 with h1
      exact .inr ⟨he, st, g1, by rw [x1, h1]⟩
  · rw [p1] at h1
    by_cases he : eOf s = 0
    · rw [if_pos he] at h1
      injection h1 with h1
      obtain ⟨rfl, rfl⟩ := Prod.mk.inj h1
      exact .inl ⟨he, g1⟩
    · rw [if_neg he] at h1; exact nomatch h1
theorem vals_fits (s : List UInt8) (h : 61 ≤ s.length) : okI KS (vals s KS 0) := ((Sp_ints KS KS_ok).spell s 0 _ _ (Nat.zero_le _) (pInts_at s KS 0 (by show 0 + 61 ≤ _; omega))).2.2.2.2
theorem peek_at (s : List UInt8) (h : 61 ≤ s.length) (hl : s.length ≤ 1000000) : f_prefix_Peek s = some (if eOf s = 0 then (vI s 8 4 + 12, 0) else (0, eOf s)) := by
  have hv := (vals_fits s h).2.1
  have hb : fits (vI s 8 4) 4 = true := hv
  rw [fits_4] at hb
  have hb := of_decide_eq_true hb
  have ht : (s.take 61).length = 61 := by rw [List.length_take]; omega
  have e0 := vals_take s 61 KS 0 (by decide)
  have e1 : pOf (s.take 61) = pOf s := by
    have := congrArg (fun l : List Int => (l[0]?, l[1]?, l[2]?, l[4]?, l[5]?, l[6]?, l[7]?, l[8]?, l[9]?, l[10]?, l[11]?, l[12]?)) e0
    simp only [vals, KS, List.getElem?_cons_zero, List.getElem?_cons_succ, Prod.mk.injEq, Option.some.injEq, Nat.zero_add, Nat.reduceAdd] at this
    obtain ⟨q1, q2, q3, q4, q5, q6, q7, q8, q9, q10, q11, q12⟩ := this
    unfold pOf
    rw [q1, q2, q3, q4, q5, q6, q7, q8, q9, q10, q11, q12]
  have e2 : eOf (s.take 61) = eOf s := by
    have := congrArg (fun l : List Int => (l[1]?, l[3]?, l[12]?)) e0
    simp only [vals, KS, List.getElem?_cons_zero, List.getElem?_cons_succ, Prod.mk.injEq, Option.some.injEq, Nat.zero_add, Nat.reduceAdd] at this
    obtain ⟨q1, q2, q3⟩ := this
    unfold eOf
    rw [q1, q2, q3]
  unfold f_prefix_Peek
  rw [if_neg (by omega), if_pos h, gNew_eq _ (by rw [ht]; decide), Option.bind_some]
  rcases read_at (s.take 61) (by omega) (by omega) with ⟨r1, r2⟩ | ⟨r1, st, r2, r3⟩
  · rw [r2, Option.bind_some]
    rw [e2] at r1
    dsimp only
    rw [gErr_eq, Option.bind_some]
    dsimp only
    rw [if_pos rfl, e1, if_pos r1]
    show (if -9223372036854775808 ≤ vI s 8 4 + 12 ∧ vI s 8 4 + 12 ≤ 9223372036854775807 then _ else _) = _
    rw [if_pos (by omega)]
    rfl
  · rw [r2, Option.bind_some]
    rw [e2] at r1 r3
    dsimp only
    rw [gErr_eq, Option.bind_some]
    dsimp only
    rw [r3, if_neg r1, if_neg r1]
end Go.Proofs.Ytpiiopppbgpbpaa.Sl
namespace Go.Proofs.Ytpiiopppbgpbpaa.Sl
open Go.RowKit
set_option linter.unusedVariables false
set_option linter.unusedSimpArgs false
theorem wrap_u32 (a : Nat) : IntKind.u32.wrap (a : Int) = ((a % 4294967296 : Nat) : Int) := by
  rw [IntKind.wrap_u32]; omega
theorem wrap_u8 (a : Nat) : IntKind.u8.wrap (a : Int) = ((a % 256 : Nat) : Int) := by
  rw [IntKind.wrap_u8]; omega
end Go.Proofs.Ytpiiopppbgpbpaa.Sl
namespace Go.Proofs.Ytpiiopppbgpbpaa.Sl
open Go.RowKit
set_option linter.unusedVariables false
set_option linter.unusedSimpArgs false
theorem toBs_bsI (l : List UInt8) : toBs (bsI l) = l := by
  unfold toBs bsI
  rw [List.map_map]
  conv => rhs; rw [← List.map_id l]
  apply List.map_congr_left
  intro c _
  simp
theorem bsI_set (l : List UInt8) (k : Nat) (c : UInt8) : (bsI l).set k (c.toNat : Int) = bsI (l.set k c) := by
  unfold bsI
  rw [List.map_set]
theorem bsI_get {l : List UInt8} {k : Nat} (h : k < l.length) : (bsI l)[k]? = some (l[k].toNat : Int) := by
  unfold bsI
  rw [List.getElem?_map, List.getElem?_eq_getElem h]
  rfl
end Go.Proofs.Ytpiiopppbgpbpaa.Sl
