/- headers: what is read (plain laws). -/
import Derived.Test.YtdlpmcbglmgpiaaQ06w
namespace Go.Proofs.Ytdlpmcbglmgpiaa.Sl
open Go.RowKit
set_option linter.unusedVariables false
set_option linter.unusedSimpArgs false
def shiftI (a : Nat) (st : I) : I := ⟨st.rest, a + st.pos, st.err⟩
theorem vgo_shift (bs : Int) (a : Nat) : ∀ (l : List UInt8) (b acc i : Nat), vgo bs l (a + b) acc i = ((vgo bs l b acc i).1, shiftI a (vgo bs l b acc i).2)
  | [], b, acc, i => rfl
  | c :: l, b, acc, i => by
    have ih := vgo_shift bs a l (b + 1) (acc + c.toNat % 128 * 2 ^ (7 * i)) (i + 1)
    unfold vgo
    split
    · rfl
    · split
      · rw [Nat.add_assoc, ih]
      · split
        · rfl
        · rfl
theorem varied_at (s : List UInt8) (p : Nat) : (bvaried ⟨s, p, 0⟩).2.err = (rvaried s).err ∧ ((rvaried s).err = 0 → ∃ k, k ≤ s.length ∧ 1 ≤ k ∧ (rvaried s).blob = (bvaried ⟨s, p, 0⟩).1 ∧ (rvaried s).many = (k : Int) ∧ (bvaried ⟨s, p, 0⟩).2 = ⟨s.drop k, p + k, 0⟩ ∧ encb (bvaried ⟨s, p, 0⟩).1 = s.take k ∧ (bvaried ⟨s, p, 0⟩).1.data.length + 1 ≤ k ∧ bright (bvaried ⟨s, p, 0⟩).1 = true) := by
  have hr : vread 32 ⟨s, p, 0⟩ = ((vgo 32 s 0 0 0).1, shiftI p (vgo 32 s 0 0 0).2) := by
    unfold vread
    rw [if_neg (by simp)]
    exact vgo_shift 32 p s 0 0 0
  unfold bvaried rvaried rvaried_ vgot
  rw [hr]
  by_cases he : (vgo 32 s 0 0 0).2.err = 0
  · obtain ⟨k, v, h1, h2, h3, h4, _⟩ := vgo_ok 32 s 0 0 0 _ _ (rfl : _ = ((vgo 32 s 0 0 0).1, (vgo 32 s 0 0 0).2)) he
    have h3' : (vgo 32 s 0 0 0).1 = v := by rw [h3]; simp
    have hpos : 1 ≤ k := by
      have := vput_pos v
      rw [h4, List.length_take] at this
      omega
    rw [if_pos he]
    simp only
    rw [if_neg (by simp), h1, h3']
    unfold vbackI shiftI
    simp only [Nat.zero_add]
    have hd : (s.drop k).length = s.length - k := List.length_drop
    unfold bread rgot
    simp only
    rw [if_neg (by simp)]
    by_cases c1 : vback v = -1
    · rw [if_pos c1, if_pos c1]
      refine ⟨by trivial, fun _ => ⟨k, h2, hpos, by first | rfl | trivial, by first | rfl | trivial, by first | rfl | trivial, ?_, by simp only [List.length_nil]; omega, by first | rfl | trivial⟩⟩
      unfold encb blen
      rw [if_pos rfl, ← c1, vfold_back, h4]
      simp
    · rw [if_neg c1, if_neg c1]
      unfold itake
      rw [if_neg (by simp)]
      by_cases c2 : vback v < 0
      · rw [if_pos c2, if_pos c2]
        exact ⟨by simp, fun h => by simp at h⟩
      · rw [if_neg c2, if_neg c2]
        by_cases c3 : (s.length : Int) - k < vback v
        · rw [if_pos c3, if_pos (by simp only; omega)]
          exact ⟨by simp, fun h => by simp at h⟩
        · rw [if_neg c3, if_neg (by simp only; omega)]
          simp only
          obtain ⟨n, hn⟩ : ∃ n : Nat, vback v = (n : Int) := ⟨(vback v).toNat, by omega⟩
          rw [hn, Int.toNat_natCast]
          refine ⟨by trivial, fun _ => ⟨k + n, by omega, by omega, by first | rfl | trivial, by omega, ?_, ?_, ?_, by first | rfl | trivial⟩⟩
          · rw [List.drop_drop, Nat.add_assoc]
          · unfold encb blen
            simp only [Bool.false_eq_true, if_false]
            have hln : ((s.drop k).take n).length = n := by rw [List.length_take, hd]; omega
            rw [hln, ← hn, vfold_back, h4, List.take_add]
          · rw [List.length_take]
            omega
  · rw [if_neg he]
    simp only
    rw [if_pos he]
    have h5 : ∀ n : Int, bread (shiftI p (vgo 32 s 0 0 0).2) n = (⟨false, []⟩, shiftI p (vgo 32 s 0 0 0).2) := by
      intro n
      unfold bread
      rw [if_pos (by unfold shiftI; exact he)]
    unfold vbackI
    simp only
    rw [h5]
    exact ⟨rfl, fun h => absurd h he⟩
theorem bvaried_e (st : I) (h : st.err ≠ 0) : (bvaried st).2 = st := by
  unfold bvaried vread vbackI bread
  rw [if_pos h]
  simp only
  rw [if_pos h]
theorem rrVaried_eq (s : List UInt8) (h : s.length ≤ 140737488355328) : gRRVaried s = some (rvaried s) := if_pos h
theorem name_of (st : I) : gName st = some ((bvaried st).1.data, if (bvaried st).1.null then ifail (bvaried st).2 4 else (bvaried st).2) := rfl
set_option maxRecDepth 100000 in
theorem reads_loop (a0 : List UInt8) (hl : a0.length ≤ 1000) (N : Int) (hN : N ≤ 1000) : ∀ (g : Nat) (acc : List Hd) (k p : Nat), acc.length = k → (k : Int) ≤ N → p ≤ a0.length → N - k < g →
    (∃ (e : Int) (st : I), e ≠ 0 ∧ st.err = e ∧ f_header_Read_l1 N g acc k ⟨a0.drop p, p, 0⟩ = some (.ret ([], st)) ∧ f_r06_Read_l1 a0 N g p acc k = some (.ret ([], 0, e))) ∨
    (∃ (l : List Hd) (q : Nat), p ≤ q ∧ q ≤ a0.length ∧ encl l = (a0.drop p).take (q - p) ∧ hsum l ≤ q - p ∧ (k : Int) + l.length = N ∧
      f_header_Read_l1 N g acc k ⟨a0.drop p, p, 0⟩ = some (.go (acc ++ l, k + l.length, ⟨a0.drop q, q, 0⟩)) ∧ f_r06_Read_l1 a0 N g p acc k = some (.go ((q : Int), acc ++ l, k + l.length)))
  | 0, acc, k, p, ha, hkN, hp, hg => by
    exfalso
    omega
  | g + 1, acc, k, p, ha, hkN, hp, hg => by
    have hdl : (a0.drop p).length = a0.length - p := List.length_drop
    rw [f_header_Read_l1, f_r06_Read_l1]
    by_cases hk : (k : Int) < N
    · rw [if_pos hk, if_pos hk, name_of, if_pos (show (0 : Int) ≤ (p : Int) ∧ (p : Int) ≤ (a0.length : Int) by omega), Int.toNat_natCast, rrVaried_eq _ (by omega)]
      simp only [Option.bind_some]
      obtain ⟨v1, v2⟩ := varied_at (a0.drop p) p
      generalize bvaried ⟨a0.drop p, p, 0⟩ = r1 at v1 v2 ⊢
      generalize rvaried (a0.drop p) = x1 at v1 v2 ⊢
      obtain ⟨b1, s1⟩ := r1
      simp only at v1 v2 ⊢
      have herr : ∀ (z : I) (e : Int), z.err = e → e ≠ 0 → ((gVaried z).bind fun (x54, st55) => if (acc.length + 1) * 40 ≤ 140737488355328 then ((gErr st55).bind fun (x65, st66) => if x65 = 0 then (if -9223372036854775808 ≤ ((k : Int) + 1) ∧ ((k : Int) + 1) ≤ 9223372036854775807 then (f_header_Read_l1 N g (acc ++ [(⟨b1.data, x54⟩ : Hd)]) (k + 1) st66) else none) else (some (Lp.ret ([], st66)))) else none) = some (.ret ([], z)) := by
        intro z e hz he
        rw [gVaried_eq, Option.bind_some]
        dsimp only
        rw [if_pos (by omega), bvaried_e z (by rw [hz]; exact he), gErr_eq, Option.bind_some]
        dsimp only
        rw [if_neg (by rw [hz]; exact he)]
      by_cases h1 : x1.err = 0
      · obtain ⟨k1, k1l, k1p, hb, hm, hs, henc, hdat, hbr⟩ := v2 h1
        rw [if_pos h1, hb]
        by_cases hnull : b1.null = true
        · left
          refine ⟨4, ifail s1 4, by decide, by rw [hs]; rfl, ?_, ?_⟩
          · rw [if_pos hnull]
            exact herr _ 4 (by rw [hs]; rfl) (by decide)
          · rw [if_pos hnull]
        · rw [if_neg hnull, if_neg hnull, hm, hs, List.drop_drop, if_pos (by omega), if_pos (by omega)]
          have hq : ((p : Int) + (k1 : Int)) = ((p + k1 : Nat) : Int) := by omega
          rw [hq, Int.toNat_natCast, rrVaried_eq _ (by rw [List.length_drop]; omega)]
          rw [gVaried_eq]
          simp only [Option.bind_some]
          obtain ⟨w1, w2⟩ := varied_at (a0.drop (p + k1)) (p + k1)
          generalize bvaried ⟨a0.drop (p + k1), p + k1, 0⟩ = r2 at w1 w2 ⊢
          generalize rvaried (a0.drop (p + k1)) = x2 at w1 w2 ⊢
          obtain ⟨b2, s2⟩ := r2
          simp only at w1 w2 ⊢
          rw [if_pos (by omega), gErr_eq, Option.bind_some]
          dsimp only
          by_cases h2 : x2.err = 0
          · obtain ⟨k2, k2l, k2p, hb2, hm2, hs2, henc2, hdat2, hbr2⟩ := w2 h2
            rw [List.length_drop] at k1l k2l
            rw [if_pos h2, w1, if_pos h2, if_pos (by omega), if_pos (by omega), if_pos (by omega), if_pos (by omega), hm2, hb2, hs2, List.drop_drop]
            have hq2 : (((p + k1 : Nat) : Int) + (k2 : Int)) = ((p + k1 + k2 : Nat) : Int) := by omega
            rw [hq2]
            rcases reads_loop a0 hl N hN g (acc ++ [⟨b1.data, b2⟩]) (k + 1) (p + k1 + k2) (by simp [ha]) (by omega) (by omega) (by omega) with ⟨e, st, i1, i2, i3, i4⟩ | ⟨l, q, i1, i2, i3, i4, i5, i6, i7⟩
            · left
              refine ⟨e, st, i1, i2, ?_, ?_⟩
              · rw [i3]
              · rw [i4, if_pos (by omega)]
            · right
              refine ⟨⟨b1.data, b2⟩ :: l, q, by omega, i2, ?_, ?_, ?_, ?_, ?_⟩
              · have hb1 : encb ⟨false, b1.data⟩ = encb b1 := by
                  obtain ⟨n, d⟩ := b1
                  cases n
                  · rfl
                  · exact absurd rfl hnull
                rw [encl, ench, i3, hb1, henc, henc2]
                rw [show q - p = k1 + (k2 + (q - (p + k1 + k2))) by omega, List.take_add, List.take_add, List.drop_drop, List.drop_drop, List.append_assoc, Nat.add_assoc]
              · rw [hsum]
                simp only
                omega
              · rw [List.length_cons]
                omega
              · rw [i6, List.append_assoc, List.singleton_append, List.length_cons, show k + 1 + l.length = k + (l.length + 1) by omega]
              · rw [i7, if_pos (by omega), List.append_assoc, List.singleton_append, List.length_cons, show k + 1 + l.length = k + (l.length + 1) by omega]
          · left
            refine ⟨x2.err, s2, h2, w1, ?_, ?_⟩
            · rw [w1, if_neg h2]
            · rw [if_neg h2]
      · left
        rw [if_neg h1]
        have hz : ((if b1.null = true then ifail s1 4 else s1) : I).err = x1.err := by
          split
          · rw [← v1]
            unfold ifail
            rw [if_neg (by rw [v1]; exact h1)]
          · exact v1
        exact ⟨x1.err, _, h1, hz, herr _ x1.err hz h1, rfl⟩
    · rw [if_neg hk, if_neg hk]
      right
      exact ⟨[], p, Nat.le_refl _, hp, by simp [encl], by simp [hsum], by simp only [List.length_nil]; omega, by simp, by simp⟩
theorem rback_eq (n : Nat) (h : n < 18446744073709551616) : gRBack (n : Int) = some (vback n) := by
  rw [gRBack_eq _ ⟨by omega, by omega⟩, Int.toNat_natCast]
theorem rget_eq (s : List UInt8) (h : s.length ≤ 1000) : gRGet s 32 = some (((vgot (vgo 32 s 0 0 0)).1 : Int), ((vgot (vgo 32 s 0 0 0)).2.1 : Int), (vgot (vgo 32 s 0 0 0)).2.2) := gRGet_eq _ _ ⟨.inl rfl, by omega⟩
def outL (e : Lp (List Hd × I) (List Hd × Nat × I)) : Option (List Hd × I) := match e with | .ret r => some r | .go (y76, k79, st80) => some (y76, st80)
def outR (e : Lp (List Hd × Int × Int) (Int × List Hd × Nat)) : Option (List Hd × Int × Int) := match e with | .ret r => some r | .go (y103, y104, k107) => some (y104, y103, 0)
theorem hdr_step (st st2 : I) (x1 : Int) (h : gVInt st = some (x1, st2)) : f_header_Read st = if st2.err = 0 then (if x1 < 0 then some ([], ifail st2 4) else (if 0 ≤ (st2.rest.length : Int) ∧ (st2.rest.length : Int) ≤ 9223372036854775807 then (if x1 > ((st2.rest.length : Int) / 2) then some ([], ifail st2 1) else ((f_header_Read_l1 x1 ((x1).toNat + 1) [] 0 st2).bind outL)) else none)) else some ([], st2) := by
  unfold f_header_Read
  rw [h]
  simp only [Option.bind_some, gErr_eq, gLeft_eq, gIFail_eq]
  rfl
theorem ref_step (a0 : List UInt8) (x1 x2 x3 : Int) (h : gRGet a0 32 = some (x1, x2, x3)) : f_r06_Read a0 = if x3 = 0 then ((gRBack x1).bind fun x6 => if x6 < 0 then some ([], 0, 4) else (if -9223372036854775808 ≤ ((a0.length : Int) - x2) ∧ ((a0.length : Int) - x2) ≤ 9223372036854775807 then (if 0 ≤ ((a0.length : Int) - x2) ∧ ((a0.length : Int) - x2) ≤ 9223372036854775807 then (if x6 > (((a0.length : Int) - x2) / 2) then some ([], 0, 1) else ((f_r06_Read_l1 a0 x6 ((x6).toNat + 1) x2 [] 0).bind outR)) else none) else none)) else some ([], 0, x3) := by
  unfold f_r06_Read
  rw [h]
  rfl
theorem back_step (n : Nat) (h : n < 18446744073709551616) {A : Type} (f : Int → Option A) : (gRBack (n : Int)).bind f = f (vback n) := by
  rw [rback_eq n h, Option.bind_some]
theorem reads_eq (a0 : List UInt8) (hl : a0.length ≤ 1000) :
    (∃ (e : Int) (st : I), e ≠ 0 ∧ st.err = e ∧ f_header_Read ⟨a0, 0, 0⟩ = some ([], st) ∧ f_r06_Read a0 = some ([], 0, e)) ∨
    (∃ (l : List Hd) (q : Nat), q ≤ a0.length ∧ enchs l = a0.take q ∧ hsum l ≤ 1000 ∧ f_header_Read ⟨a0, 0, 0⟩ = some (l, ⟨a0.drop q, q, 0⟩) ∧ f_r06_Read a0 = some (l, (q : Int), 0)) := by
  have hr : vread 32 ⟨a0, 0, 0⟩ = vgo 32 a0 0 0 0 := by unfold vread; rw [if_neg (by simp)]
  have hlt := vread_lt64 32 (.inl rfl) ⟨a0, 0, 0⟩
  rw [hr] at hlt
  have hg := rget_eq a0 hl
  have hv : gVInt ⟨a0, 0, 0⟩ = some (vback (vgo 32 a0 0 0 0).1, (vgo 32 a0 0 0 0).2) := by rw [gVInt_eq, hr]; rfl
  by_cases he : (vgo 32 a0 0 0 0).2.err = 0
  · obtain ⟨k, v, h1, h2, h3, h4, _⟩ := vgo_ok 32 a0 0 0 0 _ _ (rfl : _ = ((vgo 32 a0 0 0 0).1, (vgo 32 a0 0 0 0).2)) he
    have h3' : (vgo 32 a0 0 0 0).1 = v := by rw [h3]; simp
    have h1' : (vgo 32 a0 0 0 0).2 = ⟨a0.drop k, k, 0⟩ := by rw [h1]; simp
    have hd : (a0.drop k).length = a0.length - k := List.length_drop
    have hg2 : vgot (vgo 32 a0 0 0 0) = (v, k, 0) := by unfold vgot; rw [if_pos he, h3', h1']
    rw [h3'] at hlt
    rw [hg2] at hg
    rw [h3', h1'] at hv
    rw [hdr_step _ _ _ hv, ref_step _ _ _ _ hg]
    rw [if_pos rfl, if_pos rfl, back_step v hlt]
    by_cases c1 : vback v < 0
    · left
      exact ⟨4, ifail ⟨a0.drop k, k, 0⟩ 4, by decide, rfl, if_pos c1, if_pos c1⟩
    · have hsub : ((a0.length - k : Nat) : Int) = (a0.length : Int) - (k : Int) := by omega
      have hA : 0 ≤ ((a0.length : Int) - (k : Int)) ∧ ((a0.length : Int) - (k : Int)) ≤ 9223372036854775807 := by omega
      have hB : -9223372036854775808 ≤ ((a0.length : Int) - (k : Int)) ∧ ((a0.length : Int) - (k : Int)) ≤ 9223372036854775807 := by omega
      rw [if_neg c1, if_neg c1, hd, hsub, if_pos hA, if_pos hB, if_pos hA]
      by_cases c2 : vback v > ((a0.length : Int) - (k : Int)) / 2
      · left
        exact ⟨1, ifail ⟨a0.drop k, k, 0⟩ 1, by decide, rfl, if_pos c2, if_pos c2⟩
      · rw [if_neg c2, if_neg c2]
        rcases reads_loop a0 hl (vback v) (by omega) ((vback v).toNat + 1) [] 0 k rfl (by omega) h2 (by omega) with ⟨e, st, i1, i2, i3, i4⟩ | ⟨l, q, i1, i2, i3, i4, i5, i6, i7⟩
        · left
          refine ⟨e, st, i1, i2, ?_, ?_⟩
          · rw [i3, Option.bind_some, outL]
          · rw [i4, Option.bind_some, outR]
        · right
          refine ⟨l, q, i2, ?_, by omega, ?_, ?_⟩
          · unfold enchs
            have hn : (l.length : Int) = vback v := by omega
            rw [hn, vfold_back, h4, i3]
            rw [show q = k + (q - k) by omega, List.take_add]
            simp only [Nat.add_sub_cancel_left]
          · rw [i6, Option.bind_some, outL, List.nil_append]
          · rw [i7, Option.bind_some, outR, List.nil_append]
  · left
    have hg2 : vgot (vgo 32 a0 0 0 0) = (0, 0, (vgo 32 a0 0 0 0).2.err) := by unfold vgot; rw [if_neg he]
    rw [hg2] at hg
    refine ⟨(vgo 32 a0 0 0 0).2.err, (vgo 32 a0 0 0 0).2, he, rfl, ?_, ?_⟩
    · rw [hdr_step _ _ _ hv, if_neg he]
    · rw [ref_step _ _ _ _ hg, if_neg he]
theorem pure_HeaderReads (a0 : List UInt8) (w0 : a0.length ≤ 140737488351232) : f_l06_HeaderReads a0 = some true := by
  unfold f_l06_HeaderReads
  rw [speaks06_eq, Option.bind_some, if_pos rfl]
  by_cases hl : (a0.length : Int) > 1000
  · rw [if_pos hl]
  rw [if_neg hl, gNew_eq _ (by omega), Option.bind_some]
  rcases reads_eq a0 (by omega) with ⟨e, st, h1, h2, h3, h4⟩ | ⟨l, q, h1, h2, h3, h4, h5⟩
  · rw [h3, Option.bind_some]
    dsimp only
    rw [h4, Option.bind_some]
    dsimp only
    rw [same06 [] (by decide), Option.bind_some, if_pos rfl, gErr_eq, Option.bind_some]
    dsimp only
    rw [if_pos h2, if_neg h1]
  · have hn := hsum_length l
    rw [h4, Option.bind_some]
    dsimp only
    rw [h5, Option.bind_some]
    dsimp only
    rw [same06 l (by omega), Option.bind_some, if_pos rfl, gErr_eq, Option.bind_some]
    dsimp only
    rw [if_pos rfl, if_pos rfl, gAt_eq, Option.bind_some]
    dsimp only
    rw [if_pos rfl, rwrite_eq l h3, Option.bind_some, if_pos (by omega), Int.toNat_natCast, if_pos h2]
end Go.Proofs.Ytdlpmcbglmgpiaa.Sl
