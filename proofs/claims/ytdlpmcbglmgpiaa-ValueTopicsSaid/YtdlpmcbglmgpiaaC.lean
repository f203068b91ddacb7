/- codecs: plain readers and writers, and what the code's readers are to them (plain laws). -/
import Derived.Test.YtdlpmcbglmgpiaaGb
import Derived.Test.YtdlpmcbglmgpiaaVb
namespace Go.Proofs.Ytdlpmcbglmgpiaa.Sl
open Go.RowKit
set_option linter.unusedVariables false
set_option linter.unusedSimpArgs false
/-- A plain reader: of bytes, at an offset. -/
abbrev Pr (α : Type) := List UInt8 → Nat → Except Int (α × Nat)
namespace Pr
variable {α β : Type}
def ret (a : α) : Pr α := fun _ q => .ok (a, q)
def err (e : Int) : Pr α := fun _ _ => .error e
def bind (p : Pr α) (f : α → Pr β) : Pr β := fun s q => match p s q with | .error e => .error e | .ok (a, r) => f a s r
theorem bind_ok {p : Pr α} {f : α → Pr β} {s : List UInt8} {q : Nat} {x : β × Nat} (h : p.bind f s q = .ok x) : ∃ a r, p s q = .ok (a, r) ∧ f a s r = .ok x := by
  unfold bind at h
  cases hp : p s q with
  | error e => rw [hp] at h; exact nomatch h
  | ok y => rw [hp] at h; exact ⟨_, _, rfl, h⟩
theorem bind_of {p : Pr α} {f : α → Pr β} {s : List UInt8} {q r : Nat} {a : α} (h : p s q = .ok (a, r)) : p.bind f s q = f a s r := by unfold bind; rw [h]
theorem bind_err {p : Pr α} {f : α → Pr β} {s : List UInt8} {q : Nat} {e : Int} (h : p s q = .error e) : p.bind f s q = .error e := by unfold bind; rw [h]
end Pr
/-- What a reader of the code is to a plain one. -/
structure CR {α : Type} (op : I → Option (α × I)) (p : Pr α) (z : α) : Prop where
  dead : ∀ st : I, st.err ≠ 0 → op st = some (z, st)
  bad : ∀ (s : List UInt8) (q : Nat) (e : Int), q ≤ s.length → p s q = .error e → ∃ st : I, op ⟨s.drop q, q, 0⟩ = some (z, st) ∧ st.err = e ∧ e ≠ 0
  good : ∀ (s : List UInt8) (q : Nat) (a : α) (r : Nat), q ≤ s.length → p s q = .ok (a, r) → op ⟨s.drop q, q, 0⟩ = some (a, ⟨s.drop r, r, 0⟩)
/-- What is read is what is written, and the other way. -/
structure Sp {α : Type} (p : Pr α) (enc : α → List UInt8) (ok : α → Prop) : Prop where
  spell : ∀ (s : List UInt8) (q : Nat) (a : α) (r : Nat), q ≤ s.length → p s q = .ok (a, r) → q ≤ r ∧ r ≤ s.length ∧ r = q + (enc a).length ∧ s.take r = s.take q ++ enc a ∧ ok a
  back : ∀ (s t : List UInt8) (q : Nat) (a : α), q ≤ s.length → ok a → s.drop q = enc a ++ t → p s q = .ok (a, q + (enc a).length)
theorem drop_step {s x t : List UInt8} {q : Nat} (h : s.drop q = x ++ t) : s.drop (q + x.length) = t := by rw [← List.drop_drop, h, List.drop_left]
theorem take_step (s : List UInt8) (q k : Nat) : s.take (q + k) = s.take q ++ (s.drop q).take k := List.take_add
/-! Numbers. -/
theorem c_be_snoc (q : Int) (c : UInt8) (k : Nat) : be (q * 256 + c.toNat) (k + 1) = be q k ++ [c] := by
  have hc := c.toNat_lt
  unfold be
  rw [List.range_succ, List.map_append]
  congr 1
  · apply List.map_congr_left
    intro i hi
    have hi := List.mem_range.1 hi
    have e : k + 1 - 1 - i = (k - 1 - i) + 1 := by omega
    have e2 : (q * 256 + (c.toNat : Int)) / 256 = q := by omega
    rw [e, show 8 * (k - 1 - i + 1) = 8 + 8 * (k - 1 - i) by omega, Int.pow_add, ← Int.ediv_ediv_of_nonneg (by decide), show (2 ^ 8 : Int) = 256 from rfl, e2]
  · simp only [List.map_cons, List.map_nil, Nat.add_sub_cancel, Nat.sub_self, Nat.mul_zero, Int.pow_zero, Int.ediv_one]
    congr 1
    apply UInt8.toNat_inj.1
    simp [UInt8.toNat_ofNat']
    omega
theorem c_be_fold (cs : List UInt8) : ∀ (q : Int) (k : Nat), be (cs.foldl (fun n d => n * 256 + (d.toNat : Int)) q) (k + cs.length) = be q k ++ cs := by
  induction cs with
  | nil => intro q k; simp
  | cons c cs ih =>
    intro q k
    have h := ih (q * 256 + c.toNat) (k + 1)
    rw [c_be_snoc] at h
    rw [List.foldl_cons, List.length_cons, show k + (cs.length + 1) = k + 1 + cs.length by omega, h]
    simp
theorem c_be_sgn (c : UInt8) : be (sgn c) 1 = [c] := by
  have hc := c.toNat_lt
  unfold be
  simp only [List.range_one, List.map_cons, List.map_nil, Nat.sub_self, Nat.mul_zero, Int.pow_zero, Int.ediv_one]
  congr 1
  apply UInt8.toNat_inj.1
  unfold sgn
  simp [UInt8.toNat_ofNat']
  split <;> omega
theorem c_be_beInt (l : List UInt8) (h : l ≠ []) : be (beInt l) l.length = l := by
  cases l with
  | nil => exact absurd rfl h
  | cons c cs =>
    have h := c_be_fold cs (sgn c) 1
    rw [c_be_sgn] at h
    rw [List.length_cons, Nat.add_comm]
    exact h
/-- A number of k bytes. -/
def pInt (k : Nat) : Pr Int := fun s q => if s.length < q + k then .error 1 else .ok (beInt ((s.drop q).take k), q + k)
theorem CR_int (k : Nat) (h1 : 1 ≤ k) (h8 : k ≤ 8) (kk : Int) (hk : kk = (k : Int)) : CR (fun st => gInt st kk) (pInt k) 0 := by
  subst hk
  refine ⟨fun st h => ?_, fun s q e hq h => ?_, fun s q a r hq h => ?_⟩
  · rw [gInt_eq, iint_err h]
  · unfold pInt at h
    split at h
    · rename_i hl
      injection h with h
      subst h
      refine ⟨⟨s.drop q, q, 1⟩, ?_, rfl, by decide⟩
      simp only [gInt_eq]
      rw [iint_short _ _ _ (by omega) (by omega) (by rw [List.length_drop]; omega)]
    · exact nomatch h
  · unfold pInt at h
    split at h
    · exact nomatch h
    · rename_i hl
      injection h with h
      obtain ⟨rfl, rfl⟩ := Prod.mk.inj h
      simp only [gInt_eq]
      rw [iint_ok _ _ _ h1 h8 (by rw [List.length_drop]; omega), List.drop_drop]
theorem Sp_int (k : Nat) (h1 : 1 ≤ k) (h8 : k ≤ 8) : Sp (pInt k) (fun n => be n k) (fun n => fits n k = true) := by
  refine ⟨fun s q a r hq h => ?_, fun s t q a hq ha h => ?_⟩
  · unfold pInt at h
    split at h
    · exact nomatch h
    · rename_i hl
      injection h with h
      obtain ⟨rfl, rfl⟩ := Prod.mk.inj h
      have hn : ((s.drop q).take k).length = k := by rw [List.length_take, List.length_drop]; omega
      have hne : (s.drop q).take k ≠ [] := fun h0 => by rw [h0] at hn; simp at hn; omega
      have hb : be (beInt ((s.drop q).take k)) k = (s.drop q).take k := by
        have := c_be_beInt _ hne
        rwa [hn] at this
      refine ⟨by omega, by omega, by rw [be_length], by rw [hb, take_step], ?_⟩
      rw [← be_fits _ _ h1 h8, hb]
  · have hl := congrArg List.length h
    rw [List.length_drop, List.length_append, be_length] at hl
    unfold pInt
    rw [if_neg (by omega), h, List.take_append_of_le_length (by rw [be_length]; omega), List.take_of_length_le (by rw [be_length]; omega), be_length, beInt_be _ _ h1 h8 ha]
/-- Bytes, of a length that was read. -/
def pGot (n : Int) : Pr Bl := fun s q => if n = -1 then .ok (⟨true, []⟩, q) else if n < 0 then .error 4 else if (s.length : Int) < q + n then .error 1 else .ok (⟨false, (s.drop q).take n.toNat⟩, q + n.toNat)
theorem bread_pGot (n : Int) (s : List UInt8) (q : Nat) (hq : q ≤ s.length) :
    (∃ e st, pGot n s q = .error e ∧ bread ⟨s.drop q, q, 0⟩ n = (⟨false, []⟩, st) ∧ st.err = e ∧ e ≠ 0) ∨ (∃ b r, pGot n s q = .ok (b, r) ∧ bread ⟨s.drop q, q, 0⟩ n = (b, ⟨s.drop r, r, 0⟩) ∧ q ≤ r ∧ r ≤ s.length ∧ blen b = n ∧ bright b = true ∧ s.take r = s.take q ++ b.data ∧ r = q + b.data.length) := by
  have hd : (s.drop q).length = s.length - q := List.length_drop
  unfold pGot bread
  rw [if_neg (show ¬ ((⟨s.drop q, q, 0⟩ : I).err ≠ 0) by simp)]
  by_cases h1 : n = -1
  · rw [if_pos h1, if_pos h1]
    exact .inr ⟨_, _, rfl, rfl, Nat.le_refl _, hq, h1.symm, rfl, by simp, rfl⟩
  rw [if_neg h1, if_neg h1]
  by_cases h2 : n < 0
  · rw [if_pos h2, itake_neg _ _ _ h2]
    exact .inl ⟨_, _, rfl, rfl, rfl, by decide⟩
  rw [if_neg h2]
  by_cases h3 : (s.length : Int) < q + n
  · rw [if_pos h3, itake_short _ _ _ (by omega)]
    exact .inl ⟨_, _, rfl, rfl, rfl, by decide⟩
  rw [if_neg h3]
  obtain ⟨m, rfl⟩ : ∃ m : Nat, n = (m : Int) := ⟨n.toNat, by omega⟩
  rw [Int.toNat_natCast, itake_ok _ _ _ (by omega), List.drop_drop]
  have hl : ((s.drop q).take m).length = m := by rw [List.length_take]; omega
  exact .inr ⟨_, _, rfl, rfl, by omega, by omega, by unfold blen; simp only [Bool.false_eq_true, if_false]; rw [hl], rfl, take_step s q m, by rw [hl]⟩
/-- Bytes behind their length, which has k bytes. -/
def pFixed (k : Nat) : Pr Bl := (pInt k).bind pGot
/-- A reader of bytes: behind a reader of their length. -/
theorem CR_got {lenop : I → Int × I} {p : Pr Int} (hl : CR (fun st => some (lenop st)) p 0) (hs : ∀ s q a r, q ≤ s.length → p s q = .ok (a, r) → r ≤ s.length) : CR (fun st => some (bread (lenop st).2 (lenop st).1)) (p.bind pGot) (⟨false, []⟩ : Bl) := by
  refine ⟨fun st h => ?_, fun s q e hq h => ?_, fun s q a r hq h => ?_⟩
  · have h0 := Option.some.inj (hl.dead st h)
    rw [h0, bread_err h]
  · cases hp : p s q with
    | error e' =>
      rw [Pr.bind_err hp] at h
      injection h with h
      subst h
      obtain ⟨st, h1, h2, h3⟩ := hl.bad s q e' hq hp
      have h0 := Option.some.inj h1
      rw [h0, bread_err (by simp only [h2]; exact h3)]
      exact ⟨st, rfl, h2, h3⟩
    | ok x =>
      obtain ⟨n, m⟩ := x
      rw [Pr.bind_of hp] at h
      have h0 := Option.some.inj (hl.good s q n m hq hp)
      rw [h0]
      rcases bread_pGot n s m (hs _ _ _ _ hq hp) with ⟨e', st, g1, g2, g3, g4⟩ | ⟨b, r, g1, g2, _⟩
      · rw [g1] at h
        injection h with h
        subst h
        exact ⟨st, by rw [g2], g3, g4⟩
      · rw [g1] at h
        exact nomatch h
  · obtain ⟨n, m, hp, h⟩ := Pr.bind_ok h
    have h0 := Option.some.inj (hl.good s q n m hq hp)
    rw [h0]
    rcases bread_pGot n s m (hs _ _ _ _ hq hp) with ⟨e', st, g1, g2, g3, g4⟩ | ⟨b, r', g1, g2, _⟩
    · rw [g1] at h
      exact nomatch h
    · rw [g1] at h
      injection h with h
      obtain ⟨rfl, rfl⟩ := Prod.mk.inj h
      rw [g2]
theorem Sp_got {p : Pr Int} {enc : Int → List UInt8} {ok : Int → Prop} (hp : Sp p enc ok) : Sp (p.bind pGot) (fun b => enc (blen b) ++ b.data) (fun b => ok (blen b) ∧ bright b = true) := by
  refine ⟨fun s q a r hq h => ?_, fun s t q a hq ha h => ?_⟩
  · obtain ⟨n, m, h1, h⟩ := Pr.bind_ok h
    obtain ⟨a1, a2, a3, a4, a5⟩ := hp.spell _ _ _ _ hq h1
    rcases bread_pGot n s m a2 with ⟨e', st, g1, g2, g3, g4⟩ | ⟨b, r', g1, g2, b1, b2, b3, b4, b5, b6⟩
    · rw [g1] at h
      exact nomatch h
    · rw [g1] at h
      injection h with h
      obtain ⟨rfl, rfl⟩ := Prod.mk.inj h
      refine ⟨by omega, b2, by rw [List.length_append, b3]; omega, by rw [b5, a4, b3, List.append_assoc], by rw [b3]; exact a5, b4⟩
  · rw [List.append_assoc] at h
    have h1 := hp.back s _ q _ hq ha.1 h
    rw [Pr.bind_of h1, List.length_append, ← Nat.add_assoc]
    have h2 := drop_step h
    have hl := congrArg List.length h
    rw [List.length_drop, List.length_append, List.length_append] at hl
    generalize (enc (blen a)).length = m at h2 hl ⊢
    obtain ⟨nu, d⟩ := a
    unfold pGot blen
    cases nu with
    | true =>
      have : d = [] := by have := ha.2; unfold bright at this; simpa using this
      subst this
      rw [if_pos rfl, if_pos rfl]
      rfl
    | false =>
      simp only [Bool.false_eq_true, if_false]
      simp only at h2 hl
      rw [if_neg (by omega), if_neg (by omega), h2, if_neg (by omega), Int.toNat_natCast, List.take_left]
theorem CR_fixed (k : Nat) (h1 : 1 ≤ k) (h8 : k ≤ 8) (kk : Int) (hk : kk = (k : Int)) : CR (fun st => gFixed st kk) (pFixed k) (⟨false, []⟩ : Bl) :=
  CR_got (lenop := fun st => iint st kk) (CR_int k h1 h8 kk hk) (fun s q a r hq h => ((Sp_int k h1 h8).spell s q a r hq h).2.1)
theorem Sp_fixed (k : Nat) (h1 : 1 ≤ k) (h8 : k ≤ 8) : Sp (pFixed k) (fun b => be (blen b) k ++ b.data) (fun b => fits (blen b) k = true ∧ bright b = true) := Sp_got (Sp_int k h1 h8)
/-! Numbers of as many bytes as they need. -/
theorem c_vgo_shift (bs : Int) (a : Nat) : ∀ (l : List UInt8) (b acc i : Nat), vgo bs l (a + b) acc i = ((vgo bs l b acc i).1, ⟨(vgo bs l b acc i).2.rest, a + (vgo bs l b acc i).2.pos, (vgo bs l b acc i).2.err⟩)
  | [], b, acc, i => rfl
  | c :: l, b, acc, i => by
    have ih := c_vgo_shift bs a l (b + 1) (acc + c.toNat % 128 * 2 ^ (7 * i)) (i + 1)
    unfold vgo
    split
    · rfl
    · split
      · rw [Nat.add_assoc, ih]
      · split
        · rfl
        · rfl
theorem c_vgo_zero (bs : Int) : ∀ (l : List UInt8) (b acc i : Nat), (vgo bs l b acc i).2.err ≠ 0 → (vgo bs l b acc i).1 = 0
  | [], b, acc, i, h => rfl
  | c :: l, b, acc, i, h => by
    have ih := c_vgo_zero bs l (b + 1) (acc + c.toNat % 128 * 2 ^ (7 * i)) (i + 1)
    revert h
    unfold vgo
    split
    · exact fun _ => rfl
    · split
      · exact ih
      · split
        · exact fun _ => rfl
        · exact fun h => absurd rfl h
/-- A number without a sign, in its folded form. -/
def pVnat (bs : Int) : Pr Nat := fun s q => if (vgo bs (s.drop q) 0 0 0).2.err = 0 then .ok ((vgo bs (s.drop q) 0 0 0).1, q + (vgo bs (s.drop q) 0 0 0).2.pos) else .error (vgo bs (s.drop q) 0 0 0).2.err
theorem vnat_good {bs : Int} {s : List UInt8} {q n r : Nat} (hq : q ≤ s.length) (h : pVnat bs s q = .ok (n, r)) : vread bs ⟨s.drop q, q, 0⟩ = (n, ⟨s.drop r, r, 0⟩) ∧ q ≤ r ∧ r ≤ s.length ∧ r = q + (vput n).length ∧ s.take r = s.take q ++ vput n := by
  have hd : (s.drop q).length = s.length - q := List.length_drop
  unfold pVnat at h
  split at h
  · rename_i he
    injection h with h
    obtain ⟨h1, h2⟩ := Prod.mk.inj h
    obtain ⟨k, v, g1, g2, g3, g4, _⟩ := vgo_ok bs (s.drop q) 0 0 0 _ _ (rfl : _ = ((vgo bs (s.drop q) 0 0 0).1, (vgo bs (s.drop q) 0 0 0).2)) he
    have g3' : (vgo bs (s.drop q) 0 0 0).1 = v := by rw [g3]; simp
    rw [g3'] at h1
    subst h1
    rw [g1] at h2
    simp only [Nat.zero_add] at h2
    have hlk : (vput v).length = k := by rw [g4, List.length_take]; omega
    refine ⟨?_, by omega, by omega, by omega, ?_⟩
    · unfold vread
      rw [if_neg (by simp)]
      have := c_vgo_shift bs q (s.drop q) 0 0 0
      rw [Nat.add_zero] at this
      simp only
      rw [this, g3', g1, ← h2, List.drop_drop]
      simp
    · rw [← h2, take_step, g4]
  · exact nomatch h
theorem vnat_bad {bs : Int} {s : List UInt8} {q : Nat} {e : Int} (h : pVnat bs s q = .error e) : ∃ st, vread bs ⟨s.drop q, q, 0⟩ = (0, st) ∧ st.err = e ∧ e ≠ 0 := by
  unfold pVnat at h
  split at h
  · exact nomatch h
  · rename_i he
    injection h with h
    subst h
    have h0 := c_vgo_zero bs (s.drop q) 0 0 0 he
    refine ⟨(vread bs ⟨s.drop q, q, 0⟩).2, ?_, ?_, he⟩
    · unfold vread
      rw [if_neg (by simp)]
      have := c_vgo_shift bs q (s.drop q) 0 0 0
      rw [Nat.add_zero] at this
      simp only
      rw [this, h0]
    · unfold vread
      rw [if_neg (by simp)]
      have := c_vgo_shift bs q (s.drop q) 0 0 0
      rw [Nat.add_zero] at this
      simp only
      rw [this]
theorem vread_dead {bs : Int} {st : I} (h : st.err ≠ 0) : vread bs st = (0, st) := if_pos h
theorem c_vgo_lt (bs : Int) (hb : bs = 32 ∨ bs = 64) : ∀ (l : List UInt8) (b acc i : Nat), acc < 2 ^ (7 * i) → (vgo bs l b acc i).2.err = 0 → (vgo bs l b acc i).1 < 2 ^ bs.toNat
  | [], b, acc, i, ha, h => by simp [vgo] at h
  | c :: l, b, acc, i, ha, h => by
    have ih := c_vgo_lt bs hb l (b + 1) (acc + c.toNat % 128 * 2 ^ (7 * i)) (i + 1)
    revert h
    unfold vgo
    split
    · exact fun h => absurd h (by simp)
    · rename_i hc
      obtain ⟨h1, h2⟩ := vacc_lt bs hb acc (c.toNat % 128) i ha (by omega) (Nat.mod_lt _ (by decide)) (fun h => hc (.inr h))
      split
      · exact ih h1
      · split
        · exact fun h => absurd h (by simp)
        · exact fun _ => h2
theorem Sp_vnat (bs : Int) (hb : bs = 32 ∨ bs = 64) : Sp (pVnat bs) vput (fun n => n < 2 ^ bs.toNat) := by
  refine ⟨fun s q a r hq h => ?_, fun s t q a hq ha h => ?_⟩
  · obtain ⟨h1, h2, h3, h4, h5⟩ := vnat_good hq h
    refine ⟨h2, h3, h4, h5, ?_⟩
    unfold pVnat at h
    split at h
    · rename_i he
      injection h with h
      rw [← (Prod.mk.inj h).1]
      exact c_vgo_lt bs hb _ _ _ _ (by simp) he
    · exact nomatch h
  · unfold pVnat
    rw [h, vgo_put bs (by omega) a 0 0 0 t (by simpa using ha) (by omega)]
    simp
/-- A number with a sign. -/
def pVint (bs : Int) : Pr Int := (pVnat bs).bind fun n => .ret (vback n)
theorem CR_vint (bs : Int) (hb : bs = 32 ∨ bs = 64) : CR (fun st => some (vbackI (vread bs st))) (pVint bs) 0 := by
  refine ⟨fun st h => ?_, fun s q e hq h => ?_, fun s q a r hq h => ?_⟩
  · rw [vread_dead h]
    simp [vbackI, vback]
  · cases hp : pVnat bs s q with
    | error e' =>
      rw [pVint, Pr.bind_err hp] at h
      injection h with h
      subst h
      obtain ⟨st, h1, h2, h3⟩ := vnat_bad hp
      exact ⟨st, by rw [h1]; simp [vbackI, vback], h2, h3⟩
    | ok x =>
      rw [pVint, Pr.bind_of (a := x.1) (r := x.2) hp] at h
      exact nomatch h
  · obtain ⟨n, m, hp, h⟩ := Pr.bind_ok h
    injection h with h
    obtain ⟨rfl, rfl⟩ := Prod.mk.inj h
    rw [(vnat_good hq hp).1]
    rfl
theorem Sp_vint (bs : Int) (hb : bs = 32 ∨ bs = 64) : Sp (pVint bs) (fun n => vput (vfold n)) (fun n => vfold n < 2 ^ bs.toNat) := by
  refine ⟨fun s q a r hq h => ?_, fun s t q a hq ha h => ?_⟩
  · obtain ⟨n, m, hp, h⟩ := Pr.bind_ok h
    injection h with h
    obtain ⟨rfl, rfl⟩ := Prod.mk.inj h
    have := (Sp_vnat bs hb).spell _ _ _ _ hq hp
    rwa [vfold_back]
  · rw [pVint, Pr.bind_of ((Sp_vnat bs hb).back s t q _ hq ha h)]
    simp only [Pr.ret, vback_fold]
/-- Bytes behind their length as a number. -/
def pVaried : Pr Bl := (pVint 32).bind pGot
theorem CR_varied : CR gVaried pVaried (⟨false, []⟩ : Bl) :=
  CR_got (lenop := fun st => vbackI (vread 32 st)) (CR_vint 32 (.inl rfl)) (fun s q a r hq h => ((Sp_vint 32 (.inl rfl)).spell s q a r hq h).2.1)
theorem Sp_varied : Sp pVaried (fun b => vput (vfold (blen b)) ++ b.data) (fun b => vfold (blen b) < 2 ^ (32 : Int).toNat ∧ bright b = true) := Sp_got (Sp_vint 32 (.inl rfl))
/-! Bytes that have to be. -/
def pMust (p : Pr Bl) : Pr (List UInt8) := p.bind fun b => if b.null then .err 4 else .ret b.data
theorem CR_must {op : I → Bl × I} {p : Pr Bl} (h : CR (fun st => some (op st)) p (⟨false, []⟩ : Bl)) (hb : ∀ s q a r, q ≤ s.length → p s q = .ok (a, r) → bright a = true) : CR (fun st => some (bmust (op st))) (pMust p) [] := by
  refine ⟨fun st hs => ?_, fun s q e hq he => ?_, fun s q a r hq hg => ?_⟩
  · have h0 := Option.some.inj (h.dead st hs)
    rw [h0]
    rfl
  · cases hp : p s q with
    | error e' =>
      rw [pMust, Pr.bind_err hp] at he
      injection he with he
      subst he
      obtain ⟨st, h1, h2, h3⟩ := h.bad s q _ hq hp
      have h0 := Option.some.inj h1
      rw [h0]
      exact ⟨st, rfl, h2, h3⟩
    | ok x =>
      obtain ⟨b, r⟩ := x
      rw [pMust, Pr.bind_of hp] at he
      have h0 := Option.some.inj (h.good s q b r hq hp)
      rw [h0]
      have hbr := hb _ _ _ _ hq hp
      split at he
      · rename_i hn
        injection he with he
        subst he
        have : b.data = [] := by unfold bright at hbr; rw [hn] at hbr; simpa using hbr
        refine ⟨⟨s.drop r, r, 4⟩, ?_, rfl, by decide⟩
        unfold bmust
        simp only [hn, if_true, this]
        rfl
      · exact nomatch he
  · obtain ⟨b, m, hp, hg⟩ := Pr.bind_ok hg
    have h0 := Option.some.inj (h.good s q b m hq hp)
    rw [h0]
    split at hg
    · exact nomatch hg
    · rename_i hn
      injection hg with hg
      obtain ⟨rfl, rfl⟩ := Prod.mk.inj hg
      unfold bmust
      simp only [hn, Bool.false_eq_true, if_false]
theorem Sp_must {p : Pr Bl} {enc : Bl → List UInt8} {ok : Bl → Prop} (hp : Sp p enc ok) : Sp (pMust p) (fun d => enc ⟨false, d⟩) (fun d => ok ⟨false, d⟩) := by
  refine ⟨fun s q a r hq h => ?_, fun s t q a hq ha h => ?_⟩
  · obtain ⟨b, m, h1, h⟩ := Pr.bind_ok h
    have h2 := hp.spell _ _ _ _ hq h1
    split at h
    · exact nomatch h
    · rename_i hn
      injection h with h
      obtain ⟨rfl, rfl⟩ := Prod.mk.inj h
      obtain ⟨nu, d⟩ := b
      simp only [Bool.not_eq_true] at hn
      subst hn
      exact h2
  · rw [pMust, Pr.bind_of (hp.back s t q _ hq ha h)]
    rfl
def pText : Pr (List UInt8) := pMust (pFixed 2)
def pName : Pr (List UInt8) := pMust pVaried
theorem CR_text : CR gText pText [] := CR_must (op := fun st => bfixed st 2) (CR_fixed 2 (by decide) (by decide) 2 rfl) (fun s q a r hq h => ((Sp_fixed 2 (by decide) (by decide)).spell s q a r hq h).2.2.2.2.2)
theorem Sp_text : Sp pText (fun d => be (d.length : Int) 2 ++ d) (fun d => fits (d.length : Int) 2 = true ∧ bright ⟨false, d⟩ = true) := Sp_must (Sp_fixed 2 (by decide) (by decide))
theorem CR_name : CR gName pName [] := CR_must (op := bvaried) CR_varied (fun s q a r hq h => (Sp_varied.spell s q a r hq h).2.2.2.2.2)
theorem Sp_name : Sp pName (fun d => vput (vfold (d.length : Int)) ++ d) (fun d => vfold (d.length : Int) < 2 ^ (32 : Int).toNat ∧ bright ⟨false, d⟩ = true) := Sp_must Sp_varied
/-! The document's readers. -/
theorem rgot_p (s : List UInt8) (q k m : Nat) (n : Int) (hk : k ≤ (s.drop q).length) (hm : m = q + k) (hq : q ≤ s.length) :
    (∃ e, pGot n s m = .error e ∧ e ≠ 0 ∧ rgot (s.drop q) k n = ⟨⟨false, []⟩, 0, e⟩) ∨ (∃ b r, pGot n s m = .ok (b, r) ∧ rgot (s.drop q) k n = ⟨b, ((r - q : Nat) : Int), 0⟩) := by
  have hd : (s.drop q).length = s.length - q := List.length_drop
  subst hm
  unfold pGot rgot
  by_cases h1 : n = -1
  · rw [if_pos h1, if_pos h1]
    exact .inr ⟨_, _, rfl, by congr 1; omega⟩
  rw [if_neg h1, if_neg h1]
  by_cases h2 : n < 0
  · rw [if_pos h2, if_pos h2]
    exact .inl ⟨_, rfl, by decide, rfl⟩
  rw [if_neg h2, if_neg h2]
  by_cases h3 : (s.length : Int) < ((q + k : Nat) : Int) + n
  · rw [if_pos h3, if_pos (by omega)]
    exact .inl ⟨_, rfl, by decide, rfl⟩
  rw [if_neg h3, if_neg (by omega)]
  exact .inr ⟨_, _, rfl, by rw [List.drop_drop]; congr 1; omega⟩
theorem rfixed_p (s : List UInt8) (q k : Nat) (h1 : 1 ≤ k) (h8 : k ≤ 8) (hq : q ≤ s.length) :
    (∃ e, pFixed k s q = .error e ∧ e ≠ 0 ∧ rfixed (s.drop q) k = ⟨⟨false, []⟩, 0, e⟩) ∨ (∃ b r, pFixed k s q = .ok (b, r) ∧ q ≤ r ∧ r ≤ s.length ∧ rfixed (s.drop q) k = ⟨b, ((r - q : Nat) : Int), 0⟩) := by
  have hd : (s.drop q).length = s.length - q := List.length_drop
  unfold rfixed
  by_cases hl : (s.drop q).length < k
  · rw [if_pos hl]
    exact .inl ⟨1, Pr.bind_err (by unfold pInt; rw [if_pos (by omega)]), by decide, rfl⟩
  · rw [if_neg hl]
    have hp : pInt k s q = .ok (beInt ((s.drop q).take k), q + k) := by unfold pInt; rw [if_neg (by omega)]
    rcases rgot_p s q k _ (beInt ((s.drop q).take k)) (by omega) rfl hq with ⟨e, g1, g2, g3⟩ | ⟨b, r, g1, g2⟩
    · exact .inl ⟨e, by rw [pFixed, Pr.bind_of hp, g1], g2, g3⟩
    · have hb : pFixed k s q = .ok (b, r) := by rw [pFixed, Pr.bind_of hp, g1]
      have := (Sp_fixed k h1 h8).spell _ _ _ _ hq hb
      exact .inr ⟨b, r, hb, this.1, this.2.1, g2⟩
theorem rvaried_p (s : List UInt8) (q : Nat) (hq : q ≤ s.length) :
    (∃ e, pVaried s q = .error e ∧ e ≠ 0 ∧ rvaried (s.drop q) = ⟨⟨false, []⟩, 0, e⟩) ∨ (∃ b r, pVaried s q = .ok (b, r) ∧ q ≤ r ∧ r ≤ s.length ∧ rvaried (s.drop q) = ⟨b, ((r - q : Nat) : Int), 0⟩) := by
  have hd : (s.drop q).length = s.length - q := List.length_drop
  unfold rvaried rvaried_ vgot
  by_cases he : (vgo 32 (s.drop q) 0 0 0).2.err = 0
  · rw [if_pos he]
    simp only
    rw [if_neg (by simp)]
    have hp : pVnat 32 s q = .ok ((vgo 32 (s.drop q) 0 0 0).1, q + (vgo 32 (s.drop q) 0 0 0).2.pos) := by unfold pVnat; rw [if_pos he]
    have hg := vnat_good hq hp
    have hp2 : pVint 32 s q = .ok (vback (vgo 32 (s.drop q) 0 0 0).1, q + (vgo 32 (s.drop q) 0 0 0).2.pos) := by rw [pVint, Pr.bind_of hp]; rfl
    rcases rgot_p s q (vgo 32 (s.drop q) 0 0 0).2.pos _ (vback (vgo 32 (s.drop q) 0 0 0).1) (by omega) rfl hq with ⟨e, g1, g2, g3⟩ | ⟨b, r, g1, g2⟩
    · exact .inl ⟨e, by rw [pVaried, Pr.bind_of hp2, g1], g2, g3⟩
    · have hb : pVaried s q = .ok (b, r) := by rw [pVaried, Pr.bind_of hp2, g1]
      have := Sp_varied.spell _ _ _ _ hq hb
      exact .inr ⟨b, r, hb, this.1, this.2.1, g2⟩
  · rw [if_neg he]
    simp only
    rw [if_pos he]
    have hp : pVnat 32 s q = .error (vgo 32 (s.drop q) 0 0 0).2.err := by unfold pVnat; rw [if_neg he]
    exact .inl ⟨_, by rw [pVaried, pVint, Pr.bind_err (Pr.bind_err hp)], he, rfl⟩
/-! Writers. -/
theorem oput_z (t l : List UInt8) : oput (t, 0) l = (t ++ l, 0) := rfl
theorem oput_d {st : List UInt8 × Int} (h : st.2 ≠ 0) (l : List UInt8) : oput st l = st := by unfold oput; rw [if_neg h]
theorem ofail_z (t : List UInt8) (e : Int) : ofail (t, 0) e = (t, e) := rfl
theorem ofail_d {st : List UInt8 × Int} (h : st.2 ≠ 0) (e : Int) : ofail st e = st := by unfold ofail; rw [if_neg h]
theorem fits_rng {n k : Int} (h : fits n k = true) : -9223372036854775808 ≤ n ∧ n ≤ 9223372036854775807 := by
  unfold fits at h
  simp only [Bool.and_eq_true, decide_eq_true_eq] at h
  obtain ⟨⟨⟨h1, h2⟩, h3⟩, h4⟩ := h
  have : (2 : Nat) ^ (8 * k.toNat - 1) ≤ 2 ^ 63 := Nat.pow_le_pow_right (by decide) (by omega)
  have h5 : ((2 : Int) ^ (8 * k.toNat - 1)) = ((2 ^ (8 * k.toNat - 1) : Nat) : Int) := by simp
  have h6 : (2 : Nat) ^ 63 = 9223372036854775808 := by decide
  omega
theorem gOInt_z {t : List UInt8} {n k : Int} (hf : fits n k = true) (ht : t.length ≤ 140737488355320) : gOInt (t, 0) n k = some (t ++ be n k.toNat, 0) := by
  rw [gOInt_eq _ _ _ ⟨fits_rng hf, by simp only; omega⟩]
  unfold oint
  rw [if_pos hf, oput_z]
theorem gOInt_no {t : List UInt8} {n k : Int} (hf : fits n k = false) (hn : -9223372036854775808 ≤ n ∧ n ≤ 9223372036854775807) (ht : t.length ≤ 140737488355320) : gOInt (t, 0) n k = some (t, 11) := by
  rw [gOInt_eq _ _ _ ⟨hn, by simp only; omega⟩]
  unfold oint
  rw [if_neg (by simp [hf]), ofail_z]
theorem gOInt_d {st : List UInt8 × Int} {n k : Int} (h : st.2 ≠ 0) (hn : -9223372036854775808 ≤ n ∧ n ≤ 9223372036854775807) (ht : st.1.length ≤ 140737488355320) : gOInt st n k = some st := by
  rw [gOInt_eq _ _ _ ⟨hn, by omega⟩]
  unfold oint
  split
  · rw [oput_d h]
  · rw [ofail_d h]
theorem gPutFixed_z {t : List UInt8} {b : Bl} {k : Int} (hf : fits (blen b) k = true) (hb : bright b = true) (ht : t.length + b.data.length ≤ 140737488355320) : gPutFixed (t, 0) b k = some (t ++ (be (blen b) k.toNat ++ b.data), 0) := by
  have h8 : 1 ≤ k ∧ k ≤ 8 := by unfold fits at hf; simp only [Bool.and_eq_true, decide_eq_true_eq] at hf; exact ⟨hf.1.1.1, hf.1.1.2⟩
  rw [gPutFixed_eq _ _ _ ⟨by omega, by simp only; omega⟩]
  unfold bputFixed bwrite oint
  rw [if_pos hb, if_pos hf, oput_z, oput_z, List.append_assoc]
theorem gPutVaried_z {t : List UInt8} {b : Bl} (hb : bright b = true) (hl : b.data.length ≤ 2147483647) (ht : t.length + b.data.length ≤ 140737488355310) : gPutVaried (t, 0) b = some (t ++ (vput (vfold (blen b)) ++ b.data), 0) := by
  rw [gPutVaried_eq _ _ (by simp only; omega)]
  unfold bputVaried bwrite vputInt
  rw [if_pos hb, if_pos (by unfold blen; split <;> omega), oput_z, oput_z, List.append_assoc]
/-! The code's readers, in one sentence each. -/
structure CQ {α : Type} (op : I → Option (α × I)) (p : Pr α) (z : α) : Prop where
  dead : ∀ st : I, st.err ≠ 0 → op st = some (z, st)
  run : ∀ (s : List UInt8) (q : Nat), q ≤ s.length → (∃ (e : Int) (st : I), p s q = .error e ∧ op ⟨s.drop q, q, 0⟩ = some (z, st) ∧ st.err = e ∧ st.err ≠ 0) ∨ (∃ (a : α) (r : Nat), p s q = .ok (a, r) ∧ op ⟨s.drop q, q, 0⟩ = some (a, ⟨s.drop r, r, 0⟩) ∧ q ≤ r ∧ r ≤ s.length)
theorem CR.cq {α : Type} {op : I → Option (α × I)} {p : Pr α} {z : α} {enc : α → List UInt8} {ok : α → Prop} (h : CR op p z) (hs : Sp p enc ok) : CQ op p z := by
  refine ⟨h.dead, fun s q hq => ?_⟩
  cases hp : p s q with
  | error e =>
    obtain ⟨st, h1, h2, h3⟩ := h.bad s q e hq hp
    exact .inl ⟨e, st, rfl, h1, h2, by rw [h2]; exact h3⟩
  | ok x =>
    have := hs.spell s q x.1 x.2 hq hp
    exact .inr ⟨x.1, x.2, rfl, h.good s q x.1 x.2 hq hp, this.1, this.2.1⟩
theorem Q_int (k : Nat) (h1 : 1 ≤ k) (h8 : k ≤ 8) (kk : Int) (hk : kk = (k : Int)) : CQ (fun st => gInt st kk) (pInt k) 0 := (CR_int k h1 h8 kk hk).cq (Sp_int k h1 h8)
theorem Q1 : CQ (fun st => gInt st 1) (pInt 1) 0 := Q_int 1 (by decide) (by decide) 1 rfl
theorem Q2 : CQ (fun st => gInt st 2) (pInt 2) 0 := Q_int 2 (by decide) (by decide) 2 rfl
theorem Q4 : CQ (fun st => gInt st 4) (pInt 4) 0 := Q_int 4 (by decide) (by decide) 4 rfl
theorem Q8 : CQ (fun st => gInt st 8) (pInt 8) 0 := Q_int 8 (by decide) (by decide) 8 rfl
theorem gInt_d {st : I} {k : Int} (h : st.err ≠ 0) : gInt st k = some (0, st) := by rw [gInt_eq, iint_err h]
theorem ifail_z (l : List UInt8) (q : Nat) (e : Int) : ifail ⟨l, q, 0⟩ e = ⟨l, q, e⟩ := rfl
theorem QF2 : CQ (fun st => gFixed st 2) (pFixed 2) (⟨false, []⟩ : Bl) := (CR_fixed 2 (by decide) (by decide) 2 rfl).cq (Sp_fixed 2 (by decide) (by decide))
theorem QF4 : CQ (fun st => gFixed st 4) (pFixed 4) (⟨false, []⟩ : Bl) := (CR_fixed 4 (by decide) (by decide) 4 rfl).cq (Sp_fixed 4 (by decide) (by decide))
theorem gFixed_d {st : I} {k : Int} (h : st.err ≠ 0) : gFixed st k = some (⟨false, []⟩, st) := by rw [gFixed_eq, bfixed_err h]
theorem QV : CQ gVaried pVaried (⟨false, []⟩ : Bl) := CR_varied.cq Sp_varied
theorem QT : CQ gText pText [] := CR_text.cq Sp_text
theorem QN : CQ gName pName [] := CR_name.cq Sp_name
/-- What was written is read whole. -/
theorem CQ.whole {α : Type} {op : I → Option (α × I)} {p : Pr α} {z : α} {enc : α → List UInt8} {ok : α → Prop} (h : CQ op p z) (hs : Sp p enc ok) {a : α} (ha : ok a) : op ⟨enc a, 0, 0⟩ = some (a, ⟨[], (enc a).length, 0⟩) := by
  have h1 := hs.back (enc a) [] 0 a (Nat.zero_le _) ha (by simp)
  rw [Nat.zero_add] at h1
  rcases h.run (enc a) 0 (Nat.zero_le _) with ⟨e, st, p1, g1, x1, y1⟩ | ⟨b, r, p1, g1, n1, l1⟩
  · rw [h1] at p1
    exact nomatch p1
  · rw [h1] at p1
    injection p1 with p1
    obtain ⟨rfl, rfl⟩ := Prod.mk.inj p1
    rw [List.drop_length] at g1
    exact g1
theorem gClose_z (q : Nat) : gClose ⟨[], q, 0⟩ = some (0, ⟨[], q, 0⟩) := rfl
theorem otx_z (t : List UInt8) : otx (t, 0) = (t, 0) := by simp [otx]
theorem otx_e (t : List UInt8) (e : Int) (h : e ≠ 0) : otx (t, e) = ([], e) := by simp [otx, h]
theorem fits_small {n : Int} {k : Int} (h : k = 2 ∨ k = 4 ∨ k = 8) (h1 : -32768 ≤ n) (h2 : n ≤ 32767) : fits n k = true := by
  have e2 : (2 : Int) ^ (8 * (2 : Int).toNat - 1) = 32768 := by decide
  have e4 : (2 : Int) ^ (8 * (4 : Int).toNat - 1) = 2147483648 := by decide
  have e8 : (2 : Int) ^ (8 * (8 : Int).toNat - 1) = 9223372036854775808 := by decide
  unfold fits
  simp only [Bool.and_eq_true, decide_eq_true_eq]
  rcases h with rfl | rfl | rfl <;> omega
end Go.Proofs.Ytdlpmcbglmgpiaa.Sl
