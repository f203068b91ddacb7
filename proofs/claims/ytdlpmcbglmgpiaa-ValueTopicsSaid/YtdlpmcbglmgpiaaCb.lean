/- codecs: rows (plain laws). -/
import Derived.Test.YtdlpmcbglmgpiaaC
namespace Go.Proofs.Ytdlpmcbglmgpiaa.Sl
open Go.RowKit
set_option linter.unusedVariables false
set_option linter.unusedSimpArgs false
/-- What is read behind q bytes, counted from there. -/
def shift {α : Type} (q : Nat) : Except Int (α × Nat) → Except Int (α × Nat)
  | .error e => .error e
  | .ok (a, r) => .ok (a, q + r)
/-- A reader that looks at nothing ahead of it. -/
def Sh {α : Type} (p : Pr α) : Prop := ∀ (s : List UInt8) (q k : Nat), q + k ≤ s.length → p s (q + k) = shift q (p (s.drop q) k)
theorem Sh.ret {α : Type} (a : α) : Sh (Pr.ret a) := fun s q k h => rfl
theorem Sh.err {α : Type} (e : Int) : Sh (Pr.err e : Pr α) := fun s q k h => rfl
theorem Sh.bind {α β : Type} {p : Pr α} {f : α → Pr β} {enc : α → List UInt8} {ok : α → Prop} (hp : Sh p) (hs : Sp p enc ok) (hf : ∀ a, Sh (f a)) : Sh (p.bind f) := by
  intro s q k h
  unfold Pr.bind
  rw [hp s q k h]
  cases hx : p (s.drop q) k with
  | error e => rfl
  | ok x =>
    have := (hs.spell (s.drop q) k x.1 x.2 (by rw [List.length_drop]; omega) hx).2.1
    rw [List.length_drop] at this
    exact hf x.1 s q x.2 (by omega)
theorem Sh_int (k : Nat) : Sh (pInt k) := by
  intro s q j h
  unfold pInt
  rw [List.length_drop, List.drop_drop]
  by_cases hc : s.length < q + j + k
  · rw [if_pos hc, if_pos (by omega)]
    rfl
  · rw [if_neg hc, if_neg (by omega)]
    simp only [shift, Nat.add_assoc]
theorem Sh_got (n : Int) : Sh (pGot n) := by
  intro s q j h
  unfold pGot
  rw [List.length_drop, List.drop_drop]
  by_cases h1 : n = -1
  · rw [if_pos h1, if_pos h1]
    rfl
  rw [if_neg h1, if_neg h1]
  by_cases h2 : n < 0
  · rw [if_pos h2, if_pos h2]
    rfl
  rw [if_neg h2, if_neg h2]
  by_cases hc : (s.length : Int) < ((q + j : Nat) : Int) + n
  · rw [if_pos hc, if_pos (by omega)]
    rfl
  · rw [if_neg hc, if_neg (by omega)]
    simp only [shift, Nat.add_assoc]
theorem Sh_fixed (k : Nat) (h1 : 1 ≤ k) (h8 : k ≤ 8) : Sh (pFixed k) := (Sh_int k).bind (Sp_int k h1 h8) Sh_got
theorem Sh_vnat (bs : Int) : Sh (pVnat bs) := by
  intro s q j h
  unfold pVnat
  rw [List.drop_drop]
  split
  · simp only [shift, Nat.add_assoc]
  · rfl
theorem Sh_vint (bs : Int) (hb : bs = 32 ∨ bs = 64) : Sh (pVint bs) := (Sh_vnat bs).bind (Sp_vnat bs hb) fun _ => .ret _
theorem Sh_varied : Sh pVaried := (Sh_vint 32 (.inl rfl)).bind (Sp_vint 32 (.inl rfl)) Sh_got
theorem Sh_must {p : Pr Bl} {enc : Bl → List UInt8} {ok : Bl → Prop} (hp : Sh p) (hs : Sp p enc ok) : Sh (pMust p) := hp.bind hs fun b => by
  split
  · exact .err 4
  · exact .ret _
theorem Sh_text : Sh pText := Sh_must (Sh_fixed 2 (by decide) (by decide)) (Sp_fixed 2 (by decide) (by decide))
theorem Sh_name : Sh pName := Sh_must Sh_varied Sp_varied
theorem Sh.zero {α : Type} {p : Pr α} (h : Sh p) {s : List UInt8} {q : Nat} (hq : q ≤ s.length) : p s q = shift q (p (s.drop q) 0) := h s q 0 hq
/-! How many there are. -/
def pLeft (each : Nat) (n : Int) : Pr Int := fun s q => if n < 0 then .error 4 else if 0 < each ∧ ((s.length - q : Nat) : Int) / each < n then .error 1 else .ok (n, q)
def pCount (k each : Nat) : Pr Int := (pInt k).bind (pLeft each)
theorem Sh_left (each : Nat) (n : Int) : Sh (pLeft each n) := by
  intro s q j h
  unfold pLeft
  rw [List.length_drop, show s.length - q - j = s.length - (q + j) by omega]
  split
  · rfl
  · split
    · rfl
    · rfl
theorem Sh_count (k each : Nat) (h1 : 1 ≤ k) (h8 : k ≤ 8) : Sh (pCount k each) := (Sh_int k).bind (Sp_int k h1 h8) (Sh_left each)
theorem pCount_ok {k each : Nat} (h1 : 1 ≤ k) (h8 : k ≤ 8) {s : List UInt8} {q r : Nat} {n : Int} (hq : q ≤ s.length) (h : pCount k each s q = .ok (n, r)) : 0 ≤ n ∧ (0 < each → n * each ≤ ((s.length - r : Nat) : Int)) ∧ r = q + k ∧ r ≤ s.length ∧ s.take r = s.take q ++ be n k ∧ fits n k = true := by
  obtain ⟨m, r', h2, h⟩ := Pr.bind_ok h
  obtain ⟨a1, a2, a3, a4, a5⟩ := (Sp_int k h1 h8).spell _ _ _ _ hq h2
  unfold pLeft at h
  split at h
  · exact nomatch h
  · rename_i hn
    split at h
    · exact nomatch h
    · rename_i he
      injection h with h
      obtain ⟨rfl, rfl⟩ := Prod.mk.inj h
      rw [be_length] at a3
      refine ⟨by omega, fun hz => ?_, a3, a2, a4, a5⟩
      have : m ≤ ((s.length - r' : Nat) : Int) / each := by
        rcases Int.lt_or_le (((s.length - r' : Nat) : Int) / each) m with g | g
        · exact absurd ⟨hz, g⟩ he
        · exact g
      exact (Int.le_ediv_iff_mul_le (by omega)).1 this
theorem pCount_of {k each : Nat} (h1 : 1 ≤ k) (h8 : k ≤ 8) {s t : List UInt8} {q : Nat} {n : Int} (hq : q ≤ s.length) (hf : fits n k = true) (hn : 0 ≤ n) (h : s.drop q = be n k ++ t) (hl : 0 < each → n * each ≤ t.length) : pCount k each s q = .ok (n, q + k) := by
  have g := (Sp_int k h1 h8).back s t q n hq hf h
  rw [be_length] at g
  rw [pCount, Pr.bind_of g]
  unfold pLeft
  have hlen := congrArg List.length h
  rw [List.length_drop, List.length_append, be_length] at hlen
  rw [if_neg (by omega), if_neg]
  rintro ⟨hz, hc⟩
  have := (Int.le_ediv_iff_mul_le (show (0 : Int) < each by omega)).2 (hl hz)
  rw [show s.length - (q + k) = t.length by omega] at hc
  omega
theorem Q_count (k each : Nat) (h1 : 1 ≤ k) (h8 : k ≤ 8) (kk ee : Int) (hk : kk = (k : Int)) (he : ee = (each : Int)) (h9 : ee ≤ 1000) : CQ (fun st => gCount st kk ee) (pCount k each) 0 := by
  subst hk
  refine ⟨fun st h => ?_, fun s q hq => ?_⟩
  · show gCount st k ee = _
    rw [gCount_eq _ _ _ ⟨by omega, by omega⟩]
    unfold icount
    rw [iint_err h]
    simp only
    rw [if_pos h]
  · show (∃ e st, pCount k each s q = .error e ∧ gCount ⟨s.drop q, q, 0⟩ k ee = some (0, st) ∧ _ ∧ _) ∨ (∃ a r, pCount k each s q = .ok (a, r) ∧ gCount ⟨s.drop q, q, 0⟩ k ee = some (a, ⟨s.drop r, r, 0⟩) ∧ q ≤ r ∧ r ≤ s.length)
    rw [gCount_eq _ _ _ ⟨by omega, by omega⟩]
    unfold icount
    rcases (Q_int k h1 h8 k rfl).run s q hq with ⟨e, st, p1, g1, x1, y1⟩ | ⟨n, r, p1, g1, n1, l1⟩
    · rw [gInt_eq] at g1
      have g1 := Option.some.inj g1
      obtain ⟨u1, u2⟩ := Prod.mk.inj g1
      rw [u2]
      exact .inl ⟨e, st, Pr.bind_err p1, by rw [if_pos y1], x1, y1⟩
    · rw [gInt_eq] at g1
      have g1 := Option.some.inj g1
      have u3 : iint ⟨s.drop q, q, 0⟩ k = (n, ⟨s.drop r, r, 0⟩) := g1
      rw [u3, pCount, Pr.bind_of p1]
      simp only
      rw [if_neg (by simp)]
      unfold pLeft
      by_cases hn : n < 0
      · rw [if_pos hn, if_pos hn]
        exact .inl ⟨4, _, rfl, rfl, rfl, by simp [ifail]⟩
      · rw [if_neg hn, if_neg hn, List.length_drop, he]
        by_cases hc : 0 < each ∧ ((s.length - r : Nat) : Int) / each < n
        · rw [if_pos hc, if_pos ⟨by omega, hc.2⟩]
          exact .inl ⟨1, _, rfl, rfl, rfl, by simp [ifail]⟩
        · rw [if_neg hc, if_neg (fun h => hc ⟨by omega, h.2⟩)]
          exact .inr ⟨n, r, rfl, rfl, n1, l1⟩
theorem gCount_d {st : I} {k e : Int} (h : st.err ≠ 0) (hk : 0 ≤ k ∧ k ≤ 1000) (he : 0 ≤ e ∧ e ≤ 1000) : gCount st k e = some (0, st) := by
  rw [gCount_eq _ _ _ ⟨by omega, by omega⟩]
  unfold icount
  rw [iint_err h]
  simp only
  rw [if_pos h]
/-! So many, one behind the other. -/
def pRep {α : Type} (p : Pr α) : Nat → Pr (List α)
  | 0 => .ret []
  | n + 1 => p.bind fun a => (pRep p n).bind fun l => .ret (a :: l)
def encs {α : Type} (enc : α → List UInt8) : List α → List UInt8
  | [] => []
  | a :: l => enc a ++ encs enc l
theorem Sp_rep {α : Type} {p : Pr α} {enc : α → List UInt8} {ok : α → Prop} (hp : Sp p enc ok) : ∀ n : Nat, Sp (pRep p n) (encs enc) (fun l => l.length = n ∧ ∀ x, x ∈ l → ok x)
  | 0 => by
    refine ⟨fun s q a r hq h => ?_, fun s t q a hq ha h => ?_⟩
    · injection h with h
      obtain ⟨rfl, rfl⟩ := Prod.mk.inj h
      exact ⟨Nat.le_refl _, hq, rfl, by simp [encs], rfl, fun x h => nomatch h⟩
    · obtain rfl := List.length_eq_zero_iff.1 ha.1
      rfl
  | n + 1 => by
    have ih := Sp_rep hp n
    refine ⟨fun s q a r hq h => ?_, fun s t q a hq ha h => ?_⟩
    · obtain ⟨x, q1, h1, h⟩ := Pr.bind_ok h
      obtain ⟨l, q2, h2, h⟩ := Pr.bind_ok h
      injection h with h
      obtain ⟨rfl, rfl⟩ := Prod.mk.inj h
      obtain ⟨a1, a2, a3, a4, a5⟩ := hp.spell _ _ _ _ hq h1
      obtain ⟨b1, b2, b3, b4, b5, b6⟩ := ih.spell _ _ _ _ a2 h2
      refine ⟨by omega, b2, by rw [encs, List.length_append]; omega, by rw [b4, a4, encs, List.append_assoc], by rw [List.length_cons, b5], fun y hy => ?_⟩
      rcases List.mem_cons.1 hy with rfl | hy
      · exact a5
      · exact b6 y hy
    · obtain ⟨ha1, ha2⟩ := ha
      cases a with
      | nil => exact absurd ha1 (by simp)
      | cons x l =>
        rw [encs, List.append_assoc] at h
        have hl := congrArg List.length h
        rw [List.length_drop, List.length_append] at hl
        have g1 := hp.back _ _ _ _ hq (ha2 x (.head _)) h
        have g2 := ih.back _ _ _ _ (by omega) ⟨by simpa using ha1, fun y hy => ha2 y (.tail _ hy)⟩ (drop_step h)
        rw [pRep, Pr.bind_of g1, Pr.bind_of g2]
        simp only [Pr.ret, encs, List.length_append, Nat.add_assoc]
theorem Sh_rep {α : Type} {p : Pr α} {enc : α → List UInt8} {ok : α → Prop} (hs : Sh p) (hp : Sp p enc ok) : ∀ n : Nat, Sh (pRep p n)
  | 0 => .ret _
  | n + 1 => hs.bind hp fun a => (Sh_rep hs hp n).bind (Sp_rep hp n) fun l => .ret _
theorem encs_ge {α : Type} {enc : α → List UInt8} {ok : α → Prop} {each : Nat} (he : ∀ x, ok x → each ≤ (enc x).length) : ∀ l : List α, (∀ x, x ∈ l → ok x) → l.length * each ≤ (encs enc l).length
  | [], h => by simp
  | x :: l, h => by
    have := encs_ge he l (fun y hy => h y (.tail _ hy))
    have := he x (h x (.head _))
    rw [encs, List.length_append, List.length_cons, Nat.add_mul]
    omega
/-- A row: how many, and all of them. -/
def pRow {α : Type} (k each : Nat) (p : Pr α) : Pr (List α) := (pCount k each).bind fun n => pRep p n.toNat
theorem Sp_row {α : Type} {p : Pr α} {enc : α → List UInt8} {ok : α → Prop} (k each : Nat) (h1 : 1 ≤ k) (h8 : k ≤ 8) (hp : Sp p enc ok) (he : ∀ x, ok x → each ≤ (enc x).length) : Sp (pRow k each p) (fun l => be (l.length : Int) k ++ encs enc l) (fun l => fits (l.length : Int) k = true ∧ ∀ x, x ∈ l → ok x) := by
  refine ⟨fun s q a r hq h => ?_, fun s t q a hq ha h => ?_⟩
  · obtain ⟨n, q1, g1, h⟩ := Pr.bind_ok h
    obtain ⟨a1, a2, a3, a4, a5, a6⟩ := pCount_ok h1 h8 hq g1
    obtain ⟨b1, b2, b3, b4, b5, b6⟩ := (Sp_rep hp n.toNat).spell _ _ _ _ a4 h
    have hn : (a.length : Int) = n := by omega
    refine ⟨by omega, b2, by rw [List.length_append, be_length]; omega, by rw [b4, a5, hn, List.append_assoc], by rw [hn]; exact a6, b6⟩
  · rw [List.append_assoc] at h
    have hl := congrArg List.length h
    rw [List.length_drop, List.length_append, List.length_append, be_length] at hl
    have g1 := pCount_of (each := each) h1 h8 hq ha.1 (by omega) h (fun _ => by
      have := encs_ge he a ha.2
      rw [List.length_append, Int.natCast_add, ← Int.natCast_mul]
      omega)
    have h2 := drop_step h
    rw [be_length] at h2
    have g2 := (Sp_rep hp a.length).back _ _ _ _ (by omega) ⟨rfl, ha.2⟩ h2
    rw [pRow, Pr.bind_of g1, Int.toNat_natCast, g2, List.length_append, be_length]
    simp only [Nat.add_assoc]
theorem Sh_row {α : Type} {p : Pr α} {enc : α → List UInt8} {ok : α → Prop} (k each : Nat) (h1 : 1 ≤ k) (h8 : k ≤ 8) (hs : Sh p) (hp : Sp p enc ok) : Sh (pRow k each p) := by
  intro s q j h
  unfold pRow Pr.bind
  rw [Sh_count k each h1 h8 s q j h]
  cases hx : pCount k each (s.drop q) j with
  | error e => rfl
  | ok x =>
    have := (pCount_ok h1 h8 (by rw [List.length_drop]; omega) hx).2.2.2.1
    rw [List.length_drop] at this
    exact Sh_rep hs hp x.1.toNat s q x.2 (by omega)
/-! Readers of bytes that are not too many. -/
structure CB {α : Type} (op : I → Option (α × I)) (p : Pr α) (z : α) : Prop where
  dead : ∀ st : I, st.err ≠ 0 → op st = some (z, st)
  run : ∀ (s : List UInt8) (q : Nat), s.length ≤ 1000000 → q ≤ s.length → (∃ (e : Int) (st : I), p s q = .error e ∧ op ⟨s.drop q, q, 0⟩ = some (z, st) ∧ st.err = e ∧ st.err ≠ 0) ∨ (∃ (a : α) (r : Nat), p s q = .ok (a, r) ∧ op ⟨s.drop q, q, 0⟩ = some (a, ⟨s.drop r, r, 0⟩) ∧ q ≤ r ∧ r ≤ s.length)
theorem CQ.cb {α : Type} {op : I → Option (α × I)} {p : Pr α} {z : α} (h : CQ op p z) : CB op p z := ⟨h.dead, fun s q _ hq => h.run s q hq⟩
theorem CB.whole {α : Type} {op : I → Option (α × I)} {p : Pr α} {z : α} {enc : α → List UInt8} {ok : α → Prop} (h : CB op p z) (hs : Sp p enc ok) {a : α} (hb : (enc a).length ≤ 1000000) (ha : ok a) : op ⟨enc a, 0, 0⟩ = some (a, ⟨[], (enc a).length, 0⟩) := by
  have h1 := hs.back (enc a) [] 0 a (Nat.zero_le _) ha (by simp)
  rw [Nat.zero_add] at h1
  rcases h.run (enc a) 0 hb (Nat.zero_le _) with ⟨e, st, p1, g1, x1, y1⟩ | ⟨b, r, p1, g1, n1, l1⟩
  · rw [h1] at p1
    exact nomatch p1
  · rw [h1] at p1
    injection p1 with p1
    obtain ⟨rfl, rfl⟩ := Prod.mk.inj p1
    rw [List.drop_length] at g1
    exact g1
/-- What goes wrong has a number. -/
def NZ {α : Type} (p : Pr α) : Prop := ∀ (s : List UInt8) (q : Nat) (e : Int), s.length ≤ 1000000 → q ≤ s.length → p s q = .error e → e ≠ 0
theorem CB.nz {α : Type} {op : I → Option (α × I)} {p : Pr α} {z : α} (h : CB op p z) : NZ p := by
  intro s q e hs hq hp
  rcases h.run s q hs hq with ⟨e', st, p1, g, x, y⟩ | ⟨a, r, p1, g, n, l⟩
  · rw [hp] at p1
    injection p1 with p1
    rw [p1, ← x]
    exact y
  · rw [hp] at p1
    exact nomatch p1
theorem NZ.ret {α : Type} (a : α) : NZ (Pr.ret a) := fun s q e _ _ h => nomatch h
theorem NZ.err {α : Type} {e : Int} (he : e ≠ 0) : NZ (Pr.err e : Pr α) := fun s q e' _ _ h => by injection h with h; rw [← h]; exact he
theorem NZ.bind {α β : Type} {p : Pr α} {f : α → Pr β} {enc : α → List UInt8} {ok : α → Prop} (hp : NZ p) (hs : Sp p enc ok) (hf : ∀ a, NZ (f a)) : NZ (p.bind f) := by
  intro s q e hl hq h
  cases hx : p s q with
  | error e' =>
    rw [Pr.bind_err hx] at h
    injection h with h
    rw [← h]
    exact hp s q e' hl hq hx
  | ok x =>
    rw [Pr.bind_of (a := x.1) (r := x.2) hx] at h
    exact hf x.1 s x.2 e hl (hs.spell s q x.1 x.2 hq hx).2.1 h
end Go.Proofs.Ytdlpmcbglmgpiaa.Sl
