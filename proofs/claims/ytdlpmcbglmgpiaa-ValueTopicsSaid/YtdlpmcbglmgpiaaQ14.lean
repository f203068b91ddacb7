/- values: topics, read (plain laws). -/
import Derived.Test.YtdlpmcbglmgpiaaCb
import Derived.Test.YtdlpmcbglmgpiaaWf
import Derived.Test.YtdlpmcbglmgpiaaPcursitorlaw14
namespace Go.Proofs.Ytdlpmcbglmgpiaa.Sl
open Go.RowKit
set_option linter.unusedVariables false
set_option linter.unusedSimpArgs false
theorem speaks14_eq : f_l14_speaks = some true := by kernel_rfl
def pTopic : Pr Top := pText.bind fun nm => (pRow 4 4 (pInt 4)).bind fun ps => .ret ⟨nm, ps⟩
def encT (t : Top) : List UInt8 := (be (t.fName.length : Int) 2 ++ t.fName) ++ (be (t.fParts.length : Int) 4 ++ encs (fun n => be n 4) t.fParts)
def okT (t : Top) : Prop := fits (t.fName.length : Int) 2 = true ∧ fits (t.fParts.length : Int) 4 = true ∧ ∀ n, n ∈ t.fParts → fits n 4 = true
theorem Sp_parts : Sp (pRow 4 4 (pInt 4)) (fun l => be (l.length : Int) 4 ++ encs (fun n => be n 4) l) (fun l => fits (l.length : Int) 4 = true ∧ ∀ n, n ∈ l → fits n 4 = true) := Sp_row 4 4 (by decide) (by decide) (Sp_int 4 (by decide) (by decide)) (fun x _ => by rw [be_length]; decide)
theorem Sp_topic : Sp pTopic encT okT := by
  refine ⟨fun s q a r hq h => ?_, fun s t q a hq ha h => ?_⟩
  · obtain ⟨k, q1, h1, h⟩ := Pr.bind_ok h
    obtain ⟨v, q2, h2, h⟩ := Pr.bind_ok h
    injection h with h
    obtain ⟨rfl, rfl⟩ := Prod.mk.inj h
    obtain ⟨a1, a2, a3, a4, a5⟩ := Sp_text.spell _ _ _ _ hq h1
    obtain ⟨b1, b2, b3, b4, b5⟩ := Sp_parts.spell _ _ _ _ a2 h2
    exact ⟨by omega, b2, by simp only [encT, List.length_append] at *; omega, by rw [b4, a4]; simp only [encT, List.append_assoc], a5.1, b5⟩
  · obtain ⟨a1, a2, a3⟩ := ha
    have hl := congrArg List.length h
    rw [encT, List.append_assoc] at h
    have g1 := Sp_text.back _ _ _ _ hq ⟨a1, rfl⟩ h
    have h := drop_step h
    have g2 := Sp_parts.back _ _ _ _ (by simp only [encT, List.length_drop, List.length_append, be_length] at *; omega) ⟨a2, a3⟩ h
    rw [pTopic, Pr.bind_of g1, Pr.bind_of g2]
    simp only [Pr.ret, encT, List.length_append, Nat.add_assoc]
theorem encT_ge (t : Top) (h : okT t) : 6 ≤ (encT t).length := by simp only [encT, List.length_append, be_length]; omega
theorem Sp_topics : Sp (pRow 4 6 pTopic) (fun l => be (l.length : Int) 4 ++ encs encT l) (fun l => fits (l.length : Int) 4 = true ∧ ∀ t, t ∈ l → okT t) := Sp_row 4 6 (by decide) (by decide) Sp_topic encT_ge
theorem Sh_topic : Sh pTopic := Sh_text.bind Sp_text fun nm => (Sh_row 4 4 (by decide) (by decide) (Sh_int 4) (Sp_int 4 (by decide) (by decide))).bind Sp_parts fun ps => .ret _
theorem Sh_topics : Sh (pRow 4 6 pTopic) := Sh_row 4 6 (by decide) (by decide) Sh_topic Sp_topic
theorem topics_l2 (n : Int) (s : List UInt8) (hn : n ≤ 1000000) : ∀ (m fuel k : Nat) (acc : List Int) (q : Nat), ((k + m : Nat) : Int) = n → m < fuel → q + 4 * m ≤ s.length → acc.length = k →
    ∃ l, pRep (pInt 4) m s q = .ok (l, q + 4 * m) ∧ f_value_Topics_l2 n fuel k acc ⟨s.drop q, q, 0⟩ = some (k + m, acc ++ l, ⟨s.drop (q + 4 * m), q + 4 * m, 0⟩)
  | 0, fuel + 1, k, acc, q, h1, h2, h3, h4 => ⟨[], rfl, by rw [f_value_Topics_l2, if_neg (by omega), List.append_nil]; rfl⟩
  | m + 1, fuel + 1, k, acc, q, h1, h2, h3, h4 => by
    rw [f_value_Topics_l2, if_pos (by omega)]
    rcases Q4.run s q (by omega) with ⟨e, st, p1, g1, x1, y1⟩ | ⟨a, r, p1, g1, n1, l1⟩
    · unfold pInt at p1
      rw [if_neg (by omega)] at p1
      exact nomatch p1
    · have hr : r = q + 4 := by
        unfold pInt at p1
        rw [if_neg (by omega)] at p1
        injection p1 with p1
        exact (Prod.mk.inj p1).2.symm
      subst hr
      rw [g1]
      simp only [Option.bind_some]
      rw [if_pos (by omega), if_pos (by omega)]
      obtain ⟨l, e1, e2⟩ := topics_l2 n s hn m fuel (k + 1) (acc ++ [a]) (q + 4) (by omega) (by omega) (by omega) (by rw [List.length_append, h4]; rfl)
      have eq : q + 4 + 4 * m = q + 4 * (m + 1) := by omega
      rw [eq] at e1 e2
      refine ⟨a :: l, ?_, ?_⟩
      · rw [pRep, Pr.bind_of p1, Pr.bind_of e1]
        rfl
      · rw [e2, List.append_assoc]
        rw [show k + 1 + m = k + (m + 1) by omega]
        rfl
theorem topics_l1 (n : Int) (s : List UInt8) (hs : s.length ≤ 1000000) (hn : n ≤ 1000000) : ∀ (m fuel k : Nat) (acc : List Top) (q : Nat), ((k + m : Nat) : Int) = n → m < fuel → q ≤ s.length → acc.length = k →
    (∃ (e : Int) (st : I), pRep pTopic m s q = .error e ∧ f_value_Topics_l1 n fuel [] acc k ⟨s.drop q, q, 0⟩ = some (.ret ([], st)) ∧ st.err = e ∧ st.err ≠ 0) ∨
    (∃ l r, pRep pTopic m s q = .ok (l, r) ∧ f_value_Topics_l1 n fuel [] acc k ⟨s.drop q, q, 0⟩ = some (.go ([], acc ++ l, k + m, ⟨s.drop r, r, 0⟩)) ∧ q ≤ r ∧ r ≤ s.length)
  | 0, fuel + 1, k, acc, q, h1, h2, h3, h4 => .inr ⟨[], q, rfl, by rw [f_value_Topics_l1, if_neg (by omega), List.append_nil]; rfl, Nat.le_refl _, h3⟩
  | m + 1, fuel + 1, k, acc, q, h1, h2, h3, h4 => by
    rw [f_value_Topics_l1, if_pos (by omega)]
    have died : ∀ (st : I) (t : List UInt8), st.err ≠ 0 → ((gCount st 4 4).bind fun (x24, st25) => (f_value_Topics_l2 x24 ((x24).toNat + 1) 0 [] st25).bind fun (k57, y58, st61) => if (acc.length + 1) * 40 ≤ 140737488355328 then ((gErr st61).bind fun (x66, st67) => if x66 = 0 then (if -9223372036854775808 ≤ ((k : Int) + 1) ∧ ((k : Int) + 1) ≤ 9223372036854775807 then (f_value_Topics_l1 n fuel [] (acc ++ [(⟨t, y58⟩ : Top)]) (k + 1) st67) else none) else (some (Lp.ret ([], st67)))) else none) = some (Lp.ret ([], st)) := by
      intro st t h
      rw [gCount_d h (by decide) (by decide)]
      simp only [Option.bind_some]
      rw [show (0 : Int).toNat + 1 = 1 from rfl, f_value_Topics_l2, if_neg (by decide)]
      simp only [Option.bind_some, gErr_eq]
      rw [if_pos (by omega), if_neg h]
    rcases QT.run s q h3 with ⟨e, st, p1, g1, x1, y1⟩ | ⟨nm, q1, p1, g1, n1, l1⟩
    · left
      refine ⟨e, st, by rw [pRep, Pr.bind_err (show pTopic s q = .error e from Pr.bind_err p1)], ?_, x1, y1⟩
      rw [g1]
      simp only [Option.bind_some]
      exact died st [] y1
    rw [g1]
    simp only [Option.bind_some]
    rcases (Q_count 4 4 (by decide) (by decide) 4 4 rfl rfl (by decide)).run s q1 l1 with ⟨e, st, p2, g2, x2, y2⟩ | ⟨c, q2, p2, g2, n2, l2⟩
    · left
      refine ⟨e, st, by rw [pRep, Pr.bind_err]; rw [pTopic, Pr.bind_of p1, Pr.bind_err]; rw [pRow, Pr.bind_err p2], ?_, x2, y2⟩
      have := died st nm y2
      rw [gCount_d y2 (by decide) (by decide)] at this
      rw [g2]
      exact this
    obtain ⟨c1, c2, c3, c4, c5, c6⟩ := pCount_ok (by decide) (by decide) l1 p2
    have c2 := c2 (by decide)
    rw [g2]
    simp only [Option.bind_some]
    obtain ⟨ps, e1, e2⟩ := topics_l2 c s (by omega) c.toNat (c.toNat + 1) 0 [] q2 (by omega) (by omega) (by omega) rfl
    rw [e2]
    simp only [Option.bind_some, gErr_eq, if_true]
    rw [if_pos (by omega), if_pos (by omega), List.nil_append]
    have ht : pTopic s q = .ok (⟨nm, ps⟩, q2 + 4 * c.toNat) := by
      rw [pTopic, Pr.bind_of p1, Pr.bind_of (a := ps) (r := q2 + 4 * c.toNat) (by rw [pRow, Pr.bind_of p2, e1])]
      rfl
    rw [pRep, Pr.bind_of ht]
    rcases topics_l1 n s hs hn m fuel (k + 1) (acc ++ [⟨nm, ps⟩]) (q2 + 4 * c.toNat) (by omega) (by omega) (by omega) (by rw [List.length_append, h4]; rfl) with ⟨e, st, r1, r2, r3, r4⟩ | ⟨l, r, r1, r2, r3, r4⟩
    · exact .inl ⟨e, st, by rw [Pr.bind_err r1], r2, r3, r4⟩
    · refine .inr ⟨⟨nm, ps⟩ :: l, r, by rw [Pr.bind_of r1]; rfl, ?_, by omega, r4⟩
      rw [r2, List.append_assoc, show k + 1 + m = k + (m + 1) by omega]
      rfl
theorem B_topics : CB f_value_Topics (pRow 4 6 pTopic) [] := by
  refine ⟨fun st h => ?_, fun s q hs hq => ?_⟩
  · unfold f_value_Topics
    rw [gCount_d h (by decide) (by decide)]
    simp only [Option.bind_some]
    rw [show (0 : Int).toNat + 1 = 1 from rfl, f_value_Topics_l1, if_neg (by decide)]
    rfl
  · unfold f_value_Topics
    rcases (Q_count 4 6 (by decide) (by decide) 4 6 rfl rfl (by decide)).run s q hq with ⟨e, st, p1, g1, x1, y1⟩ | ⟨c, q1, p1, g1, n1, l1⟩
    · refine .inl ⟨e, st, Pr.bind_err p1, ?_, x1, y1⟩
      rw [g1]
      simp only [Option.bind_some]
      rw [show (0 : Int).toNat + 1 = 1 from rfl, f_value_Topics_l1, if_neg (by decide)]
      rfl
    · obtain ⟨c1, c2, c3, c4, c5, c6⟩ := pCount_ok (by decide) (by decide) hq p1
      have c2 := c2 (by decide)
      rw [g1, pRow, Pr.bind_of p1]
      simp only [Option.bind_some]
      rcases topics_l1 c s hs (by omega) c.toNat (c.toNat + 1) 0 [] q1 (by omega) (by omega) l1 rfl with ⟨e, st, r1, r2, r3, r4⟩ | ⟨l, r, r1, r2, r3, r4⟩
      · exact .inl ⟨e, st, r1, by rw [r2]; rfl, r3, r4⟩
      · refine .inr ⟨l, r, r1, ?_, by omega, r4⟩
        rw [r2, List.nil_append]
        rfl
/-! The document's reader. -/
theorem r14_count (s : List UInt8) (q : Nat) (hq : q ≤ s.length) (hs : s.length ≤ 1000000) (each : Nat) (he : 1 ≤ each) : f_r14_count (s.drop q) (each : Int) = some (match pCount 4 each s q with | .error e => (0, e) | .ok (n, _) => (n, 0)) := by
  have hd : (s.drop q).length = s.length - q := List.length_drop
  unfold f_r14_count pCount
  by_cases h4 : ((s.drop q).length : Int) < 4
  · rw [if_pos h4, Pr.bind_err (e := 1) (by unfold pInt; rw [if_pos (by omega)])]
  · rw [if_neg h4, if_pos (by omega), gRInt_eq _ (by rw [List.length_take]; omega), Pr.bind_of (a := beInt ((s.drop q).take 4)) (r := q + 4) (by unfold pInt; rw [if_neg (by omega)])]
    simp only [Option.bind_some]
    generalize beInt ((s.drop q).take 4) = n
    unfold pLeft
    by_cases hn : n < 0
    · rw [if_pos hn, if_pos hn]
    · rw [if_neg hn, if_neg hn, if_pos (by omega), if_pos (by omega), show ((s.drop q).length : Int) - 4 = ((s.length - (q + 4) : Nat) : Int) by omega]
      by_cases hc : n > ((s.length - (q + 4) : Nat) : Int) / (each : Int)
      · rw [if_pos hc, if_pos ⟨by omega, hc⟩]
      · rw [if_neg hc, if_neg (fun h => hc h.2)]
theorem count_err {each : Nat} {s : List UInt8} {q : Nat} {e : Int} (h : pCount 4 each s q = .error e) : e ≠ 0 := by
  unfold pCount at h
  cases hp : pInt 4 s q with
  | error e' =>
    rw [Pr.bind_err hp] at h
    unfold pInt at hp
    split at hp
    · injection hp with hp
      injection h with h
      omega
    · exact nomatch hp
  | ok x =>
    rw [Pr.bind_of (a := x.1) (r := x.2) hp] at h
    unfold pLeft at h
    split at h
    · injection h with h
      omega
    · split at h
      · injection h with h
        omega
      · exact nomatch h
theorem r14_l2 (n : Int) (s : List UInt8) (hs : s.length ≤ 1000000) (hn : n ≤ 1000000) : ∀ (m fuel k : Nat) (acc : List Int) (q : Nat) (l : List Int) (r : Nat), ((k + m : Nat) : Int) = n → m < fuel → q + 4 * m ≤ s.length → acc.length = k → pRep (pInt 4) m s q = .ok (l, r) →
    f_r14_ReadTopics_l2 s n fuel (q : Int) k acc = some ((r : Int), k + m, acc ++ l)
  | 0, fuel + 1, k, acc, q, l, r, h1, h2, h3, h4, h => by
    injection h with h
    obtain ⟨rfl, rfl⟩ := Prod.mk.inj h
    rw [f_r14_ReadTopics_l2, if_neg (by omega), List.append_nil]
    rfl
  | m + 1, fuel + 1, k, acc, q, l, r, h1, h2, h3, h4, h => by
    obtain ⟨a, q1, p1, h⟩ := Pr.bind_ok h
    obtain ⟨l', q2, p2, h⟩ := Pr.bind_ok h
    injection h with h
    obtain ⟨rfl, rfl⟩ := Prod.mk.inj h
    unfold pInt at p1
    rw [if_neg (by omega)] at p1
    injection p1 with p1
    obtain ⟨rfl, rfl⟩ := Prod.mk.inj p1
    rw [f_r14_ReadTopics_l2, if_pos (by omega), if_pos (by omega), if_pos (by omega), show ((q : Int) + 4).toNat - ((q : Int)).toNat = 4 by omega, Int.toNat_natCast, gRInt_eq _ (by rw [List.length_take]; omega)]
    simp only [Option.bind_some]
    rw [if_pos (by omega), if_pos (by omega), if_pos (by omega)]
    have := r14_l2 n s hs hn m fuel (k + 1) (acc ++ [beInt ((s.drop q).take 4)]) (q + 4) l' q2 (by omega) (by omega) (by omega) (by rw [List.length_append, h4]; rfl) p2
    rw [show ((q : Int) + 4) = ((q + 4 : Nat) : Int) by omega, this, List.append_assoc, show k + 1 + m = k + (m + 1) by omega]
    rfl
theorem r14_l1 (n : Int) (s : List UInt8) (hs : s.length ≤ 1000000) : ∀ (m fuel k : Nat) (acc : List Top) (q : Nat), ((k + m : Nat) : Int) = n → m < fuel → n ≤ 1000000 → q ≤ s.length → acc.length = k →
    f_r14_ReadTopics_l1 s n fuel [] 0 0 (q : Int) acc k = some (match pRep pTopic m s q with | .error e => .ret ([], 0, e) | .ok (l, r) => .go ([], 0, 0, (r : Int), acc ++ l, k + m))
  | 0, fuel + 1, k, acc, q, h1, h2, hn, h3, h4 => by
    rw [f_r14_ReadTopics_l1, if_neg (by omega)]
    simp [pRep, Pr.ret]
  | m + 1, fuel + 1, k, acc, q, h1, h2, hn, h3, h4 => by
    rw [f_r14_ReadTopics_l1, if_pos (by omega), if_pos (by omega), Int.toNat_natCast, gRRFixed_eq _ _ ⟨by decide, by decide, by rw [List.length_drop]; omega⟩, show (2 : Int).toNat = 2 from rfl]
    simp only [Option.bind_some]
    rcases rfixed_p s q 2 (by decide) (by decide) h3 with ⟨e, g1, g2, g3⟩ | ⟨b, q1, g1, g2, g3, g4⟩
    · have ht : pTopic s q = .error e := by rw [pTopic, Pr.bind_err]; rw [pText, pMust, Pr.bind_err g1]
      rw [g3, pRep, Pr.bind_err ht]
      simp only
      rw [if_neg g2]
    rw [g4]
    simp only [if_true]
    by_cases hb : b.null = true
    · have ht : pTopic s q = .error 4 := by
        rw [pTopic, Pr.bind_err]
        rw [pText, pMust, Pr.bind_of g1, if_pos hb]
        rfl
      rw [if_pos hb, pRep, Pr.bind_err ht]
    rw [if_neg hb, if_pos (by omega), if_pos (by omega), show ((q : Int) + ((q1 - q : Nat) : Int)) = (q1 : Int) by omega, Int.toNat_natCast]
    have hx : pText s q = .ok (b.data, q1) := by
      rw [pText, pMust, Pr.bind_of g1, if_neg hb]
      rfl
    have hc := r14_count s q1 g3 hs 4 (by decide)
    rw [show ((4 : Nat) : Int) = 4 from rfl] at hc
    rw [hc]
    simp only [Option.bind_some]
    cases hp : pCount 4 4 s q1 with
    | error e =>
      have he := count_err hp
      simp only
      rw [if_neg he]
      have ht : pTopic s q = .error e := by rw [pTopic, Pr.bind_of hx, Pr.bind_err]; rw [pRow, Pr.bind_err hp]
      rw [pRep, Pr.bind_err ht]
    | ok x =>
      obtain ⟨c, q2⟩ := x
      obtain ⟨c1, c2, c3, c4, c5, c6⟩ := pCount_ok (by decide) (by decide) g3 hp
      have c2 := c2 (by decide)
      simp only [if_true]
      obtain ⟨ps, e1, e2⟩ := topics_l2 c s (by omega) c.toNat (c.toNat + 1) 0 [] q2 (by omega) (by omega) (by omega) rfl
      have e3 := r14_l2 c s hs (by omega) c.toNat (c.toNat + 1) 0 [] q2 ps _ (by omega) (by omega) (by omega) rfl e1
      rw [if_pos (by omega), show ((q1 : Int) + 4) = (q2 : Int) by omega, e3]
      simp only [Option.bind_some, List.nil_append]
      rw [if_pos (by omega), if_pos (by omega)]
      have ht : pTopic s q = .ok (⟨b.data, ps⟩, q2 + 4 * c.toNat) := by
        rw [pTopic, Pr.bind_of hx, Pr.bind_of (a := ps) (r := q2 + 4 * c.toNat) (by rw [pRow, Pr.bind_of hp, e1])]
        rfl
      rw [pRep, Pr.bind_of ht, r14_l1 n s hs m fuel (k + 1) (acc ++ [(⟨b.data, ps⟩ : Top)]) (q2 + 4 * c.toNat) (by omega) (by omega) hn (by omega) (by rw [List.length_append, h4]; rfl)]
      cases hr : pRep pTopic m s (q2 + 4 * c.toNat) with
      | error e => rw [Pr.bind_err hr]
      | ok x =>
        rw [Pr.bind_of (a := x.1) (r := x.2) hr]
        simp only [Pr.ret, List.append_assoc, List.cons_append, List.nil_append, show k + 1 + m = k + (m + 1) by omega]
theorem r14_topics (s : List UInt8) (hs : s.length ≤ 1000000) : f_r14_ReadTopics s = some (match pRow 4 6 pTopic s 0 with | .error e => ([], 0, e) | .ok (l, r) => (l, (r : Int), 0)) := by
  unfold f_r14_ReadTopics
  have hc := r14_count s 0 (Nat.zero_le _) hs 6 (by decide)
  rw [show ((6 : Nat) : Int) = 6 from rfl, List.drop_zero] at hc
  rw [hc]
  simp only [Option.bind_some]
  cases hp : pCount 4 6 s 0 with
  | error e =>
    simp only
    rw [if_neg (count_err hp), pRow, Pr.bind_err hp]
  | ok x =>
    obtain ⟨c, q1⟩ := x
    obtain ⟨c1, c2, c3, c4, c5, c6⟩ := pCount_ok (by decide) (by decide) (Nat.zero_le _) hp
    have c2 := c2 (by decide)
    simp only [if_true]
    have h := r14_l1 c s hs c.toNat (c.toNat + 1) 0 [] q1 (by omega) (by omega) (by omega) (by omega) rfl
    rw [c3] at h hp
    rw [show ((0 + 4 : Nat) : Int) = 4 from rfl] at h
    rw [h, pRow, Pr.bind_of hp]
    cases hr : pRep pTopic c.toNat s (0 + 4) with
    | error e => rfl
    | ok x => rfl
end Go.Proofs.Ytdlpmcbglmgpiaa.Sl
