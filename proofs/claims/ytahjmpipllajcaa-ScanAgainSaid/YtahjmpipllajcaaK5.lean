/- ScanAgain: for every input the law returns true, and its arguments read behind the call as they did before. -/
import Derived.Laws.ComplexArith
import Derived.Test.YtahjmpipllajcaaRows
import Derived.WalkKit
import Derived.ProofKit
import Derived.OpenShut
import Derived.ShutString
import Derived.ChangeOld
import Derived.Below
import Derived.SizedLaws
import Derived.Test.YtahjmpipllajcaaK4
namespace Go.Proofs.Ytahjmpipllajcaa.Sl
open Go.RowKit
set_option linter.unusedVariables false
set_option linter.unusedSimpArgs false
def firstB : Int → List Bat → Int
  | w, [] => w
  | w, x :: l => firstB (if w = 0 then chk x else w) l
theorem firstB_ne {w : Int} (h : w ≠ 0) : ∀ l : List Bat, firstB w l = w
  | [] => rfl
  | x :: l => by rw [firstB, if_neg h, firstB_ne h l]
theorem firstB_of : ∀ {l : List Bat}, (∀ x, x ∈ l → chk x = 0) → firstB 0 l = 0
  | [], _ => rfl
  | y :: l, h => by rw [firstB, if_pos rfl, h y (.head _), firstB_of (fun x hx => h x (.tail _ hx))]
theorem all_l1 (y4 : List UInt8) (y5 : Int) : ∀ (l : List Bat) (t : List UInt8), (∀ x, x ∈ l → smB x) → t.length + 1000000 * l.length ≤ 1000000000 →
    f_batch_All_l1 l y4 y5 t = some (if firstB 0 l = 0 then .go (y4, y5, t ++ encs encBt l) else .ret ([], firstB 0 l))
  | [], t, _, _ => by rw [encs, List.append_nil]; rfl
  | x :: l, t, h, hl => by
    have hx := h x (.head _)
    rw [List.length_cons] at hl
    rw [f_batch_All_l1, benc hx, Option.bind_some, firstB, if_pos rfl]
    by_cases hc : chk x = 0
    · have he := encBt_len (okB_of hx hc)
      have hx2 := hx.2.2
      rw [if_pos hc]
      dsimp only
      rw [if_pos rfl, gBWrite_eq _ _ (by omega), Option.bind_some, all_l1 y4 y5 l _ (fun y hy => h y (.tail _ hy)) (by rw [List.length_append]; omega), hc, encs, List.append_assoc]
    · rw [if_neg hc, firstB_ne hc]
      dsimp only
      rw [if_neg hc, if_neg hc]
theorem all_eq {l : List Bat} (h : ∀ x, x ∈ l → smB x) (hl : l.length ≤ 1000) : f_batch_All l = some (if firstB 0 l = 0 then (encs encBt l, 0) else ([], firstB 0 l)) := by
  unfold f_batch_All
  rw [all_l1 [] 0 l [] h (by rw [List.length_nil]; omega), Option.bind_some]
  by_cases hc : firstB 0 l = 0
  · rw [if_pos hc, if_pos hc]
    dsimp only
    rw [gBStr_eq, Option.bind_some, List.nil_append]
  · rw [if_neg hc, if_neg hc]
end Go.Proofs.Ytahjmpipllajcaa.Sl
namespace Go.Proofs.Ytahjmpipllajcaa.Sl
open Go.RowKit
set_option linter.unusedVariables false
set_option linter.unusedSimpArgs false
def sameBz : List Bat → List Bat → Bool
  | x :: l, y :: m => sameB x y && sameBz l m
  | _, _ => true
theorem sameBz_refl : ∀ l : List Bat, sameBz l l = true
  | [] => rfl
  | x :: l => by rw [sameBz, sameB_refl, sameBz_refl l]; rfl
theorem z_rows_loop (a b : List Bat) (hn : a.length ≤ 140737488351232) (y : Bool) : ∀ (l m : List Bat) (k fuel : Nat), a.drop k = l → b.drop k = m → l.length = m.length → l.length < fuel → (∀ x, x ∈ l → bnB x) → ∃ z, f_r11_Rows_l1 a b fuel y k = some (if sameBz l m = true then .go (y, z) else .ret false)
  | [], m, k, fuel + 1, h1, h2, hl, hf, _ => by
    have := b_nil_drop h1
    exact ⟨k, by rw [f_r11_Rows_l1, if_neg (by omega)]; rfl⟩
  | x :: l, v :: m, k, fuel + 1, h1, h2, hl, hf, hw => by
    obtain ⟨g1, g2, g3⟩ := b_at_drop h1
    obtain ⟨k1, k2, k3⟩ := b_at_drop h2
    have hx := hw x (.head _)
    rw [List.length_cons] at hf
    rw [List.length_cons, List.length_cons] at hl
    obtain ⟨z, hz⟩ := z_rows_loop a b hn y l m (k + 1) fuel g2 k2 (by omega) (by omega) (fun u hu => hw u (.tail _ hu))
    refine ⟨z, ?_⟩
    rw [f_r11_Rows_l1, if_pos (by omega), g1, Option.bind_some, k1, Option.bind_some, r11_same hx.2.1 (fun z hz => (hx.2.2 z hz).1), Option.bind_some, sameBz, if_pos (show -9223372036854775808 ≤ (k : Int) + 1 ∧ (k : Int) + 1 ≤ 9223372036854775807 by omega), hz]
    cases sameB x v <;> rfl
theorem z_rows {a b : List Bat} (hn : a.length ≤ 140737488351232) (hw : ∀ x, x ∈ a → bnB x) : f_r11_Rows a b = some (decide (a.length = b.length) && sameBz a b) := by
  unfold f_r11_Rows
  by_cases c : a.length = b.length
  · obtain ⟨z, hz⟩ := z_rows_loop a b hn false a b 0 (((a.length : Int)).toNat + 1) rfl rfl c (by omega) hw
    rw [if_pos (by omega), hz, decide_eq_true c, Bool.true_and]
    cases sameBz a b <;> rfl
  · rw [if_neg (by omega), decide_eq_false c]
    rfl
theorem z_smB_of_okB {b : Bat} (h : okB b) (hl : (encBt b).length ≤ 80000) : smB b := by
  have h1 := encBt_len h
  refine ⟨bnB_of_okB h (by omega), fun r hr => ?_, by omega⟩
  have h2 := encs_mem encRec b.fRecords r hr
  have h3 := encBody_ge r
  have h4 : (encBody r).length ≤ (encRec r).length := by
    unfold encRec
    rw [List.length_append]
    omega
  unfold body at h1
  omega
theorem z_rows_self {l : List Bat} (hn : l.length ≤ 1000000) (hw : ∀ x, x ∈ l → bnB x) : f_r11_Rows l l = some true := by
  rw [z_rows (by omega) hw, decide_eq_true rfl, sameBz_refl]
  rfl
theorem z_bn {s : List UInt8} (hs : s.length ≤ 80000) : ∀ x, x ∈ (Scn s).1 → okB x ∧ bnB x ∧ smB x := by
  intro x hx
  obtain ⟨h1, h2⟩ := Scn_bytes s.length s (Nat.le_refl _)
  have h3 := encs_mem encBt _ x hx
  have h4 := congrArg List.length h1
  rw [List.length_append] at h4
  have ho := h2 x hx
  exact ⟨ho, bnB_of_okB ho (by omega), z_smB_of_okB ho (by omega)⟩
theorem z_many : ∀ (l : List Bat), (∀ b, b ∈ l → okB b) → 61 * l.length ≤ (encs encBt l).length
  | [], _ => Nat.zero_le _
  | b :: l, h => by
    have h1 := encBt_len (h b (.head _))
    have h2 := z_many l (fun x hx => h x (.tail _ hx))
    rw [encs, List.length_append, List.length_cons]
    omega
theorem scn_wr : ∀ (n : Nat) (s : List UInt8), s.length ≤ n → (Scn s).2.2 ≠ 0 → (Scn s).2.1 ≠ []
  | 0, s, hn, h => by
    rw [Scn_short (s := s) (by omega)] at h
    exact absurd rfl h
  | n + 1, s, hn, h => by
    by_cases c1 : s.length < 61
    · rw [Scn_short c1] at h; exact absurd rfl h
    have h61 : 61 ≤ s.length := by omega
    have hne : s ≠ [] := by intro e; rw [e] at h61; simp at h61
    by_cases c2 : eOf s = 0
    rotate_left
    · rw [Scn_bad h61 c2]; exact hne
    by_cases c3 : s.length < szOf s
    · rw [Scn_part h61 c2 c3]; exact hne
    have hl : szOf s ≤ s.length := by omega
    have hz := (szOf_ge c2).1
    cases hp : pBat s 0 with
    | error e => rw [Scn_err h61 c2 hl hp]; exact hne
    | ok x =>
      obtain ⟨b, r⟩ := x
      have hr := pBat_end h61 c2 hl hp
      rw [Scn_step h61 c2 hl hp] at h ⊢
      exact scn_wr n (s.drop r) (by rw [List.length_drop]; omega) h
theorem scn_all {s : List UInt8} (hs : s.length ≤ 60000) : f_batch_All (Scn s).1 = some (encs encBt (Scn s).1, 0) := by
  have h1 := (Scn_bytes s.length s (Nat.le_refl _)).1
  have h2 := z_bn (s := s) (by omega)
  have h3 := z_many (Scn s).1 (fun b hb => (h2 b hb).1)
  have h4 := congrArg List.length h1
  rw [List.length_append] at h4
  rw [all_eq (fun x hx => (h2 x hx).2.2) (by omega), if_pos (firstB_of (fun x hx => (h2 x hx).1.2.2.2))]
theorem scan_one {s : List UInt8} (hs : s.length ≤ 1000000) : f_scan_Scan [s] = some ((Scn s).1, resOf s) := by
  have := scan_eq (cs := [s]) (by rw [List.flatten_cons, List.flatten_nil, List.append_nil]; exact hs)
  rwa [List.flatten_cons, List.flatten_nil, List.append_nil] at this
theorem scn_self {l : List Bat} (h : ∀ b, b ∈ l → okB b) : Scn (encs encBt l) = (l, [], 0) := by
  have := Scn_encs l [] h
  rwa [List.append_nil, Scn_short (s := []) (by decide), List.append_nil] at this
theorem resOf_self {l : List Bat} (h : ∀ b, b ∈ l → okB b) : resOf (encs encBt l) = ⟨(encs encBt l).length, 0, 0⟩ := by
  unfold resOf
  rw [scn_self h]
  rfl
end Go.Proofs.Ytahjmpipllajcaa.Sl
namespace Go.Proofs.Ytahjmpipllajcaa.Sl
open Go.RowKit
set_option linter.unusedVariables false
set_option linter.unusedSimpArgs false
set_option maxRecDepth 100000
def ft_cursitorlaw23 : FTab := [(26, 0, 0), (26, 1, 1), (26, 2, 2)]
theorem ft_cursitorlaw23_ok : (ft_cursitorlaw23).OK Try.prog := ⟨FOK.mk Try.runUnderlying26 rfl Try.sizeOf3 rfl, FOK.mk Try.runUnderlying26 rfl Try.sizeOf3 rfl, FOK.mk Try.runUnderlying26 rfl Try.sizeOf24 rfl, trivial⟩
theorem flat_cursitorlaw23_26 : Flat Try.prog 2 26 [.int .i64, .int .i64, .int .i64] true := (Flat.struct Try.isAgg26 Try.sizeOf26 rfl Try.underlying26 Try.stoodInHeld26 ⟨by decide, rfl, [.int .i64], [.int .i64, .int .i64], false, rfl, (Flat.one_ Try.isAgg3 Try.sizeOf3 Try.underlying3), ⟨by decide, rfl, [.int .i64], [.int .i64], false, rfl, (Flat.one_ Try.isAgg3 Try.sizeOf3 Try.underlying3), ⟨by decide, rfl, [.int .i64], [], false, rfl, (Flat.one_ Try.isAgg24 Try.sizeOf24 Try.underlying24), rfl⟩⟩⟩)
theorem bok_cursitorlaw23_26 : BOK Try.prog 26 #[.int .i64 0, .int .i64 0, .int .i64 0] [(0, 1), (1, 1), (2, 1)] := BOK.mk Try.zeroValue26 Try.runUnderlying26 (by intro w; simp)
theorem bok_cursitorlaw23_36 : BOK Try.prog 36 #[.int .i64 0, .int .i64 0, .bool false, .bool false, .bool false, .int .i64 0, .int .i64 0, .int .i64 0, .int .i64 0, .int .i64 0, .int .i64 0, .slice none 0 0] [(0, 1), (1, 1), (2, 1), (3, 1), (4, 1), (5, 1), (6, 1), (7, 1), (8, 1), (9, 1), (10, 1), (11, 1)] := BOK.mk Try.zeroValue36 Try.runUnderlying36 (by intro w; simp)
theorem sok_cursitorlaw23_39_1 : SOK Try.prog 39 9 1 1 #[.string ⟨#[]⟩] := SOK.mk Try.runUnderlying39 Try.sizeOf9 Try.zeroValue9 (by decide) (by kernel_rfl)
theorem sok_cursitorlaw23_39_2 : SOK Try.prog 39 9 2 1 #[.string ⟨#[]⟩, .string ⟨#[]⟩] := SOK.mk Try.runUnderlying39 Try.sizeOf9 Try.zeroValue9 (by decide) (by kernel_rfl)
def f_l23_speaks  : Option (Bool) := (f_batch_Encode (⟨0, 0, false, false, false, 0, 0, 0, -1, -1, -1, []⟩ : Bat)).bind fun (x1, x2) => (if x2 = 0 then (if (x1.length : Int) = 61 then some false else some true) else some true).bind fun y5 => if y5 = true then some false else (if 30 ≤ x1.length then ((f_scan_Scan [x1, (x1.take 30)]).bind fun (x12, x15) => (if (x12.length : Int) = 1 then (if x15.fValid = 61 then (if x15.fStop = 1 then (if x15.fErr = 0 then some true else some false) else some false) else some false) else some false).bind fun y22 => some y22) else none)
set_option maxRecDepth 100000 in
set_option maxHeartbeats 4000000 in
theorem f_l23_speaks_spec  (r : Bool) (h : f_l23_speaks  = some r) : SpecX Try.prog 8 #[] .triv (EmpR) (fun v A' N => v = .bool r ∧ A' = EmpR ∧ N = []) := by
  refine enterA Try.func8 rfl Try.ntmps8 rfl ?_
  intro F w hX
  unfold f_l23_speaks at h
  refine T.seq (T.region rfl ?_)
  refine TL.run ft_cursitorlaw23_ok [0] rfl rfl ?_
  refine TL.nil (X.seq (T.seq (T.region rfl ?_)))
  refine TL.q rfl .u (Ex.bld (cells := #[.int .i64 0, .int .i64 0, .bool false, .bool false, .bool false, .int .i64 0, .int .i64 0, .int .i64 0, .int .i64 (-1), .int .i64 (-1), .int .i64 (-1), .slice none 0 0]) bok_cursitorlaw23_36 rfl (by kernel_rfl)) rfl ?_
  obtain ⟨⟨x1, x2⟩, hx3, h⟩ := Option.bind_eq_some_iff.1 h
  try dsimp only at h
  refine TL.ce rfl .u (.fn Try.call27 rfl) (f_batch_Encode_spec (⟨0, 0, false, false, false, 0, 0, 0, -1, -1, -1, []⟩ : Bat) _ _ _ hx3) (fun _ hs => slice_nil_reads) rfl ?_
  refine TL.run ft_cursitorlaw23_ok [2, 3, 4, 5, 6] rfl rfl ?_
  refine TL.nil (X.seq (T.seq (T.seq ?_)))
  obtain ⟨y5, h, hk6⟩ := Option.bind_eq_some_iff.1 h
  refine T.jq (fun e Rs => e = [(0, .bool false), (1, .string (bsOf x1)), (16, .bool y5)] ∧ Rs = [EmpR]) ?_ ?_
  · clear hk6
    refine T.region rfl ?_
    by_cases c7 : x2 = 0
    · replace h := ifT c7 h
      refine TL.run ft_cursitorlaw23_ok [0, 1, 2] rfl rfl ?_
      refine TL.q rfl (.g rfl rfl (bn_f (decide_eq_true c7))) (Ex.ft ft_cursitorlaw23_ok rfl) rfl ?_
      refine TL.q rfl (.g rfl rfl (bn_f (decide_eq_true c7))) (Ex.lenB rfl Try.runUnderlying9) rfl ?_
      refine TL.q rfl (.g rfl rfl (bn_f (decide_eq_true c7))) (Ex.ft ft_cursitorlaw23_ok rfl) rfl ?_
      refine TL.q rfl .u (Ex.pn rfl (bn_f (decide_eq_true c7)) rfl) rfl ?_
      by_cases c8 : (x1.length : Int) = 61
      · replace h := ifT c8 h
        cases h
        exact TL.nil (X.as (d := 16) (v' := .bool false) rfl (congrArg Value.bool (bn_f (decide_eq_true c8))) (X.jq [0] ⟨rfl, rfl⟩ (by rfl) (by rfl)))
      · replace h := ifF c8 h
        cases h
        exact TL.nil (X.as (d := 16) (v' := .bool true) rfl (congrArg Value.bool (bn_t (decide_eq_false c8))) (X.jq [0] ⟨rfl, rfl⟩ (by rfl) (by rfl)))
    · replace h := ifF c7 h
      refine TL.run ft_cursitorlaw23_ok [0, 1, 2] rfl rfl ?_
      refine TL.no rfl (.gn rfl rfl (bn_t (decide_eq_false c7))) rfl ?_
      refine TL.no rfl (.gn rfl rfl (bn_t (decide_eq_false c7))) rfl ?_
      refine TL.no rfl (.gn rfl rfl (bn_t (decide_eq_false c7))) rfl ?_
      refine TL.q rfl .u (Ex.py rfl (bn_t (decide_eq_false c7)) rfl) rfl ?_
      cases h
      exact TL.nil (X.jq [0] ⟨rfl, rfl⟩ (by rfl) (by rfl))
  · rintro _ _ ⟨rfl, rfl⟩
    clear h
    have h := hk6
    clear hk6
    try dsimp only at h
    by_cases c9 : y5 = true
    · replace h := ifT c9 h
      refine X.seq ?_
      refine T.yes rfl c9 ?_
      refine T.seq (T.region rfl ?_)
      refine TL.run ft_cursitorlaw23_ok [0] rfl rfl ?_
      obtain rfl := Option.some.inj h
      exact TL.nil (X.seq (T.ret (X.rs (X.done1 [0] Try.results8 (RV.tm rfl) ⟨rfl, rfl, rfl⟩ (by rfl) (.inl rfl)))))
    · replace h := ifF c9 h
      replace c9 := eq_false_of_ne_true c9
      refine X.seq ?_
      refine T.no rfl c9 ?_
      refine T.skip (X.seq (T.seq (T.region rfl ?_)))
      replace h := guard_some h
      obtain ⟨c10, h⟩ := h
      refine TL.run ft_cursitorlaw23_ok [0, 1] rfl rfl ?_
      replace c10 : 30 ≤ x1.length := c10
      refine TL.q rfl .u (Ex.sSl (p := 0) (q := 30) (m := (x1.take 30)) rfl Try.runUnderlying9 .none (.some rfl rfl) (by first | omega | (dsimp only; omega)) (by simp)) rfl ?_
      refine TL.lit (cells := #[.string (bsOf x1), .string (bsOf (x1.take 30))]) rfl .u sok_cursitorlaw23_39_2 rfl (by rfl) rfl (fun b11 => ?_)
      refine TL.rowOf (us := [.string (bsOf x1), .string (bsOf (x1.take 30))]) (xs := [x1, (x1.take 30)]) (E := strE) (z := 1) rfl (Nat.le_of_ble_eq_true rfl) (fun _ => ⟨rfl, rfl, ⟨rfl, rfl, rfl⟩⟩) ?_
      obtain ⟨⟨x12, x15⟩, hx16, h⟩ := Option.bind_eq_some_iff.1 h
      try dsimp only at h
      refine TL.cge rfl .u (.fn Try.call9 rfl) (f_scan_Scan_spec [x1, (x1.take 30)] _ _ _ hx16) (fun _ hs => (SrcE.res 0 hs rfl (fun w G h => own_reads (by decide) w G h))) rfl ?_
      rintro _ _ _ ⟨A13, c14, rfl, rfl, rfl⟩
      refine TL.sel [0, 0, 0] rfl ?_
      refine TL.run ft_cursitorlaw23_ok [5, 6, 7] rfl rfl ?_
      refine TL.alloc rfl .u Try.zeroValue26 rfl (fun b17 => ?_)
      refine TL.run ft_cursitorlaw23_ok [9] rfl rfl ?_
      refine TL.st0 (cs' := #[.int .i64 x15.fValid, .int .i64 x15.fStop, .int .i64 x15.fErr]) rfl .u rfl rfl Try.sizeOf26 rfl rfl rfl rfl ?_
      refine TL.nil (X.seq (T.seq ?_))
      obtain ⟨y22, h, hk23⟩ := Option.bind_eq_some_iff.1 h
      refine T.jq (fun e Rs => e = [(0, .bool y22)] ∧ Rs = [BlkR b17 26 #[.int .i64 x15.fValid, .int .i64 x15.fStop, .int .i64 x15.fErr], RdR (sliceRd 12 Bat_rd) [.slice A13 x12.length c14] x12, OwnR 9 1 strE (.slice (some ⟨b11, 0, none⟩) 2 2) [x1, (x1.take 30)], EmpR]) ?_ ?_
      · clear hk23
        refine T.region rfl ?_
        refine TL.run ft_cursitorlaw23_ok [0] rfl rfl ?_
        refine TL.q rfl .u (Ex.lenS rfl Try.runUnderlying23) rfl ?_
        by_cases c24 : (x12.length : Int) = 1
        · replace h := ifT c24 h
          refine TL.run ft_cursitorlaw23_ok [2, 3] rfl rfl ?_
          refine TL.q rfl (.g rfl rfl (decide_eq_true c24)) (Ex.bS (us := [.int .i64 x15.fValid, .int .i64 x15.fStop, .int .i64 x15.fErr]) 0 rfl Try.isAgg26 Try.sizeOf26 rfl rfl rfl) rfl ?_
          refine TL.q rfl (.g rfl rfl (decide_eq_true c24)) (Ex.bld (cells := #[.int .i64 61, .int .i64 1, .int .i64 0]) bok_cursitorlaw23_26 rfl (by kernel_rfl)) rfl ?_
          by_cases c25 : x15.fValid = 61
          · replace h := ifT c25 h
            by_cases c26 : x15.fStop = 1
            · replace h := ifT c26 h
              by_cases c27 : x15.fErr = 0
              · replace h := ifT c27 h
                refine TL.q rfl (.g rfl rfl (decide_eq_true c24)) (Ex.aEq (us := [.int .i64 x15.fValid, .int .i64 x15.fStop, .int .i64 x15.fErr]) (vs := [.int .i64 61, .int .i64 1, .int .i64 0]) flat_cursitorlaw23_26 rfl Try.eqGuardType26 rfl rfl rfl rfl (eqL_t (eqV_i c25) (eqL_t (eqV_i c26) (eqL_t (eqV_i c27) rfl)))) rfl ?_
                refine TL.q rfl .u (Ex.py rfl (decide_eq_true c24) rfl) rfl ?_
                refine TL.run ft_cursitorlaw23_ok [8] rfl rfl ?_
                refine TL.q rfl .u (Ex.py rfl rfl rfl) rfl ?_
                refine TL.run ft_cursitorlaw23_ok [10] rfl rfl ?_
                cases h
                exact TL.nil (X.jq [0, 0, 0, 0] ⟨rfl, rfl⟩ (by rfl) (by rfl))
              · replace h := ifF c27 h
                refine TL.q rfl (.g rfl rfl (decide_eq_true c24)) (Ex.aEq (us := [.int .i64 x15.fValid, .int .i64 x15.fStop, .int .i64 x15.fErr]) (vs := [.int .i64 61, .int .i64 1, .int .i64 0]) flat_cursitorlaw23_26 rfl Try.eqGuardType26 rfl rfl rfl rfl (eqL_t (eqV_i c25) (eqL_t (eqV_i c26) (eqL_f (eqV_in c27))))) rfl ?_
                refine TL.q rfl .u (Ex.py rfl (decide_eq_true c24) rfl) rfl ?_
                refine TL.run ft_cursitorlaw23_ok [8] rfl rfl ?_
                refine TL.q rfl .u (Ex.pn rfl rfl rfl) rfl ?_
                refine TL.run ft_cursitorlaw23_ok [10] rfl rfl ?_
                cases h
                exact TL.nil (X.jq [0, 0, 0, 0] ⟨rfl, rfl⟩ (by rfl) (by rfl))
            · replace h := ifF c26 h
              refine TL.q rfl (.g rfl rfl (decide_eq_true c24)) (Ex.aEq (us := [.int .i64 x15.fValid, .int .i64 x15.fStop, .int .i64 x15.fErr]) (vs := [.int .i64 61, .int .i64 1, .int .i64 0]) flat_cursitorlaw23_26 rfl Try.eqGuardType26 rfl rfl rfl rfl (eqL_t (eqV_i c25) (eqL_f (eqV_in c26)))) rfl ?_
              refine TL.q rfl .u (Ex.py rfl (decide_eq_true c24) rfl) rfl ?_
              refine TL.run ft_cursitorlaw23_ok [8] rfl rfl ?_
              refine TL.q rfl .u (Ex.pn rfl rfl rfl) rfl ?_
              refine TL.run ft_cursitorlaw23_ok [10] rfl rfl ?_
              cases h
              exact TL.nil (X.jq [0, 0, 0, 0] ⟨rfl, rfl⟩ (by rfl) (by rfl))
          · replace h := ifF c25 h
            refine TL.q rfl (.g rfl rfl (decide_eq_true c24)) (Ex.aEq (us := [.int .i64 x15.fValid, .int .i64 x15.fStop, .int .i64 x15.fErr]) (vs := [.int .i64 61, .int .i64 1, .int .i64 0]) flat_cursitorlaw23_26 rfl Try.eqGuardType26 rfl rfl rfl rfl (eqL_f (eqV_in c25))) rfl ?_
            refine TL.q rfl .u (Ex.py rfl (decide_eq_true c24) rfl) rfl ?_
            refine TL.run ft_cursitorlaw23_ok [8] rfl rfl ?_
            refine TL.q rfl .u (Ex.pn rfl rfl rfl) rfl ?_
            refine TL.run ft_cursitorlaw23_ok [10] rfl rfl ?_
            cases h
            exact TL.nil (X.jq [0, 0, 0, 0] ⟨rfl, rfl⟩ (by rfl) (by rfl))
        · replace h := ifF c24 h
          refine TL.run ft_cursitorlaw23_ok [2, 3] rfl rfl ?_
          refine TL.no rfl (.gn rfl rfl (decide_eq_false c24)) rfl ?_
          refine TL.no rfl (.gn rfl rfl (decide_eq_false c24)) rfl ?_
          refine TL.no rfl (.gn rfl rfl (decide_eq_false c24)) rfl ?_
          refine TL.q rfl .u (Ex.pn rfl (decide_eq_false c24) rfl) rfl ?_
          refine TL.run ft_cursitorlaw23_ok [8] rfl rfl ?_
          refine TL.q rfl .u (Ex.pn rfl rfl rfl) rfl ?_
          refine TL.run ft_cursitorlaw23_ok [10] rfl rfl ?_
          cases h
          exact TL.nil (X.jq [0, 0, 0, 0] ⟨rfl, rfl⟩ (by rfl) (by rfl))
      · rintro _ _ ⟨rfl, rfl⟩
        clear h
        have h := hk23
        clear hk23
        try dsimp only at h
        obtain rfl := Option.some.inj h
        exact X.seq (T.ret (X.done1 [3] Try.results8 (RV.tm rfl) ⟨rfl, rfl, rfl⟩ (by rfl) (.inl rfl)))
def f_l23_ScanAgain (a0 : List UInt8) : Option (Bool) := (f_l23_speaks).bind fun x1 => if x1 = true then (if (a0.length : Int) > 1500 then some true else ((f_scan_Scan [a0]).bind fun (x6, x9) => (if x9.fValid < 0 then some true else (if x9.fValid > (a0.length : Int) then some true else (if ((decide (x9.fStop = 0)) == (decide (x9.fValid = (a0.length : Int)))) = true then (if ((decide (x9.fStop = 2)) == (!(decide (x9.fErr = 0)))) = true then some false else some true) else some true))).bind fun y15 => if y15 = true then none else ((f_batch_All x6).bind fun (x22, x23) => if 0 ≤ x9.fValid ∧ x9.fValid.toNat ≤ a0.length then ((f_scan_Scan [(a0.take x9.fValid.toNat)]).bind fun (x27, x30) => (if x23 = 0 then (if 0 ≤ x9.fValid ∧ x9.fValid.toNat ≤ a0.length then (if x22 = (a0.take x9.fValid.toNat) then ((f_r11_Rows x6 x27).bind fun x47 => if x47 = true then (if x30.fValid = x9.fValid then (if x30.fStop = 0 then (if x30.fErr = 0 then some true else some false) else some false) else some false) else some false) else some false) else none) else some false).bind fun y42 => some y42) else none))) else none
set_option maxRecDepth 100000 in
set_option maxHeartbeats 4000000 in
theorem f_l23_ScanAgain_spec (a0 : List UInt8) (r : Bool) (h : f_l23_ScanAgain a0 = some r) : SpecX Try.prog 3 #[.string (bsOf a0)] .triv (EmpR) (fun v A' N => v = .bool r ∧ A' = EmpR ∧ N = []) := by
  refine enterA Try.func3 rfl Try.ntmps3 rfl ?_
  intro F w hX
  unfold f_l23_ScanAgain at h
  refine T.seq (T.region rfl ?_)
  refine TL.run ft_cursitorlaw23_ok [0] rfl rfl ?_
  obtain ⟨x1, hx2, h⟩ := Option.bind_eq_some_iff.1 h
  refine TL.nil (X.seq (T.seq (T.seq (T.region rfl ?_))))
  refine TL.ce rfl .u (.fn Try.call8 rfl) (f_l23_speaks_spec _ hx2) (fun _ hs => (RX.reads_triv _ _)) rfl ?_
  refine TL.run ft_cursitorlaw23_ok [1] rfl rfl ?_
  by_cases c3 : x1 = true
  · replace h := ifT c3 h
    refine TL.nil (X.seq ?_)
    refine T.no rfl (bn_f c3) ?_
    refine T.skip (X.seq (T.seq (T.seq (T.region rfl ?_))))
    refine TL.run ft_cursitorlaw23_ok [0] rfl rfl ?_
    refine TL.q rfl .u (Ex.lenB rfl Try.runUnderlying9) rfl ?_
    refine TL.run ft_cursitorlaw23_ok [2] rfl rfl ?_
    by_cases c4 : (a0.length : Int) > 1500
    · replace h := ifT c4 h
      refine TL.nil (X.seq ?_)
      refine T.yes rfl (decide_eq_true c4) ?_
      refine T.seq (T.region rfl ?_)
      refine TL.run ft_cursitorlaw23_ok [0] rfl rfl ?_
      obtain rfl := Option.some.inj h
      exact TL.nil (X.seq (T.ret (X.rs (X.done1 [0] Try.results3 (RV.tm rfl) ⟨rfl, rfl, rfl⟩ (by rfl) (.inl rfl)))))
    · replace h := ifF c4 h
      refine TL.nil (X.seq ?_)
      refine T.no rfl (decide_eq_false c4) ?_
      refine T.skip (X.seq (T.seq (T.region rfl ?_)))
      refine TL.run ft_cursitorlaw23_ok [0] rfl rfl ?_
      refine TL.lit (cells := #[.string (bsOf a0)]) rfl .u sok_cursitorlaw23_39_1 rfl (by rfl) rfl (fun b5 => ?_)
      refine TL.rowOf (us := [.string (bsOf a0)]) (xs := [a0]) (E := strE) (z := 1) rfl (Nat.le_of_ble_eq_true rfl) (fun _ => ⟨rfl, rfl, rfl⟩) ?_
      obtain ⟨⟨x6, x9⟩, hx10, h⟩ := Option.bind_eq_some_iff.1 h
      try dsimp only at h
      refine TL.cge rfl .u (.fn Try.call9 rfl) (f_scan_Scan_spec [a0] _ _ _ hx10) (fun _ hs => (SrcE.res 0 hs rfl (fun w G h => own_reads (by decide) w G h))) rfl ?_
      rintro _ _ _ ⟨A7, c8, rfl, rfl, rfl⟩
      refine TL.sel [0, 0, 0] rfl ?_
      refine TL.run ft_cursitorlaw23_ok [3, 4, 5] rfl rfl ?_
      refine TL.alloc rfl .u Try.zeroValue26 rfl (fun b11 => ?_)
      refine TL.run ft_cursitorlaw23_ok [7] rfl rfl ?_
      refine TL.st0 (cs' := #[.int .i64 x9.fValid, .int .i64 x9.fStop, .int .i64 x9.fErr]) rfl .u rfl rfl Try.sizeOf26 rfl rfl rfl rfl ?_
      refine TL.nil (X.seq (T.seq (T.seq ?_)))
      obtain ⟨y15, h, hk16⟩ := Option.bind_eq_some_iff.1 h
      refine T.jq (fun e Rs => e = [(0, .string (bsOf a0)), (2, .bool false), (3, .slice A7 x6.length c8), (4, .pointer (some ⟨b11, 0, none⟩)), (49, .bool y15)] ∧ Rs = [BlkR b11 26 #[.int .i64 x9.fValid, .int .i64 x9.fStop, .int .i64 x9.fErr], RdR (sliceRd 12 Bat_rd) [.slice A7 x6.length c8] x6, OwnR 9 1 strE (.slice (some ⟨b5, 0, none⟩) 1 1) [a0], EmpR]) ?_ ?_
      · clear hk16
        refine T.region rfl ?_
        refine TL.run ft_cursitorlaw23_ok [0] rfl rfl ?_
        refine TL.q rfl .u (Ex.b1 0 rfl Try.isAgg3 rfl rfl) rfl ?_
        by_cases c17 : x9.fValid < 0
        · replace h := ifT c17 h
          refine TL.run ft_cursitorlaw23_ok [2, 3] rfl rfl ?_
          refine TL.no rfl (.gn rfl rfl (decide_eq_true c17)) rfl ?_
          refine TL.no rfl (.gn rfl rfl (decide_eq_true c17)) rfl ?_
          refine TL.no rfl (.gn rfl rfl (decide_eq_true c17)) rfl ?_
          refine TL.no rfl (.gn rfl rfl (decide_eq_true c17)) rfl ?_
          refine TL.no rfl (.gn rfl rfl (decide_eq_true c17)) rfl ?_
          refine TL.q rfl .u (Ex.py rfl (decide_eq_true c17) rfl) rfl ?_
          refine TL.run ft_cursitorlaw23_ok [10] rfl rfl ?_
          refine TL.no rfl (.gn rfl rfl rfl) rfl ?_
          refine TL.no rfl (.gn rfl rfl rfl) rfl ?_
          refine TL.no rfl (.gn rfl rfl rfl) rfl ?_
          refine TL.no rfl (.gn rfl rfl rfl) rfl ?_
          refine TL.no rfl (.gn rfl rfl rfl) rfl ?_
          refine TL.no rfl (.gn rfl rfl rfl) rfl ?_
          refine TL.no rfl (.gn rfl rfl rfl) rfl ?_
          refine TL.no rfl (.gn rfl rfl rfl) rfl ?_
          refine TL.no rfl (.gn rfl rfl rfl) rfl ?_
          refine TL.q rfl .u (Ex.py rfl rfl rfl) rfl ?_
          refine TL.run ft_cursitorlaw23_ok [21] rfl rfl ?_
          refine TL.no rfl (.gn rfl rfl rfl) rfl ?_
          refine TL.no rfl (.gn rfl rfl rfl) rfl ?_
          refine TL.no rfl (.gn rfl rfl rfl) rfl ?_
          refine TL.no rfl (.gn rfl rfl rfl) rfl ?_
          refine TL.no rfl (.gn rfl rfl rfl) rfl ?_
          refine TL.no rfl (.gn rfl rfl rfl) rfl ?_
          refine TL.no rfl (.gn rfl rfl rfl) rfl ?_
          refine TL.q rfl .u (Ex.py rfl rfl rfl) rfl ?_
          cases h
          exact TL.nil (X.jq [0, 0, 0, 0] ⟨rfl, rfl⟩ (by rfl) (by rfl))
        · replace h := ifF c17 h
          refine TL.run ft_cursitorlaw23_ok [2, 3] rfl rfl ?_
          refine TL.q rfl (.g rfl rfl (decide_eq_false c17)) (Ex.ft ft_cursitorlaw23_ok rfl) rfl ?_
          refine TL.q rfl (.g rfl rfl (decide_eq_false c17)) (Ex.b1 0 rfl Try.isAgg3 rfl rfl) rfl ?_
          refine TL.q rfl (.g rfl rfl (decide_eq_false c17)) (Ex.ft ft_cursitorlaw23_ok rfl) rfl ?_
          refine TL.q rfl (.g rfl rfl (decide_eq_false c17)) (Ex.lenB rfl Try.runUnderlying9) rfl ?_
          refine TL.q rfl (.g rfl rfl (decide_eq_false c17)) (Ex.ft ft_cursitorlaw23_ok rfl) rfl ?_
          refine TL.q rfl .u (Ex.pn rfl (decide_eq_false c17) rfl) rfl ?_
          by_cases c18 : x9.fValid > (a0.length : Int)
          · replace h := ifT c18 h
            refine TL.run ft_cursitorlaw23_ok [10] rfl rfl ?_
            refine TL.no rfl (.gn rfl rfl (decide_eq_true c18)) rfl ?_
            refine TL.no rfl (.gn rfl rfl (decide_eq_true c18)) rfl ?_
            refine TL.no rfl (.gn rfl rfl (decide_eq_true c18)) rfl ?_
            refine TL.no rfl (.gn rfl rfl (decide_eq_true c18)) rfl ?_
            refine TL.no rfl (.gn rfl rfl (decide_eq_true c18)) rfl ?_
            refine TL.no rfl (.gn rfl rfl (decide_eq_true c18)) rfl ?_
            refine TL.no rfl (.gn rfl rfl (decide_eq_true c18)) rfl ?_
            refine TL.no rfl (.gn rfl rfl (decide_eq_true c18)) rfl ?_
            refine TL.no rfl (.gn rfl rfl (decide_eq_true c18)) rfl ?_
            refine TL.q rfl .u (Ex.py rfl (decide_eq_true c18) rfl) rfl ?_
            refine TL.run ft_cursitorlaw23_ok [21] rfl rfl ?_
            refine TL.no rfl (.gn rfl rfl rfl) rfl ?_
            refine TL.no rfl (.gn rfl rfl rfl) rfl ?_
            refine TL.no rfl (.gn rfl rfl rfl) rfl ?_
            refine TL.no rfl (.gn rfl rfl rfl) rfl ?_
            refine TL.no rfl (.gn rfl rfl rfl) rfl ?_
            refine TL.no rfl (.gn rfl rfl rfl) rfl ?_
            refine TL.no rfl (.gn rfl rfl rfl) rfl ?_
            refine TL.q rfl .u (Ex.py rfl rfl rfl) rfl ?_
            cases h
            exact TL.nil (X.jq [0, 0, 0, 0] ⟨rfl, rfl⟩ (by rfl) (by rfl))
          · replace h := ifF c18 h
            refine TL.run ft_cursitorlaw23_ok [10] rfl rfl ?_
            refine TL.q rfl (.g rfl rfl (decide_eq_false c18)) (Ex.ft ft_cursitorlaw23_ok rfl) rfl ?_
            refine TL.q rfl (.g rfl rfl (decide_eq_false c18)) (Ex.b1 0 rfl Try.isAgg3 rfl rfl) rfl ?_
            refine TL.q rfl (.g rfl rfl (decide_eq_false c18)) (Ex.ft ft_cursitorlaw23_ok rfl) rfl ?_
            refine TL.q rfl (.g rfl rfl (decide_eq_false c18)) (Ex.ft ft_cursitorlaw23_ok rfl) rfl ?_
            refine TL.q rfl (.g rfl rfl (decide_eq_false c18)) (Ex.b1 0 rfl Try.isAgg3 rfl rfl) rfl ?_
            refine TL.q rfl (.g rfl rfl (decide_eq_false c18)) (Ex.ft ft_cursitorlaw23_ok rfl) rfl ?_
            refine TL.q rfl (.g rfl rfl (decide_eq_false c18)) (Ex.lenB rfl Try.runUnderlying9) rfl ?_
            refine TL.q rfl (.g rfl rfl (decide_eq_false c18)) (Ex.ft ft_cursitorlaw23_ok rfl) rfl ?_
            refine TL.q rfl (.g rfl rfl (decide_eq_false c18)) (Ex.bNe rfl rfl rfl rfl Try.runUnderlying4) rfl ?_
            refine TL.q rfl .u (Ex.pn rfl (decide_eq_false c18) rfl) rfl ?_
            by_cases c19 : ((decide (x9.fStop = 0)) == (decide (x9.fValid = (a0.length : Int)))) = true
            · replace h := ifT c19 h
              refine TL.run ft_cursitorlaw23_ok [21] rfl rfl ?_
              refine TL.q rfl (.g rfl rfl (bn_f c19)) (Ex.ft ft_cursitorlaw23_ok rfl) rfl ?_
              refine TL.q rfl (.g rfl rfl (bn_f c19)) (Ex.b1 0 rfl Try.isAgg3 rfl rfl) rfl ?_
              refine TL.q rfl (.g rfl rfl (bn_f c19)) (Ex.ft ft_cursitorlaw23_ok rfl) rfl ?_
              refine TL.q rfl (.g rfl rfl (bn_f c19)) (Ex.ft ft_cursitorlaw23_ok rfl) rfl ?_
              refine TL.q rfl (.g rfl rfl (bn_f c19)) (Ex.b1 0 rfl Try.isAgg24 rfl rfl) rfl ?_
              refine TL.q rfl (.g rfl rfl (bn_f c19)) (Ex.ft ft_cursitorlaw23_ok rfl) rfl ?_
              refine TL.q rfl (.g rfl rfl (bn_f c19)) (Ex.bNe rfl rfl rfl rfl Try.runUnderlying4) rfl ?_
              refine TL.q rfl .u (Ex.pn rfl (bn_f c19) rfl) rfl ?_
              by_cases c20 : ((decide (x9.fStop = 2)) == (!(decide (x9.fErr = 0)))) = true
              · replace h := ifT c20 h
                cases h
                exact TL.nil (X.as (d := 49) (v' := .bool false) rfl (congrArg Value.bool (bn_f c20)) (X.jq [0, 0, 0, 0] ⟨rfl, rfl⟩ (by rfl) (by rfl)))
              · replace h := ifF c20 h
                replace c20 := eq_false_of_ne_true c20
                cases h
                exact TL.nil (X.as (d := 49) (v' := .bool true) rfl (congrArg Value.bool (bn_t c20)) (X.jq [0, 0, 0, 0] ⟨rfl, rfl⟩ (by rfl) (by rfl)))
            · replace h := ifF c19 h
              replace c19 := eq_false_of_ne_true c19
              refine TL.run ft_cursitorlaw23_ok [21] rfl rfl ?_
              refine TL.no rfl (.gn rfl rfl (bn_t c19)) rfl ?_
              refine TL.no rfl (.gn rfl rfl (bn_t c19)) rfl ?_
              refine TL.no rfl (.gn rfl rfl (bn_t c19)) rfl ?_
              refine TL.no rfl (.gn rfl rfl (bn_t c19)) rfl ?_
              refine TL.no rfl (.gn rfl rfl (bn_t c19)) rfl ?_
              refine TL.no rfl (.gn rfl rfl (bn_t c19)) rfl ?_
              refine TL.no rfl (.gn rfl rfl (bn_t c19)) rfl ?_
              refine TL.q rfl .u (Ex.py rfl (bn_t c19) rfl) rfl ?_
              cases h
              exact TL.nil (X.jq [0, 0, 0, 0] ⟨rfl, rfl⟩ (by rfl) (by rfl))
      · rintro _ _ ⟨rfl, rfl⟩
        clear h
        have h := hk16
        clear hk16
        try dsimp only at h
        by_cases c21 : y15 = true
        · replace h := ifT c21 h
          refine X.seq ?_
          refine T.yes rfl c21 ?_
          exact nomatch h
        · replace h := ifF c21 h
          replace c21 := eq_false_of_ne_true c21
          refine X.seq ?_
          refine T.no rfl c21 ?_
          refine T.skip (X.seq (T.seq (T.region rfl ?_)))
          obtain ⟨⟨x22, x23⟩, hx24, h⟩ := Option.bind_eq_some_iff.1 h
          try dsimp only at h
          refine TL.run ft_cursitorlaw23_ok [0] rfl rfl ?_
          refine TL.ce rfl .u (.fn Try.call10 rfl) (f_batch_All_spec x6 _ _ _ hx24) (fun _ hs => (SrcE.res 1 hs rfl (fun w G h => rd_reads w G h))) rfl ?_
          refine TL.run ft_cursitorlaw23_ok [2, 3, 4, 5, 6] rfl rfl ?_
          refine TL.nil (X.seq (T.seq (T.region rfl ?_)))
          refine TL.run ft_cursitorlaw23_ok [0, 1] rfl rfl ?_
          refine TL.q rfl .u (Ex.b1 0 rfl Try.isAgg3 rfl rfl) rfl ?_
          replace h := guard_some h
          obtain ⟨c25, h⟩ := h
          replace c25 : 0 ≤ x9.fValid ∧ x9.fValid.toNat ≤ a0.length := c25
          refine TL.q rfl .u (Ex.sSl (p := 0) (q := x9.fValid.toNat) (m := (a0.take x9.fValid.toNat)) rfl Try.runUnderlying9 .none (.some rfl ((Int.toNat_of_nonneg c25.1).symm)) (by first | omega | (dsimp only; omega)) (by simp)) rfl ?_
          refine TL.lit (cells := #[.string (bsOf (a0.take x9.fValid.toNat))]) rfl .u sok_cursitorlaw23_39_1 rfl (by rfl) rfl (fun b26 => ?_)
          refine TL.rowOf (us := [.string (bsOf (a0.take x9.fValid.toNat))]) (xs := [(a0.take x9.fValid.toNat)]) (E := strE) (z := 1) rfl (Nat.le_of_ble_eq_true rfl) (fun _ => ⟨rfl, rfl, rfl⟩) ?_
          obtain ⟨⟨x27, x30⟩, hx31, h⟩ := Option.bind_eq_some_iff.1 h
          try dsimp only at h
          refine TL.cge rfl .u (.fn Try.call9 rfl) (f_scan_Scan_spec [(a0.take x9.fValid.toNat)] _ _ _ hx31) (fun _ hs => (SrcE.res 0 hs rfl (fun w G h => own_reads (by decide) w G h))) rfl ?_
          rintro _ _ _ ⟨A28, c29, rfl, rfl, rfl⟩
          refine TL.sel [0, 0, 0, 0, 0, 0] rfl ?_
          refine TL.run ft_cursitorlaw23_ok [6, 7, 8] rfl rfl ?_
          refine TL.alloc rfl .u Try.zeroValue26 rfl (fun b32 => ?_)
          refine TL.run ft_cursitorlaw23_ok [10] rfl rfl ?_
          refine TL.st0 (cs' := #[.int .i64 x30.fValid, .int .i64 x30.fStop, .int .i64 x30.fErr]) rfl .u rfl rfl Try.sizeOf26 rfl rfl rfl rfl ?_
          refine TL.nil (X.seq (T.seq ?_))
          obtain ⟨y42, h, hk43⟩ := Option.bind_eq_some_iff.1 h
          refine T.jq (fun e Rs => e = [(2, .bool y42)] ∧ Rs = [BlkR b32 26 #[.int .i64 x30.fValid, .int .i64 x30.fStop, .int .i64 x30.fErr], RdR (sliceRd 12 Bat_rd) [.slice A28 x27.length c29] x27, OwnR 9 1 strE (.slice (some ⟨b26, 0, none⟩) 1 1) [(a0.take x9.fValid.toNat)], BlkR b11 26 #[.int .i64 x9.fValid, .int .i64 x9.fStop, .int .i64 x9.fErr], RdR (sliceRd 12 Bat_rd) [.slice A7 x6.length c8] x6, OwnR 9 1 strE (.slice (some ⟨b5, 0, none⟩) 1 1) [a0], EmpR]) ?_ ?_
          · clear hk43
            refine T.region rfl ?_
            by_cases c44 : x23 = 0
            · replace h := ifT c44 h
              refine TL.run ft_cursitorlaw23_ok [0, 1, 2] rfl rfl ?_
              refine TL.q rfl (.g rfl rfl (decide_eq_true c44)) (Ex.ft ft_cursitorlaw23_ok rfl) rfl ?_
              refine TL.q rfl (.g rfl rfl (decide_eq_true c44)) (Ex.ft ft_cursitorlaw23_ok rfl) rfl ?_
              refine TL.q rfl (.g rfl rfl (decide_eq_true c44)) (Ex.ft ft_cursitorlaw23_ok rfl) rfl ?_
              refine TL.q rfl (.g rfl rfl (decide_eq_true c44)) (Ex.b1 3 rfl Try.isAgg3 rfl rfl) rfl ?_
              replace h := guard_some h
              obtain ⟨c45, h⟩ := h
              replace c45 : 0 ≤ x9.fValid ∧ x9.fValid.toNat ≤ a0.length := c45
              refine TL.q rfl (.g rfl rfl (decide_eq_true c44)) (Ex.sSl (p := 0) (q := x9.fValid.toNat) (m := (a0.take x9.fValid.toNat)) rfl Try.runUnderlying9 .none (.some rfl ((Int.toNat_of_nonneg c45.1).symm)) (by first | omega | (dsimp only; omega)) (by simp)) rfl ?_
              refine TL.q rfl (.g rfl rfl (decide_eq_true c44)) (Ex.sEq rfl rfl) rfl ?_
              refine TL.q rfl .u (Ex.py rfl (decide_eq_true c44) rfl) rfl ?_
              by_cases c46 : x22 = (a0.take x9.fValid.toNat)
              · replace h := ifT c46 h
                refine TL.run ft_cursitorlaw23_ok [10] rfl rfl ?_
                refine TL.q rfl (.g rfl rfl (decide_eq_true c46)) (Ex.ft ft_cursitorlaw23_ok rfl) rfl ?_
                refine TL.q rfl (.g rfl rfl (decide_eq_true c46)) (Ex.ft ft_cursitorlaw23_ok rfl) rfl ?_
                obtain ⟨x47, hx48, h⟩ := Option.bind_eq_some_iff.1 h
                refine TL.ce rfl (.g rfl rfl (decide_eq_true c46)) (.fn Try.call11 rfl) (f_r11_Rows_spec x6 _ _ x27 _ _ _ hx48) (fun _ hs => (RX.reads_and (SrcE.res 4 hs rfl (fun w G h => rd_reads w G h)) (SrcE.res 1 hs rfl (fun w G h => rd_reads w G h)))) rfl ?_
                refine TL.q rfl .u (Ex.py rfl (decide_eq_true c46) rfl) rfl ?_
                by_cases c49 : x47 = true
                · replace h := ifT c49 h
                  refine TL.run ft_cursitorlaw23_ok [15] rfl rfl ?_
                  refine TL.q rfl (.g rfl rfl c49) (Ex.bS (us := [.int .i64 x30.fValid, .int .i64 x30.fStop, .int .i64 x30.fErr]) 0 rfl Try.isAgg26 Try.sizeOf26 rfl rfl rfl) rfl ?_
                  refine TL.q rfl (.g rfl rfl c49) (Ex.ft ft_cursitorlaw23_ok rfl) rfl ?_
                  refine TL.q rfl (.g rfl rfl c49) (Ex.b1 3 rfl Try.isAgg3 rfl rfl) rfl ?_
                  refine TL.q rfl (.g rfl rfl c49) (Ex.bld (cells := #[.int .i64 x9.fValid, .int .i64 0, .int .i64 0]) bok_cursitorlaw23_26 rfl (by kernel_rfl)) rfl ?_
                  by_cases c50 : x30.fValid = x9.fValid
                  · replace h := ifT c50 h
                    by_cases c51 : x30.fStop = 0
                    · replace h := ifT c51 h
                      by_cases c52 : x30.fErr = 0
                      · replace h := ifT c52 h
                        refine TL.q rfl (.g rfl rfl c49) (Ex.aEq (us := [.int .i64 x30.fValid, .int .i64 x30.fStop, .int .i64 x30.fErr]) (vs := [.int .i64 x9.fValid, .int .i64 0, .int .i64 0]) flat_cursitorlaw23_26 rfl Try.eqGuardType26 rfl rfl rfl rfl (eqL_t (eqV_i c50) (eqL_t (eqV_i c51) (eqL_t (eqV_i c52) rfl)))) rfl ?_
                        refine TL.q rfl .u (Ex.py rfl c49 rfl) rfl ?_
                        refine TL.run ft_cursitorlaw23_ok [22] rfl rfl ?_
                        cases h
                        exact TL.nil (X.jq [0, 0, 0, 0, 0, 0, 0] ⟨rfl, rfl⟩ (by rfl) (by rfl))
                      · replace h := ifF c52 h
                        refine TL.q rfl (.g rfl rfl c49) (Ex.aEq (us := [.int .i64 x30.fValid, .int .i64 x30.fStop, .int .i64 x30.fErr]) (vs := [.int .i64 x9.fValid, .int .i64 0, .int .i64 0]) flat_cursitorlaw23_26 rfl Try.eqGuardType26 rfl rfl rfl rfl (eqL_t (eqV_i c50) (eqL_t (eqV_i c51) (eqL_f (eqV_in c52))))) rfl ?_
                        refine TL.q rfl .u (Ex.py rfl c49 rfl) rfl ?_
                        refine TL.run ft_cursitorlaw23_ok [22] rfl rfl ?_
                        cases h
                        exact TL.nil (X.jq [0, 0, 0, 0, 0, 0, 0] ⟨rfl, rfl⟩ (by rfl) (by rfl))
                    · replace h := ifF c51 h
                      refine TL.q rfl (.g rfl rfl c49) (Ex.aEq (us := [.int .i64 x30.fValid, .int .i64 x30.fStop, .int .i64 x30.fErr]) (vs := [.int .i64 x9.fValid, .int .i64 0, .int .i64 0]) flat_cursitorlaw23_26 rfl Try.eqGuardType26 rfl rfl rfl rfl (eqL_t (eqV_i c50) (eqL_f (eqV_in c51)))) rfl ?_
                      refine TL.q rfl .u (Ex.py rfl c49 rfl) rfl ?_
                      refine TL.run ft_cursitorlaw23_ok [22] rfl rfl ?_
                      cases h
                      exact TL.nil (X.jq [0, 0, 0, 0, 0, 0, 0] ⟨rfl, rfl⟩ (by rfl) (by rfl))
                  · replace h := ifF c50 h
                    refine TL.q rfl (.g rfl rfl c49) (Ex.aEq (us := [.int .i64 x30.fValid, .int .i64 x30.fStop, .int .i64 x30.fErr]) (vs := [.int .i64 x9.fValid, .int .i64 0, .int .i64 0]) flat_cursitorlaw23_26 rfl Try.eqGuardType26 rfl rfl rfl rfl (eqL_f (eqV_in c50))) rfl ?_
                    refine TL.q rfl .u (Ex.py rfl c49 rfl) rfl ?_
                    refine TL.run ft_cursitorlaw23_ok [22] rfl rfl ?_
                    cases h
                    exact TL.nil (X.jq [0, 0, 0, 0, 0, 0, 0] ⟨rfl, rfl⟩ (by rfl) (by rfl))
                · replace h := ifF c49 h
                  replace c49 := eq_false_of_ne_true c49
                  refine TL.run ft_cursitorlaw23_ok [15] rfl rfl ?_
                  refine TL.no rfl (.gn rfl rfl c49) rfl ?_
                  refine TL.no rfl (.gn rfl rfl c49) rfl ?_
                  refine TL.no rfl (.gn rfl rfl c49) rfl ?_
                  refine TL.no rfl (.gn rfl rfl c49) rfl ?_
                  refine TL.no rfl (.gn rfl rfl c49) rfl ?_
                  refine TL.q rfl .u (Ex.pn rfl c49 rfl) rfl ?_
                  refine TL.run ft_cursitorlaw23_ok [22] rfl rfl ?_
                  cases h
                  exact TL.nil (X.jq [0, 0, 0, 0, 0, 0, 0] ⟨rfl, rfl⟩ (by rfl) (by rfl))
              · replace h := ifF c46 h
                refine TL.run ft_cursitorlaw23_ok [10] rfl rfl ?_
                refine TL.no rfl (.gn rfl rfl (decide_eq_false c46)) rfl ?_
                refine TL.no rfl (.gn rfl rfl (decide_eq_false c46)) rfl ?_
                refine TL.no rfl (.gn rfl rfl (decide_eq_false c46)) rfl ?_
                refine TL.q rfl .u (Ex.pn rfl (decide_eq_false c46) rfl) rfl ?_
                refine TL.run ft_cursitorlaw23_ok [15] rfl rfl ?_
                refine TL.no rfl (.gn rfl rfl rfl) rfl ?_
                refine TL.no rfl (.gn rfl rfl rfl) rfl ?_
                refine TL.no rfl (.gn rfl rfl rfl) rfl ?_
                refine TL.no rfl (.gn rfl rfl rfl) rfl ?_
                refine TL.no rfl (.gn rfl rfl rfl) rfl ?_
                refine TL.q rfl .u (Ex.pn rfl rfl rfl) rfl ?_
                refine TL.run ft_cursitorlaw23_ok [22] rfl rfl ?_
                cases h
                exact TL.nil (X.jq [0, 0, 0, 0, 0, 0, 0] ⟨rfl, rfl⟩ (by rfl) (by rfl))
            · replace h := ifF c44 h
              refine TL.run ft_cursitorlaw23_ok [0, 1, 2] rfl rfl ?_
              refine TL.no rfl (.gn rfl rfl (decide_eq_false c44)) rfl ?_
              refine TL.no rfl (.gn rfl rfl (decide_eq_false c44)) rfl ?_
              refine TL.no rfl (.gn rfl rfl (decide_eq_false c44)) rfl ?_
              refine TL.no rfl (.gn rfl rfl (decide_eq_false c44)) rfl ?_
              refine TL.no rfl (.gn rfl rfl (decide_eq_false c44)) rfl ?_
              refine TL.no rfl (.gn rfl rfl (decide_eq_false c44)) rfl ?_
              refine TL.q rfl .u (Ex.pn rfl (decide_eq_false c44) rfl) rfl ?_
              refine TL.run ft_cursitorlaw23_ok [10] rfl rfl ?_
              refine TL.no rfl (.gn rfl rfl rfl) rfl ?_
              refine TL.no rfl (.gn rfl rfl rfl) rfl ?_
              refine TL.no rfl (.gn rfl rfl rfl) rfl ?_
              refine TL.q rfl .u (Ex.pn rfl rfl rfl) rfl ?_
              refine TL.run ft_cursitorlaw23_ok [15] rfl rfl ?_
              refine TL.no rfl (.gn rfl rfl rfl) rfl ?_
              refine TL.no rfl (.gn rfl rfl rfl) rfl ?_
              refine TL.no rfl (.gn rfl rfl rfl) rfl ?_
              refine TL.no rfl (.gn rfl rfl rfl) rfl ?_
              refine TL.no rfl (.gn rfl rfl rfl) rfl ?_
              refine TL.q rfl .u (Ex.pn rfl rfl rfl) rfl ?_
              refine TL.run ft_cursitorlaw23_ok [22] rfl rfl ?_
              cases h
              exact TL.nil (X.jq [0, 0, 0, 0, 0, 0, 0] ⟨rfl, rfl⟩ (by rfl) (by rfl))
          · rintro _ _ ⟨rfl, rfl⟩
            clear h
            have h := hk43
            clear hk43
            try dsimp only at h
            obtain rfl := Option.some.inj h
            exact X.seq (T.ret (X.done1 [6] Try.results3 (RV.tm rfl) ⟨rfl, rfl, rfl⟩ (by rfl) (.inl rfl)))
  · replace h := ifF c3 h
    replace c3 := eq_false_of_ne_true c3
    refine TL.nil (X.seq ?_)
    refine T.yes rfl (bn_t c3) ?_
    exact nomatch h
end Go.Proofs.Ytahjmpipllajcaa.Sl
namespace Go.Proofs.Ytahjmpipllajcaa.Sl
open Go.RowKit
set_option linter.unusedVariables false
set_option linter.unusedSimpArgs false
section
variable {P : Program} {n : Nat} {F0 : Nat → Prop} {w0 : World} {e : Env} {Rs : List Res} {S : World → Prop} {d : Option Tmp} {ty : TypeId} {pos : String} {af : Array Edge} {gd : Option (Nat × Bool)} {v : Value} {x y ix : Operand} {t t' el : TypeId}
theorem re_run (ts : Array TypeId) (q : TypeId) (a b : Nat) : Builtin.real_ ts q #[.complex .f64 a b] = pure (.float .f64 a) := rfl
theorem Ex.re {a b : Nat} {ts : Array TypeId} (hx : e.ev x = some (.complex .f64 a b)) : Ex P n e S ⟨d, .call ⟨.builtin .real, #[x], ts⟩, ty, pos, af, gd⟩ (.float .f64 a) := by
  intro a w ha _
  simp [execOp, resolve, invoke, builtin, ha.ev hx, re_run]
end
end Go.Proofs.Ytahjmpipllajcaa.Sl
namespace Go.Proofs.Ytahjmpipllajcaa.Sl
open Go.RowKit
set_option linter.unusedVariables false
set_option linter.unusedSimpArgs false
theorem speaks23 : f_l23_speaks = some true := by kernel_rfl
theorem pure_ScanAgain (a0 : List UInt8) (w0 : a0.length ≤ 140737488351232) : f_l23_ScanAgain a0 = some true := by
  unfold f_l23_ScanAgain
  rw [speaks23, Option.bind_some, if_pos rfl]
  by_cases hl : (a0.length : Int) > 1500
  · rw [if_pos hl]
  have hs : a0.length ≤ 1500 := by omega
  obtain ⟨h1, h2⟩ := Scn_bytes a0.length a0 (Nat.le_refl _)
  have h4 := congrArg List.length h1
  rw [List.length_append] at h4
  have hw := scn_wr a0.length a0 (Nat.le_refl _)
  have e1 : a0.take (encs encBt (Scn a0).1).length = encs encBt (Scn a0).1 := by
    conv => lhs; arg 2; rw [h1]
    rw [List.take_left]
  rw [if_neg hl, scan_one (by omega), Option.bind_some]
  dsimp only
  have ev : (resOf a0).fValid = ((encs encBt (Scn a0).1).length : Int) := rfl
  have es : (resOf a0).fStop = if (Scn a0).2.2 ≠ 0 then 2 else if (Scn a0).2.1 = [] then 0 else 1 := rfl
  have ee : (resOf a0).fErr = (Scn a0).2.2 := rfl
  have c1 : ((decide ((resOf a0).fStop = 0)) == (decide ((resOf a0).fValid = (a0.length : Int)))) = true := by
    rw [beq_iff_eq, decide_eq_decide, es, ev]
    by_cases g : (Scn a0).2.2 = 0
    · rw [if_neg (fun h => h g)]
      by_cases r : (Scn a0).2.1 = []
      · rw [if_pos r]
        rw [r, List.length_nil] at h4
        exact ⟨fun _ => by omega, fun _ => rfl⟩
      · have := List.length_pos_iff.2 r
        rw [if_neg r]
        exact ⟨fun h => absurd h (by decide), fun h => by omega⟩
    · have := List.length_pos_iff.2 (hw g)
      rw [if_pos g]
      exact ⟨fun h => absurd h (by decide), fun h => by omega⟩
  have c2 : ((decide ((resOf a0).fStop = 2)) == (!(decide ((resOf a0).fErr = 0)))) = true := by
    rw [beq_iff_eq, es, ee]
    by_cases g : (Scn a0).2.2 = 0
    · rw [if_neg (fun h => h g), decide_eq_true g]
      by_cases r : (Scn a0).2.1 = []
      · rw [if_pos r]; rfl
      · rw [if_neg r]; rfl
    · rw [if_pos g, decide_eq_false g]; rfl
  rw [if_neg (show ¬ ((resOf a0).fValid < 0) by rw [ev]; omega), if_neg (show ¬ ((resOf a0).fValid > (a0.length : Int)) by rw [ev]; omega), if_pos c1, if_pos c2, Option.bind_some, if_neg (by decide), scn_all (by omega), Option.bind_some]
  dsimp only
  have hb : 0 ≤ (resOf a0).fValid ∧ (resOf a0).fValid.toNat ≤ a0.length := by rw [ev]; omega
  rw [if_pos hb, ev, Int.toNat_natCast, e1, scan_one (by omega), scn_self h2, resOf_self h2, Option.bind_some]
  dsimp only
  have hbn := z_bn (s := a0) (by omega)
  have hm := z_many _ h2
  rw [if_pos rfl, if_pos (by omega), if_pos rfl, z_rows_self (by omega) (fun x hx => (hbn x hx).2.1), Option.bind_some, if_pos rfl, if_pos rfl, if_pos rfl, if_pos rfl, Option.bind_some]
end Go.Proofs.Ytahjmpipllajcaa.Sl
namespace Go.Proofs.Ytahjmpipllajcaa.scanAgain
open Go.ChangeShapes Go.WideShapes Go.ChangeAt Go.RowKit
open Go.ChangeMaps (open_string shut_string)
set_option linter.unusedVariables false
theorem own : ownKnob Try.prog.godebug = none := by kernel_rfl
set_option maxRecDepth 100000 in
set_option maxHeartbeats 1000000 in
theorem lifted (os : Os) (started : os.Started) (H : Type) (enc : TypeId × Value → H) :
    ReturnsInHanded {} Try.checked os 3 .any (Rows.scanAgainSpec.pre6 enc Try.prog Try.f3 Rows.scanAgainRow.domain false) (Rows.scanAgainSpec.post enc Try.prog Try.f3 false true false false) := by
  refine returnsInHanded_of_change_sized (C := Try.checked) own started (by kernel_rfl) Try.func3
    (ChangeSpec.witness6 (enc := enc) (C := Try.checked) false ⟨#[], #[.string ByteArray.empty], []⟩ 8 (by kernel_rfl) (by kernel_rfl) (by kernel_rfl) (by kernel_rfl)) ?_
  intro W base args ds gs before hval0 hW hcnd hsz0 _
  have hsz : (DataW.weightsEach Try.prog (Try.f3.params.toList ++ Rows.scanAgainSpec.plain.varTypes Try.prog) (ds ++ gs)).all (· ≤ reachBytes) = true := hsz0
  have hval : ∀ (j : Nat) t v, Try.f3.params[j]? = some t → args[j]? = some v → Value.okWide Try.prog W .any base t v := hval0
  have hW' := hW
  obtain ⟨p, q, hA0, hV, rfl, hfz, hnd⟩ := hW
  have hA : DataW.TrodAll enc Try.prog W 0 (fun _ => true) true Try.f3.params.toList args.toList ds p := hA0
  rw [Try.params3] at hA hval hsz
  obtain ⟨v0, vs0, d0, ds0, p0, q0, hargs, rfl, rfl, h0, r0⟩ := trodAll_cons hA
  obtain ⟨rfl, rfl, rfl⟩ := trodAll_nil r0
  obtain rfl : args = #[v0] := by cases args; simp_all
  obtain ⟨rfl, rfl⟩ := trodVars_none hV
  obtain ⟨s0, rfl, rfl, rfl, y0⟩ := open_string Try.underlying9 (hval 0 9 v0 rfl rfl) h0
  have z0 : s0.size ≤ 140737488351232 := by
    have z := sized_string hsz (j := 0) (t := 9) rfl rfl
    rw [Array.length_toList] at z
    exact z
  obtain ⟨a0, rfl⟩ := Sl.bsOf_of s0
  have w0 : a0.length ≤ 140737488351232 := by rwa [Sl.bsOf_size] at z0
  clear hA0 hval0 hsz0 hsz
  refine (Sl.f_l23_ScanAgain_spec a0 true (Sl.pure_ScanAgain a0 w0) (fun _ => False) W (fun _ h => h) (Sl.RX.reads_triv _ _)).mono fun e W' hP => ?_
  obtain ⟨v, A', Ns, rfl, ⟨rfl, rfl, rfl⟩, hst⟩ := hP
  have bel := Sl.St.below hst
  exact ⟨_, rfl, _, _, _, [], _, [], hW', trodAll_mk1 (shut_bool Try.underlying4 _), (trodAll_cons_mk (shut_string Try.underlying9 y0) trodAll_mk0), rfl, bel.frame _, fun h => by cases h⟩
theorem over : Rows.scanAgainRow.holds Try.pinned (OpenSpec.ofChange Rows.scanAgainSpec) :=
  OpenClaim.holds_of_wide 3 Try.f3 rfl rfl rfl rfl rfl rfl rfl ⟨rfl, rfl, rfl, rfl, rfl⟩ rfl rfl rfl rfl rfl (by kernel_rfl) Try.func3 (by kernel_rfl)
    (of_decide_eq_true (by kernel_rfl)) (by unfold Func.isWrapper; first | (rw [if_pos (by decide +kernel)]; kernel_rfl) | (rw [if_neg (by decide +kernel)]; exact ⟨rfl, rfl⟩))
    (fun os started H enc _ => lifted os started H enc)
theorem proved : Rows.ScanAgainSaid := over
end Go.Proofs.Ytahjmpipllajcaa.scanAgain
namespace Go.Proofs.Ytahjmpipllajcaa
theorem scanAgain_holds : Rows.ScanAgainSaid := scanAgain.proved
end Go.Proofs.Ytahjmpipllajcaa
