/- Printed by g2.py: package value. -/
import Derived.Test.YtdlpmcbglmgpiaaGb
import Derived.Test.YtdlpmcbglmgpiaaNg
import Derived.Test.YtdlpmcbglmgpiaaPslices
namespace Go.Proofs.Ytdlpmcbglmgpiaa.Sl
open Go.RowKit
set_option linter.unusedVariables false
set_option linter.unusedSimpArgs false
set_option maxRecDepth 100000
def ft_value : FTab := [(64, 0, 0), (64, 1, 1), (64, 2, 2), (64, 3, 3), (64, 4, 4), (64, 5, 5), (64, 6, 6), (104, 0, 0), (104, 1, 1)]
theorem ft_value_ok : (ft_value).OK Try.prog := ⟨FOK.mk Try.runUnderlying64 rfl Try.sizeOf3 rfl, FOK.mk Try.runUnderlying64 rfl Try.sizeOf3 rfl, FOK.mk Try.runUnderlying64 rfl Try.sizeOf3 rfl, FOK.mk Try.runUnderlying64 rfl Try.sizeOf3 rfl, FOK.mk Try.runUnderlying64 rfl Try.sizeOf62 rfl, FOK.mk Try.runUnderlying64 rfl Try.sizeOf3 rfl, FOK.mk Try.runUnderlying64 rfl Try.sizeOf3 rfl, FOK.mk Try.runUnderlying104 rfl Try.sizeOf9 rfl, FOK.mk Try.runUnderlying104 rfl Try.sizeOf102 rfl, trivial⟩
theorem mix_value : Try.prog.follows .mixedOrders = true := by kernel_rfl
theorem bok_value_64 : BOK Try.prog 64 #[.int .i64 0, .int .i64 0, .int .i64 0, .int .i64 0, .slice none 0 0, .int .i64 0, .int .i64 0] [(0, 1), (1, 1), (2, 1), (3, 1), (4, 1), (5, 1), (6, 1)] := BOK.mk Try.zeroValue64 Try.runUnderlying64 (by intro w; simp)
theorem bok_value_104 : BOK Try.prog 104 #[.string ⟨#[]⟩, .slice none 0 0] [(0, 1), (1, 1)] := BOK.mk Try.zeroValue104 Try.runUnderlying104 (by intro w; simp)
theorem sok_value_62_1 : SOK Try.prog 62 104 1 2 #[.string ⟨#[]⟩, .slice none 0 0] := SOK.mk Try.runUnderlying62 Try.sizeOf104 Try.zeroValue104 (by decide) (by kernel_rfl)
theorem sok_value_102_1 : SOK Try.prog 102 3 1 1 #[.int .i64 0] := SOK.mk Try.runUnderlying102 Try.sizeOf3 Try.zeroValue3 (by decide) (by kernel_rfl)
theorem sok_value_156_1 : SOK Try.prog 156 9 1 1 #[.string ⟨#[]⟩] := SOK.mk Try.runUnderlying156 Try.sizeOf9 Try.zeroValue9 (by decide) (by kernel_rfl)
theorem inf_value_3 : (Try.prog.info? 3).map (fun i => (i.zero, i.size, i.bytes)) = some (some (.int .i64 0), 1, 8) := by kernel_rfl
theorem inf_value_9 : (Try.prog.info? 9).map (fun i => (i.zero, i.size, i.bytes)) = some (some (.string ⟨#[]⟩), 1, 16) := by kernel_rfl
theorem inf_value_104 : (Try.prog.info? 104).map (fun i => (i.zero, i.size, i.bytes)) = some (some (.agg #[.string ⟨#[]⟩, .slice none 0 0]), 2, 40) := by kernel_rfl
def f_value_Topics_l2 (x24 : Int) : Nat → Nat → List Int → I → Option (Nat × List Int × I)
  | 0, _, _, _ => none
  | m35 + 1, k27, y28, st31 => if (k27 : Int) < x24 then ((gInt st31 4).bind fun (x40, st41) => if (y28.length + 1) * 8 ≤ 140737488355328 then (if -9223372036854775808 ≤ ((k27 : Int) + 1) ∧ ((k27 : Int) + 1) ≤ 9223372036854775807 then (f_value_Topics_l2 x24 m35 (k27 + 1) (y28 ++ [x40]) st41) else none) else none) else some (k27, y28, st31)
def f_value_Topics_l1 (x1 : Int) : Nat → List Top → List Top → Nat → I → Option (Lp (List Top × I) (List Top × List Top × Nat × I))
  | 0, _, _, _, _ => none
  | m15 + 1, y4, y7, k10, st11 => if (k10 : Int) < x1 then ((gText st11).bind fun (x20, st21) => (gCount st21 4 4).bind fun (x24, st25) => (f_value_Topics_l2 x24 ((x24).toNat + 1) 0 [] st25).bind fun (k57, y58, st61) => if (y7.length + 1) * 40 ≤ 140737488355328 then ((gErr st61).bind fun (x66, st67) => if x66 = 0 then (if -9223372036854775808 ≤ ((k10 : Int) + 1) ∧ ((k10 : Int) + 1) ≤ 9223372036854775807 then (f_value_Topics_l1 x1 m15 y4 (y7 ++ [(⟨x20, y58⟩ : Top)]) (k10 + 1) st67) else none) else (some (Lp.ret ([], st67)))) else none) else (some (Lp.go (y4, y7, k10, st11)))
def f_value_Topics (st : I)  : Option (List Top × I) := (gCount st 4 6).bind fun (x1, st2) => (f_value_Topics_l1 x1 ((x1).toNat + 1) [] [] 0 st2).bind fun e => match e with | .ret r => some r | .go (y71, y74, k77, st78) => some (y74, st78)
set_option maxRecDepth 100000 in
set_option maxHeartbeats 4000000 in
theorem f_value_Topics_spec (g : Nat) (st : I)  (r : List Top × I) (h : f_value_Topics st  = some r) : SpecX Try.prog 56 #[.pointer (some ⟨g, 0, none⟩)] .triv (InR g st) (fun v A' N => ∃ (A79 : Option Addr) (c80 : Nat), v = .slice A79 r.1.length c80 ∧ A' = InR g r.2 ∧ N = [RdR (sliceRd 2 Top_rd) [.slice A79 r.1.length c80] r.1]) := by
  refine enterA Try.func56 rfl Try.ntmps56 rfl ?_
  intro F w hX
  unfold f_value_Topics at h
  refine T.seq (T.region rfl ?_)
  refine TL.run ft_value_ok [0] rfl rfl ?_
  refine TL.nil (X.seq (T.seq (T.region rfl ?_)))
  refine TL.run ft_value_ok [0] rfl rfl ?_
  refine TL.nil (X.seq (T.seq (T.seq (T.region rfl ?_))))
  obtain ⟨⟨x1, st2⟩, hx3, h⟩ := Option.bind_eq_some_iff.1 h
  try dsimp only at h
  refine TL.run ft_value_ok [0] rfl rfl ?_
  refine TL.c0 rfl .u (.fn Try.call111 rfl) (gCount_spec g st 4 6 _ hx3) (fun _ hs => (Src.triv _)) rfl ?_
  refine TL.run ft_value_ok [2] rfl rfl ?_
  refine TL.nil (X.seq (T.block ?_))
  refine T.nilrow 104 2 Top_rd ?_
  refine T.nilrow 104 2 Top_rd ?_
  obtain ⟨E12, hE13, hO14⟩ := Option.bind_eq_some_iff.1 h
  refine T.lp (fun m e Rs => ∃ (y4 : List Top) (A5 : Option Addr) (c6 : Nat) (y7 : List Top) (A8 : Option Addr) (c9 : Nat) (k10 : Nat) (st11 : I), e = [(0, .pointer (some ⟨g, 0, none⟩)), (2, .slice A5 y4.length c6), (3, .slice A8 y7.length c9), (6, .int .i64 x1), (7, .int .i64 (k10 : Int))] ∧ Rs = [OwnR 104 2 Top_rd (.slice A5 y4.length c6) y4, OwnR 104 2 Top_rd (.slice A8 y7.length c9) y7, InR g st11] ∧ f_value_Topics_l1 x1 m y4 y7 k10 st11 = some E12) ((x1).toNat + 1) [0, 0, 0] ⟨[], none, 0, [], none, 0, 0, st2, rfl, rfl, by exact hE13⟩ (by rfl) (by rfl) ?_
  rintro m15 _ _ ⟨y4, A5, c6, y7, A8, c9, k10, st11, rfl, rfl, hl17⟩
  clear hE13 h
  cases m15 with
  | zero =>
    rw [f_value_Topics_l1] at hl17
    cases hl17
  | succ m15 =>
    have h := hl17
    clear hl17
    rw [f_value_Topics_l1] at h
    refine T.seq (T.region rfl ?_)
    refine TL.run ft_value_ok [0] rfl rfl ?_
    by_cases c19 : (k10 : Int) < x1
    · replace h := ifT c19 h
      refine TL.nil (X.seq (T.seq ?_))
      refine T.yes rfl (decide_eq_true c19) ?_
      refine T.skip (X.seq (T.seq (T.block (T.seq (T.region rfl ?_)))))
      obtain ⟨⟨x20, st21⟩, hx22, h⟩ := Option.bind_eq_some_iff.1 h
      try dsimp only at h
      refine TL.run ft_value_ok [0] rfl rfl ?_
      refine TL.c2 rfl .u (.fn Try.call112 rfl) (gText_spec g st11 _ hx22) (fun _ hs => (Src.triv _)) rfl ?_
      refine TL.q rfl .u (Ex.bld (cells := #[.string (bsOf x20), .slice none 0 0]) bok_value_104 rfl (by rfl)) rfl ?_
      refine TL.alloc rfl .u Try.zeroValue104 rfl (fun b23 => ?_)
      refine TL.st0 (cs' := #[.string (bsOf x20), .slice none 0 0]) rfl .u rfl rfl Try.sizeOf104 rfl rfl rfl rfl ?_
      refine TL.nil (X.seq (T.seq (T.seq (T.region rfl ?_))))
      obtain ⟨⟨x24, st25⟩, hx26, h⟩ := Option.bind_eq_some_iff.1 h
      try dsimp only at h
      refine TL.run ft_value_ok [0] rfl rfl ?_
      refine TL.c3 rfl .u (.fn Try.call111 rfl) (gCount_spec g st21 4 4 _ hx26) (fun _ hs => (Src.triv _)) rfl ?_
      refine TL.run ft_value_ok [2] rfl rfl ?_
      refine TL.nil (X.seq (T.block ?_))
      refine T.nilrow 3 1 intE ?_
      obtain ⟨E32, hE33, hO34⟩ := Option.bind_eq_some_iff.1 h
      refine T.lp (fun m e Rs => ∃ (k27 : Nat) (y28 : List Int) (A29 : Option Addr) (c30 : Nat) (st31 : I), e = [(0, .pointer (some ⟨g, 0, none⟩)), (2, .slice A5 y4.length c6), (3, .slice A8 y7.length c9), (4, .pointer (some ⟨b23, 0, none⟩)), (6, .int .i64 x1), (7, .int .i64 (k10 : Int)), (13, .int .i64 x24), (14, .int .i64 (k27 : Int))] ∧ Rs = [OwnR 3 1 intE (.slice A29 y28.length c30) y28, BlkR b23 104 #[.string (bsOf x20), .slice A29 y28.length c30], OwnR 104 2 Top_rd (.slice A5 y4.length c6) y4, OwnR 104 2 Top_rd (.slice A8 y7.length c9) y7, InR g st31] ∧ f_value_Topics_l2 x24 m k27 y28 st31 = some E32) ((x24).toNat + 1) [0, 0, 0, 0, 0] ⟨0, [], none, 0, st25, rfl, rfl, by exact hE33⟩ (by rfl) (by rfl) ?_
      rintro m35 _ _ ⟨k27, y28, A29, c30, st31, rfl, rfl, hl37⟩
      clear hE33 h
      cases m35 with
      | zero =>
        rw [f_value_Topics_l2] at hl37
        cases hl37
      | succ m35 =>
        have h := hl37
        clear hl37
        rw [f_value_Topics_l2] at h
        refine T.seq (T.region rfl ?_)
        refine TL.run ft_value_ok [0] rfl rfl ?_
        by_cases c39 : (k27 : Int) < x24
        · replace h := ifT c39 h
          refine TL.nil (X.seq (T.seq ?_))
          refine T.yes rfl (decide_eq_true c39) ?_
          obtain ⟨⟨x40, st41⟩, hx42, h⟩ := Option.bind_eq_some_iff.1 h
          try dsimp only at h
          replace h := guard_some h
          obtain ⟨c44, h⟩ := h
          refine T.skip (X.seq (T.seq (T.block ?_)))
          refine T.join (fun e Rs => ∃ (b43 : Nat) (A45 : Option Addr) (c46 : Nat), e = [(0, .pointer (some ⟨g, 0, none⟩)), (2, .slice A5 y4.length c6), (3, .slice A8 y7.length c9), (4, .pointer (some ⟨b23, 0, none⟩)), (6, .int .i64 x1), (7, .int .i64 (k10 : Int)), (13, .int .i64 x24), (14, .int .i64 (k27 : Int))] ∧ Rs = [OwnR 3 1 intE (.slice A45 (y28 ++ [x40]).length c46) (y28 ++ [x40]), BlkR b23 104 #[.string (bsOf x20), .slice A45 (y28 ++ [x40]).length c46], OwnR 104 2 Top_rd (.slice A5 y4.length c6) y4, OwnR 104 2 Top_rd (.slice A8 y7.length c9) y7, InR g st41]) ?_ ?_
          · refine T.draw (.q 0 (.q 2 (.br 1 (.e 3 (.e 4 (.e 5 (.q 6 (.e 7 .nil))))) (.e 3 (.br 1 (.e 4 (.e 5 (.q 6 (.e 7 .nil)))) (.e 4 (.e 1 (.e 5 (.q 6 (.e 7 .nil)))))))))) [2, 2] rfl mix_value np_jq (by kernel_rfl) ?_
            refine TD.run ft_value_ok [0, 2] rfl rfl ?_
            refine TD.br ?_ ?_
            · refine TD.ny rfl .u (Ex.b1 1 rfl Try.isAgg102 rfl rfl) rfl [2, 2] rfl ?_
              refine TD.c4 rfl .u (.fn Try.call72 rfl) (gInt_spec g st31 4 _ hx42) (fun _ hs => (Src.triv _)) rfl [2, 2] (rfl) ?_
              refine TD.lit (cells := #[.int .i64 x40]) rfl .u sok_value_102_1 rfl (by rfl) rfl [3, 3] (fun _ => rfl) (fun b43 => ?_)
              refine TD.app1 0 rfl .u (us := [.int .i64 x40]) (u := x40) (l := y28) (E := intE) Try.underlying102 inf_value_3 rfl (by decide) rfl rfl rfl rfl rfl rfl (fun _ _ => rfl) (by have hq := c44; omega) (by have hq := c44; omega) rfl [2, 2] (fun _ _ => rfl) (fun A45 c46 => ?_)
              refine TD.sel [0, 0, 0, 0, 0] rfl ?_
              refine TD.run ft_value_ok [6] rfl rfl ?_
              refine TD.st1 (cs' := #[.string (bsOf x20), .slice A45 (y28 ++ [x40]).length c46]) rfl .u rfl rfl Try.sizeOf102 rfl rfl rfl rfl [2, 2] (rfl) ?_
              exact TD.nil (X.jn [0, 0, 0, 0, 0] ⟨b43, A45, c46, rfl, rfl⟩ (by rfl) (by rfl))
            · refine TD.c4 rfl .u (.fn Try.call72 rfl) (gInt_spec g st31 4 _ hx42) (fun _ hs => (Src.triv _)) rfl [2, 2] (rfl) ?_
              refine TD.br ?_ ?_
              · refine TD.ny rfl .u (Ex.b1 1 rfl Try.isAgg102 rfl rfl) rfl [2, 2] rfl ?_
                refine TD.lit (cells := #[.int .i64 x40]) rfl .u sok_value_102_1 rfl (by rfl) rfl [3, 3] (fun _ => rfl) (fun b43 => ?_)
                refine TD.app1 0 rfl .u (us := [.int .i64 x40]) (u := x40) (l := y28) (E := intE) Try.underlying102 inf_value_3 rfl (by decide) rfl rfl rfl rfl rfl rfl (fun _ _ => rfl) (by have hq := c44; omega) (by have hq := c44; omega) rfl [2, 2] (fun _ _ => rfl) (fun A45 c46 => ?_)
                refine TD.sel [0, 0, 0, 0, 0] rfl ?_
                refine TD.run ft_value_ok [6] rfl rfl ?_
                refine TD.st1 (cs' := #[.string (bsOf x20), .slice A45 (y28 ++ [x40]).length c46]) rfl .u rfl rfl Try.sizeOf102 rfl rfl rfl rfl [2, 2] (rfl) ?_
                exact TD.nil (X.jn [0, 0, 0, 0, 0] ⟨b43, A45, c46, rfl, rfl⟩ (by rfl) (by rfl))
              · refine TD.lit (cells := #[.int .i64 x40]) rfl .u sok_value_102_1 rfl (by rfl) rfl [3, 3] (fun _ => rfl) (fun b43 => ?_)
                refine TD.ny rfl .u (Ex.b1 2 rfl Try.isAgg102 rfl rfl) rfl [3, 3] rfl ?_
                refine TD.app1 0 rfl .u (us := [.int .i64 x40]) (u := x40) (l := y28) (E := intE) Try.underlying102 inf_value_3 rfl (by decide) rfl rfl rfl rfl rfl rfl (fun _ _ => rfl) (by have hq := c44; omega) (by have hq := c44; omega) rfl [2, 2] (fun _ _ => rfl) (fun A45 c46 => ?_)
                refine TD.sel [0, 0, 0, 0, 0] rfl ?_
                refine TD.run ft_value_ok [6] rfl rfl ?_
                refine TD.st1 (cs' := #[.string (bsOf x20), .slice A45 (y28 ++ [x40]).length c46]) rfl .u rfl rfl Try.sizeOf102 rfl rfl rfl rfl [2, 2] (rfl) ?_
                exact TD.nil (X.jn [0, 0, 0, 0, 0] ⟨b43, A45, c46, rfl, rfl⟩ (by rfl) (by rfl))
          · rintro _ _ ⟨b43, A45, c46, rfl, rfl⟩
            replace h := guard_some h
            obtain ⟨c47, h⟩ := h
            refine X.blk (X.seq (T.region rfl ?_))
            refine TL.q rfl .u (Ex.add rfl rfl c47) rfl ?_
            refine TL.run ft_value_ok [1] rfl rfl ?_
            exact TL.nil (X.back (m' := m35) [0, 0, 0, 0, 0] (by omega) ⟨k27 + 1, (y28 ++ [x40]), A45, c46, st41, rfl, rfl, h⟩ (by rfl) (by rfl))
        · replace h := ifF c39 h
          refine TL.nil (X.seq (T.seq ?_))
          refine T.no rfl (decide_eq_false c39) ?_
          obtain rfl := Option.some.inj h
          replace h := hO34
          clear hO34
          try dsimp only at h
          refine T.exit (X.exs (X.exs (X.ex (X.seq (T.seq (T.region rfl ?_))))))
          refine TL.run ft_value_ok [0] rfl rfl ?_
          refine TL.q rfl .u (Ex.bS (us := [.string (bsOf x20), .slice A29 y28.length c30]) 1 rfl Try.isAgg104 Try.sizeOf104 rfl rfl rfl) rfl ?_
          refine TL.lit (cells := #[.string (bsOf x20), .slice A29 y28.length c30]) rfl .u sok_value_62_1 rfl (by rfl) rfl (fun b48 => ?_)
          replace h := guard_some h
          obtain ⟨c49, h⟩ := h
          refine TL.app2 3 0 rfl .u (us := [.string (bsOf x20), .slice A29 y28.length c30]) (u := (⟨x20, y28⟩ : Top)) (l := y7) (E := Top_rd) Try.underlying62 inf_value_104 rfl (by decide) rfl rfl rfl rfl rfl rfl rfl (fun w G hG => ⟨_, _, rfl, own_reads (by decide) _ _ hG⟩) (by have hq := c49; omega) (by have hq := c49; omega) rfl (fun A50 c51 => ?_)
          refine TL.sel [0, 0, 0, 0] rfl ?_
          refine TL.run ft_value_ok [4] rfl rfl ?_
          refine TL.nil (X.seq (T.seq (T.region rfl ?_)))
          obtain ⟨⟨x52, st53⟩, hx54, h⟩ := Option.bind_eq_some_iff.1 h
          try dsimp only at h
          refine TL.run ft_value_ok [0] rfl rfl ?_
          refine TL.c3 rfl .u (.fn Try.call19 rfl) (gErr_spec g st31 _ hx54) (fun _ hs => (Src.triv _)) rfl ?_
          refine TL.run ft_value_ok [2] rfl rfl ?_
          by_cases c55 : x52 = 0
          · replace h := ifT c55 h
            refine TL.nil (X.seq ?_)
            refine T.no rfl (bn_f (decide_eq_true c55)) ?_
            replace h := guard_some h
            obtain ⟨c56, h⟩ := h
            refine T.skip (X.blk (X.seq (T.region rfl ?_)))
            refine TL.q rfl .u (Ex.add rfl rfl c56) rfl ?_
            refine TL.run ft_value_ok [1] rfl rfl ?_
            exact TL.nil (X.back (m' := m15) [2, 0, 1] (by omega) ⟨y4, A5, c6, (y7 ++ [(⟨x20, y28⟩ : Top)]), A50, c51, k10 + 1, st53, rfl, rfl, h⟩ (by rfl) (by rfl))
          · replace h := ifF c55 h
            refine TL.nil (X.seq ?_)
            refine T.yes rfl (bn_t (decide_eq_false c55)) ?_
            refine T.seq (T.region rfl ?_)
            refine TL.run ft_value_ok [0] rfl rfl ?_
            obtain rfl := Option.some.inj h
            replace h := hO14
            clear hO14
            try dsimp only at h
            obtain rfl := Option.some.inj h
            refine TL.nil (X.seq (T.ret (X.rb (X.rs (X.rs (X.rb (X.rs ?_)))))))
            refine X.nilrd 2 Top_rd ?_
            exact X.done1 [4, 0] Try.results56 (RV.tm rfl) ⟨_, _, rfl, rfl, rfl⟩ (by rfl) (.inl rfl)
    · replace h := ifF c19 h
      refine TL.nil (X.seq (T.seq ?_))
      refine T.no rfl (decide_eq_false c19) ?_
      obtain rfl := Option.some.inj h
      replace h := hO14
      clear hO14
      try dsimp only at h
      refine T.exit (X.exs (X.exs (X.ex (X.seq (T.seq (T.region rfl ?_))))))
      refine TL.run ft_value_ok [0, 1] rfl rfl ?_
      obtain rfl := Option.some.inj h
      refine TL.nil (X.seq (T.ret ?_))
      refine X.shut (by decide) 1 rfl ?_
      refine X.sel [0, 0, 0] rfl ?_
      exact X.done1 [2, 1] Try.results56 (RV.tm rfl) ⟨_, _, rfl, rfl, rfl⟩ (by rfl) (.inl rfl)
def f_value_Idle (a0 : Int) : Option (Bool) := if a0 = 0 then some true else (if a0 ≥ 4 then some true else some false)
set_option maxRecDepth 100000 in
set_option maxHeartbeats 4000000 in
theorem f_value_Idle_spec (a0 : Int) (r : Bool) (h : f_value_Idle a0 = some r) : SpecX Try.prog 66 #[.int .i64 a0] .triv (EmpR) (fun v A' N => v = .bool r ∧ A' = EmpR ∧ N = []) := by
  refine enterA Try.func66 rfl Try.ntmps66 rfl ?_
  intro F w hX
  unfold f_value_Idle at h
  refine T.seq (T.region rfl ?_)
  refine TL.run ft_value_ok [0] rfl rfl ?_
  refine TL.nil (X.seq (T.seq (T.region rfl ?_)))
  by_cases c1 : a0 = 0
  · replace h := ifT c1 h
    refine TL.run ft_value_ok [0, 1, 2] rfl rfl ?_
    refine TL.no rfl (.gn rfl rfl (decide_eq_true c1)) rfl ?_
    refine TL.no rfl (.gn rfl rfl (decide_eq_true c1)) rfl ?_
    refine TL.q rfl .u (Ex.py rfl (decide_eq_true c1) rfl) rfl ?_
    refine TL.run ft_value_ok [6] rfl rfl ?_
    obtain rfl := Option.some.inj h
    exact TL.nil (X.seq (T.ret (X.done1 [0] Try.results66 (RV.tm rfl) ⟨rfl, rfl, rfl⟩ (by rfl) (.inl rfl))))
  · replace h := ifF c1 h
    refine TL.run ft_value_ok [0, 1, 2] rfl rfl ?_
    refine TL.q rfl (.g rfl rfl (decide_eq_false c1)) (Ex.ft ft_value_ok rfl) rfl ?_
    refine TL.q rfl (.g rfl rfl (decide_eq_false c1)) (Ex.ft ft_value_ok rfl) rfl ?_
    refine TL.q rfl .u (Ex.pn rfl (decide_eq_false c1) rfl) rfl ?_
    refine TL.run ft_value_ok [6] rfl rfl ?_
    by_cases c2 : a0 ≥ 4
    · replace h := ifT c2 h
      obtain rfl := Option.some.inj h
      exact TL.nil (X.seq (T.ret (X.done1 [0] Try.results66 (RV.tm (v := .bool true) (congrArg (fun b => some (Value.bool b)) (decide_eq_true c2))) ⟨rfl, rfl, rfl⟩ (by rfl) (.inl rfl))))
    · replace h := ifF c2 h
      obtain rfl := Option.some.inj h
      exact TL.nil (X.seq (T.ret (X.done1 [0] Try.results66 (RV.tm (v := .bool false) (congrArg (fun b => some (Value.bool b)) (decide_eq_false c2))) ⟨rfl, rfl, rfl⟩ (by rfl) (.inl rfl))))
def f_value_risingint_l1 (a0 : List Int) : Nat → Bool → Int → Option (Lp Bool (Bool × Int))
  | 0, _, _ => none
  | m8 + 1, y3, y4 => if y4 < (a0.length : Int) then (if -9223372036854775808 ≤ (y4 - 1) ∧ (y4 - 1) ≤ 9223372036854775807 then (if 0 ≤ (y4 - 1) then ((a0[(y4 - 1).toNat]?).bind fun x15 => if 0 ≤ y4 then ((a0[y4.toNat]?).bind fun x19 => if x15 ≥ x19 then some (Lp.ret false) else (if -9223372036854775808 ≤ (y4 + 1) ∧ (y4 + 1) ≤ 9223372036854775807 then (f_value_risingint_l1 a0 m8 y3 (y4 + 1)) else none)) else none) else none) else none) else (some (Lp.go (y3, y4)))
def f_value_risingint (a0 : List Int) : Option (Bool) := (f_value_risingint_l1 a0 ((((a0.length : Int)) - (1)).toNat + 1) false 1).bind fun e => match e with | .ret r => some r | .go (y24, y25) => some true
set_option maxRecDepth 100000 in
set_option maxHeartbeats 4000000 in
theorem f_value_risingint_spec (a0 : List Int) (A1 : Option Addr) (c2 : Nat) (r : Bool) (h : f_value_risingint a0 = some r) : SpecX Try.prog 160 #[.slice A1 a0.length c2] (RX.of (sliceRd 1 intE) [.slice A1 a0.length c2] a0) (EmpR) (fun v A' N => v = .bool r ∧ A' = EmpR ∧ N = []) := by
  refine enterA Try.func160 rfl Try.ntmps160 rfl ?_
  intro F w hX
  unfold f_value_risingint at h
  refine T.seq (T.region rfl ?_)
  refine TL.run ft_value_ok [0] rfl rfl ?_
  refine TL.nil (X.seq (T.seq (T.seq (T.region rfl ?_))))
  refine TL.run ft_value_ok [0] rfl rfl ?_
  refine TL.nil (X.seq (T.block ?_))
  obtain ⟨E5, hE6, hO7⟩ := Option.bind_eq_some_iff.1 h
  refine T.lp (fun m e Rs => ∃ (y3 : Bool) (y4 : Int), e = [(0, .slice A1 a0.length c2), (2, .bool y3), (3, .int .i64 y4)] ∧ Rs = [EmpR] ∧ f_value_risingint_l1 a0 m y3 y4 = some E5) ((((a0.length : Int)) - (1)).toNat + 1) [0] ⟨false, 1, rfl, rfl, by exact hE6⟩ (by rfl) (by rfl) ?_
  rintro m8 _ _ ⟨y3, y4, rfl, rfl, hl10⟩
  clear hE6 h
  cases m8 with
  | zero =>
    rw [f_value_risingint_l1] at hl10
    cases hl10
  | succ m8 =>
    have h := hl10
    clear hl10
    rw [f_value_risingint_l1] at h
    refine T.seq (T.seq (T.region rfl ?_))
    refine TL.run ft_value_ok [0, 1] rfl rfl ?_
    refine TL.q rfl .u (Ex.lenS rfl Try.runUnderlying102) rfl ?_
    refine TL.run ft_value_ok [3] rfl rfl ?_
    by_cases c12 : y4 < (a0.length : Int)
    · replace h := ifT c12 h
      refine TL.nil (X.seq ?_)
      refine T.yes rfl (decide_eq_true c12) ?_
      refine T.skip (X.seq (T.seq (T.block (T.seq (T.draw (.q 0 (.q 1 (.q 2 (.q 3 (.q 4 (.q 5 (.q 6 (.q 7 (.q 8 (.q 9 .nil)))))))))) [0] rfl mix_value (NoP.seq (NoP.blk (NoP.seq (NoP.seq (NoP.blk (NoP.seq np_post)))))) (by kernel_rfl) ?_)))))
      replace h := guard_some h
      obtain ⟨c13, h⟩ := h
      refine TD.run ft_value_ok [0, 1] rfl rfl ?_
      refine TD.q rfl .u (Ex.sub rfl rfl c13) rfl ?_
      replace h := guard_some h
      obtain ⟨c14, h⟩ := h
      obtain ⟨x15, hx16, h⟩ := Option.bind_eq_some_iff.1 h
      obtain ⟨gz17, oz17, rfl, z17cs, z17cl, z17cc, z17nf, z17r⟩ := RX.elem (by decide) hX hx16
      obtain ⟨z17S, z17r, z17rr⟩ := z17r
      obtain rfl : z17cs = [.int .i64 x15] := z17r
      refine TD.q rfl .u (Ex.ixS (k := (y4 - 1).toNat) rfl rfl ((Int.toNat_of_nonneg c14).symm) Try.runUnderlying102 Try.sizeOf3 (List.getElem?_eq_some_iff.1 hx16).1) rfl ?_
      refine TD.q rfl .u (Ex.o1 0 rfl Try.isAgg3 z17nf z17cc rfl rfl) rfl ?_
      replace h := guard_some h
      obtain ⟨c18, h⟩ := h
      obtain ⟨x19, hx20, h⟩ := Option.bind_eq_some_iff.1 h
      obtain ⟨z21cs, z21cl, z21cc, z21nf, z21r⟩ := RX.elem' (by decide) hX hx20
      obtain ⟨z21S, z21r, z21rr⟩ := z21r
      obtain rfl : z21cs = [.int .i64 x19] := z21r
      refine TD.run ft_value_ok [5, 6] rfl rfl ?_
      refine TD.q rfl .u (Ex.ixS (k := y4.toNat) rfl rfl ((Int.toNat_of_nonneg c18).symm) Try.runUnderlying102 Try.sizeOf3 (List.getElem?_eq_some_iff.1 hx20).1) rfl ?_
      refine TD.q rfl .u (Ex.o1 0 rfl Try.isAgg3 z21nf z21cc rfl rfl) rfl ?_
      refine TD.run ft_value_ok [9] rfl rfl ?_
      by_cases c22 : x15 ≥ x19
      · replace h := ifT c22 h
        refine TD.nil (X.seq ?_)
        refine T.yes rfl (decide_eq_true c22) ?_
        refine T.seq (T.region rfl ?_)
        refine TL.run ft_value_ok [0] rfl rfl ?_
        obtain rfl := Option.some.inj h
        replace h := hO7
        clear hO7
        try dsimp only at h
        obtain rfl := Option.some.inj h
        exact TL.nil (X.seq (T.ret (X.rb (X.rs (X.rs (X.rb (X.rs (X.done1 [0] Try.results160 (RV.tm rfl) ⟨rfl, rfl, rfl⟩ (by rfl) (.inl rfl)))))))))
      · replace h := ifF c22 h
        refine TD.nil (X.seq ?_)
        refine T.no rfl (decide_eq_false c22) ?_
        refine T.skip (X.blk (X.seq (T.region rfl ?_)))
        replace h := guard_some h
        obtain ⟨c23, h⟩ := h
        refine TL.run ft_value_ok [0] rfl rfl ?_
        refine TL.q rfl .u (Ex.add rfl rfl c23) rfl ?_
        refine TL.run ft_value_ok [2] rfl rfl ?_
        exact TL.nil (X.back (m' := m8) [0] (by omega) ⟨y3, (y4 + 1), rfl, rfl, h⟩ (by rfl) (by rfl))
    · replace h := ifF c12 h
      refine TL.nil (X.seq ?_)
      refine T.no rfl (decide_eq_false c12) ?_
      obtain rfl := Option.some.inj h
      replace h := hO7
      clear hO7
      try dsimp only at h
      refine T.exit (X.exs (X.exs (X.ex (X.seq (T.seq (T.region rfl ?_))))))
      refine TL.run ft_value_ok [0] rfl rfl ?_
      obtain rfl := Option.some.inj h
      exact TL.nil (X.seq (T.ret (X.done1 [0] Try.results160 (RV.tm rfl) ⟨rfl, rfl, rfl⟩ (by rfl) (.inl rfl))))
def f_value_parts_l1 : List Int → Bool → Option (Lp Bool Bool)
  | [], y3 => some (Lp.go y3)
  | x9 :: xs, y3 => if x9 < 0 then some (Lp.ret false) else ((gFits x9 4).bind fun x14 => if x14 = true then (f_value_parts_l1 xs y3) else some (Lp.ret false))
def f_value_parts (a0 : List Int) : Option (Bool) := (f_value_parts_l1 a0 false).bind fun e => match e with | .ret r => some r | .go y17 => (if (a0.length : Int) > 0 then ((f_value_risingint a0).bind fun x20 => some x20) else some false)
set_option maxRecDepth 100000 in
set_option maxHeartbeats 4000000 in
theorem f_value_parts_spec (a0 : List Int) (A1 : Option Addr) (c2 : Nat) (r : Bool) (h : f_value_parts a0 = some r) : SpecX Try.prog 148 #[.slice A1 a0.length c2] (RX.of (sliceRd 1 intE) [.slice A1 a0.length c2] a0) (EmpR) (fun v A' N => v = .bool r ∧ A' = EmpR ∧ N = []) := by
  refine enterA Try.func148 rfl Try.ntmps148 rfl ?_
  intro F w hX
  unfold f_value_parts at h
  refine T.seq (T.region rfl ?_)
  refine TL.run ft_value_ok [0] rfl rfl ?_
  refine TL.nil (X.seq (T.seq (T.seq (T.region rfl ?_))))
  refine TL.run ft_value_ok [0] rfl rfl ?_
  refine TL.q rfl .u (Ex.lenS rfl Try.runUnderlying102) rfl ?_
  refine TL.run ft_value_ok [2] rfl rfl ?_
  refine TL.nil (X.seq (T.block ?_))
  obtain ⟨E5, hE6, hO7⟩ := Option.bind_eq_some_iff.1 h
  have hk11len := RX.len_le hX
  refine T.lp (fun m e Rs => ∃ (y3 : Bool) (k4 : Nat), k4 + m = a0.length ∧ e = [(0, .slice A1 a0.length c2), (2, .bool y3), (5, .slice A1 a0.length c2), (6, .int .i64 (a0.length : Int)), (7, .int .i64 (k4 : Int))] ∧ Rs = [EmpR] ∧ f_value_parts_l1 (a0.drop k4) y3 = some E5) (a0.length) [0] ⟨false, 0, by simp, rfl, rfl, by rw [List.drop_zero]; exact hE6⟩ (by rfl) (by rfl) ?_
  rintro m8 _ _ ⟨y3, k4, hk11, rfl, rfl, hl10⟩
  clear hE6 h
  cases m8 with
  | zero =>
    have h := hl10
    clear hl10
    rw [List.drop_of_length_le (by omega), f_value_parts_l1] at h
    have hk11ge : ¬ ((k4 : Int) < (a0.length : Int)) := by omega
    refine T.seq (T.region rfl ?_)
    refine TL.run ft_value_ok [0] rfl rfl ?_
    refine TL.nil (X.seq (T.seq ?_))
    refine T.no rfl (decide_eq_false hk11ge) ?_
    obtain rfl := Option.some.inj h
    replace h := hO7
    clear hO7
    try dsimp only at h
    refine T.exit (X.exs (X.exs (X.ex (X.seq (T.seq (T.region rfl ?_))))))
    refine TL.run ft_value_ok [0] rfl rfl ?_
    refine TL.q rfl .u (Ex.lenS rfl Try.runUnderlying102) rfl ?_
    by_cases c22 : (a0.length : Int) > 0
    · replace h := ifT c22 h
      refine TL.run ft_value_ok [2, 3] rfl rfl ?_
      refine TL.q rfl (.g rfl rfl (decide_eq_true c22)) (Ex.ft ft_value_ok rfl) rfl ?_
      obtain ⟨x23, hx24, h⟩ := Option.bind_eq_some_iff.1 h
      refine TL.ce rfl (.g rfl rfl (decide_eq_true c22)) (.fn Try.call160 rfl) (f_value_risingint_spec a0 _ _ _ hx24) (fun _ hs => (SrcE.old hs hX)) rfl ?_
      refine TL.q rfl .u (Ex.py rfl (decide_eq_true c22) rfl) rfl ?_
      refine TL.run ft_value_ok [7] rfl rfl ?_
      obtain rfl := Option.some.inj h
      exact TL.nil (X.seq (T.ret (X.done1 [0] Try.results148 (RV.tm rfl) ⟨rfl, rfl, rfl⟩ (by rfl) (.inl rfl))))
    · replace h := ifF c22 h
      refine TL.run ft_value_ok [2, 3] rfl rfl ?_
      refine TL.no rfl (.gn rfl rfl (decide_eq_false c22)) rfl ?_
      refine TL.no rfl (.gn rfl rfl (decide_eq_false c22)) rfl ?_
      refine TL.q rfl .u (Ex.pn rfl (decide_eq_false c22) rfl) rfl ?_
      refine TL.run ft_value_ok [7] rfl rfl ?_
      obtain rfl := Option.some.inj h
      exact TL.nil (X.seq (T.ret (X.done1 [0] Try.results148 (RV.tm rfl) ⟨rfl, rfl, rfl⟩ (by rfl) (.inl rfl))))
  | succ m8 =>
    have h := hl10
    clear hl10
    obtain ⟨x9, hxx9⟩ : ∃ x, a0[k4]? = some x := ⟨_, List.getElem?_eq_getElem (by omega)⟩
    rw [drop_cons hxx9, f_value_parts_l1] at h
    have hk11lt : (k4 : Int) < (a0.length : Int) := by omega
    refine T.seq (T.region rfl ?_)
    refine TL.run ft_value_ok [0] rfl rfl ?_
    refine TL.nil (X.seq (T.seq ?_))
    refine T.yes rfl (decide_eq_true hk11lt) ?_
    obtain ⟨gz12, oz12, rfl, z12cs, z12cl, z12cc, z12nf, z12r⟩ := RX.elem (by decide) hX hxx9
    obtain ⟨z12S, z12r, z12rr⟩ := z12r
    obtain rfl : z12cs = [.int .i64 x9] := z12r
    refine T.skip (X.seq (T.seq (T.block (T.seq (T.region rfl ?_)))))
    refine TL.q rfl .u (Ex.ixS (k := k4) rfl rfl rfl Try.runUnderlying102 Try.sizeOf3 (List.getElem?_eq_some_iff.1 hxx9).1) rfl ?_
    refine TL.q rfl .u (Ex.o1 0 rfl Try.isAgg3 z12nf z12cc rfl rfl) rfl ?_
    refine TL.run ft_value_ok [2] rfl rfl ?_
    refine TL.nil (X.seq (T.seq (T.region rfl ?_)))
    by_cases c13 : x9 < 0
    · replace h := ifT c13 h
      refine TL.run ft_value_ok [0, 1, 2] rfl rfl ?_
      refine TL.no rfl (.gn rfl rfl (decide_eq_true c13)) rfl ?_
      refine TL.no rfl (.gn rfl rfl (decide_eq_true c13)) rfl ?_
      refine TL.no rfl (.gn rfl rfl (decide_eq_true c13)) rfl ?_
      refine TL.q rfl .u (Ex.py rfl (decide_eq_true c13) rfl) rfl ?_
      refine TL.nil (X.seq ?_)
      refine T.yes rfl rfl ?_
      refine T.seq (T.region rfl ?_)
      refine TL.run ft_value_ok [0] rfl rfl ?_
      obtain rfl := Option.some.inj h
      replace h := hO7
      clear hO7
      try dsimp only at h
      obtain rfl := Option.some.inj h
      exact TL.nil (X.seq (T.ret (X.rb (X.rs (X.rs (X.rb (X.rs (X.done1 [0] Try.results148 (RV.tm rfl) ⟨rfl, rfl, rfl⟩ (by rfl) (.inl rfl)))))))))
    · replace h := ifF c13 h
      refine TL.run ft_value_ok [0, 1, 2] rfl rfl ?_
      refine TL.q rfl (.g rfl rfl (decide_eq_false c13)) (Ex.ft ft_value_ok rfl) rfl ?_
      obtain ⟨x14, hx15, h⟩ := Option.bind_eq_some_iff.1 h
      refine TL.ce rfl (.g rfl rfl (decide_eq_false c13)) (.fn Try.call84 rfl) (SpecX.pure (fun w => gFits_spec x9 4 _ hx15 w)) (fun _ _ => RX.reads_triv _ _) rfl ?_
      refine TL.q rfl (.g rfl rfl (decide_eq_false c13)) (Ex.ft ft_value_ok rfl) rfl ?_
      refine TL.q rfl .u (Ex.pn rfl (decide_eq_false c13) rfl) rfl ?_
      by_cases c16 : x14 = true
      · replace h := ifT c16 h
        refine TL.nil (X.seq ?_)
        refine T.no rfl (bn_f c16) ?_
        refine T.skip (X.blk (X.seq (T.region rfl ?_)))
        refine TL.q rfl .u (Ex.add rfl rfl (by omega)) rfl ?_
        refine TL.run ft_value_ok [1] rfl rfl ?_
        exact TL.nil (X.back (m' := m8) [0] (by omega) ⟨y3, k4 + 1, by omega, rfl, rfl, h⟩ (by rfl) (by rfl))
      · replace h := ifF c16 h
        replace c16 := eq_false_of_ne_true c16
        refine TL.nil (X.seq ?_)
        refine T.yes rfl (bn_t c16) ?_
        refine T.seq (T.region rfl ?_)
        refine TL.run ft_value_ok [0] rfl rfl ?_
        obtain rfl := Option.some.inj h
        replace h := hO7
        clear hO7
        try dsimp only at h
        obtain rfl := Option.some.inj h
        exact TL.nil (X.seq (T.ret (X.rb (X.rs (X.rs (X.rb (X.rs (X.done1 [0] Try.results148 (RV.tm rfl) ⟨rfl, rfl, rfl⟩ (by rfl) (.inl rfl)))))))))
def f_value_risingstring_l1 (a0 : List (List UInt8)) : Nat → Bool → Int → Option (Lp Bool (Bool × Int))
  | 0, _, _ => none
  | m8 + 1, y3, y4 => if y4 < (a0.length : Int) then (if -9223372036854775808 ≤ (y4 - 1) ∧ (y4 - 1) ≤ 9223372036854775807 then (if 0 ≤ (y4 - 1) then ((a0[(y4 - 1).toNat]?).bind fun x15 => if 0 ≤ y4 then ((a0[y4.toNat]?).bind fun x19 => if (Op.bytesLess x15 x19) = true then (if -9223372036854775808 ≤ (y4 + 1) ∧ (y4 + 1) ≤ 9223372036854775807 then (f_value_risingstring_l1 a0 m8 y3 (y4 + 1)) else none) else some (Lp.ret false)) else none) else none) else none) else (some (Lp.go (y3, y4)))
def f_value_risingstring (a0 : List (List UInt8)) : Option (Bool) := (f_value_risingstring_l1 a0 ((((a0.length : Int)) - (1)).toNat + 1) false 1).bind fun e => match e with | .ret r => some r | .go (y24, y25) => some true
set_option maxRecDepth 100000 in
set_option maxHeartbeats 4000000 in
theorem f_value_risingstring_spec (a0 : List (List UInt8)) (A1 : Option Addr) (c2 : Nat) (r : Bool) (h : f_value_risingstring a0 = some r) : SpecX Try.prog 149 #[.slice A1 a0.length c2] (RX.of (sliceRd 1 strE) [.slice A1 a0.length c2] a0) (EmpR) (fun v A' N => v = .bool r ∧ A' = EmpR ∧ N = []) := by
  refine enterA Try.func149 rfl Try.ntmps149 rfl ?_
  intro F w hX
  unfold f_value_risingstring at h
  refine T.seq (T.region rfl ?_)
  refine TL.run ft_value_ok [0] rfl rfl ?_
  refine TL.nil (X.seq (T.seq (T.seq (T.region rfl ?_))))
  refine TL.run ft_value_ok [0] rfl rfl ?_
  refine TL.nil (X.seq (T.block ?_))
  obtain ⟨E5, hE6, hO7⟩ := Option.bind_eq_some_iff.1 h
  refine T.lp (fun m e Rs => ∃ (y3 : Bool) (y4 : Int), e = [(0, .slice A1 a0.length c2), (2, .bool y3), (3, .int .i64 y4)] ∧ Rs = [EmpR] ∧ f_value_risingstring_l1 a0 m y3 y4 = some E5) ((((a0.length : Int)) - (1)).toNat + 1) [0] ⟨false, 1, rfl, rfl, by exact hE6⟩ (by rfl) (by rfl) ?_
  rintro m8 _ _ ⟨y3, y4, rfl, rfl, hl10⟩
  clear hE6 h
  cases m8 with
  | zero =>
    rw [f_value_risingstring_l1] at hl10
    cases hl10
  | succ m8 =>
    have h := hl10
    clear hl10
    rw [f_value_risingstring_l1] at h
    refine T.seq (T.seq (T.region rfl ?_))
    refine TL.run ft_value_ok [0, 1] rfl rfl ?_
    refine TL.q rfl .u (Ex.lenS rfl Try.runUnderlying156) rfl ?_
    refine TL.run ft_value_ok [3] rfl rfl ?_
    by_cases c12 : y4 < (a0.length : Int)
    · replace h := ifT c12 h
      refine TL.nil (X.seq ?_)
      refine T.yes rfl (decide_eq_true c12) ?_
      refine T.skip (X.seq (T.seq (T.block (T.seq (T.draw (.q 0 (.q 1 (.q 2 (.q 3 (.q 4 (.q 5 (.q 6 (.q 7 (.q 8 (.q 9 .nil)))))))))) [0] rfl mix_value (NoP.seq (NoP.blk (NoP.seq (NoP.seq (NoP.blk (NoP.seq np_post)))))) (by kernel_rfl) ?_)))))
      replace h := guard_some h
      obtain ⟨c13, h⟩ := h
      refine TD.run ft_value_ok [0, 1] rfl rfl ?_
      refine TD.q rfl .u (Ex.sub rfl rfl c13) rfl ?_
      replace h := guard_some h
      obtain ⟨c14, h⟩ := h
      obtain ⟨x15, hx16, h⟩ := Option.bind_eq_some_iff.1 h
      obtain ⟨gz17, oz17, rfl, z17cs, z17cl, z17cc, z17nf, z17r⟩ := RX.elem (by decide) hX hx16
      obtain ⟨z17S, z17r, z17rr⟩ := z17r
      obtain rfl : z17cs = [.string (bsOf x15)] := z17r
      refine TD.q rfl .u (Ex.ixS (k := (y4 - 1).toNat) rfl rfl ((Int.toNat_of_nonneg c14).symm) Try.runUnderlying156 Try.sizeOf9 (List.getElem?_eq_some_iff.1 hx16).1) rfl ?_
      refine TD.q rfl .u (Ex.o1 0 rfl Try.isAgg9 z17nf z17cc rfl rfl) rfl ?_
      replace h := guard_some h
      obtain ⟨c18, h⟩ := h
      obtain ⟨x19, hx20, h⟩ := Option.bind_eq_some_iff.1 h
      obtain ⟨z21cs, z21cl, z21cc, z21nf, z21r⟩ := RX.elem' (by decide) hX hx20
      obtain ⟨z21S, z21r, z21rr⟩ := z21r
      obtain rfl : z21cs = [.string (bsOf x19)] := z21r
      refine TD.run ft_value_ok [5, 6] rfl rfl ?_
      refine TD.q rfl .u (Ex.ixS (k := y4.toNat) rfl rfl ((Int.toNat_of_nonneg c18).symm) Try.runUnderlying156 Try.sizeOf9 (List.getElem?_eq_some_iff.1 hx20).1) rfl ?_
      refine TD.q rfl .u (Ex.o1 0 rfl Try.isAgg9 z21nf z21cc rfl rfl) rfl ?_
      refine TD.q rfl .u (Ex.sGe rfl rfl) rfl ?_
      by_cases c22 : (Op.bytesLess x15 x19) = true
      · replace h := ifT c22 h
        refine TD.nil (X.seq ?_)
        refine T.no rfl (bn_f c22) ?_
        refine T.skip (X.blk (X.seq (T.region rfl ?_)))
        replace h := guard_some h
        obtain ⟨c23, h⟩ := h
        refine TL.run ft_value_ok [0] rfl rfl ?_
        refine TL.q rfl .u (Ex.add rfl rfl c23) rfl ?_
        refine TL.run ft_value_ok [2] rfl rfl ?_
        exact TL.nil (X.back (m' := m8) [0] (by omega) ⟨y3, (y4 + 1), rfl, rfl, h⟩ (by rfl) (by rfl))
      · replace h := ifF c22 h
        replace c22 := eq_false_of_ne_true c22
        refine TD.nil (X.seq ?_)
        refine T.yes rfl (bn_t c22) ?_
        refine T.seq (T.region rfl ?_)
        refine TL.run ft_value_ok [0] rfl rfl ?_
        obtain rfl := Option.some.inj h
        replace h := hO7
        clear hO7
        try dsimp only at h
        obtain rfl := Option.some.inj h
        exact TL.nil (X.seq (T.ret (X.rb (X.rs (X.rs (X.rb (X.rs (X.done1 [0] Try.results149 (RV.tm rfl) ⟨rfl, rfl, rfl⟩ (by rfl) (.inl rfl)))))))))
    · replace h := ifF c12 h
      refine TL.nil (X.seq ?_)
      refine T.no rfl (decide_eq_false c12) ?_
      obtain rfl := Option.some.inj h
      replace h := hO7
      clear hO7
      try dsimp only at h
      refine T.exit (X.exs (X.exs (X.ex (X.seq (T.seq (T.region rfl ?_))))))
      refine TL.run ft_value_ok [0] rfl rfl ?_
      obtain rfl := Option.some.inj h
      exact TL.nil (X.seq (T.ret (X.done1 [0] Try.results149 (RV.tm rfl) ⟨rfl, rfl, rfl⟩ (by rfl) (.inl rfl))))
def f_value_topics_l1 : List Top → Bool → List (List UInt8) → Option (Lp Bool (Bool × List (List UInt8)))
  | [], y3, y4 => some (Lp.go (y3, y4))
  | x12 :: xs, y3, y4 => if x12.fName = [] then some (Lp.ret false) else (if (x12.fName.length : Int) > 32767 then some (Lp.ret false) else ((f_value_parts x12.fParts).bind fun x22 => if x22 = true then (if (y4.length + 1) * 16 ≤ 140737488355328 then (f_value_topics_l1 xs y3 (y4 ++ [x12.fName])) else none) else some (Lp.ret false)))
def f_value_topics (a0 : List Top) : Option (Bool) := (f_value_topics_l1 a0 false []).bind fun e => match e with | .ret r => some r | .go (y29, y30) => ((f_value_risingstring y30).bind fun x34 => some x34)
set_option maxRecDepth 100000 in
set_option maxHeartbeats 4000000 in
theorem f_value_topics_spec (a0 : List Top) (A1 : Option Addr) (c2 : Nat) (r : Bool) (h : f_value_topics a0 = some r) : SpecX Try.prog 119 #[.slice A1 a0.length c2] (RX.of (sliceRd 2 Top_rd) [.slice A1 a0.length c2] a0) (EmpR) (fun v A' N => v = .bool r ∧ A' = EmpR ∧ N = []) := by
  refine enterA Try.func119 rfl Try.ntmps119 rfl ?_
  intro F w hX
  unfold f_value_topics at h
  refine T.seq (T.region rfl ?_)
  refine TL.run ft_value_ok [0] rfl rfl ?_
  refine TL.nil (X.seq (T.seq (T.region rfl ?_)))
  refine TL.run ft_value_ok [0] rfl rfl ?_
  refine TL.nil (X.seq (T.seq (T.seq (T.region rfl ?_))))
  refine TL.run ft_value_ok [0] rfl rfl ?_
  refine TL.q rfl .u (Ex.lenS rfl Try.runUnderlying62) rfl ?_
  refine TL.run ft_value_ok [2] rfl rfl ?_
  refine TL.nil (X.seq (T.block ?_))
  refine T.nilrow 9 1 strE ?_
  obtain ⟨E8, hE9, hO10⟩ := Option.bind_eq_some_iff.1 h
  have hk14len := RX.len_le hX
  refine T.lp (fun m e Rs => ∃ (y3 : Bool) (y4 : List (List UInt8)) (A5 : Option Addr) (c6 : Nat) (k7 : Nat), k7 + m = a0.length ∧ e = [(2, .bool y3), (3, .slice A5 y4.length c6), (6, .slice A1 a0.length c2), (7, .int .i64 (a0.length : Int)), (8, .int .i64 (k7 : Int))] ∧ Rs = [OwnR 9 1 strE (.slice A5 y4.length c6) y4, EmpR] ∧ f_value_topics_l1 (a0.drop k7) y3 y4 = some E8) (a0.length) [0, 0] ⟨false, [], none, 0, 0, by simp, rfl, rfl, by rw [List.drop_zero]; exact hE9⟩ (by rfl) (by rfl) ?_
  rintro m11 _ _ ⟨y3, y4, A5, c6, k7, hk14, rfl, rfl, hl13⟩
  clear hE9 h
  cases m11 with
  | zero =>
    have h := hl13
    clear hl13
    rw [List.drop_of_length_le (by omega), f_value_topics_l1] at h
    have hk14ge : ¬ ((k7 : Int) < (a0.length : Int)) := by omega
    refine T.seq (T.region rfl ?_)
    refine TL.run ft_value_ok [0] rfl rfl ?_
    refine TL.nil (X.seq (T.seq ?_))
    refine T.no rfl (decide_eq_false hk14ge) ?_
    obtain rfl := Option.some.inj h
    replace h := hO10
    clear hO10
    try dsimp only at h
    refine T.exit (X.exs (X.exs (X.ex (X.seq (T.seq (T.region rfl ?_))))))
    obtain ⟨x36, hx37, h⟩ := Option.bind_eq_some_iff.1 h
    refine TL.run ft_value_ok [0] rfl rfl ?_
    refine TL.ce rfl .u (.fn Try.call149 rfl) (f_value_risingstring_spec y4 _ _ _ hx37) (fun _ hs => (SrcE.res 0 hs rfl (fun w G h => own_reads (by decide) w G h))) rfl ?_
    refine TL.run ft_value_ok [2] rfl rfl ?_
    obtain rfl := Option.some.inj h
    exact TL.nil (X.seq (T.ret (X.done1 [1] Try.results119 (RV.tm rfl) ⟨rfl, rfl, rfl⟩ (by rfl) (.inl rfl))))
  | succ m11 =>
    have h := hl13
    clear hl13
    obtain ⟨x12, hxx12⟩ : ∃ x, a0[k7]? = some x := ⟨_, List.getElem?_eq_getElem (by omega)⟩
    rw [drop_cons hxx12, f_value_topics_l1] at h
    have hk14lt : (k7 : Int) < (a0.length : Int) := by omega
    refine T.seq (T.region rfl ?_)
    refine TL.run ft_value_ok [0] rfl rfl ?_
    refine TL.nil (X.seq (T.seq ?_))
    refine T.yes rfl (decide_eq_true hk14lt) ?_
    obtain ⟨gz15, oz15, rfl, z15cs, z15cl, z15cc, z15nf, z15r⟩ := RX.elem (by decide) hX hxx12
    obtain ⟨z15S, z15r, z15rr⟩ := z15r
    obtain ⟨A16, c17, rfl, z15s0⟩ := z15r
    have hX18 : (RX.of (sliceRd 1 intE) [.slice A16 x12.fParts.length c17] x12.fParts).reads w F := ⟨z15S, z15s0, z15rr⟩
    refine T.skip (X.seq (T.seq (T.block (T.seq (T.region rfl ?_)))))
    refine TL.q rfl .u (Ex.ixS (k := k7) rfl rfl rfl Try.runUnderlying62 Try.sizeOf104 (List.getElem?_eq_some_iff.1 hxx12).1) rfl ?_
    refine TL.q rfl .u (Ex.oS (us := [.string (bsOf x12.fName), .slice A16 x12.fParts.length c17]) 0 rfl Try.isAgg104 Try.sizeOf104 z15nf z15cc rfl rfl rfl) rfl ?_
    refine TL.alloc rfl .u Try.zeroValue104 rfl (fun b19 => ?_)
    refine TL.st0 (cs' := #[.string (bsOf x12.fName), .slice A16 x12.fParts.length c17]) rfl .u rfl rfl Try.sizeOf104 rfl rfl rfl rfl ?_
    refine TL.nil (X.seq (T.seq (T.seq (T.region rfl ?_))))
    refine TL.run ft_value_ok [0] rfl rfl ?_
    refine TL.q rfl .u (Ex.b1 0 rfl Try.isAgg9 rfl rfl) rfl ?_
    refine TL.q rfl .u (Ex.sEq rfl (m := []) rfl) rfl ?_
    by_cases c20 : x12.fName = []
    · replace h := ifT c20 h
      refine TL.run ft_value_ok [3] rfl rfl ?_
      refine TL.no rfl (.gn rfl rfl (decide_eq_true c20)) rfl ?_
      refine TL.no rfl (.gn rfl rfl (decide_eq_true c20)) rfl ?_
      refine TL.no rfl (.gn rfl rfl (decide_eq_true c20)) rfl ?_
      refine TL.no rfl (.gn rfl rfl (decide_eq_true c20)) rfl ?_
      refine TL.q rfl .u (Ex.py rfl (decide_eq_true c20) rfl) rfl ?_
      refine TL.run ft_value_ok [9] rfl rfl ?_
      refine TL.no rfl (.gn rfl rfl rfl) rfl ?_
      refine TL.no rfl (.gn rfl rfl rfl) rfl ?_
      refine TL.no rfl (.gn rfl rfl rfl) rfl ?_
      refine TL.no rfl (.gn rfl rfl rfl) rfl ?_
      refine TL.q rfl .u (Ex.py rfl rfl rfl) rfl ?_
      refine TL.nil (X.seq ?_)
      refine T.yes rfl rfl ?_
      refine T.seq (T.region rfl ?_)
      refine TL.run ft_value_ok [0] rfl rfl ?_
      obtain rfl := Option.some.inj h
      replace h := hO10
      clear hO10
      try dsimp only at h
      obtain rfl := Option.some.inj h
      exact TL.nil (X.seq (T.ret (X.rs (X.rb (X.rs (X.rs (X.rb (X.rs (X.done1 [2] Try.results119 (RV.tm rfl) ⟨rfl, rfl, rfl⟩ (by rfl) (.inl rfl))))))))))
    · replace h := ifF c20 h
      refine TL.run ft_value_ok [3] rfl rfl ?_
      refine TL.q rfl (.g rfl rfl (decide_eq_false c20)) (Ex.ft ft_value_ok rfl) rfl ?_
      refine TL.q rfl (.g rfl rfl (decide_eq_false c20)) (Ex.b1 0 rfl Try.isAgg9 rfl rfl) rfl ?_
      refine TL.q rfl (.g rfl rfl (decide_eq_false c20)) (Ex.lenB rfl Try.runUnderlying9) rfl ?_
      refine TL.q rfl (.g rfl rfl (decide_eq_false c20)) (Ex.ft ft_value_ok rfl) rfl ?_
      refine TL.q rfl .u (Ex.pn rfl (decide_eq_false c20) rfl) rfl ?_
      by_cases c21 : (x12.fName.length : Int) > 32767
      · replace h := ifT c21 h
        refine TL.run ft_value_ok [9] rfl rfl ?_
        refine TL.no rfl (.gn rfl rfl (decide_eq_true c21)) rfl ?_
        refine TL.no rfl (.gn rfl rfl (decide_eq_true c21)) rfl ?_
        refine TL.no rfl (.gn rfl rfl (decide_eq_true c21)) rfl ?_
        refine TL.no rfl (.gn rfl rfl (decide_eq_true c21)) rfl ?_
        refine TL.q rfl .u (Ex.py rfl (decide_eq_true c21) rfl) rfl ?_
        refine TL.nil (X.seq ?_)
        refine T.yes rfl rfl ?_
        refine T.seq (T.region rfl ?_)
        refine TL.run ft_value_ok [0] rfl rfl ?_
        obtain rfl := Option.some.inj h
        replace h := hO10
        clear hO10
        try dsimp only at h
        obtain rfl := Option.some.inj h
        exact TL.nil (X.seq (T.ret (X.rs (X.rb (X.rs (X.rs (X.rb (X.rs (X.done1 [2] Try.results119 (RV.tm rfl) ⟨rfl, rfl, rfl⟩ (by rfl) (.inl rfl))))))))))
      · replace h := ifF c21 h
        refine TL.run ft_value_ok [9] rfl rfl ?_
        refine TL.q rfl (.g rfl rfl (decide_eq_false c21)) (Ex.ft ft_value_ok rfl) rfl ?_
        refine TL.q rfl (.g rfl rfl (decide_eq_false c21)) (Ex.b1 0 rfl Try.isAgg102 rfl rfl) rfl ?_
        obtain ⟨x22, hx23, h⟩ := Option.bind_eq_some_iff.1 h
        refine TL.ce rfl (.g rfl rfl (decide_eq_false c21)) (.fn Try.call148 rfl) (f_value_parts_spec x12.fParts _ _ _ hx23) (fun _ hs => (SrcE.old hs hX18)) rfl ?_
        refine TL.q rfl (.g rfl rfl (decide_eq_false c21)) (Ex.ft ft_value_ok rfl) rfl ?_
        refine TL.q rfl .u (Ex.pn rfl (decide_eq_false c21) rfl) rfl ?_
        by_cases c24 : x22 = true
        · replace h := ifT c24 h
          refine TL.nil (X.seq ?_)
          refine T.no rfl (bn_f c24) ?_
          refine T.skip (X.seq (T.region rfl ?_))
          refine TL.run ft_value_ok [0, 1] rfl rfl ?_
          refine TL.q rfl .u (Ex.b1 0 rfl Try.isAgg9 rfl rfl) rfl ?_
          refine TL.lit (cells := #[.string (bsOf x12.fName)]) rfl .u sok_value_156_1 rfl (by rfl) rfl (fun b25 => ?_)
          replace h := guard_some h
          obtain ⟨c26, h⟩ := h
          refine TL.app1 1 rfl .u (us := [.string (bsOf x12.fName)]) (u := x12.fName) (l := y4) (E := strE) Try.underlying156 inf_value_9 rfl (by decide) rfl rfl rfl rfl rfl rfl (fun _ _ => rfl) (by have hq := c26; omega) (by have hq := c26; omega) rfl (fun A27 c28 => ?_)
          refine TL.sel [0, 0, 0] rfl ?_
          refine TL.run ft_value_ok [5] rfl rfl ?_
          refine TL.nil (X.blk (X.seq (T.region rfl ?_)))
          refine TL.q rfl .u (Ex.add rfl rfl (by omega)) rfl ?_
          refine TL.run ft_value_ok [1] rfl rfl ?_
          exact TL.nil (X.back (m' := m11) [1, 1] (by omega) ⟨y3, (y4 ++ [x12.fName]), A27, c28, k7 + 1, by omega, rfl, rfl, h⟩ (by rfl) (by rfl))
        · replace h := ifF c24 h
          replace c24 := eq_false_of_ne_true c24
          refine TL.nil (X.seq ?_)
          refine T.yes rfl (bn_t c24) ?_
          refine T.seq (T.region rfl ?_)
          refine TL.run ft_value_ok [0] rfl rfl ?_
          obtain rfl := Option.some.inj h
          replace h := hO10
          clear hO10
          try dsimp only at h
          obtain rfl := Option.some.inj h
          exact TL.nil (X.seq (T.ret (X.rs (X.rb (X.rs (X.rs (X.rb (X.rs (X.done1 [2] Try.results119 (RV.tm rfl) ⟨rfl, rfl, rfl⟩ (by rfl) (.inl rfl))))))))))
def f_value_Check (a0 : Val) : Option (Int) := if a0.fProducer < 0 then some 11 else (if a0.fEpoch < 0 then some 11 else ((gFits a0.fEpoch 2).bind fun x6 => if x6 = true then (if a0.fTimeout < 0 then some 11 else ((gFits a0.fTimeout 4).bind fun x10 => if x10 = true then (if a0.fUpdated < 0 then some 11 else (if a0.fStarted < (-1) then some 11 else (if a0.fState < 0 then some 12 else (if a0.fState ≥ 7 then some 12 else ((f_value_Idle a0.fState).bind fun x17 => if x17 = true then (if (a0.fTopics.length : Int) = 0 then (if a0.fState = 0 then (if a0.fStarted = (-1) then ((f_value_topics a0.fTopics).bind fun x23 => if x23 = true then some 0 else some 13) else some 10) else (if a0.fStarted = (-1) then some 10 else ((f_value_topics a0.fTopics).bind fun x27 => if x27 = true then some 0 else some 13))) else some 10) else (if (a0.fTopics.length : Int) = 0 then some 10 else (if a0.fState = 0 then (if a0.fStarted = (-1) then ((f_value_topics a0.fTopics).bind fun x33 => if x33 = true then some 0 else some 13) else some 10) else (if a0.fStarted = (-1) then some 10 else ((f_value_topics a0.fTopics).bind fun x37 => if x37 = true then some 0 else some 13))))))))) else some 11)) else some 11))
set_option maxRecDepth 100000 in
set_option maxHeartbeats 4000000 in
theorem f_value_Check_spec (a0 : Val) (A1 : Option Addr) (c2 : Nat) (r : Int) (h : f_value_Check a0 = some r) : SpecX Try.prog 63 #[.agg #[.int .i64 a0.fProducer, .int .i64 a0.fEpoch, .int .i64 a0.fTimeout, .int .i64 a0.fState, .slice A1 a0.fTopics.length c2, .int .i64 a0.fUpdated, .int .i64 a0.fStarted]] (RX.of (sliceRd 2 Top_rd) [.slice A1 a0.fTopics.length c2] a0.fTopics) (EmpR) (fun v A' N => v = .int .i64 r ∧ A' = EmpR ∧ N = []) := by
  refine enterA Try.func63 rfl Try.ntmps63 rfl ?_
  intro F w hX
  unfold f_value_Check at h
  refine T.seq (T.region rfl ?_)
  refine TL.box rfl .u rfl rfl (fun b3 => ?_)
  refine TL.run ft_value_ok [1] rfl rfl ?_
  refine TL.nil (X.seq (T.seq (T.block (T.seq (T.region rfl ?_)))))
  refine TL.run ft_value_ok [0] rfl rfl ?_
  refine TL.q rfl .u (Ex.b1 0 rfl Try.isAgg3 rfl rfl) rfl ?_
  by_cases c4 : a0.fProducer < 0
  · replace h := ifT c4 h
    refine TL.run ft_value_ok [2, 3] rfl rfl ?_
    refine TL.no rfl (.gn rfl rfl (decide_eq_true c4)) rfl ?_
    refine TL.no rfl (.gn rfl rfl (decide_eq_true c4)) rfl ?_
    refine TL.no rfl (.gn rfl rfl (decide_eq_true c4)) rfl ?_
    refine TL.q rfl .u (Ex.py rfl (decide_eq_true c4) rfl) rfl ?_
    refine TL.run ft_value_ok [8] rfl rfl ?_
    refine TL.no rfl (.gn rfl rfl rfl) rfl ?_
    refine TL.no rfl (.gn rfl rfl rfl) rfl ?_
    refine TL.no rfl (.gn rfl rfl rfl) rfl ?_
    refine TL.no rfl (.gn rfl rfl rfl) rfl ?_
    refine TL.q rfl .u (Ex.py rfl rfl rfl) rfl ?_
    refine TL.run ft_value_ok [14] rfl rfl ?_
    refine TL.no rfl (.gn rfl rfl rfl) rfl ?_
    refine TL.no rfl (.gn rfl rfl rfl) rfl ?_
    refine TL.no rfl (.gn rfl rfl rfl) rfl ?_
    refine TL.q rfl .u (Ex.py rfl rfl rfl) rfl ?_
    refine TL.run ft_value_ok [19] rfl rfl ?_
    refine TL.no rfl (.gn rfl rfl rfl) rfl ?_
    refine TL.no rfl (.gn rfl rfl rfl) rfl ?_
    refine TL.no rfl (.gn rfl rfl rfl) rfl ?_
    refine TL.no rfl (.gn rfl rfl rfl) rfl ?_
    refine TL.q rfl .u (Ex.py rfl rfl rfl) rfl ?_
    refine TL.run ft_value_ok [25] rfl rfl ?_
    refine TL.no rfl (.gn rfl rfl rfl) rfl ?_
    refine TL.no rfl (.gn rfl rfl rfl) rfl ?_
    refine TL.no rfl (.gn rfl rfl rfl) rfl ?_
    refine TL.q rfl .u (Ex.py rfl rfl rfl) rfl ?_
    refine TL.run ft_value_ok [30] rfl rfl ?_
    refine TL.no rfl (.gn rfl rfl rfl) rfl ?_
    refine TL.no rfl (.gn rfl rfl rfl) rfl ?_
    refine TL.no rfl (.gn rfl rfl rfl) rfl ?_
    refine TL.q rfl .u (Ex.py rfl rfl rfl) rfl ?_
    refine TL.run ft_value_ok [35] rfl rfl ?_
    refine TL.nil (X.seq ?_)
    refine T.yes rfl rfl ?_
    refine T.seq (T.region rfl ?_)
    refine TL.run ft_value_ok [0] rfl rfl ?_
    obtain rfl := Option.some.inj h
    exact TL.nil (X.seq (T.ret (X.rb (X.rs (X.done1 [1] Try.results63 (RV.tm rfl) ⟨rfl, rfl, rfl⟩ (by rfl) (.inl rfl))))))
  · replace h := ifF c4 h
    refine TL.run ft_value_ok [2, 3] rfl rfl ?_
    refine TL.q rfl (.g rfl rfl (decide_eq_false c4)) (Ex.ft ft_value_ok rfl) rfl ?_
    refine TL.q rfl (.g rfl rfl (decide_eq_false c4)) (Ex.b1 0 rfl Try.isAgg3 rfl rfl) rfl ?_
    refine TL.q rfl (.g rfl rfl (decide_eq_false c4)) (Ex.ft ft_value_ok rfl) rfl ?_
    refine TL.q rfl .u (Ex.pn rfl (decide_eq_false c4) rfl) rfl ?_
    by_cases c5 : a0.fEpoch < 0
    · replace h := ifT c5 h
      refine TL.run ft_value_ok [8] rfl rfl ?_
      refine TL.no rfl (.gn rfl rfl (decide_eq_true c5)) rfl ?_
      refine TL.no rfl (.gn rfl rfl (decide_eq_true c5)) rfl ?_
      refine TL.no rfl (.gn rfl rfl (decide_eq_true c5)) rfl ?_
      refine TL.no rfl (.gn rfl rfl (decide_eq_true c5)) rfl ?_
      refine TL.q rfl .u (Ex.py rfl (decide_eq_true c5) rfl) rfl ?_
      refine TL.run ft_value_ok [14] rfl rfl ?_
      refine TL.no rfl (.gn rfl rfl rfl) rfl ?_
      refine TL.no rfl (.gn rfl rfl rfl) rfl ?_
      refine TL.no rfl (.gn rfl rfl rfl) rfl ?_
      refine TL.q rfl .u (Ex.py rfl rfl rfl) rfl ?_
      refine TL.run ft_value_ok [19] rfl rfl ?_
      refine TL.no rfl (.gn rfl rfl rfl) rfl ?_
      refine TL.no rfl (.gn rfl rfl rfl) rfl ?_
      refine TL.no rfl (.gn rfl rfl rfl) rfl ?_
      refine TL.no rfl (.gn rfl rfl rfl) rfl ?_
      refine TL.q rfl .u (Ex.py rfl rfl rfl) rfl ?_
      refine TL.run ft_value_ok [25] rfl rfl ?_
      refine TL.no rfl (.gn rfl rfl rfl) rfl ?_
      refine TL.no rfl (.gn rfl rfl rfl) rfl ?_
      refine TL.no rfl (.gn rfl rfl rfl) rfl ?_
      refine TL.q rfl .u (Ex.py rfl rfl rfl) rfl ?_
      refine TL.run ft_value_ok [30] rfl rfl ?_
      refine TL.no rfl (.gn rfl rfl rfl) rfl ?_
      refine TL.no rfl (.gn rfl rfl rfl) rfl ?_
      refine TL.no rfl (.gn rfl rfl rfl) rfl ?_
      refine TL.q rfl .u (Ex.py rfl rfl rfl) rfl ?_
      refine TL.run ft_value_ok [35] rfl rfl ?_
      refine TL.nil (X.seq ?_)
      refine T.yes rfl rfl ?_
      refine T.seq (T.region rfl ?_)
      refine TL.run ft_value_ok [0] rfl rfl ?_
      obtain rfl := Option.some.inj h
      exact TL.nil (X.seq (T.ret (X.rb (X.rs (X.done1 [1] Try.results63 (RV.tm rfl) ⟨rfl, rfl, rfl⟩ (by rfl) (.inl rfl))))))
    · replace h := ifF c5 h
      refine TL.run ft_value_ok [8] rfl rfl ?_
      refine TL.q rfl (.g rfl rfl (decide_eq_false c5)) (Ex.ft ft_value_ok rfl) rfl ?_
      refine TL.q rfl (.g rfl rfl (decide_eq_false c5)) (Ex.b1 0 rfl Try.isAgg3 rfl rfl) rfl ?_
      obtain ⟨x6, hx7, h⟩ := Option.bind_eq_some_iff.1 h
      refine TL.ce rfl (.g rfl rfl (decide_eq_false c5)) (.fn Try.call84 rfl) (SpecX.pure (fun w => gFits_spec a0.fEpoch 2 _ hx7 w)) (fun _ _ => RX.reads_triv _ _) rfl ?_
      refine TL.q rfl (.g rfl rfl (decide_eq_false c5)) (Ex.ft ft_value_ok rfl) rfl ?_
      refine TL.q rfl .u (Ex.pn rfl (decide_eq_false c5) rfl) rfl ?_
      by_cases c8 : x6 = true
      · replace h := ifT c8 h
        refine TL.run ft_value_ok [14] rfl rfl ?_
        refine TL.q rfl (.g rfl rfl (bn_f c8)) (Ex.ft ft_value_ok rfl) rfl ?_
        refine TL.q rfl (.g rfl rfl (bn_f c8)) (Ex.b1 0 rfl Try.isAgg3 rfl rfl) rfl ?_
        refine TL.q rfl (.g rfl rfl (bn_f c8)) (Ex.ft ft_value_ok rfl) rfl ?_
        refine TL.q rfl .u (Ex.pn rfl (bn_f c8) rfl) rfl ?_
        by_cases c9 : a0.fTimeout < 0
        · replace h := ifT c9 h
          refine TL.run ft_value_ok [19] rfl rfl ?_
          refine TL.no rfl (.gn rfl rfl (decide_eq_true c9)) rfl ?_
          refine TL.no rfl (.gn rfl rfl (decide_eq_true c9)) rfl ?_
          refine TL.no rfl (.gn rfl rfl (decide_eq_true c9)) rfl ?_
          refine TL.no rfl (.gn rfl rfl (decide_eq_true c9)) rfl ?_
          refine TL.q rfl .u (Ex.py rfl (decide_eq_true c9) rfl) rfl ?_
          refine TL.run ft_value_ok [25] rfl rfl ?_
          refine TL.no rfl (.gn rfl rfl rfl) rfl ?_
          refine TL.no rfl (.gn rfl rfl rfl) rfl ?_
          refine TL.no rfl (.gn rfl rfl rfl) rfl ?_
          refine TL.q rfl .u (Ex.py rfl rfl rfl) rfl ?_
          refine TL.run ft_value_ok [30] rfl rfl ?_
          refine TL.no rfl (.gn rfl rfl rfl) rfl ?_
          refine TL.no rfl (.gn rfl rfl rfl) rfl ?_
          refine TL.no rfl (.gn rfl rfl rfl) rfl ?_
          refine TL.q rfl .u (Ex.py rfl rfl rfl) rfl ?_
          refine TL.run ft_value_ok [35] rfl rfl ?_
          refine TL.nil (X.seq ?_)
          refine T.yes rfl rfl ?_
          refine T.seq (T.region rfl ?_)
          refine TL.run ft_value_ok [0] rfl rfl ?_
          obtain rfl := Option.some.inj h
          exact TL.nil (X.seq (T.ret (X.rb (X.rs (X.done1 [1] Try.results63 (RV.tm rfl) ⟨rfl, rfl, rfl⟩ (by rfl) (.inl rfl))))))
        · replace h := ifF c9 h
          refine TL.run ft_value_ok [19] rfl rfl ?_
          refine TL.q rfl (.g rfl rfl (decide_eq_false c9)) (Ex.ft ft_value_ok rfl) rfl ?_
          refine TL.q rfl (.g rfl rfl (decide_eq_false c9)) (Ex.b1 0 rfl Try.isAgg3 rfl rfl) rfl ?_
          obtain ⟨x10, hx11, h⟩ := Option.bind_eq_some_iff.1 h
          refine TL.ce rfl (.g rfl rfl (decide_eq_false c9)) (.fn Try.call84 rfl) (SpecX.pure (fun w => gFits_spec a0.fTimeout 4 _ hx11 w)) (fun _ _ => RX.reads_triv _ _) rfl ?_
          refine TL.q rfl (.g rfl rfl (decide_eq_false c9)) (Ex.ft ft_value_ok rfl) rfl ?_
          refine TL.q rfl .u (Ex.pn rfl (decide_eq_false c9) rfl) rfl ?_
          by_cases c12 : x10 = true
          · replace h := ifT c12 h
            refine TL.run ft_value_ok [25] rfl rfl ?_
            refine TL.q rfl (.g rfl rfl (bn_f c12)) (Ex.ft ft_value_ok rfl) rfl ?_
            refine TL.q rfl (.g rfl rfl (bn_f c12)) (Ex.b1 0 rfl Try.isAgg3 rfl rfl) rfl ?_
            refine TL.q rfl (.g rfl rfl (bn_f c12)) (Ex.ft ft_value_ok rfl) rfl ?_
            refine TL.q rfl .u (Ex.pn rfl (bn_f c12) rfl) rfl ?_
            by_cases c13 : a0.fUpdated < 0
            · replace h := ifT c13 h
              refine TL.run ft_value_ok [30] rfl rfl ?_
              refine TL.no rfl (.gn rfl rfl (decide_eq_true c13)) rfl ?_
              refine TL.no rfl (.gn rfl rfl (decide_eq_true c13)) rfl ?_
              refine TL.no rfl (.gn rfl rfl (decide_eq_true c13)) rfl ?_
              refine TL.q rfl .u (Ex.py rfl (decide_eq_true c13) rfl) rfl ?_
              refine TL.run ft_value_ok [35] rfl rfl ?_
              refine TL.nil (X.seq ?_)
              refine T.yes rfl rfl ?_
              refine T.seq (T.region rfl ?_)
              refine TL.run ft_value_ok [0] rfl rfl ?_
              obtain rfl := Option.some.inj h
              exact TL.nil (X.seq (T.ret (X.rb (X.rs (X.done1 [1] Try.results63 (RV.tm rfl) ⟨rfl, rfl, rfl⟩ (by rfl) (.inl rfl))))))
            · replace h := ifF c13 h
              refine TL.run ft_value_ok [30] rfl rfl ?_
              refine TL.q rfl (.g rfl rfl (decide_eq_false c13)) (Ex.ft ft_value_ok rfl) rfl ?_
              refine TL.q rfl (.g rfl rfl (decide_eq_false c13)) (Ex.b1 0 rfl Try.isAgg3 rfl rfl) rfl ?_
              refine TL.q rfl (.g rfl rfl (decide_eq_false c13)) (Ex.ft ft_value_ok rfl) rfl ?_
              refine TL.q rfl .u (Ex.pn rfl (decide_eq_false c13) rfl) rfl ?_
              refine TL.run ft_value_ok [35] rfl rfl ?_
              by_cases c14 : a0.fStarted < (-1)
              · replace h := ifT c14 h
                refine TL.nil (X.seq ?_)
                refine T.yes rfl (decide_eq_true c14) ?_
                refine T.seq (T.region rfl ?_)
                refine TL.run ft_value_ok [0] rfl rfl ?_
                obtain rfl := Option.some.inj h
                exact TL.nil (X.seq (T.ret (X.rb (X.rs (X.done1 [1] Try.results63 (RV.tm rfl) ⟨rfl, rfl, rfl⟩ (by rfl) (.inl rfl))))))
              · replace h := ifF c14 h
                refine TL.nil (X.seq ?_)
                refine T.no rfl (decide_eq_false c14) ?_
                refine T.seq (T.region rfl ?_)
                refine TL.run ft_value_ok [0] rfl rfl ?_
                refine TL.q rfl .u (Ex.b1 0 rfl Try.isAgg3 rfl rfl) rfl ?_
                by_cases c15 : a0.fState < 0
                · replace h := ifT c15 h
                  refine TL.run ft_value_ok [2, 3] rfl rfl ?_
                  refine TL.no rfl (.gn rfl rfl (decide_eq_true c15)) rfl ?_
                  refine TL.no rfl (.gn rfl rfl (decide_eq_true c15)) rfl ?_
                  refine TL.no rfl (.gn rfl rfl (decide_eq_true c15)) rfl ?_
                  refine TL.q rfl .u (Ex.py rfl (decide_eq_true c15) rfl) rfl ?_
                  refine TL.run ft_value_ok [8] rfl rfl ?_
                  refine TL.nil (X.seq ?_)
                  refine T.yes rfl rfl ?_
                  refine T.seq (T.region rfl ?_)
                  refine TL.run ft_value_ok [0] rfl rfl ?_
                  obtain rfl := Option.some.inj h
                  exact TL.nil (X.seq (T.ret (X.rb (X.rs (X.done1 [1] Try.results63 (RV.tm rfl) ⟨rfl, rfl, rfl⟩ (by rfl) (.inl rfl))))))
                · replace h := ifF c15 h
                  refine TL.run ft_value_ok [2, 3] rfl rfl ?_
                  refine TL.q rfl (.g rfl rfl (decide_eq_false c15)) (Ex.ft ft_value_ok rfl) rfl ?_
                  refine TL.q rfl (.g rfl rfl (decide_eq_false c15)) (Ex.b1 0 rfl Try.isAgg3 rfl rfl) rfl ?_
                  refine TL.q rfl (.g rfl rfl (decide_eq_false c15)) (Ex.ft ft_value_ok rfl) rfl ?_
                  refine TL.q rfl .u (Ex.pn rfl (decide_eq_false c15) rfl) rfl ?_
                  refine TL.run ft_value_ok [8] rfl rfl ?_
                  by_cases c16 : a0.fState ≥ 7
                  · replace h := ifT c16 h
                    refine TL.nil (X.seq ?_)
                    refine T.yes rfl (decide_eq_true c16) ?_
                    refine T.seq (T.region rfl ?_)
                    refine TL.run ft_value_ok [0] rfl rfl ?_
                    obtain rfl := Option.some.inj h
                    exact TL.nil (X.seq (T.ret (X.rb (X.rs (X.done1 [1] Try.results63 (RV.tm rfl) ⟨rfl, rfl, rfl⟩ (by rfl) (.inl rfl))))))
                  · replace h := ifF c16 h
                    refine TL.nil (X.seq ?_)
                    refine T.no rfl (decide_eq_false c16) ?_
                    refine T.seq (T.draw (.q 0 (.q 1 (.q 3 (.q 4 (.q 5 (.q 6 (.e 2 (.q 7 (.q 8 (.q 9 (.q 10 (.q 11 (.q 12 (.q 13 (.q 14 (.q 15 (.q 16 (.q 17 .nil)))))))))))))))))) [0, 0] rfl mix_value (NoP.seq (NoP.blk (NoP.seq np_post))) (by kernel_rfl) ?_)
                    refine TD.run ft_value_ok [0] rfl rfl ?_
                    refine TD.q rfl .u (Ex.b1 0 rfl Try.isAgg3 rfl rfl) rfl ?_
                    refine TD.run ft_value_ok [3] rfl rfl ?_
                    refine TD.q rfl .u (Ex.b1 0 rfl Try.isAgg62 rfl rfl) rfl ?_
                    refine TD.q rfl .u (Ex.lenS rfl Try.runUnderlying62) rfl ?_
                    obtain ⟨x17, hx18, h⟩ := Option.bind_eq_some_iff.1 h
                    refine TD.run ft_value_ok [6] rfl rfl ?_
                    refine TD.ce rfl .u (.fn Try.call66 rfl) (f_value_Idle_spec a0.fState _ hx18) (fun _ hs => (RX.reads_triv _ _)) rfl [0, 0] (rfl) ?_
                    by_cases c19 : x17 = true
                    · replace h := ifT c19 h
                      by_cases c20 : (a0.fTopics.length : Int) = 0
                      · replace h := ifT c20 h
                        refine TD.q rfl .u (Ex.bNe rfl c19 rfl (decide_eq_true c20) Try.runUnderlying4) rfl ?_
                        refine TD.run ft_value_ok [8] rfl rfl ?_
                        refine TD.q rfl (.g rfl rfl rfl) (Ex.ft ft_value_ok rfl) rfl ?_
                        refine TD.q rfl (.g rfl rfl rfl) (Ex.b1 0 rfl Try.isAgg3 rfl rfl) rfl ?_
                        refine TD.q rfl (.g rfl rfl rfl) (Ex.ft ft_value_ok rfl) rfl ?_
                        refine TD.q rfl (.g rfl rfl rfl) (Ex.ft ft_value_ok rfl) rfl ?_
                        refine TD.q rfl (.g rfl rfl rfl) (Ex.b1 0 rfl Try.isAgg3 rfl rfl) rfl ?_
                        refine TD.q rfl (.g rfl rfl rfl) (Ex.ft ft_value_ok rfl) rfl ?_
                        by_cases c21 : a0.fState = 0
                        · replace h := ifT c21 h
                          by_cases c22 : a0.fStarted = (-1)
                          · replace h := ifT c22 h
                            refine TD.q rfl (.g rfl rfl rfl) (Ex.bNe rfl (decide_eq_true c21) rfl (decide_eq_true c22) Try.runUnderlying4) rfl ?_
                            refine TD.q rfl .u (Ex.pn rfl rfl rfl) rfl ?_
                            refine TD.run ft_value_ok [17] rfl rfl ?_
                            refine TD.nil (X.seq ?_)
                            refine T.no rfl rfl ?_
                            refine T.seq (T.region rfl ?_)
                            refine TL.run ft_value_ok [0] rfl rfl ?_
                            refine TL.q rfl .u (Ex.b1 0 rfl Try.isAgg62 rfl rfl) rfl ?_
                            obtain ⟨x23, hx24, h⟩ := Option.bind_eq_some_iff.1 h
                            refine TL.ce rfl .u (.fn Try.call119 rfl) (f_value_topics_spec a0.fTopics _ _ _ hx24) (fun _ hs => (SrcE.old hs hX)) rfl ?_
                            refine TL.run ft_value_ok [3, 4] rfl rfl ?_
                            by_cases c25 : x23 = true
                            · replace h := ifT c25 h
                              refine TL.nil (X.seq ?_)
                              refine T.no rfl (bn_f c25) ?_
                              refine T.skip (X.blk (X.seq (T.seq (T.region rfl ?_))))
                              refine TL.run ft_value_ok [0] rfl rfl ?_
                              obtain rfl := Option.some.inj h
                              exact TL.nil (X.seq (T.ret (X.done1 [1] Try.results63 (RV.tm rfl) ⟨rfl, rfl, rfl⟩ (by rfl) (.inl rfl))))
                            · replace h := ifF c25 h
                              replace c25 := eq_false_of_ne_true c25
                              refine TL.nil (X.seq ?_)
                              refine T.yes rfl (bn_t c25) ?_
                              refine T.seq (T.region rfl ?_)
                              refine TL.run ft_value_ok [0] rfl rfl ?_
                              obtain rfl := Option.some.inj h
                              exact TL.nil (X.seq (T.ret (X.rb (X.rs (X.done1 [1] Try.results63 (RV.tm rfl) ⟨rfl, rfl, rfl⟩ (by rfl) (.inl rfl))))))
                          · replace h := ifF c22 h
                            refine TD.q rfl (.g rfl rfl rfl) (Ex.bNe rfl (decide_eq_true c21) rfl (decide_eq_false c22) Try.runUnderlying4) rfl ?_
                            refine TD.q rfl .u (Ex.pn rfl rfl rfl) rfl ?_
                            refine TD.run ft_value_ok [17] rfl rfl ?_
                            refine TD.nil (X.seq ?_)
                            refine T.yes rfl rfl ?_
                            refine T.seq (T.region rfl ?_)
                            refine TL.run ft_value_ok [0] rfl rfl ?_
                            obtain rfl := Option.some.inj h
                            exact TL.nil (X.seq (T.ret (X.rb (X.rs (X.done1 [1] Try.results63 (RV.tm rfl) ⟨rfl, rfl, rfl⟩ (by rfl) (.inl rfl))))))
                        · replace h := ifF c21 h
                          by_cases c26 : a0.fStarted = (-1)
                          · replace h := ifT c26 h
                            refine TD.q rfl (.g rfl rfl rfl) (Ex.bNe rfl (decide_eq_false c21) rfl (decide_eq_true c26) Try.runUnderlying4) rfl ?_
                            refine TD.q rfl .u (Ex.pn rfl rfl rfl) rfl ?_
                            refine TD.run ft_value_ok [17] rfl rfl ?_
                            refine TD.nil (X.seq ?_)
                            refine T.yes rfl rfl ?_
                            refine T.seq (T.region rfl ?_)
                            refine TL.run ft_value_ok [0] rfl rfl ?_
                            obtain rfl := Option.some.inj h
                            exact TL.nil (X.seq (T.ret (X.rb (X.rs (X.done1 [1] Try.results63 (RV.tm rfl) ⟨rfl, rfl, rfl⟩ (by rfl) (.inl rfl))))))
                          · replace h := ifF c26 h
                            refine TD.q rfl (.g rfl rfl rfl) (Ex.bNe rfl (decide_eq_false c21) rfl (decide_eq_false c26) Try.runUnderlying4) rfl ?_
                            refine TD.q rfl .u (Ex.pn rfl rfl rfl) rfl ?_
                            refine TD.run ft_value_ok [17] rfl rfl ?_
                            refine TD.nil (X.seq ?_)
                            refine T.no rfl rfl ?_
                            refine T.seq (T.region rfl ?_)
                            refine TL.run ft_value_ok [0] rfl rfl ?_
                            refine TL.q rfl .u (Ex.b1 0 rfl Try.isAgg62 rfl rfl) rfl ?_
                            obtain ⟨x27, hx28, h⟩ := Option.bind_eq_some_iff.1 h
                            refine TL.ce rfl .u (.fn Try.call119 rfl) (f_value_topics_spec a0.fTopics _ _ _ hx28) (fun _ hs => (SrcE.old hs hX)) rfl ?_
                            refine TL.run ft_value_ok [3, 4] rfl rfl ?_
                            by_cases c29 : x27 = true
                            · replace h := ifT c29 h
                              refine TL.nil (X.seq ?_)
                              refine T.no rfl (bn_f c29) ?_
                              refine T.skip (X.blk (X.seq (T.seq (T.region rfl ?_))))
                              refine TL.run ft_value_ok [0] rfl rfl ?_
                              obtain rfl := Option.some.inj h
                              exact TL.nil (X.seq (T.ret (X.done1 [1] Try.results63 (RV.tm rfl) ⟨rfl, rfl, rfl⟩ (by rfl) (.inl rfl))))
                            · replace h := ifF c29 h
                              replace c29 := eq_false_of_ne_true c29
                              refine TL.nil (X.seq ?_)
                              refine T.yes rfl (bn_t c29) ?_
                              refine T.seq (T.region rfl ?_)
                              refine TL.run ft_value_ok [0] rfl rfl ?_
                              obtain rfl := Option.some.inj h
                              exact TL.nil (X.seq (T.ret (X.rb (X.rs (X.done1 [1] Try.results63 (RV.tm rfl) ⟨rfl, rfl, rfl⟩ (by rfl) (.inl rfl))))))
                      · replace h := ifF c20 h
                        refine TD.q rfl .u (Ex.bNe rfl c19 rfl (decide_eq_false c20) Try.runUnderlying4) rfl ?_
                        refine TD.run ft_value_ok [8] rfl rfl ?_
                        refine TD.no rfl (.gn rfl rfl rfl) rfl ?_
                        refine TD.no rfl (.gn rfl rfl rfl) rfl ?_
                        refine TD.no rfl (.gn rfl rfl rfl) rfl ?_
                        refine TD.no rfl (.gn rfl rfl rfl) rfl ?_
                        refine TD.no rfl (.gn rfl rfl rfl) rfl ?_
                        refine TD.no rfl (.gn rfl rfl rfl) rfl ?_
                        refine TD.no rfl (.gn rfl rfl rfl) rfl ?_
                        refine TD.q rfl .u (Ex.py rfl rfl rfl) rfl ?_
                        refine TD.run ft_value_ok [17] rfl rfl ?_
                        refine TD.nil (X.seq ?_)
                        refine T.yes rfl rfl ?_
                        refine T.seq (T.region rfl ?_)
                        refine TL.run ft_value_ok [0] rfl rfl ?_
                        obtain rfl := Option.some.inj h
                        exact TL.nil (X.seq (T.ret (X.rb (X.rs (X.done1 [1] Try.results63 (RV.tm rfl) ⟨rfl, rfl, rfl⟩ (by rfl) (.inl rfl))))))
                    · replace h := ifF c19 h
                      replace c19 := eq_false_of_ne_true c19
                      by_cases c30 : (a0.fTopics.length : Int) = 0
                      · replace h := ifT c30 h
                        refine TD.q rfl .u (Ex.bNe rfl c19 rfl (decide_eq_true c30) Try.runUnderlying4) rfl ?_
                        refine TD.run ft_value_ok [8] rfl rfl ?_
                        refine TD.no rfl (.gn rfl rfl rfl) rfl ?_
                        refine TD.no rfl (.gn rfl rfl rfl) rfl ?_
                        refine TD.no rfl (.gn rfl rfl rfl) rfl ?_
                        refine TD.no rfl (.gn rfl rfl rfl) rfl ?_
                        refine TD.no rfl (.gn rfl rfl rfl) rfl ?_
                        refine TD.no rfl (.gn rfl rfl rfl) rfl ?_
                        refine TD.no rfl (.gn rfl rfl rfl) rfl ?_
                        refine TD.q rfl .u (Ex.py rfl rfl rfl) rfl ?_
                        refine TD.run ft_value_ok [17] rfl rfl ?_
                        refine TD.nil (X.seq ?_)
                        refine T.yes rfl rfl ?_
                        refine T.seq (T.region rfl ?_)
                        refine TL.run ft_value_ok [0] rfl rfl ?_
                        obtain rfl := Option.some.inj h
                        exact TL.nil (X.seq (T.ret (X.rb (X.rs (X.done1 [1] Try.results63 (RV.tm rfl) ⟨rfl, rfl, rfl⟩ (by rfl) (.inl rfl))))))
                      · replace h := ifF c30 h
                        refine TD.q rfl .u (Ex.bNe rfl c19 rfl (decide_eq_false c30) Try.runUnderlying4) rfl ?_
                        refine TD.run ft_value_ok [8] rfl rfl ?_
                        refine TD.q rfl (.g rfl rfl rfl) (Ex.ft ft_value_ok rfl) rfl ?_
                        refine TD.q rfl (.g rfl rfl rfl) (Ex.b1 0 rfl Try.isAgg3 rfl rfl) rfl ?_
                        refine TD.q rfl (.g rfl rfl rfl) (Ex.ft ft_value_ok rfl) rfl ?_
                        refine TD.q rfl (.g rfl rfl rfl) (Ex.ft ft_value_ok rfl) rfl ?_
                        refine TD.q rfl (.g rfl rfl rfl) (Ex.b1 0 rfl Try.isAgg3 rfl rfl) rfl ?_
                        refine TD.q rfl (.g rfl rfl rfl) (Ex.ft ft_value_ok rfl) rfl ?_
                        by_cases c31 : a0.fState = 0
                        · replace h := ifT c31 h
                          by_cases c32 : a0.fStarted = (-1)
                          · replace h := ifT c32 h
                            refine TD.q rfl (.g rfl rfl rfl) (Ex.bNe rfl (decide_eq_true c31) rfl (decide_eq_true c32) Try.runUnderlying4) rfl ?_
                            refine TD.q rfl .u (Ex.pn rfl rfl rfl) rfl ?_
                            refine TD.run ft_value_ok [17] rfl rfl ?_
                            refine TD.nil (X.seq ?_)
                            refine T.no rfl rfl ?_
                            refine T.seq (T.region rfl ?_)
                            refine TL.run ft_value_ok [0] rfl rfl ?_
                            refine TL.q rfl .u (Ex.b1 0 rfl Try.isAgg62 rfl rfl) rfl ?_
                            obtain ⟨x33, hx34, h⟩ := Option.bind_eq_some_iff.1 h
                            refine TL.ce rfl .u (.fn Try.call119 rfl) (f_value_topics_spec a0.fTopics _ _ _ hx34) (fun _ hs => (SrcE.old hs hX)) rfl ?_
                            refine TL.run ft_value_ok [3, 4] rfl rfl ?_
                            by_cases c35 : x33 = true
                            · replace h := ifT c35 h
                              refine TL.nil (X.seq ?_)
                              refine T.no rfl (bn_f c35) ?_
                              refine T.skip (X.blk (X.seq (T.seq (T.region rfl ?_))))
                              refine TL.run ft_value_ok [0] rfl rfl ?_
                              obtain rfl := Option.some.inj h
                              exact TL.nil (X.seq (T.ret (X.done1 [1] Try.results63 (RV.tm rfl) ⟨rfl, rfl, rfl⟩ (by rfl) (.inl rfl))))
                            · replace h := ifF c35 h
                              replace c35 := eq_false_of_ne_true c35
                              refine TL.nil (X.seq ?_)
                              refine T.yes rfl (bn_t c35) ?_
                              refine T.seq (T.region rfl ?_)
                              refine TL.run ft_value_ok [0] rfl rfl ?_
                              obtain rfl := Option.some.inj h
                              exact TL.nil (X.seq (T.ret (X.rb (X.rs (X.done1 [1] Try.results63 (RV.tm rfl) ⟨rfl, rfl, rfl⟩ (by rfl) (.inl rfl))))))
                          · replace h := ifF c32 h
                            refine TD.q rfl (.g rfl rfl rfl) (Ex.bNe rfl (decide_eq_true c31) rfl (decide_eq_false c32) Try.runUnderlying4) rfl ?_
                            refine TD.q rfl .u (Ex.pn rfl rfl rfl) rfl ?_
                            refine TD.run ft_value_ok [17] rfl rfl ?_
                            refine TD.nil (X.seq ?_)
                            refine T.yes rfl rfl ?_
                            refine T.seq (T.region rfl ?_)
                            refine TL.run ft_value_ok [0] rfl rfl ?_
                            obtain rfl := Option.some.inj h
                            exact TL.nil (X.seq (T.ret (X.rb (X.rs (X.done1 [1] Try.results63 (RV.tm rfl) ⟨rfl, rfl, rfl⟩ (by rfl) (.inl rfl))))))
                        · replace h := ifF c31 h
                          by_cases c36 : a0.fStarted = (-1)
                          · replace h := ifT c36 h
                            refine TD.q rfl (.g rfl rfl rfl) (Ex.bNe rfl (decide_eq_false c31) rfl (decide_eq_true c36) Try.runUnderlying4) rfl ?_
                            refine TD.q rfl .u (Ex.pn rfl rfl rfl) rfl ?_
                            refine TD.run ft_value_ok [17] rfl rfl ?_
                            refine TD.nil (X.seq ?_)
                            refine T.yes rfl rfl ?_
                            refine T.seq (T.region rfl ?_)
                            refine TL.run ft_value_ok [0] rfl rfl ?_
                            obtain rfl := Option.some.inj h
                            exact TL.nil (X.seq (T.ret (X.rb (X.rs (X.done1 [1] Try.results63 (RV.tm rfl) ⟨rfl, rfl, rfl⟩ (by rfl) (.inl rfl))))))
                          · replace h := ifF c36 h
                            refine TD.q rfl (.g rfl rfl rfl) (Ex.bNe rfl (decide_eq_false c31) rfl (decide_eq_false c36) Try.runUnderlying4) rfl ?_
                            refine TD.q rfl .u (Ex.pn rfl rfl rfl) rfl ?_
                            refine TD.run ft_value_ok [17] rfl rfl ?_
                            refine TD.nil (X.seq ?_)
                            refine T.no rfl rfl ?_
                            refine T.seq (T.region rfl ?_)
                            refine TL.run ft_value_ok [0] rfl rfl ?_
                            refine TL.q rfl .u (Ex.b1 0 rfl Try.isAgg62 rfl rfl) rfl ?_
                            obtain ⟨x37, hx38, h⟩ := Option.bind_eq_some_iff.1 h
                            refine TL.ce rfl .u (.fn Try.call119 rfl) (f_value_topics_spec a0.fTopics _ _ _ hx38) (fun _ hs => (SrcE.old hs hX)) rfl ?_
                            refine TL.run ft_value_ok [3, 4] rfl rfl ?_
                            by_cases c39 : x37 = true
                            · replace h := ifT c39 h
                              refine TL.nil (X.seq ?_)
                              refine T.no rfl (bn_f c39) ?_
                              refine T.skip (X.blk (X.seq (T.seq (T.region rfl ?_))))
                              refine TL.run ft_value_ok [0] rfl rfl ?_
                              obtain rfl := Option.some.inj h
                              exact TL.nil (X.seq (T.ret (X.done1 [1] Try.results63 (RV.tm rfl) ⟨rfl, rfl, rfl⟩ (by rfl) (.inl rfl))))
                            · replace h := ifF c39 h
                              replace c39 := eq_false_of_ne_true c39
                              refine TL.nil (X.seq ?_)
                              refine T.yes rfl (bn_t c39) ?_
                              refine T.seq (T.region rfl ?_)
                              refine TL.run ft_value_ok [0] rfl rfl ?_
                              obtain rfl := Option.some.inj h
                              exact TL.nil (X.seq (T.ret (X.rb (X.rs (X.done1 [1] Try.results63 (RV.tm rfl) ⟨rfl, rfl, rfl⟩ (by rfl) (.inl rfl))))))
          · replace h := ifF c12 h
            replace c12 := eq_false_of_ne_true c12
            refine TL.run ft_value_ok [25] rfl rfl ?_
            refine TL.no rfl (.gn rfl rfl (bn_t c12)) rfl ?_
            refine TL.no rfl (.gn rfl rfl (bn_t c12)) rfl ?_
            refine TL.no rfl (.gn rfl rfl (bn_t c12)) rfl ?_
            refine TL.q rfl .u (Ex.py rfl (bn_t c12) rfl) rfl ?_
            refine TL.run ft_value_ok [30] rfl rfl ?_
            refine TL.no rfl (.gn rfl rfl rfl) rfl ?_
            refine TL.no rfl (.gn rfl rfl rfl) rfl ?_
            refine TL.no rfl (.gn rfl rfl rfl) rfl ?_
            refine TL.q rfl .u (Ex.py rfl rfl rfl) rfl ?_
            refine TL.run ft_value_ok [35] rfl rfl ?_
            refine TL.nil (X.seq ?_)
            refine T.yes rfl rfl ?_
            refine T.seq (T.region rfl ?_)
            refine TL.run ft_value_ok [0] rfl rfl ?_
            obtain rfl := Option.some.inj h
            exact TL.nil (X.seq (T.ret (X.rb (X.rs (X.done1 [1] Try.results63 (RV.tm rfl) ⟨rfl, rfl, rfl⟩ (by rfl) (.inl rfl))))))
      · replace h := ifF c8 h
        replace c8 := eq_false_of_ne_true c8
        refine TL.run ft_value_ok [14] rfl rfl ?_
        refine TL.no rfl (.gn rfl rfl (bn_t c8)) rfl ?_
        refine TL.no rfl (.gn rfl rfl (bn_t c8)) rfl ?_
        refine TL.no rfl (.gn rfl rfl (bn_t c8)) rfl ?_
        refine TL.q rfl .u (Ex.py rfl (bn_t c8) rfl) rfl ?_
        refine TL.run ft_value_ok [19] rfl rfl ?_
        refine TL.no rfl (.gn rfl rfl rfl) rfl ?_
        refine TL.no rfl (.gn rfl rfl rfl) rfl ?_
        refine TL.no rfl (.gn rfl rfl rfl) rfl ?_
        refine TL.no rfl (.gn rfl rfl rfl) rfl ?_
        refine TL.q rfl .u (Ex.py rfl rfl rfl) rfl ?_
        refine TL.run ft_value_ok [25] rfl rfl ?_
        refine TL.no rfl (.gn rfl rfl rfl) rfl ?_
        refine TL.no rfl (.gn rfl rfl rfl) rfl ?_
        refine TL.no rfl (.gn rfl rfl rfl) rfl ?_
        refine TL.q rfl .u (Ex.py rfl rfl rfl) rfl ?_
        refine TL.run ft_value_ok [30] rfl rfl ?_
        refine TL.no rfl (.gn rfl rfl rfl) rfl ?_
        refine TL.no rfl (.gn rfl rfl rfl) rfl ?_
        refine TL.no rfl (.gn rfl rfl rfl) rfl ?_
        refine TL.q rfl .u (Ex.py rfl rfl rfl) rfl ?_
        refine TL.run ft_value_ok [35] rfl rfl ?_
        refine TL.nil (X.seq ?_)
        refine T.yes rfl rfl ?_
        refine T.seq (T.region rfl ?_)
        refine TL.run ft_value_ok [0] rfl rfl ?_
        obtain rfl := Option.some.inj h
        exact TL.nil (X.seq (T.ret (X.rb (X.rs (X.done1 [1] Try.results63 (RV.tm rfl) ⟨rfl, rfl, rfl⟩ (by rfl) (.inl rfl))))))
def f_value_Decode (a0 : List UInt8) : Option (Val × Int) := (gNew a0).bind fun st2 => (gInt st2 2).bind fun (x5, st6) => if x5 = 0 then ((gInt st6 8).bind fun (x9, st10) => (gInt st10 2).bind fun (x12, st13) => (gInt st13 4).bind fun (x15, st16) => (gInt st16 1).bind fun (x18, st19) => (f_value_Topics st19).bind fun (x22, st25) => (gInt st25 8).bind fun (x27, st28) => (gInt st28 8).bind fun (x30, st31) => (gClose st31).bind fun (x33, st34) => if x33 = 0 then ((f_value_Check (⟨x9, x12, x15, x18, x22, x27, x30⟩ : Val)).bind fun x37 => if x37 = 0 then (some ((⟨x9, x12, x15, x18, x22, x27, x30⟩ : Val), 0)) else (some ((⟨0, 0, 0, 0, [], 0, 0⟩ : Val), x37))) else (some ((⟨0, 0, 0, 0, [], 0, 0⟩ : Val), x33))) else ((gIFail st6 7).bind fun st40 => (gInt st40 8).bind fun (x42, st43) => (gInt st43 2).bind fun (x45, st46) => (gInt st46 4).bind fun (x48, st49) => (gInt st49 1).bind fun (x51, st52) => (f_value_Topics st52).bind fun (x55, st58) => (gInt st58 8).bind fun (x60, st61) => (gInt st61 8).bind fun (x63, st64) => (gClose st64).bind fun (x66, st67) => if x66 = 0 then ((f_value_Check (⟨x42, x45, x48, x51, x55, x60, x63⟩ : Val)).bind fun x70 => if x70 = 0 then (some ((⟨x42, x45, x48, x51, x55, x60, x63⟩ : Val), 0)) else (some ((⟨0, 0, 0, 0, [], 0, 0⟩ : Val), x70))) else (some ((⟨0, 0, 0, 0, [], 0, 0⟩ : Val), x66)))
set_option maxRecDepth 100000 in
set_option maxHeartbeats 4000000 in
theorem f_value_Decode_spec (a0 : List UInt8) (r : Val × Int) (h : f_value_Decode a0 = some r) : SpecX Try.prog 37 #[.string (bsOf a0)] .triv (EmpR) (fun v A' N => ∃ (A73 : Option Addr) (c74 : Nat), v = .tuple #[.agg #[.int .i64 r.1.fProducer, .int .i64 r.1.fEpoch, .int .i64 r.1.fTimeout, .int .i64 r.1.fState, .slice A73 r.1.fTopics.length c74, .int .i64 r.1.fUpdated, .int .i64 r.1.fStarted], .int .i64 r.2] ∧ A' = EmpR ∧ N = [RdR (sliceRd 2 Top_rd) [.slice A73 r.1.fTopics.length c74] r.1.fTopics]) := by
  refine enterA Try.func37 rfl Try.ntmps37 rfl ?_
  intro F w hX
  unfold f_value_Decode at h
  refine T.seq (T.region rfl ?_)
  refine TL.alloc rfl .u Try.zeroValue64 rfl (fun b1 => ?_)
  refine TL.run ft_value_ok [1] rfl rfl ?_
  refine TL.nil (X.seq (T.seq (T.region rfl ?_)))
  obtain ⟨st2, hx3, h⟩ := Option.bind_eq_some_iff.1 h
  refine TL.run ft_value_ok [0] rfl rfl ?_
  refine TL.cge rfl .u (.fn Try.call16 rfl) (gNew_spec a0 _ hx3) (fun _ hs => (RX.reads_triv _ _)) rfl ?_
  rintro _ _ _ ⟨b4, rfl, rfl, rfl⟩
  refine TL.sel [0, 0, 0] rfl ?_
  refine TL.run ft_value_ok [2] rfl rfl ?_
  refine TL.nil (X.seq (T.seq (T.seq (T.region rfl ?_))))
  obtain ⟨⟨x5, st6⟩, hx7, h⟩ := Option.bind_eq_some_iff.1 h
  try dsimp only at h
  refine TL.run ft_value_ok [0] rfl rfl ?_
  refine TL.c0 rfl .u (.fn Try.call72 rfl) (gInt_spec b4 st2 2 _ hx7) (fun _ hs => (Src.triv _)) rfl ?_
  refine TL.run ft_value_ok [2] rfl rfl ?_
  by_cases c8 : x5 = 0
  · replace h := ifT c8 h
    refine TL.nil (X.seq ?_)
    refine T.no rfl (bn_f (decide_eq_true c8)) ?_
    refine T.skip (X.seq (T.seq (T.region rfl ?_)))
    obtain ⟨⟨x9, st10⟩, hx11, h⟩ := Option.bind_eq_some_iff.1 h
    try dsimp only at h
    refine TL.run ft_value_ok [0] rfl rfl ?_
    refine TL.c0 rfl .u (.fn Try.call72 rfl) (gInt_spec b4 st6 8 _ hx11) (fun _ hs => (Src.triv _)) rfl ?_
    obtain ⟨⟨x12, st13⟩, hx14, h⟩ := Option.bind_eq_some_iff.1 h
    try dsimp only at h
    refine TL.run ft_value_ok [2] rfl rfl ?_
    refine TL.c0 rfl .u (.fn Try.call72 rfl) (gInt_spec b4 st10 2 _ hx14) (fun _ hs => (Src.triv _)) rfl ?_
    obtain ⟨⟨x15, st16⟩, hx17, h⟩ := Option.bind_eq_some_iff.1 h
    try dsimp only at h
    refine TL.run ft_value_ok [4] rfl rfl ?_
    refine TL.c0 rfl .u (.fn Try.call72 rfl) (gInt_spec b4 st13 4 _ hx17) (fun _ hs => (Src.triv _)) rfl ?_
    obtain ⟨⟨x18, st19⟩, hx20, h⟩ := Option.bind_eq_some_iff.1 h
    try dsimp only at h
    refine TL.run ft_value_ok [6] rfl rfl ?_
    refine TL.c0 rfl .u (.fn Try.call72 rfl) (gInt_spec b4 st16 1 _ hx20) (fun _ hs => (Src.triv _)) rfl ?_
    refine TL.q rfl .u (Ex.bld (cells := #[.int .i64 x9, .int .i64 x12, .int .i64 x15, .int .i64 x18, .slice none 0 0, .int .i64 0, .int .i64 0]) bok_value_64 rfl (by rfl)) rfl ?_
    refine TL.alloc rfl .u Try.zeroValue64 rfl (fun b21 => ?_)
    refine TL.st0 (cs' := #[.int .i64 x9, .int .i64 x12, .int .i64 x15, .int .i64 x18, .slice none 0 0, .int .i64 0, .int .i64 0]) rfl .u rfl rfl Try.sizeOf64 rfl rfl rfl rfl ?_
    refine TL.nil (X.seq (T.seq (T.region rfl ?_)))
    obtain ⟨⟨x22, st25⟩, hx26, h⟩ := Option.bind_eq_some_iff.1 h
    try dsimp only at h
    refine TL.run ft_value_ok [0] rfl rfl ?_
    refine TL.cg1 rfl .u (.fn Try.call56 rfl) (f_value_Topics_spec b4 st19 _ hx26) (fun _ hs => (Src.triv _)) rfl ?_
    rintro _ _ _ ⟨A23, c24, rfl, rfl, rfl⟩
    refine TL.sel [0, 0, 0, 0, 0] rfl ?_
    refine TL.run ft_value_ok [2] rfl rfl ?_
    refine TL.st1 (cs' := #[.int .i64 x9, .int .i64 x12, .int .i64 x15, .int .i64 x18, .slice A23 x22.length c24, .int .i64 0, .int .i64 0]) rfl .u rfl rfl Try.sizeOf62 rfl rfl rfl rfl ?_
    refine TL.nil (X.seq (T.seq (T.region rfl ?_)))
    obtain ⟨⟨x27, st28⟩, hx29, h⟩ := Option.bind_eq_some_iff.1 h
    try dsimp only at h
    refine TL.run ft_value_ok [0] rfl rfl ?_
    refine TL.c2 rfl .u (.fn Try.call72 rfl) (gInt_spec b4 st25 8 _ hx29) (fun _ hs => (Src.triv _)) rfl ?_
    refine TL.run ft_value_ok [2] rfl rfl ?_
    refine TL.st1 (cs' := #[.int .i64 x9, .int .i64 x12, .int .i64 x15, .int .i64 x18, .slice A23 x22.length c24, .int .i64 x27, .int .i64 0]) rfl .u rfl rfl Try.sizeOf3 rfl rfl rfl rfl ?_
    refine TL.nil (X.seq (T.seq (T.region rfl ?_)))
    obtain ⟨⟨x30, st31⟩, hx32, h⟩ := Option.bind_eq_some_iff.1 h
    try dsimp only at h
    refine TL.run ft_value_ok [0] rfl rfl ?_
    refine TL.c2 rfl .u (.fn Try.call72 rfl) (gInt_spec b4 st28 8 _ hx32) (fun _ hs => (Src.triv _)) rfl ?_
    refine TL.run ft_value_ok [2] rfl rfl ?_
    refine TL.st1 (cs' := #[.int .i64 x9, .int .i64 x12, .int .i64 x15, .int .i64 x18, .slice A23 x22.length c24, .int .i64 x27, .int .i64 x30]) rfl .u rfl rfl Try.sizeOf3 rfl rfl rfl rfl ?_
    refine TL.nil (X.seq (T.seq (T.region rfl ?_)))
    obtain ⟨⟨x33, st34⟩, hx35, h⟩ := Option.bind_eq_some_iff.1 h
    try dsimp only at h
    refine TL.run ft_value_ok [0] rfl rfl ?_
    refine TL.c2 rfl .u (.fn Try.call26 rfl) (gClose_spec b4 st31 _ hx35) (fun _ hs => (Src.triv _)) rfl ?_
    refine TL.run ft_value_ok [2] rfl rfl ?_
    refine TL.nil (X.seq (T.seq (T.seq (T.region rfl ?_))))
    refine TL.run ft_value_ok [0, 1] rfl rfl ?_
    by_cases c36 : x33 = 0
    · replace h := ifT c36 h
      refine TL.nil (X.seq ?_)
      refine T.yes rfl (decide_eq_true c36) ?_
      refine T.region rfl ?_
      refine TL.q rfl .u (Ex.bS (us := [.int .i64 x9, .int .i64 x12, .int .i64 x15, .int .i64 x18, .slice A23 x22.length c24, .int .i64 x27, .int .i64 x30]) 1 rfl Try.isAgg64 Try.sizeOf64 rfl rfl rfl) rfl ?_
      obtain ⟨x37, hx38, h⟩ := Option.bind_eq_some_iff.1 h
      refine TL.ce rfl .u (.fn Try.call63 rfl) (f_value_Check_spec (⟨x9, x12, x15, x18, x22, x27, x30⟩ : Val) _ _ _ hx38) (fun _ hs => (SrcE.res 0 hs rfl (fun w G h => rd_reads w G h))) rfl ?_
      refine TL.run ft_value_ok [2] rfl rfl ?_
      refine TL.nil (X.seq (T.seq (T.seq (T.region rfl ?_))))
      refine TL.run ft_value_ok [0, 1] rfl rfl ?_
      by_cases c39 : x37 = 0
      · replace h := ifT c39 h
        refine TL.nil (X.seq ?_)
        refine T.no rfl (bn_f (decide_eq_true c39)) ?_
        refine T.skip (X.seq (T.seq (T.region rfl ?_)))
        refine TL.q rfl .u (Ex.bS (us := [.int .i64 x9, .int .i64 x12, .int .i64 x15, .int .i64 x18, .slice A23 x22.length c24, .int .i64 x27, .int .i64 x30]) 1 rfl Try.isAgg64 Try.sizeOf64 rfl rfl rfl) rfl ?_
        refine TL.st3 (cs' := #[.int .i64 x9, .int .i64 x12, .int .i64 x15, .int .i64 x18, .slice A23 x22.length c24, .int .i64 x27, .int .i64 x30]) rfl .u rfl rfl Try.sizeOf64 rfl rfl rfl rfl ?_
        refine TL.run ft_value_ok [2] rfl rfl ?_
        obtain rfl := Option.some.inj h
        exact TL.nil (X.seq (T.ret (X.done2 [4, 0] Try.results37 (RV.cS (us := #[.int .i64 x9, .int .i64 x12, .int .i64 x15, .int .i64 x18, .slice A23 x22.length c24, .int .i64 x27, .int .i64 x30]) 3 rfl Try.isAgg64 Try.sizeOf64 rfl rfl) (RV.tm rfl) ⟨_, _, rfl, rfl, rfl⟩ (by rfl) (.inl rfl))))
      · replace h := ifF c39 h
        refine TL.nil (X.seq ?_)
        refine T.yes rfl (bn_t (decide_eq_false c39)) ?_
        refine T.seq (T.region rfl ?_)
        refine TL.q rfl .u (Ex.bld (cells := #[.int .i64 0, .int .i64 0, .int .i64 0, .int .i64 0, .slice none 0 0, .int .i64 0, .int .i64 0]) bok_value_64 rfl (by rfl)) rfl ?_
        refine TL.run ft_value_ok [1] rfl rfl ?_
        refine TL.st3 (cs' := #[.int .i64 0, .int .i64 0, .int .i64 0, .int .i64 0, .slice none 0 0, .int .i64 0, .int .i64 0]) rfl .u rfl rfl Try.sizeOf64 rfl rfl rfl rfl ?_
        refine TL.run ft_value_ok [3] rfl rfl ?_
        obtain rfl := Option.some.inj h
        refine TL.nil (X.seq (T.ret (X.rs ?_)))
        refine X.nilrd 2 Top_rd ?_
        exact X.done2 [5, 0] Try.results37 (RV.cS (us := #[.int .i64 0, .int .i64 0, .int .i64 0, .int .i64 0, .slice none 0 0, .int .i64 0, .int .i64 0]) 4 rfl Try.isAgg64 Try.sizeOf64 rfl rfl) (RV.tm rfl) ⟨_, _, rfl, rfl, rfl⟩ (by rfl) (.inl rfl)
    · replace h := ifF c36 h
      refine TL.nil (X.seq ?_)
      refine T.no rfl (decide_eq_false c36) ?_
      refine T.skip (X.seq (T.seq (T.seq (T.region rfl ?_))))
      refine TL.run ft_value_ok [0, 1] rfl rfl ?_
      refine TL.nil (X.seq ?_)
      refine T.yes rfl (bn_t (decide_eq_false c36)) ?_
      refine T.seq (T.region rfl ?_)
      refine TL.q rfl .u (Ex.bld (cells := #[.int .i64 0, .int .i64 0, .int .i64 0, .int .i64 0, .slice none 0 0, .int .i64 0, .int .i64 0]) bok_value_64 rfl (by rfl)) rfl ?_
      refine TL.run ft_value_ok [1] rfl rfl ?_
      refine TL.st3 (cs' := #[.int .i64 0, .int .i64 0, .int .i64 0, .int .i64 0, .slice none 0 0, .int .i64 0, .int .i64 0]) rfl .u rfl rfl Try.sizeOf64 rfl rfl rfl rfl ?_
      refine TL.run ft_value_ok [3] rfl rfl ?_
      obtain rfl := Option.some.inj h
      refine TL.nil (X.seq (T.ret (X.rs ?_)))
      refine X.nilrd 2 Top_rd ?_
      exact X.done2 [5, 0] Try.results37 (RV.cS (us := #[.int .i64 0, .int .i64 0, .int .i64 0, .int .i64 0, .slice none 0 0, .int .i64 0, .int .i64 0]) 4 rfl Try.isAgg64 Try.sizeOf64 rfl rfl) (RV.tm rfl) ⟨_, _, rfl, rfl, rfl⟩ (by rfl) (.inl rfl)
  · replace h := ifF c8 h
    refine TL.nil (X.seq ?_)
    refine T.yes rfl (bn_t (decide_eq_false c8)) ?_
    refine T.region rfl ?_
    obtain ⟨st40, hx41, h⟩ := Option.bind_eq_some_iff.1 h
    refine TL.run ft_value_ok [0] rfl rfl ?_
    refine TL.c0 rfl .u (.fn Try.call74 rfl) (gIFail_spec b4 st6 7 _ hx41) (fun _ hs => (Src.triv _)) rfl ?_
    refine TL.nil (X.seq (T.seq (T.region rfl ?_)))
    obtain ⟨⟨x42, st43⟩, hx44, h⟩ := Option.bind_eq_some_iff.1 h
    try dsimp only at h
    refine TL.run ft_value_ok [0] rfl rfl ?_
    refine TL.c0 rfl .u (.fn Try.call72 rfl) (gInt_spec b4 st40 8 _ hx44) (fun _ hs => (Src.triv _)) rfl ?_
    obtain ⟨⟨x45, st46⟩, hx47, h⟩ := Option.bind_eq_some_iff.1 h
    try dsimp only at h
    refine TL.run ft_value_ok [2] rfl rfl ?_
    refine TL.c0 rfl .u (.fn Try.call72 rfl) (gInt_spec b4 st43 2 _ hx47) (fun _ hs => (Src.triv _)) rfl ?_
    obtain ⟨⟨x48, st49⟩, hx50, h⟩ := Option.bind_eq_some_iff.1 h
    try dsimp only at h
    refine TL.run ft_value_ok [4] rfl rfl ?_
    refine TL.c0 rfl .u (.fn Try.call72 rfl) (gInt_spec b4 st46 4 _ hx50) (fun _ hs => (Src.triv _)) rfl ?_
    obtain ⟨⟨x51, st52⟩, hx53, h⟩ := Option.bind_eq_some_iff.1 h
    try dsimp only at h
    refine TL.run ft_value_ok [6] rfl rfl ?_
    refine TL.c0 rfl .u (.fn Try.call72 rfl) (gInt_spec b4 st49 1 _ hx53) (fun _ hs => (Src.triv _)) rfl ?_
    refine TL.q rfl .u (Ex.bld (cells := #[.int .i64 x42, .int .i64 x45, .int .i64 x48, .int .i64 x51, .slice none 0 0, .int .i64 0, .int .i64 0]) bok_value_64 rfl (by rfl)) rfl ?_
    refine TL.alloc rfl .u Try.zeroValue64 rfl (fun b54 => ?_)
    refine TL.st0 (cs' := #[.int .i64 x42, .int .i64 x45, .int .i64 x48, .int .i64 x51, .slice none 0 0, .int .i64 0, .int .i64 0]) rfl .u rfl rfl Try.sizeOf64 rfl rfl rfl rfl ?_
    refine TL.nil (X.seq (T.seq (T.region rfl ?_)))
    obtain ⟨⟨x55, st58⟩, hx59, h⟩ := Option.bind_eq_some_iff.1 h
    try dsimp only at h
    refine TL.run ft_value_ok [0] rfl rfl ?_
    refine TL.cg1 rfl .u (.fn Try.call56 rfl) (f_value_Topics_spec b4 st52 _ hx59) (fun _ hs => (Src.triv _)) rfl ?_
    rintro _ _ _ ⟨A56, c57, rfl, rfl, rfl⟩
    refine TL.sel [0, 0, 0, 0, 0] rfl ?_
    refine TL.run ft_value_ok [2] rfl rfl ?_
    refine TL.st1 (cs' := #[.int .i64 x42, .int .i64 x45, .int .i64 x48, .int .i64 x51, .slice A56 x55.length c57, .int .i64 0, .int .i64 0]) rfl .u rfl rfl Try.sizeOf62 rfl rfl rfl rfl ?_
    refine TL.nil (X.seq (T.seq (T.region rfl ?_)))
    obtain ⟨⟨x60, st61⟩, hx62, h⟩ := Option.bind_eq_some_iff.1 h
    try dsimp only at h
    refine TL.run ft_value_ok [0] rfl rfl ?_
    refine TL.c2 rfl .u (.fn Try.call72 rfl) (gInt_spec b4 st58 8 _ hx62) (fun _ hs => (Src.triv _)) rfl ?_
    refine TL.run ft_value_ok [2] rfl rfl ?_
    refine TL.st1 (cs' := #[.int .i64 x42, .int .i64 x45, .int .i64 x48, .int .i64 x51, .slice A56 x55.length c57, .int .i64 x60, .int .i64 0]) rfl .u rfl rfl Try.sizeOf3 rfl rfl rfl rfl ?_
    refine TL.nil (X.seq (T.seq (T.region rfl ?_)))
    obtain ⟨⟨x63, st64⟩, hx65, h⟩ := Option.bind_eq_some_iff.1 h
    try dsimp only at h
    refine TL.run ft_value_ok [0] rfl rfl ?_
    refine TL.c2 rfl .u (.fn Try.call72 rfl) (gInt_spec b4 st61 8 _ hx65) (fun _ hs => (Src.triv _)) rfl ?_
    refine TL.run ft_value_ok [2] rfl rfl ?_
    refine TL.st1 (cs' := #[.int .i64 x42, .int .i64 x45, .int .i64 x48, .int .i64 x51, .slice A56 x55.length c57, .int .i64 x60, .int .i64 x63]) rfl .u rfl rfl Try.sizeOf3 rfl rfl rfl rfl ?_
    refine TL.nil (X.seq (T.seq (T.region rfl ?_)))
    obtain ⟨⟨x66, st67⟩, hx68, h⟩ := Option.bind_eq_some_iff.1 h
    try dsimp only at h
    refine TL.run ft_value_ok [0] rfl rfl ?_
    refine TL.c2 rfl .u (.fn Try.call26 rfl) (gClose_spec b4 st64 _ hx68) (fun _ hs => (Src.triv _)) rfl ?_
    refine TL.run ft_value_ok [2] rfl rfl ?_
    refine TL.nil (X.seq (T.seq (T.seq (T.region rfl ?_))))
    refine TL.run ft_value_ok [0, 1] rfl rfl ?_
    by_cases c69 : x66 = 0
    · replace h := ifT c69 h
      refine TL.nil (X.seq ?_)
      refine T.yes rfl (decide_eq_true c69) ?_
      refine T.region rfl ?_
      refine TL.q rfl .u (Ex.bS (us := [.int .i64 x42, .int .i64 x45, .int .i64 x48, .int .i64 x51, .slice A56 x55.length c57, .int .i64 x60, .int .i64 x63]) 1 rfl Try.isAgg64 Try.sizeOf64 rfl rfl rfl) rfl ?_
      obtain ⟨x70, hx71, h⟩ := Option.bind_eq_some_iff.1 h
      refine TL.ce rfl .u (.fn Try.call63 rfl) (f_value_Check_spec (⟨x42, x45, x48, x51, x55, x60, x63⟩ : Val) _ _ _ hx71) (fun _ hs => (SrcE.res 0 hs rfl (fun w G h => rd_reads w G h))) rfl ?_
      refine TL.run ft_value_ok [2] rfl rfl ?_
      refine TL.nil (X.seq (T.seq (T.seq (T.region rfl ?_))))
      refine TL.run ft_value_ok [0, 1] rfl rfl ?_
      by_cases c72 : x70 = 0
      · replace h := ifT c72 h
        refine TL.nil (X.seq ?_)
        refine T.no rfl (bn_f (decide_eq_true c72)) ?_
        refine T.skip (X.seq (T.seq (T.region rfl ?_)))
        refine TL.q rfl .u (Ex.bS (us := [.int .i64 x42, .int .i64 x45, .int .i64 x48, .int .i64 x51, .slice A56 x55.length c57, .int .i64 x60, .int .i64 x63]) 1 rfl Try.isAgg64 Try.sizeOf64 rfl rfl rfl) rfl ?_
        refine TL.st3 (cs' := #[.int .i64 x42, .int .i64 x45, .int .i64 x48, .int .i64 x51, .slice A56 x55.length c57, .int .i64 x60, .int .i64 x63]) rfl .u rfl rfl Try.sizeOf64 rfl rfl rfl rfl ?_
        refine TL.run ft_value_ok [2] rfl rfl ?_
        obtain rfl := Option.some.inj h
        exact TL.nil (X.seq (T.ret (X.done2 [4, 0] Try.results37 (RV.cS (us := #[.int .i64 x42, .int .i64 x45, .int .i64 x48, .int .i64 x51, .slice A56 x55.length c57, .int .i64 x60, .int .i64 x63]) 3 rfl Try.isAgg64 Try.sizeOf64 rfl rfl) (RV.tm rfl) ⟨_, _, rfl, rfl, rfl⟩ (by rfl) (.inl rfl))))
      · replace h := ifF c72 h
        refine TL.nil (X.seq ?_)
        refine T.yes rfl (bn_t (decide_eq_false c72)) ?_
        refine T.seq (T.region rfl ?_)
        refine TL.q rfl .u (Ex.bld (cells := #[.int .i64 0, .int .i64 0, .int .i64 0, .int .i64 0, .slice none 0 0, .int .i64 0, .int .i64 0]) bok_value_64 rfl (by rfl)) rfl ?_
        refine TL.run ft_value_ok [1] rfl rfl ?_
        refine TL.st3 (cs' := #[.int .i64 0, .int .i64 0, .int .i64 0, .int .i64 0, .slice none 0 0, .int .i64 0, .int .i64 0]) rfl .u rfl rfl Try.sizeOf64 rfl rfl rfl rfl ?_
        refine TL.run ft_value_ok [3] rfl rfl ?_
        obtain rfl := Option.some.inj h
        refine TL.nil (X.seq (T.ret (X.rs ?_)))
        refine X.nilrd 2 Top_rd ?_
        exact X.done2 [5, 0] Try.results37 (RV.cS (us := #[.int .i64 0, .int .i64 0, .int .i64 0, .int .i64 0, .slice none 0 0, .int .i64 0, .int .i64 0]) 4 rfl Try.isAgg64 Try.sizeOf64 rfl rfl) (RV.tm rfl) ⟨_, _, rfl, rfl, rfl⟩ (by rfl) (.inl rfl)
    · replace h := ifF c69 h
      refine TL.nil (X.seq ?_)
      refine T.no rfl (decide_eq_false c69) ?_
      refine T.skip (X.seq (T.seq (T.seq (T.region rfl ?_))))
      refine TL.run ft_value_ok [0, 1] rfl rfl ?_
      refine TL.nil (X.seq ?_)
      refine T.yes rfl (bn_t (decide_eq_false c69)) ?_
      refine T.seq (T.region rfl ?_)
      refine TL.q rfl .u (Ex.bld (cells := #[.int .i64 0, .int .i64 0, .int .i64 0, .int .i64 0, .slice none 0 0, .int .i64 0, .int .i64 0]) bok_value_64 rfl (by rfl)) rfl ?_
      refine TL.run ft_value_ok [1] rfl rfl ?_
      refine TL.st3 (cs' := #[.int .i64 0, .int .i64 0, .int .i64 0, .int .i64 0, .slice none 0 0, .int .i64 0, .int .i64 0]) rfl .u rfl rfl Try.sizeOf64 rfl rfl rfl rfl ?_
      refine TL.run ft_value_ok [3] rfl rfl ?_
      obtain rfl := Option.some.inj h
      refine TL.nil (X.seq (T.ret (X.rs ?_)))
      refine X.nilrd 2 Top_rd ?_
      exact X.done2 [5, 0] Try.results37 (RV.cS (us := #[.int .i64 0, .int .i64 0, .int .i64 0, .int .i64 0, .slice none 0 0, .int .i64 0, .int .i64 0]) 4 rfl Try.isAgg64 Try.sizeOf64 rfl rfl) (RV.tm rfl) ⟨_, _, rfl, rfl, rfl⟩ (by rfl) (.inl rfl)
def f_value_PutTopics_l2 : List Int → (List UInt8 × Int) → Option (List UInt8 × Int)
  | [], st24 => some st24
  | x29 :: xs, st24 => (gOInt st24 x29 4).bind fun st33 => f_value_PutTopics_l2 xs st33
def f_value_PutTopics_l1 : List Top → (List UInt8 × Int) → Option (List UInt8 × Int)
  | [], st6 => some st6
  | x11 :: xs, st6 => (gPutText st6 x11.fName).bind fun st19 => (gOInt st19 (x11.fParts.length : Int) 4).bind fun st21 => (f_value_PutTopics_l2 x11.fParts st21).bind fun st36 => f_value_PutTopics_l1 xs st36
def f_value_PutTopics (st : List UInt8 × Int) (a1 : List Top) : Option (List UInt8 × Int) := (gOInt st (a1.length : Int) 4).bind fun st3 => (f_value_PutTopics_l1 a1 st3).bind fun st38 => some st38
set_option maxRecDepth 100000 in
set_option maxHeartbeats 4000000 in
theorem f_value_PutTopics_spec (g : Nat) (st : List UInt8 × Int) (a1 : List Top) (A1 : Option Addr) (c2 : Nat) (r : List UInt8 × Int) (h : f_value_PutTopics st a1 = some r) : SpecX Try.prog 60 #[.pointer (some ⟨g, 0, none⟩), .slice A1 a1.length c2] (RX.of (sliceRd 2 Top_rd) [.slice A1 a1.length c2] a1) (OutR g st) (fun v A' N => v = .tuple #[] ∧ A' = OutR g r ∧ N = []) := by
  refine enterA Try.func60 rfl Try.ntmps60 rfl ?_
  intro F w hX
  unfold f_value_PutTopics at h
  refine T.seq (T.region rfl ?_)
  refine TL.run ft_value_ok [0, 1] rfl rfl ?_
  refine TL.q rfl .u (Ex.lenS rfl Try.runUnderlying62) rfl ?_
  obtain ⟨st3, hx4, h⟩ := Option.bind_eq_some_iff.1 h
  refine TL.c0 rfl .u (.fn Try.call82 rfl) (gOInt_spec g st (a1.length : Int) 4 _ hx4) (fun _ hs => (Src.triv _)) rfl ?_
  refine TL.nil (X.seq (T.seq (T.region rfl ?_)))
  refine TL.run ft_value_ok [0] rfl rfl ?_
  refine TL.q rfl .u (Ex.lenS rfl Try.runUnderlying62) rfl ?_
  refine TL.run ft_value_ok [2] rfl rfl ?_
  refine TL.nil (X.seq (T.block ?_))
  obtain ⟨E7, hE8, hO9⟩ := Option.bind_eq_some_iff.1 h
  have hk13len := RX.len_le hX
  refine T.lp (fun m e Rs => ∃ (k5 : Nat) (st6 : List UInt8 × Int), k5 + m = a1.length ∧ e = [(0, .pointer (some ⟨g, 0, none⟩)), (12, .slice A1 a1.length c2), (13, .int .i64 (a1.length : Int)), (14, .int .i64 (k5 : Int))] ∧ Rs = [OutR g st6] ∧ f_value_PutTopics_l1 (a1.drop k5) st6 = some E7) (a1.length) [0] ⟨0, st3, by simp, rfl, rfl, by rw [List.drop_zero]; exact hE8⟩ (by rfl) (by rfl) ?_
  rintro m10 _ _ ⟨k5, st6, hk13, rfl, rfl, hl12⟩
  clear hE8 h
  cases m10 with
  | zero =>
    have h := hl12
    clear hl12
    rw [List.drop_of_length_le (by omega), f_value_PutTopics_l1] at h
    have hk13ge : ¬ ((k5 : Int) < (a1.length : Int)) := by omega
    refine T.seq (T.region rfl ?_)
    refine TL.run ft_value_ok [0] rfl rfl ?_
    refine TL.nil (X.seq (T.seq ?_))
    refine T.no rfl (decide_eq_false hk13ge) ?_
    obtain rfl := Option.some.inj h
    replace h := hO9
    clear hO9
    try dsimp only at h
    obtain rfl := Option.some.inj h
    exact T.exit (X.exs (X.exs (X.ex (X.done0 [0] Try.results60 ⟨rfl, rfl, rfl⟩ (by rfl) (.inr rfl)))))
  | succ m10 =>
    have h := hl12
    clear hl12
    obtain ⟨x11, hxx11⟩ : ∃ x, a1[k5]? = some x := ⟨_, List.getElem?_eq_getElem (by omega)⟩
    rw [drop_cons hxx11, f_value_PutTopics_l1] at h
    have hk13lt : (k5 : Int) < (a1.length : Int) := by omega
    refine T.seq (T.region rfl ?_)
    refine TL.run ft_value_ok [0] rfl rfl ?_
    refine TL.nil (X.seq (T.seq ?_))
    refine T.yes rfl (decide_eq_true hk13lt) ?_
    obtain ⟨gz14, oz14, rfl, z14cs, z14cl, z14cc, z14nf, z14r⟩ := RX.elem (by decide) hX hxx11
    obtain ⟨z14S, z14r, z14rr⟩ := z14r
    obtain ⟨A15, c16, rfl, z14s0⟩ := z14r
    have hX17 : (RX.of (sliceRd 1 intE) [.slice A15 x11.fParts.length c16] x11.fParts).reads w F := ⟨z14S, z14s0, z14rr⟩
    refine T.skip (X.seq (T.seq (T.block (T.seq (T.region rfl ?_)))))
    refine TL.q rfl .u (Ex.ixS (k := k5) rfl rfl rfl Try.runUnderlying62 Try.sizeOf104 (List.getElem?_eq_some_iff.1 hxx11).1) rfl ?_
    refine TL.q rfl .u (Ex.oS (us := [.string (bsOf x11.fName), .slice A15 x11.fParts.length c16]) 0 rfl Try.isAgg104 Try.sizeOf104 z14nf z14cc rfl rfl rfl) rfl ?_
    refine TL.alloc rfl .u Try.zeroValue104 rfl (fun b18 => ?_)
    refine TL.st0 (cs' := #[.string (bsOf x11.fName), .slice A15 x11.fParts.length c16]) rfl .u rfl rfl Try.sizeOf104 rfl rfl rfl rfl ?_
    refine TL.nil (X.seq (T.seq (T.region rfl ?_)))
    refine TL.run ft_value_ok [0, 1] rfl rfl ?_
    refine TL.q rfl .u (Ex.b1 0 rfl Try.isAgg9 rfl rfl) rfl ?_
    obtain ⟨st19, hx20, h⟩ := Option.bind_eq_some_iff.1 h
    refine TL.c1 rfl .u (.fn Try.call118 rfl) (gPutText_spec g st6 x11.fName _ hx20) (fun _ hs => (Src.triv _)) rfl ?_
    refine TL.nil (X.seq (T.seq (T.region rfl ?_)))
    refine TL.run ft_value_ok [0, 1] rfl rfl ?_
    refine TL.q rfl .u (Ex.b1 0 rfl Try.isAgg102 rfl rfl) rfl ?_
    refine TL.q rfl .u (Ex.lenS rfl Try.runUnderlying102) rfl ?_
    obtain ⟨st21, hx22, h⟩ := Option.bind_eq_some_iff.1 h
    refine TL.c1 rfl .u (.fn Try.call82 rfl) (gOInt_spec g st19 (x11.fParts.length : Int) 4 _ hx22) (fun _ hs => (Src.triv _)) rfl ?_
    refine TL.nil (X.seq (T.seq (T.region rfl ?_)))
    refine TL.run ft_value_ok [0] rfl rfl ?_
    refine TL.q rfl .u (Ex.b1 0 rfl Try.isAgg102 rfl rfl) rfl ?_
    refine TL.q rfl .u (Ex.lenS rfl Try.runUnderlying102) rfl ?_
    refine TL.run ft_value_ok [3] rfl rfl ?_
    refine TL.nil (X.seq (T.block ?_))
    obtain ⟨E25, hE26, hO27⟩ := Option.bind_eq_some_iff.1 h
    have hk31len := RX.len_le hX17
    refine T.lp (fun m e Rs => ∃ (k23 : Nat) (st24 : List UInt8 × Int), k23 + m = x11.fParts.length ∧ e = [(0, .pointer (some ⟨g, 0, none⟩)), (12, .slice (some ⟨gz14, oz14, none⟩) a1.length c2), (13, .int .i64 (a1.length : Int)), (14, .int .i64 (k5 : Int)), (28, .slice A15 x11.fParts.length c16), (29, .int .i64 (x11.fParts.length : Int)), (30, .int .i64 (k23 : Int))] ∧ Rs = [BlkR b18 104 #[.string (bsOf x11.fName), .slice A15 x11.fParts.length c16], OutR g st24] ∧ f_value_PutTopics_l2 (x11.fParts.drop k23) st24 = some E25) (x11.fParts.length) [0, 0] ⟨0, st21, by simp, rfl, rfl, by rw [List.drop_zero]; exact hE26⟩ (by rfl) (by rfl) ?_
    rintro m28 _ _ ⟨k23, st24, hk31, rfl, rfl, hl30⟩
    clear hE26 h
    cases m28 with
    | zero =>
      have h := hl30
      clear hl30
      rw [List.drop_of_length_le (by omega), f_value_PutTopics_l2] at h
      have hk31ge : ¬ ((k23 : Int) < (x11.fParts.length : Int)) := by omega
      refine T.seq (T.region rfl ?_)
      refine TL.run ft_value_ok [0] rfl rfl ?_
      refine TL.nil (X.seq (T.seq ?_))
      refine T.no rfl (decide_eq_false hk31ge) ?_
      obtain rfl := Option.some.inj h
      replace h := hO27
      clear hO27
      try dsimp only at h
      refine T.exit (X.exs (X.exs (X.ex (X.blk (X.seq (T.region rfl ?_))))))
      refine TL.q rfl .u (Ex.add rfl rfl (by omega)) rfl ?_
      refine TL.run ft_value_ok [1] rfl rfl ?_
      exact TL.nil (X.back (m' := m10) [1] (by omega) ⟨k5 + 1, st24, by omega, rfl, rfl, h⟩ (by rfl) (by rfl))
    | succ m28 =>
      have h := hl30
      clear hl30
      obtain ⟨x29, hxx29⟩ : ∃ x, x11.fParts[k23]? = some x := ⟨_, List.getElem?_eq_getElem (by omega)⟩
      rw [drop_cons hxx29, f_value_PutTopics_l2] at h
      have hk31lt : (k23 : Int) < (x11.fParts.length : Int) := by omega
      refine T.seq (T.region rfl ?_)
      refine TL.run ft_value_ok [0] rfl rfl ?_
      refine TL.nil (X.seq (T.seq ?_))
      refine T.yes rfl (decide_eq_true hk31lt) ?_
      obtain ⟨gz32, oz32, rfl, z32cs, z32cl, z32cc, z32nf, z32r⟩ := RX.elem (by decide) hX17 hxx29
      obtain ⟨z32S, z32r, z32rr⟩ := z32r
      obtain rfl : z32cs = [.int .i64 x29] := z32r
      refine T.skip (X.seq (T.seq (T.block (T.seq (T.region rfl ?_)))))
      refine TL.q rfl .u (Ex.ixS (k := k23) rfl rfl rfl Try.runUnderlying102 Try.sizeOf3 (List.getElem?_eq_some_iff.1 hxx29).1) rfl ?_
      refine TL.q rfl .u (Ex.o1 0 rfl Try.isAgg3 z32nf z32cc rfl rfl) rfl ?_
      refine TL.run ft_value_ok [2] rfl rfl ?_
      refine TL.nil (X.seq (T.region rfl ?_))
      obtain ⟨st33, hx34, h⟩ := Option.bind_eq_some_iff.1 h
      refine TL.run ft_value_ok [0, 1] rfl rfl ?_
      refine TL.c1 rfl .u (.fn Try.call82 rfl) (gOInt_spec g st24 x29 4 _ hx34) (fun _ hs => (Src.triv _)) rfl ?_
      refine TL.nil (X.blk (X.seq (T.region rfl ?_)))
      refine TL.q rfl .u (Ex.add rfl rfl (by omega)) rfl ?_
      refine TL.run ft_value_ok [1] rfl rfl ?_
      exact TL.nil (X.back (m' := m28) [0, 0] (by omega) ⟨k23 + 1, st33, by omega, rfl, rfl, h⟩ (by rfl) (by rfl))
def f_value_Encode (a0 : Val) : Option (List UInt8 × Int) := (f_value_Check a0).bind fun x4 => if x4 = 0 then ((gOInt ([], 0) 0 2).bind fun st8 => (gOInt st8 a0.fProducer 8).bind fun st10 => (gOInt st10 a0.fEpoch 2).bind fun st12 => (gOInt st12 a0.fTimeout 4).bind fun st14 => (gOInt st14 a0.fState 1).bind fun st16 => (f_value_PutTopics st16 a0.fTopics).bind fun st18 => (gOInt st18 a0.fUpdated 8).bind fun st20 => (gOInt st20 a0.fStarted 8).bind fun st22 => (gOText st22).bind fun (x24, x25, st26) => some (x24, x25)) else some ([], x4)
set_option maxRecDepth 100000 in
set_option maxHeartbeats 4000000 in
theorem f_value_Encode_spec (a0 : Val) (A1 : Option Addr) (c2 : Nat) (r : List UInt8 × Int) (h : f_value_Encode a0 = some r) : SpecX Try.prog 40 #[.agg #[.int .i64 a0.fProducer, .int .i64 a0.fEpoch, .int .i64 a0.fTimeout, .int .i64 a0.fState, .slice A1 a0.fTopics.length c2, .int .i64 a0.fUpdated, .int .i64 a0.fStarted]] (RX.of (sliceRd 2 Top_rd) [.slice A1 a0.fTopics.length c2] a0.fTopics) (EmpR) (fun v A' N => v = .tuple #[.string (bsOf r.1), .int .i64 r.2] ∧ A' = EmpR ∧ N = []) := by
  refine enterA Try.func40 rfl Try.ntmps40 rfl ?_
  intro F w hX
  unfold f_value_Encode at h
  refine T.seq (T.region rfl ?_)
  refine TL.box rfl .u rfl rfl (fun b3 => ?_)
  refine TL.run ft_value_ok [1, 2] rfl rfl ?_
  refine TL.nil (X.seq (T.seq (T.seq (T.region rfl ?_))))
  refine TL.q rfl .u (Ex.bS (us := [.int .i64 a0.fProducer, .int .i64 a0.fEpoch, .int .i64 a0.fTimeout, .int .i64 a0.fState, .slice A1 a0.fTopics.length c2, .int .i64 a0.fUpdated, .int .i64 a0.fStarted]) 0 rfl Try.isAgg64 Try.sizeOf64 rfl rfl rfl) rfl ?_
  obtain ⟨x4, hx5, h⟩ := Option.bind_eq_some_iff.1 h
  refine TL.ce rfl .u (.fn Try.call63 rfl) (f_value_Check_spec a0 _ _ _ hx5) (fun _ hs => (SrcE.old hs hX)) rfl ?_
  refine TL.run ft_value_ok [2] rfl rfl ?_
  refine TL.nil (X.seq (T.seq (T.region rfl ?_)))
  refine TL.run ft_value_ok [0, 1] rfl rfl ?_
  by_cases c6 : x4 = 0
  · replace h := ifT c6 h
    refine TL.nil (X.seq ?_)
    refine T.no rfl (bn_f (decide_eq_true c6)) ?_
    refine T.skip (X.seq (T.seq (T.region rfl ?_)))
    refine TL.newout rfl .u Try.zeroValue40 rfl (fun b7 => ?_)
    obtain ⟨st8, hx9, h⟩ := Option.bind_eq_some_iff.1 h
    refine TL.nil (X.seq (T.seq (T.region rfl ?_)))
    refine TL.c0 rfl .u (.fn Try.call82 rfl) (gOInt_spec b7 ([], 0) 0 2 _ hx9) (fun _ hs => (Src.triv _)) rfl ?_
    refine TL.nil (X.seq (T.seq (T.region rfl ?_)))
    refine TL.run ft_value_ok [0] rfl rfl ?_
    refine TL.q rfl .u (Ex.b1 1 rfl Try.isAgg3 rfl rfl) rfl ?_
    obtain ⟨st10, hx11, h⟩ := Option.bind_eq_some_iff.1 h
    refine TL.c0 rfl .u (.fn Try.call82 rfl) (gOInt_spec b7 st8 a0.fProducer 8 _ hx11) (fun _ hs => (Src.triv _)) rfl ?_
    refine TL.nil (X.seq (T.seq (T.region rfl ?_)))
    refine TL.run ft_value_ok [0] rfl rfl ?_
    refine TL.q rfl .u (Ex.b1 1 rfl Try.isAgg3 rfl rfl) rfl ?_
    obtain ⟨st12, hx13, h⟩ := Option.bind_eq_some_iff.1 h
    refine TL.c0 rfl .u (.fn Try.call82 rfl) (gOInt_spec b7 st10 a0.fEpoch 2 _ hx13) (fun _ hs => (Src.triv _)) rfl ?_
    refine TL.nil (X.seq (T.seq (T.region rfl ?_)))
    refine TL.run ft_value_ok [0] rfl rfl ?_
    refine TL.q rfl .u (Ex.b1 1 rfl Try.isAgg3 rfl rfl) rfl ?_
    obtain ⟨st14, hx15, h⟩ := Option.bind_eq_some_iff.1 h
    refine TL.c0 rfl .u (.fn Try.call82 rfl) (gOInt_spec b7 st12 a0.fTimeout 4 _ hx15) (fun _ hs => (Src.triv _)) rfl ?_
    refine TL.nil (X.seq (T.seq (T.region rfl ?_)))
    refine TL.run ft_value_ok [0] rfl rfl ?_
    refine TL.q rfl .u (Ex.b1 1 rfl Try.isAgg3 rfl rfl) rfl ?_
    obtain ⟨st16, hx17, h⟩ := Option.bind_eq_some_iff.1 h
    refine TL.c0 rfl .u (.fn Try.call82 rfl) (gOInt_spec b7 st14 a0.fState 1 _ hx17) (fun _ hs => (Src.triv _)) rfl ?_
    refine TL.nil (X.seq (T.seq (T.region rfl ?_)))
    refine TL.run ft_value_ok [0] rfl rfl ?_
    refine TL.q rfl .u (Ex.b1 1 rfl Try.isAgg62 rfl rfl) rfl ?_
    obtain ⟨st18, hx19, h⟩ := Option.bind_eq_some_iff.1 h
    refine TL.c0 rfl .u (.fn Try.call60 rfl) (f_value_PutTopics_spec b7 st16 a0.fTopics _ _ _ hx19) (fun _ hs => (Src.old hs hX)) rfl ?_
    refine TL.nil (X.seq (T.seq (T.region rfl ?_)))
    refine TL.run ft_value_ok [0] rfl rfl ?_
    refine TL.q rfl .u (Ex.b1 1 rfl Try.isAgg3 rfl rfl) rfl ?_
    obtain ⟨st20, hx21, h⟩ := Option.bind_eq_some_iff.1 h
    refine TL.c0 rfl .u (.fn Try.call82 rfl) (gOInt_spec b7 st18 a0.fUpdated 8 _ hx21) (fun _ hs => (Src.triv _)) rfl ?_
    refine TL.nil (X.seq (T.seq (T.region rfl ?_)))
    refine TL.run ft_value_ok [0] rfl rfl ?_
    refine TL.q rfl .u (Ex.b1 1 rfl Try.isAgg3 rfl rfl) rfl ?_
    obtain ⟨st22, hx23, h⟩ := Option.bind_eq_some_iff.1 h
    refine TL.c0 rfl .u (.fn Try.call82 rfl) (gOInt_spec b7 st20 a0.fStarted 8 _ hx23) (fun _ hs => (Src.triv _)) rfl ?_
    obtain ⟨⟨x24, x25, st26⟩, hx27, h⟩ := Option.bind_eq_some_iff.1 h
    try dsimp only at h
    refine TL.nil (X.seq (T.seq (T.region rfl ?_)))
    refine TL.c0 rfl .u (.fn Try.call23 rfl) (gOText_spec b7 st22 _ hx27) (fun _ hs => (Src.triv _)) rfl ?_
    refine TL.run ft_value_ok [1, 2, 3, 4] rfl rfl ?_
    obtain rfl := Option.some.inj h
    exact TL.nil (X.seq (T.ret (X.done2 [2] Try.results40 (RV.tm rfl) (RV.tm rfl) ⟨rfl, rfl, rfl⟩ (by rfl) (.inl rfl))))
  · replace h := ifF c6 h
    refine TL.nil (X.seq ?_)
    refine T.yes rfl (bn_t (decide_eq_false c6)) ?_
    refine T.seq (T.region rfl ?_)
    refine TL.run ft_value_ok [0, 1, 2] rfl rfl ?_
    obtain rfl := Option.some.inj h
    exact TL.nil (X.seq (T.ret (X.rs (X.done2 [1] Try.results40 (RV.tm rfl) (RV.tm rfl) ⟨rfl, rfl, rfl⟩ (by rfl) (.inl rfl)))))
def f_value_SameTopics1 (a0 : Top) (a1 : Top) : Option (Bool) := if a0.fName = a1.fName then ((f_slices_Equal a0.fParts a1.fParts).bind fun x8 => some x8) else some false
set_option maxRecDepth 100000 in
set_option maxHeartbeats 4000000 in
theorem f_value_SameTopics1_spec (a0 : Top) (A1 : Option Addr) (c2 : Nat) (a1 : Top) (A3 : Option Addr) (c4 : Nat) (r : Bool) (h : f_value_SameTopics1 a0 a1 = some r) : SpecX Try.prog 116 #[.agg #[.string (bsOf a0.fName), .slice A1 a0.fParts.length c2], .agg #[.string (bsOf a1.fName), .slice A3 a1.fParts.length c4]] (RX.and (RX.of (sliceRd 1 intE) [.slice A1 a0.fParts.length c2] a0.fParts) (RX.of (sliceRd 1 intE) [.slice A3 a1.fParts.length c4] a1.fParts)) (EmpR) (fun v A' N => v = .bool r ∧ A' = EmpR ∧ N = []) := by
  refine enterA Try.func116 rfl Try.ntmps116 rfl ?_
  intro F w hX
  unfold f_value_SameTopics1 at h
  refine T.seq (T.region rfl ?_)
  refine TL.box rfl .u rfl rfl (fun b5 => ?_)
  refine TL.box rfl .u rfl rfl (fun b6 => ?_)
  refine TL.run ft_value_ok [2] rfl rfl ?_
  refine TL.nil (X.seq (T.seq (T.region rfl ?_)))
  refine TL.run ft_value_ok [0] rfl rfl ?_
  refine TL.q rfl .u (Ex.b1 1 rfl Try.isAgg9 rfl rfl) rfl ?_
  refine TL.run ft_value_ok [2] rfl rfl ?_
  refine TL.q rfl .u (Ex.b1 0 rfl Try.isAgg9 rfl rfl) rfl ?_
  refine TL.q rfl .u (Ex.sEq rfl rfl) rfl ?_
  by_cases c7 : a0.fName = a1.fName
  · replace h := ifT c7 h
    refine TL.run ft_value_ok [5] rfl rfl ?_
    refine TL.q rfl (.g rfl rfl (decide_eq_true c7)) (Ex.ft ft_value_ok rfl) rfl ?_
    refine TL.q rfl (.g rfl rfl (decide_eq_true c7)) (Ex.b1 1 rfl Try.isAgg102 rfl rfl) rfl ?_
    refine TL.q rfl (.g rfl rfl (decide_eq_true c7)) (Ex.ft ft_value_ok rfl) rfl ?_
    refine TL.q rfl (.g rfl rfl (decide_eq_true c7)) (Ex.b1 0 rfl Try.isAgg102 rfl rfl) rfl ?_
    obtain ⟨x8, hx9, h⟩ := Option.bind_eq_some_iff.1 h
    refine TL.ce rfl (.g rfl rfl (decide_eq_true c7)) (.fn Try.call117 rfl) (f_slices_Equal_spec a0.fParts _ _ a1.fParts _ _ _ hx9) (fun _ hs => (RX.reads_and (SrcE.old hs (RX.reads_left hX)) (SrcE.old hs (RX.reads_right hX)))) rfl ?_
    refine TL.q rfl .u (Ex.py rfl (decide_eq_true c7) rfl) rfl ?_
    refine TL.run ft_value_ok [12] rfl rfl ?_
    obtain rfl := Option.some.inj h
    exact TL.nil (X.seq (T.ret (X.done1 [2] Try.results116 (RV.tm rfl) ⟨rfl, rfl, rfl⟩ (by rfl) (.inl rfl))))
  · replace h := ifF c7 h
    refine TL.run ft_value_ok [5] rfl rfl ?_
    refine TL.no rfl (.gn rfl rfl (decide_eq_false c7)) rfl ?_
    refine TL.no rfl (.gn rfl rfl (decide_eq_false c7)) rfl ?_
    refine TL.no rfl (.gn rfl rfl (decide_eq_false c7)) rfl ?_
    refine TL.no rfl (.gn rfl rfl (decide_eq_false c7)) rfl ?_
    refine TL.no rfl (.gn rfl rfl (decide_eq_false c7)) rfl ?_
    refine TL.q rfl .u (Ex.pn rfl (decide_eq_false c7) rfl) rfl ?_
    refine TL.run ft_value_ok [12] rfl rfl ?_
    obtain rfl := Option.some.inj h
    exact TL.nil (X.seq (T.ret (X.done1 [2] Try.results116 (RV.tm rfl) ⟨rfl, rfl, rfl⟩ (by rfl) (.inl rfl))))
def f_slices_EqualFunc_s2_l1 (a1 : List Top) : List Top → Bool → Nat → Option (Lp Bool Bool)
  | [], y6, k7 => some (Lp.go y6)
  | x12 :: xs, y6, k7 => (a1[k7]?).bind fun x35 => (f_value_SameTopics1 x12 x35).bind fun x42 => if x42 = true then (f_slices_EqualFunc_s2_l1 a1 xs y6 (k7 + 1)) else some (Lp.ret false)
def f_slices_EqualFunc_s2 (a0 : List Top) (a1 : List Top) : Option (Bool) := if (a0.length : Int) = (a1.length : Int) then ((f_slices_EqualFunc_s2_l1 a1 a0 false 0).bind fun e => match e with | .ret r => some r | .go y45 => some true) else some false
set_option maxRecDepth 100000 in
set_option maxHeartbeats 4000000 in
theorem f_slices_EqualFunc_s2_spec (a0 : List Top) (A1 : Option Addr) (c2 : Nat) (a1 : List Top) (A3 : Option Addr) (c4 : Nat) (r : Bool) (h : f_slices_EqualFunc_s2 a0 a1 = some r) : SpecX Try.prog 115 #[.slice A1 a0.length c2, .slice A3 a1.length c4, .func (.func 116) #[] #[]] (RX.and (RX.of (sliceRd 2 Top_rd) [.slice A1 a0.length c2] a0) (RX.of (sliceRd 2 Top_rd) [.slice A3 a1.length c4] a1)) (EmpR) (fun v A' N => v = .bool r ∧ A' = EmpR ∧ N = []) := by
  refine enterA Try.func115 rfl Try.ntmps115 rfl ?_
  intro F w hX
  unfold f_slices_EqualFunc_s2 at h
  refine T.seq (T.region rfl ?_)
  refine TL.run ft_value_ok [0] rfl rfl ?_
  refine TL.nil (X.seq (T.seq (T.seq (T.region rfl ?_))))
  refine TL.run ft_value_ok [0] rfl rfl ?_
  refine TL.q rfl .u (Ex.lenS rfl Try.runUnderlying62) rfl ?_
  refine TL.run ft_value_ok [2] rfl rfl ?_
  refine TL.q rfl .u (Ex.lenS rfl Try.runUnderlying62) rfl ?_
  refine TL.run ft_value_ok [4] rfl rfl ?_
  by_cases c5 : (a0.length : Int) = (a1.length : Int)
  · replace h := ifT c5 h
    refine TL.nil (X.seq ?_)
    refine T.no rfl (bn_f (decide_eq_true c5)) ?_
    refine T.skip (X.seq (T.seq (T.seq (T.region rfl ?_))))
    refine TL.run ft_value_ok [0] rfl rfl ?_
    refine TL.q rfl .u (Ex.lenS rfl Try.runUnderlying62) rfl ?_
    refine TL.run ft_value_ok [2] rfl rfl ?_
    refine TL.nil (X.seq (T.block ?_))
    obtain ⟨E8, hE9, hO10⟩ := Option.bind_eq_some_iff.1 h
    have hk14len := RX.len_le (RX.reads_left hX)
    refine T.lp (fun m e Rs => ∃ (y6 : Bool) (k7 : Nat), k7 + m = a0.length ∧ e = [(1, .slice A3 a1.length c4), (2, .func (.func 116) #[] #[]), (6, .bool y6), (15, .slice A1 a0.length c2), (16, .int .i64 (a0.length : Int)), (17, .int .i64 (k7 : Int))] ∧ Rs = [EmpR] ∧ f_slices_EqualFunc_s2_l1 a1 (a0.drop k7) y6 k7 = some E8) (a0.length) [0] ⟨false, 0, by simp, rfl, rfl, by rw [List.drop_zero]; exact hE9⟩ (by rfl) (by rfl) ?_
    rintro m11 _ _ ⟨y6, k7, hk14, rfl, rfl, hl13⟩
    clear hE9 h
    cases m11 with
    | zero =>
      have h := hl13
      clear hl13
      rw [List.drop_of_length_le (by omega), f_slices_EqualFunc_s2_l1] at h
      have hk14ge : ¬ ((k7 : Int) < (a0.length : Int)) := by omega
      refine T.seq (T.region rfl ?_)
      refine TL.run ft_value_ok [0] rfl rfl ?_
      refine TL.nil (X.seq (T.seq ?_))
      refine T.no rfl (decide_eq_false hk14ge) ?_
      obtain rfl := Option.some.inj h
      replace h := hO10
      clear hO10
      try dsimp only at h
      refine T.exit (X.exs (X.exs (X.ex (X.seq (T.seq (T.region rfl ?_))))))
      refine TL.run ft_value_ok [0] rfl rfl ?_
      obtain rfl := Option.some.inj h
      exact TL.nil (X.seq (T.ret (X.done1 [0] Try.results115 (RV.tm rfl) ⟨rfl, rfl, rfl⟩ (by rfl) (.inl rfl))))
    | succ m11 =>
      have h := hl13
      clear hl13
      obtain ⟨x12, hxx12⟩ : ∃ x, a0[k7]? = some x := ⟨_, List.getElem?_eq_getElem (by omega)⟩
      rw [drop_cons hxx12, f_slices_EqualFunc_s2_l1] at h
      have hk14lt : (k7 : Int) < (a0.length : Int) := by omega
      refine T.seq (T.region rfl ?_)
      refine TL.run ft_value_ok [0] rfl rfl ?_
      refine TL.nil (X.seq (T.seq ?_))
      refine T.yes rfl (decide_eq_true hk14lt) ?_
      refine T.skip (X.seq (T.seq (T.block (T.seq (T.region rfl ?_)))))
      obtain ⟨gz30, oz30, rfl, z30cs, z30cl, z30cc, z30nf, z30r⟩ := RX.elem (by decide) (RX.reads_left hX) hxx12
      obtain ⟨z30S, z30r, z30rr⟩ := z30r
      obtain ⟨A31, c32, rfl, z30s0⟩ := z30r
      have hX33 : (RX.of (sliceRd 1 intE) [.slice A31 x12.fParts.length c32] x12.fParts).reads w F := ⟨z30S, z30s0, z30rr⟩
      refine TL.run ft_value_ok [0] rfl rfl ?_
      refine TL.q rfl .u (Ex.ixS (k := k7) rfl rfl rfl Try.runUnderlying62 Try.sizeOf104 (List.getElem?_eq_some_iff.1 hxx12).1) rfl ?_
      refine TL.q rfl .u (Ex.oS (us := [.string (bsOf x12.fName), .slice A31 x12.fParts.length c32]) 0 rfl Try.isAgg104 Try.sizeOf104 z30nf z30cc rfl rfl rfl) rfl ?_
      refine TL.alloc rfl .u Try.zeroValue104 rfl (fun b34 => ?_)
      refine TL.run ft_value_ok [4] rfl rfl ?_
      refine TL.st0 (cs' := #[.string (bsOf x12.fName), .slice A31 x12.fParts.length c32]) rfl .u rfl rfl Try.sizeOf104 rfl rfl rfl rfl ?_
      refine TL.nil (X.seq (T.seq (T.region rfl ?_)))
      obtain ⟨x35, hx36, h⟩ := Option.bind_eq_some_iff.1 h
      obtain ⟨gz37, oz37, rfl, z37cs, z37cl, z37cc, z37nf, z37r⟩ := RX.elem (by decide) (RX.reads_right hX) hx36
      obtain ⟨z37S, z37r, z37rr⟩ := z37r
      obtain ⟨A38, c39, rfl, z37s0⟩ := z37r
      have hX40 : (RX.of (sliceRd 1 intE) [.slice A38 x35.fParts.length c39] x35.fParts).reads w F := ⟨z37S, z37s0, z37rr⟩
      refine TL.run ft_value_ok [0, 1] rfl rfl ?_
      refine TL.q rfl .u (Ex.ixS (k := k7) rfl rfl rfl Try.runUnderlying62 Try.sizeOf104 (List.getElem?_eq_some_iff.1 hx36).1) rfl ?_
      refine TL.q rfl .u (Ex.oS (us := [.string (bsOf x35.fName), .slice A38 x35.fParts.length c39]) 0 rfl Try.isAgg104 Try.sizeOf104 z37nf z37cc rfl rfl rfl) rfl ?_
      refine TL.alloc rfl .u Try.zeroValue104 rfl (fun b41 => ?_)
      refine TL.st0 (cs' := #[.string (bsOf x35.fName), .slice A38 x35.fParts.length c39]) rfl .u rfl rfl Try.sizeOf104 rfl rfl rfl rfl ?_
      refine TL.nil (X.seq (T.seq (T.region rfl ?_)))
      refine TL.run ft_value_ok [0] rfl rfl ?_
      refine TL.q rfl .u (Ex.bS (us := [.string (bsOf x12.fName), .slice A31 x12.fParts.length c32]) 1 rfl Try.isAgg104 Try.sizeOf104 rfl rfl rfl) rfl ?_
      refine TL.q rfl .u (Ex.bS (us := [.string (bsOf x35.fName), .slice A38 x35.fParts.length c39]) 0 rfl Try.isAgg104 Try.sizeOf104 rfl rfl rfl) rfl ?_
      obtain ⟨x42, hx43, h⟩ := Option.bind_eq_some_iff.1 h
      refine TL.ce rfl .u (.val rfl Try.call116 rfl rfl) (f_value_SameTopics1_spec x12 _ _ x35 _ _ _ hx43) (fun _ hs => (RX.reads_and (SrcE.old hs hX33) (SrcE.old hs hX40))) rfl ?_
      refine TL.run ft_value_ok [4] rfl rfl ?_
      by_cases c44 : x42 = true
      · replace h := ifT c44 h
        refine TL.nil (X.seq ?_)
        refine T.no rfl (bn_f c44) ?_
        refine T.skip (X.blk (X.seq (T.region rfl ?_)))
        refine TL.q rfl .u (Ex.add rfl rfl (by omega)) rfl ?_
        refine TL.run ft_value_ok [1] rfl rfl ?_
        exact TL.nil (X.back (m' := m11) [2] (by omega) ⟨y6, k7 + 1, by omega, rfl, rfl, h⟩ (by rfl) (by rfl))
      · replace h := ifF c44 h
        replace c44 := eq_false_of_ne_true c44
        refine TL.nil (X.seq ?_)
        refine T.yes rfl (bn_t c44) ?_
        refine T.seq (T.region rfl ?_)
        refine TL.run ft_value_ok [0] rfl rfl ?_
        obtain rfl := Option.some.inj h
        replace h := hO10
        clear hO10
        try dsimp only at h
        obtain rfl := Option.some.inj h
        exact TL.nil (X.seq (T.ret (X.rb (X.rs (X.rs (X.rb (X.rs (X.done1 [2] Try.results115 (RV.tm rfl) ⟨rfl, rfl, rfl⟩ (by rfl) (.inl rfl)))))))))
  · replace h := ifF c5 h
    refine TL.nil (X.seq ?_)
    refine T.yes rfl (bn_t (decide_eq_false c5)) ?_
    refine T.seq (T.region rfl ?_)
    refine TL.run ft_value_ok [0] rfl rfl ?_
    obtain rfl := Option.some.inj h
    exact TL.nil (X.seq (T.ret (X.rs (X.done1 [0] Try.results115 (RV.tm rfl) ⟨rfl, rfl, rfl⟩ (by rfl) (.inl rfl)))))
def f_value_SameTopics (a0 : List Top) (a1 : List Top) : Option (Bool) := (f_slices_EqualFunc_s2 a0 a1).bind fun x5 => some x5
set_option maxRecDepth 100000 in
set_option maxHeartbeats 4000000 in
theorem f_value_SameTopics_spec (a0 : List Top) (A1 : Option Addr) (c2 : Nat) (a1 : List Top) (A3 : Option Addr) (c4 : Nat) (r : Bool) (h : f_value_SameTopics a0 a1 = some r) : SpecX Try.prog 59 #[.slice A1 a0.length c2, .slice A3 a1.length c4] (RX.and (RX.of (sliceRd 2 Top_rd) [.slice A1 a0.length c2] a0) (RX.of (sliceRd 2 Top_rd) [.slice A3 a1.length c4] a1)) (EmpR) (fun v A' N => v = .bool r ∧ A' = EmpR ∧ N = []) := by
  refine enterA Try.func59 rfl Try.ntmps59 rfl ?_
  intro F w hX
  unfold f_value_SameTopics at h
  refine T.seq (T.region rfl ?_)
  refine TL.run ft_value_ok [0] rfl rfl ?_
  refine TL.nil (X.seq (T.seq (T.region rfl ?_)))
  obtain ⟨x5, hx6, h⟩ := Option.bind_eq_some_iff.1 h
  refine TL.run ft_value_ok [0, 1] rfl rfl ?_
  refine TL.ce rfl .u (.fn Try.call115 rfl) (f_slices_EqualFunc_s2_spec a0 _ _ a1 _ _ _ hx6) (fun _ hs => (RX.reads_and (SrcE.old hs (RX.reads_left hX)) (SrcE.old hs (RX.reads_right hX)))) rfl ?_
  refine TL.run ft_value_ok [3] rfl rfl ?_
  obtain rfl := Option.some.inj h
  exact TL.nil (X.seq (T.ret (X.done1 [0] Try.results59 (RV.tm rfl) ⟨rfl, rfl, rfl⟩ (by rfl) (.inl rfl))))
def f_value_Same (a0 : Val) (a1 : Val) : Option (Bool) := if a0.fProducer = a1.fProducer then (if a0.fEpoch = a1.fEpoch then (if a0.fTimeout = a1.fTimeout then (if a0.fState = a1.fState then (if a0.fUpdated = a1.fUpdated then (if a0.fStarted = a1.fStarted then ((f_value_SameTopics a0.fTopics a1.fTopics).bind fun x13 => some x13) else some false) else some false) else some false) else some false) else some false) else some false
set_option maxRecDepth 100000 in
set_option maxHeartbeats 4000000 in
theorem f_value_Same_spec (a0 : Val) (A1 : Option Addr) (c2 : Nat) (a1 : Val) (A3 : Option Addr) (c4 : Nat) (r : Bool) (h : f_value_Same a0 a1 = some r) : SpecX Try.prog 65 #[.agg #[.int .i64 a0.fProducer, .int .i64 a0.fEpoch, .int .i64 a0.fTimeout, .int .i64 a0.fState, .slice A1 a0.fTopics.length c2, .int .i64 a0.fUpdated, .int .i64 a0.fStarted], .agg #[.int .i64 a1.fProducer, .int .i64 a1.fEpoch, .int .i64 a1.fTimeout, .int .i64 a1.fState, .slice A3 a1.fTopics.length c4, .int .i64 a1.fUpdated, .int .i64 a1.fStarted]] (RX.and (RX.of (sliceRd 2 Top_rd) [.slice A1 a0.fTopics.length c2] a0.fTopics) (RX.of (sliceRd 2 Top_rd) [.slice A3 a1.fTopics.length c4] a1.fTopics)) (EmpR) (fun v A' N => v = .bool r ∧ A' = EmpR ∧ N = []) := by
  refine enterA Try.func65 rfl Try.ntmps65 rfl ?_
  intro F w hX
  unfold f_value_Same at h
  refine T.seq (T.region rfl ?_)
  refine TL.box rfl .u rfl rfl (fun b5 => ?_)
  refine TL.box rfl .u rfl rfl (fun b6 => ?_)
  refine TL.run ft_value_ok [2] rfl rfl ?_
  refine TL.nil (X.seq (T.seq (T.region rfl ?_)))
  refine TL.run ft_value_ok [0] rfl rfl ?_
  refine TL.q rfl .u (Ex.b1 1 rfl Try.isAgg3 rfl rfl) rfl ?_
  refine TL.run ft_value_ok [2] rfl rfl ?_
  refine TL.q rfl .u (Ex.b1 0 rfl Try.isAgg3 rfl rfl) rfl ?_
  by_cases c7 : a0.fProducer = a1.fProducer
  · replace h := ifT c7 h
    refine TL.run ft_value_ok [4, 5] rfl rfl ?_
    refine TL.q rfl (.g rfl rfl (decide_eq_true c7)) (Ex.ft ft_value_ok rfl) rfl ?_
    refine TL.q rfl (.g rfl rfl (decide_eq_true c7)) (Ex.b1 1 rfl Try.isAgg3 rfl rfl) rfl ?_
    refine TL.q rfl (.g rfl rfl (decide_eq_true c7)) (Ex.ft ft_value_ok rfl) rfl ?_
    refine TL.q rfl (.g rfl rfl (decide_eq_true c7)) (Ex.b1 0 rfl Try.isAgg3 rfl rfl) rfl ?_
    refine TL.q rfl (.g rfl rfl (decide_eq_true c7)) (Ex.ft ft_value_ok rfl) rfl ?_
    refine TL.q rfl .u (Ex.py rfl (decide_eq_true c7) rfl) rfl ?_
    by_cases c8 : a0.fEpoch = a1.fEpoch
    · replace h := ifT c8 h
      refine TL.run ft_value_ok [12] rfl rfl ?_
      refine TL.q rfl (.g rfl rfl (decide_eq_true c8)) (Ex.ft ft_value_ok rfl) rfl ?_
      refine TL.q rfl (.g rfl rfl (decide_eq_true c8)) (Ex.b1 1 rfl Try.isAgg3 rfl rfl) rfl ?_
      refine TL.q rfl (.g rfl rfl (decide_eq_true c8)) (Ex.ft ft_value_ok rfl) rfl ?_
      refine TL.q rfl (.g rfl rfl (decide_eq_true c8)) (Ex.b1 0 rfl Try.isAgg3 rfl rfl) rfl ?_
      refine TL.q rfl (.g rfl rfl (decide_eq_true c8)) (Ex.ft ft_value_ok rfl) rfl ?_
      refine TL.q rfl .u (Ex.py rfl (decide_eq_true c8) rfl) rfl ?_
      by_cases c9 : a0.fTimeout = a1.fTimeout
      · replace h := ifT c9 h
        refine TL.run ft_value_ok [19] rfl rfl ?_
        refine TL.q rfl (.g rfl rfl (decide_eq_true c9)) (Ex.ft ft_value_ok rfl) rfl ?_
        refine TL.q rfl (.g rfl rfl (decide_eq_true c9)) (Ex.b1 1 rfl Try.isAgg3 rfl rfl) rfl ?_
        refine TL.q rfl (.g rfl rfl (decide_eq_true c9)) (Ex.ft ft_value_ok rfl) rfl ?_
        refine TL.q rfl (.g rfl rfl (decide_eq_true c9)) (Ex.b1 0 rfl Try.isAgg3 rfl rfl) rfl ?_
        refine TL.q rfl (.g rfl rfl (decide_eq_true c9)) (Ex.ft ft_value_ok rfl) rfl ?_
        refine TL.q rfl .u (Ex.py rfl (decide_eq_true c9) rfl) rfl ?_
        by_cases c10 : a0.fState = a1.fState
        · replace h := ifT c10 h
          refine TL.run ft_value_ok [26] rfl rfl ?_
          refine TL.q rfl (.g rfl rfl (decide_eq_true c10)) (Ex.ft ft_value_ok rfl) rfl ?_
          refine TL.q rfl (.g rfl rfl (decide_eq_true c10)) (Ex.b1 1 rfl Try.isAgg3 rfl rfl) rfl ?_
          refine TL.q rfl (.g rfl rfl (decide_eq_true c10)) (Ex.ft ft_value_ok rfl) rfl ?_
          refine TL.q rfl (.g rfl rfl (decide_eq_true c10)) (Ex.b1 0 rfl Try.isAgg3 rfl rfl) rfl ?_
          refine TL.q rfl (.g rfl rfl (decide_eq_true c10)) (Ex.ft ft_value_ok rfl) rfl ?_
          refine TL.q rfl .u (Ex.py rfl (decide_eq_true c10) rfl) rfl ?_
          by_cases c11 : a0.fUpdated = a1.fUpdated
          · replace h := ifT c11 h
            refine TL.run ft_value_ok [33] rfl rfl ?_
            refine TL.q rfl (.g rfl rfl (decide_eq_true c11)) (Ex.ft ft_value_ok rfl) rfl ?_
            refine TL.q rfl (.g rfl rfl (decide_eq_true c11)) (Ex.b1 1 rfl Try.isAgg3 rfl rfl) rfl ?_
            refine TL.q rfl (.g rfl rfl (decide_eq_true c11)) (Ex.ft ft_value_ok rfl) rfl ?_
            refine TL.q rfl (.g rfl rfl (decide_eq_true c11)) (Ex.b1 0 rfl Try.isAgg3 rfl rfl) rfl ?_
            refine TL.q rfl (.g rfl rfl (decide_eq_true c11)) (Ex.ft ft_value_ok rfl) rfl ?_
            refine TL.q rfl .u (Ex.py rfl (decide_eq_true c11) rfl) rfl ?_
            by_cases c12 : a0.fStarted = a1.fStarted
            · replace h := ifT c12 h
              refine TL.run ft_value_ok [40] rfl rfl ?_
              refine TL.q rfl (.g rfl rfl (decide_eq_true c12)) (Ex.ft ft_value_ok rfl) rfl ?_
              refine TL.q rfl (.g rfl rfl (decide_eq_true c12)) (Ex.b1 1 rfl Try.isAgg62 rfl rfl) rfl ?_
              refine TL.q rfl (.g rfl rfl (decide_eq_true c12)) (Ex.ft ft_value_ok rfl) rfl ?_
              refine TL.q rfl (.g rfl rfl (decide_eq_true c12)) (Ex.b1 0 rfl Try.isAgg62 rfl rfl) rfl ?_
              obtain ⟨x13, hx14, h⟩ := Option.bind_eq_some_iff.1 h
              refine TL.ce rfl (.g rfl rfl (decide_eq_true c12)) (.fn Try.call59 rfl) (f_value_SameTopics_spec a0.fTopics _ _ a1.fTopics _ _ _ hx14) (fun _ hs => (RX.reads_and (SrcE.old hs (RX.reads_left hX)) (SrcE.old hs (RX.reads_right hX)))) rfl ?_
              refine TL.q rfl .u (Ex.py rfl (decide_eq_true c12) rfl) rfl ?_
              refine TL.run ft_value_ok [47] rfl rfl ?_
              obtain rfl := Option.some.inj h
              exact TL.nil (X.seq (T.ret (X.done1 [2] Try.results65 (RV.tm rfl) ⟨rfl, rfl, rfl⟩ (by rfl) (.inl rfl))))
            · replace h := ifF c12 h
              refine TL.run ft_value_ok [40] rfl rfl ?_
              refine TL.no rfl (.gn rfl rfl (decide_eq_false c12)) rfl ?_
              refine TL.no rfl (.gn rfl rfl (decide_eq_false c12)) rfl ?_
              refine TL.no rfl (.gn rfl rfl (decide_eq_false c12)) rfl ?_
              refine TL.no rfl (.gn rfl rfl (decide_eq_false c12)) rfl ?_
              refine TL.no rfl (.gn rfl rfl (decide_eq_false c12)) rfl ?_
              refine TL.q rfl .u (Ex.pn rfl (decide_eq_false c12) rfl) rfl ?_
              refine TL.run ft_value_ok [47] rfl rfl ?_
              obtain rfl := Option.some.inj h
              exact TL.nil (X.seq (T.ret (X.done1 [2] Try.results65 (RV.tm rfl) ⟨rfl, rfl, rfl⟩ (by rfl) (.inl rfl))))
          · replace h := ifF c11 h
            refine TL.run ft_value_ok [33] rfl rfl ?_
            refine TL.no rfl (.gn rfl rfl (decide_eq_false c11)) rfl ?_
            refine TL.no rfl (.gn rfl rfl (decide_eq_false c11)) rfl ?_
            refine TL.no rfl (.gn rfl rfl (decide_eq_false c11)) rfl ?_
            refine TL.no rfl (.gn rfl rfl (decide_eq_false c11)) rfl ?_
            refine TL.no rfl (.gn rfl rfl (decide_eq_false c11)) rfl ?_
            refine TL.q rfl .u (Ex.pn rfl (decide_eq_false c11) rfl) rfl ?_
            refine TL.run ft_value_ok [40] rfl rfl ?_
            refine TL.no rfl (.gn rfl rfl rfl) rfl ?_
            refine TL.no rfl (.gn rfl rfl rfl) rfl ?_
            refine TL.no rfl (.gn rfl rfl rfl) rfl ?_
            refine TL.no rfl (.gn rfl rfl rfl) rfl ?_
            refine TL.no rfl (.gn rfl rfl rfl) rfl ?_
            refine TL.q rfl .u (Ex.pn rfl rfl rfl) rfl ?_
            refine TL.run ft_value_ok [47] rfl rfl ?_
            obtain rfl := Option.some.inj h
            exact TL.nil (X.seq (T.ret (X.done1 [2] Try.results65 (RV.tm rfl) ⟨rfl, rfl, rfl⟩ (by rfl) (.inl rfl))))
        · replace h := ifF c10 h
          refine TL.run ft_value_ok [26] rfl rfl ?_
          refine TL.no rfl (.gn rfl rfl (decide_eq_false c10)) rfl ?_
          refine TL.no rfl (.gn rfl rfl (decide_eq_false c10)) rfl ?_
          refine TL.no rfl (.gn rfl rfl (decide_eq_false c10)) rfl ?_
          refine TL.no rfl (.gn rfl rfl (decide_eq_false c10)) rfl ?_
          refine TL.no rfl (.gn rfl rfl (decide_eq_false c10)) rfl ?_
          refine TL.q rfl .u (Ex.pn rfl (decide_eq_false c10) rfl) rfl ?_
          refine TL.run ft_value_ok [33] rfl rfl ?_
          refine TL.no rfl (.gn rfl rfl rfl) rfl ?_
          refine TL.no rfl (.gn rfl rfl rfl) rfl ?_
          refine TL.no rfl (.gn rfl rfl rfl) rfl ?_
          refine TL.no rfl (.gn rfl rfl rfl) rfl ?_
          refine TL.no rfl (.gn rfl rfl rfl) rfl ?_
          refine TL.q rfl .u (Ex.pn rfl rfl rfl) rfl ?_
          refine TL.run ft_value_ok [40] rfl rfl ?_
          refine TL.no rfl (.gn rfl rfl rfl) rfl ?_
          refine TL.no rfl (.gn rfl rfl rfl) rfl ?_
          refine TL.no rfl (.gn rfl rfl rfl) rfl ?_
          refine TL.no rfl (.gn rfl rfl rfl) rfl ?_
          refine TL.no rfl (.gn rfl rfl rfl) rfl ?_
          refine TL.q rfl .u (Ex.pn rfl rfl rfl) rfl ?_
          refine TL.run ft_value_ok [47] rfl rfl ?_
          obtain rfl := Option.some.inj h
          exact TL.nil (X.seq (T.ret (X.done1 [2] Try.results65 (RV.tm rfl) ⟨rfl, rfl, rfl⟩ (by rfl) (.inl rfl))))
      · replace h := ifF c9 h
        refine TL.run ft_value_ok [19] rfl rfl ?_
        refine TL.no rfl (.gn rfl rfl (decide_eq_false c9)) rfl ?_
        refine TL.no rfl (.gn rfl rfl (decide_eq_false c9)) rfl ?_
        refine TL.no rfl (.gn rfl rfl (decide_eq_false c9)) rfl ?_
        refine TL.no rfl (.gn rfl rfl (decide_eq_false c9)) rfl ?_
        refine TL.no rfl (.gn rfl rfl (decide_eq_false c9)) rfl ?_
        refine TL.q rfl .u (Ex.pn rfl (decide_eq_false c9) rfl) rfl ?_
        refine TL.run ft_value_ok [26] rfl rfl ?_
        refine TL.no rfl (.gn rfl rfl rfl) rfl ?_
        refine TL.no rfl (.gn rfl rfl rfl) rfl ?_
        refine TL.no rfl (.gn rfl rfl rfl) rfl ?_
        refine TL.no rfl (.gn rfl rfl rfl) rfl ?_
        refine TL.no rfl (.gn rfl rfl rfl) rfl ?_
        refine TL.q rfl .u (Ex.pn rfl rfl rfl) rfl ?_
        refine TL.run ft_value_ok [33] rfl rfl ?_
        refine TL.no rfl (.gn rfl rfl rfl) rfl ?_
        refine TL.no rfl (.gn rfl rfl rfl) rfl ?_
        refine TL.no rfl (.gn rfl rfl rfl) rfl ?_
        refine TL.no rfl (.gn rfl rfl rfl) rfl ?_
        refine TL.no rfl (.gn rfl rfl rfl) rfl ?_
        refine TL.q rfl .u (Ex.pn rfl rfl rfl) rfl ?_
        refine TL.run ft_value_ok [40] rfl rfl ?_
        refine TL.no rfl (.gn rfl rfl rfl) rfl ?_
        refine TL.no rfl (.gn rfl rfl rfl) rfl ?_
        refine TL.no rfl (.gn rfl rfl rfl) rfl ?_
        refine TL.no rfl (.gn rfl rfl rfl) rfl ?_
        refine TL.no rfl (.gn rfl rfl rfl) rfl ?_
        refine TL.q rfl .u (Ex.pn rfl rfl rfl) rfl ?_
        refine TL.run ft_value_ok [47] rfl rfl ?_
        obtain rfl := Option.some.inj h
        exact TL.nil (X.seq (T.ret (X.done1 [2] Try.results65 (RV.tm rfl) ⟨rfl, rfl, rfl⟩ (by rfl) (.inl rfl))))
    · replace h := ifF c8 h
      refine TL.run ft_value_ok [12] rfl rfl ?_
      refine TL.no rfl (.gn rfl rfl (decide_eq_false c8)) rfl ?_
      refine TL.no rfl (.gn rfl rfl (decide_eq_false c8)) rfl ?_
      refine TL.no rfl (.gn rfl rfl (decide_eq_false c8)) rfl ?_
      refine TL.no rfl (.gn rfl rfl (decide_eq_false c8)) rfl ?_
      refine TL.no rfl (.gn rfl rfl (decide_eq_false c8)) rfl ?_
      refine TL.q rfl .u (Ex.pn rfl (decide_eq_false c8) rfl) rfl ?_
      refine TL.run ft_value_ok [19] rfl rfl ?_
      refine TL.no rfl (.gn rfl rfl rfl) rfl ?_
      refine TL.no rfl (.gn rfl rfl rfl) rfl ?_
      refine TL.no rfl (.gn rfl rfl rfl) rfl ?_
      refine TL.no rfl (.gn rfl rfl rfl) rfl ?_
      refine TL.no rfl (.gn rfl rfl rfl) rfl ?_
      refine TL.q rfl .u (Ex.pn rfl rfl rfl) rfl ?_
      refine TL.run ft_value_ok [26] rfl rfl ?_
      refine TL.no rfl (.gn rfl rfl rfl) rfl ?_
      refine TL.no rfl (.gn rfl rfl rfl) rfl ?_
      refine TL.no rfl (.gn rfl rfl rfl) rfl ?_
      refine TL.no rfl (.gn rfl rfl rfl) rfl ?_
      refine TL.no rfl (.gn rfl rfl rfl) rfl ?_
      refine TL.q rfl .u (Ex.pn rfl rfl rfl) rfl ?_
      refine TL.run ft_value_ok [33] rfl rfl ?_
      refine TL.no rfl (.gn rfl rfl rfl) rfl ?_
      refine TL.no rfl (.gn rfl rfl rfl) rfl ?_
      refine TL.no rfl (.gn rfl rfl rfl) rfl ?_
      refine TL.no rfl (.gn rfl rfl rfl) rfl ?_
      refine TL.no rfl (.gn rfl rfl rfl) rfl ?_
      refine TL.q rfl .u (Ex.pn rfl rfl rfl) rfl ?_
      refine TL.run ft_value_ok [40] rfl rfl ?_
      refine TL.no rfl (.gn rfl rfl rfl) rfl ?_
      refine TL.no rfl (.gn rfl rfl rfl) rfl ?_
      refine TL.no rfl (.gn rfl rfl rfl) rfl ?_
      refine TL.no rfl (.gn rfl rfl rfl) rfl ?_
      refine TL.no rfl (.gn rfl rfl rfl) rfl ?_
      refine TL.q rfl .u (Ex.pn rfl rfl rfl) rfl ?_
      refine TL.run ft_value_ok [47] rfl rfl ?_
      obtain rfl := Option.some.inj h
      exact TL.nil (X.seq (T.ret (X.done1 [2] Try.results65 (RV.tm rfl) ⟨rfl, rfl, rfl⟩ (by rfl) (.inl rfl))))
  · replace h := ifF c7 h
    refine TL.run ft_value_ok [4, 5] rfl rfl ?_
    refine TL.no rfl (.gn rfl rfl (decide_eq_false c7)) rfl ?_
    refine TL.no rfl (.gn rfl rfl (decide_eq_false c7)) rfl ?_
    refine TL.no rfl (.gn rfl rfl (decide_eq_false c7)) rfl ?_
    refine TL.no rfl (.gn rfl rfl (decide_eq_false c7)) rfl ?_
    refine TL.no rfl (.gn rfl rfl (decide_eq_false c7)) rfl ?_
    refine TL.q rfl .u (Ex.pn rfl (decide_eq_false c7) rfl) rfl ?_
    refine TL.run ft_value_ok [12] rfl rfl ?_
    refine TL.no rfl (.gn rfl rfl rfl) rfl ?_
    refine TL.no rfl (.gn rfl rfl rfl) rfl ?_
    refine TL.no rfl (.gn rfl rfl rfl) rfl ?_
    refine TL.no rfl (.gn rfl rfl rfl) rfl ?_
    refine TL.no rfl (.gn rfl rfl rfl) rfl ?_
    refine TL.q rfl .u (Ex.pn rfl rfl rfl) rfl ?_
    refine TL.run ft_value_ok [19] rfl rfl ?_
    refine TL.no rfl (.gn rfl rfl rfl) rfl ?_
    refine TL.no rfl (.gn rfl rfl rfl) rfl ?_
    refine TL.no rfl (.gn rfl rfl rfl) rfl ?_
    refine TL.no rfl (.gn rfl rfl rfl) rfl ?_
    refine TL.no rfl (.gn rfl rfl rfl) rfl ?_
    refine TL.q rfl .u (Ex.pn rfl rfl rfl) rfl ?_
    refine TL.run ft_value_ok [26] rfl rfl ?_
    refine TL.no rfl (.gn rfl rfl rfl) rfl ?_
    refine TL.no rfl (.gn rfl rfl rfl) rfl ?_
    refine TL.no rfl (.gn rfl rfl rfl) rfl ?_
    refine TL.no rfl (.gn rfl rfl rfl) rfl ?_
    refine TL.no rfl (.gn rfl rfl rfl) rfl ?_
    refine TL.q rfl .u (Ex.pn rfl rfl rfl) rfl ?_
    refine TL.run ft_value_ok [33] rfl rfl ?_
    refine TL.no rfl (.gn rfl rfl rfl) rfl ?_
    refine TL.no rfl (.gn rfl rfl rfl) rfl ?_
    refine TL.no rfl (.gn rfl rfl rfl) rfl ?_
    refine TL.no rfl (.gn rfl rfl rfl) rfl ?_
    refine TL.no rfl (.gn rfl rfl rfl) rfl ?_
    refine TL.q rfl .u (Ex.pn rfl rfl rfl) rfl ?_
    refine TL.run ft_value_ok [40] rfl rfl ?_
    refine TL.no rfl (.gn rfl rfl rfl) rfl ?_
    refine TL.no rfl (.gn rfl rfl rfl) rfl ?_
    refine TL.no rfl (.gn rfl rfl rfl) rfl ?_
    refine TL.no rfl (.gn rfl rfl rfl) rfl ?_
    refine TL.no rfl (.gn rfl rfl rfl) rfl ?_
    refine TL.q rfl .u (Ex.pn rfl rfl rfl) rfl ?_
    refine TL.run ft_value_ok [47] rfl rfl ?_
    obtain rfl := Option.some.inj h
    exact TL.nil (X.seq (T.ret (X.done1 [2] Try.results65 (RV.tm rfl) ⟨rfl, rfl, rfl⟩ (by rfl) (.inl rfl))))
end Go.Proofs.Ytdlpmcbglmgpiaa.Sl
