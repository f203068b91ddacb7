/- WholeNumbers: for every input the law returns true, and its arguments read behind the call as they did before. -/
import Derived.Test.YtpiiopppbgpbpaaRows
import Derived.WalkKit
import Derived.ProofKit
import Derived.OpenShut
import Derived.ShutString
import Derived.ChangeOld
import Derived.Below
import Derived.SizedLaws
import Derived.Test.YtpiiopppbgpbpaaK0
namespace Go.Proofs.Ytpiiopppbgpbpaa.Sl
open Go.RowKit
set_option linter.unusedVariables false
set_option linter.unusedSimpArgs false
set_option maxRecDepth 100000
def ft_cursitortop : FTab := [(64, 0, 0), (64, 1, 1)]
theorem ft_cursitortop_ok : (ft_cursitortop).OK Try.prog := ⟨FOK.mk Try.runUnderlying64 rfl Try.sizeOf3 rfl, FOK.mk Try.runUnderlying64 rfl Try.sizeOf3 rfl, trivial⟩
theorem mix_cursitortop : Try.prog.follows .mixedOrders = true := by kernel_rfl
theorem sok_cursitortop_61_1 : SOK Try.prog 61 64 1 2 #[.int .i64 0, .int .i64 0] := SOK.mk Try.runUnderlying61 Try.sizeOf64 Try.zeroValue64 (by decide) (by kernel_rfl)
theorem inf_cursitortop_64 : (Try.prog.info? 64).map (fun i => (i.zero, i.size, i.bytes)) = some (some (.agg #[.int .i64 0, .int .i64 0]), 2, 16) := by kernel_rfl
def f_top_WholeNumbers_l1 : List Fld → List Fld → (List UInt8 × Int) → Option (List Fld × (List UInt8 × Int))
  | [], y16, st20 => some (y16, st20)
  | x25 :: xs, y16, st20 => (gRFits x25.fN x25.fSize).bind fun x30 => if x30 = true then ((gOInt st20 x25.fN x25.fSize).bind fun st33 => if (y16.length + 1) * 16 ≤ 140737488355328 then (f_top_WholeNumbers_l1 xs (y16 ++ [x25]) st33) else none) else (f_top_WholeNumbers_l1 xs y16 st20)
def f_top_WholeNumbers_l2 : List Fld → Bool → I → I → Option (Lp Bool (Bool × I × I))
  | [], y186, st188, st189 => some (Lp.go (y186, st188, st189))
  | x194 :: xs, y186, st188, st189 => (gInt st189 x194.fSize).bind fun (x199, st200) => if x199 = x194.fN then ((gInt st188 x194.fSize).bind fun (x203, st204) => f_top_WholeNumbers_l2 xs y186 st204 st200) else none
def f_top_WholeNumbers (a0 : List Fld) (a1 : List UInt8) : Option (Bool) := (gOInt ([], 0) 5 1).bind fun st4 => (gOLen st4).bind fun (x6, st7) => if x6 = 1 then ((if (a0.length : Int) > 60 then some true else (if (a1.length : Int) > 100 then some true else some false)).bind fun y11 => if y11 = true then some true else ((f_top_WholeNumbers_l1 a0 [] st7).bind fun (y39, st43) => (gOText st43).bind fun (x44, x45, st46) => if x45 = 0 then (if x44.length + a1.length ≤ 9223372036854775807 then (if -9223372036854775808 ≤ ((x44.length : Int) - 1) ∧ ((x44.length : Int) - 1) ≤ 9223372036854775807 then (if 0 ≤ ((x44.length : Int) - 1) ∧ ((x44.length : Int) - 1).toNat ≤ x44.length then ((gNew (x44 ++ a1)).bind fun st52 => (gNew (x44.take (((x44.length : Int) - 1).toNat))).bind fun st55 => (gInt st52 1).bind fun (x58, st59) => if x58 = 5 then ((gInt st55 1).bind fun (x62, st63) => (f_top_WholeNumbers_l2 y39 false st63 st59).bind fun e => match e with | .ret r => some r | .go (y85, st87, st88) => (((gLeft st88).bind fun (x109, st110) => if x109 = (a1.length : Int) then ((gClose st110).bind fun (x113, st114) => if x113 = 0 then (if a1 = [] then ((gClose st87).bind fun (x118, st119) => if x118 = 1 then some (true, st119, st114) else some (false, st119, st114)) else some (false, st87, st114)) else (if a1 = [] then some (false, st87, st114) else ((gClose st87).bind fun (x123, st124) => if x123 = 1 then some (true, st124, st114) else some (false, st124, st114)))) else some (false, st87, st110)).bind fun (y105, st106, st107) => some y105)) else none) else none) else none) else none) else none)) else none
set_option maxRecDepth 100000 in
set_option maxHeartbeats 4000000 in
theorem f_top_WholeNumbers_spec (a0 : List Fld) (A1 : Option Addr) (c2 : Nat) (a1 : List UInt8) (r : Bool) (h : f_top_WholeNumbers a0 a1 = some r) : SpecX Try.prog 6 #[.slice A1 a0.length c2, .string (bsOf a1)] (RX.of (sliceRd 2 Fld_rd) [.slice A1 a0.length c2] a0) (EmpR) (fun v A' N => v = .bool r ∧ A' = EmpR ∧ N = []) := by
  refine enterA Try.func6 rfl Try.ntmps6 rfl ?_
  intro F w hX
  unfold f_top_WholeNumbers at h
  refine T.seq (T.region rfl ?_)
  refine TL.run ft_cursitortop_ok [0] rfl rfl ?_
  refine TL.nil (X.seq (T.seq (T.region rfl ?_)))
  refine TL.newout rfl .u Try.zeroValue42 rfl (fun b3 => ?_)
  obtain ⟨st4, hx5, h⟩ := Option.bind_eq_some_iff.1 h
  refine TL.nil (X.seq (T.seq (T.seq (T.region rfl ?_))))
  refine TL.c0 rfl .u (.fn Try.call34 rfl) (gOInt_spec b3 ([], 0) 5 1 _ hx5) (fun _ hs => (Src.triv _)) rfl ?_
  obtain ⟨⟨x6, st7⟩, hx8, h⟩ := Option.bind_eq_some_iff.1 h
  try dsimp only at h
  refine TL.nil (X.seq (T.seq (T.region rfl ?_)))
  refine TL.c0 rfl .u (.fn Try.call35 rfl) (gOLen_spec b3 st4 _ hx8) (fun _ hs => (Src.triv _)) rfl ?_
  refine TL.run ft_cursitortop_ok [1] rfl rfl ?_
  by_cases c9 : x6 = 1
  · replace h := ifT c9 h
    refine TL.nil (X.seq ?_)
    refine T.no rfl (bn_f (decide_eq_true c9)) ?_
    refine T.skip (X.seq (T.seq (T.seq ?_)))
    obtain ⟨y11, h, hk12⟩ := Option.bind_eq_some_iff.1 h
    refine T.jq (fun e Rs => e = [(0, .slice A1 a0.length c2), (1, .string (bsOf a1)), (4, .bool false), (5, .pointer (some ⟨b3, 0, none⟩)), (25, .bool y11)] ∧ Rs = [OutR b3 st7, EmpR]) ?_ ?_
    · clear hk12
      refine T.region rfl ?_
      refine TL.run ft_cursitortop_ok [0] rfl rfl ?_
      refine TL.q rfl .u (Ex.lenS rfl Try.runUnderlying61) rfl ?_
      by_cases c13 : (a0.length : Int) > 60
      · replace h := ifT c13 h
        refine TL.run ft_cursitortop_ok [2, 3] rfl rfl ?_
        refine TL.no rfl (.gn rfl rfl (decide_eq_true c13)) rfl ?_
        refine TL.no rfl (.gn rfl rfl (decide_eq_true c13)) rfl ?_
        refine TL.no rfl (.gn rfl rfl (decide_eq_true c13)) rfl ?_
        refine TL.q rfl .u (Ex.py rfl (decide_eq_true c13) rfl) rfl ?_
        cases h
        exact TL.nil (X.jq [0, 0] ⟨rfl, rfl⟩ (by rfl) (by rfl))
      · replace h := ifF c13 h
        refine TL.run ft_cursitortop_ok [2, 3] rfl rfl ?_
        refine TL.q rfl (.g rfl rfl (decide_eq_false c13)) (Ex.ft ft_cursitortop_ok rfl) rfl ?_
        refine TL.q rfl (.g rfl rfl (decide_eq_false c13)) (Ex.lenB rfl Try.runUnderlying9) rfl ?_
        refine TL.q rfl (.g rfl rfl (decide_eq_false c13)) (Ex.ft ft_cursitortop_ok rfl) rfl ?_
        refine TL.q rfl .u (Ex.pn rfl (decide_eq_false c13) rfl) rfl ?_
        by_cases c14 : (a1.length : Int) > 100
        · replace h := ifT c14 h
          cases h
          exact TL.nil (X.as (d := 25) (v' := .bool true) rfl (congrArg Value.bool (decide_eq_true c14)) (X.jq [0, 0] ⟨rfl, rfl⟩ (by rfl) (by rfl)))
        · replace h := ifF c14 h
          cases h
          exact TL.nil (X.as (d := 25) (v' := .bool false) rfl (congrArg Value.bool (decide_eq_false c14)) (X.jq [0, 0] ⟨rfl, rfl⟩ (by rfl) (by rfl)))
    · rintro _ _ ⟨rfl, rfl⟩
      clear h
      have h := hk12
      clear hk12
      try dsimp only at h
      by_cases c15 : y11 = true
      · replace h := ifT c15 h
        refine X.seq ?_
        refine T.yes rfl c15 ?_
        refine T.seq (T.region rfl ?_)
        refine TL.run ft_cursitortop_ok [0] rfl rfl ?_
        obtain rfl := Option.some.inj h
        exact TL.nil (X.seq (T.ret (X.rs (X.done1 [1] Try.results6 (RV.tm rfl) ⟨rfl, rfl, rfl⟩ (by rfl) (.inl rfl)))))
      · replace h := ifF c15 h
        replace c15 := eq_false_of_ne_true c15
        refine X.seq ?_
        refine T.no rfl c15 ?_
        refine T.skip (X.seq (T.seq (T.region rfl ?_)))
        refine TL.run ft_cursitortop_ok [0] rfl rfl ?_
        refine TL.nil (X.seq (T.seq (T.seq (T.region rfl ?_))))
        refine TL.run ft_cursitortop_ok [0] rfl rfl ?_
        refine TL.q rfl .u (Ex.lenS rfl Try.runUnderlying61) rfl ?_
        refine TL.run ft_cursitortop_ok [2] rfl rfl ?_
        refine TL.nil (X.seq (T.block ?_))
        refine T.nilrow 64 2 Fld_rd ?_
        obtain ⟨E21, hE22, hO23⟩ := Option.bind_eq_some_iff.1 h
        have hk27len := RX.len_le hX
        refine T.lp (fun m e Rs => ∃ (y16 : List Fld) (A17 : Option Addr) (c18 : Nat) (k19 : Nat) (st20 : List UInt8 × Int), k19 + m = a0.length ∧ e = [(1, .string (bsOf a1)), (4, .bool false), (5, .pointer (some ⟨b3, 0, none⟩)), (6, .slice A17 y16.length c18), (26, .slice A1 a0.length c2), (27, .int .i64 (a0.length : Int)), (28, .int .i64 (k19 : Int))] ∧ Rs = [OwnR 64 2 Fld_rd (.slice A17 y16.length c18) y16, OutR b3 st20, EmpR] ∧ f_top_WholeNumbers_l1 (a0.drop k19) y16 st20 = some E21) (a0.length) [0, 0, 0] ⟨[], none, 0, 0, st7, by simp, rfl, rfl, by rw [List.drop_zero]; exact hE22⟩ (by rfl) (by rfl) ?_
        rintro m24 _ _ ⟨y16, A17, c18, k19, st20, hk27, rfl, rfl, hl26⟩
        clear hE22 h
        cases m24 with
        | zero =>
          have h := hl26
          clear hl26
          rw [List.drop_of_length_le (by omega), f_top_WholeNumbers_l1] at h
          have hk27ge : ¬ ((k19 : Int) < (a0.length : Int)) := by omega
          refine T.seq (T.region rfl ?_)
          refine TL.run ft_cursitortop_ok [0] rfl rfl ?_
          refine TL.nil (X.seq (T.seq ?_))
          refine T.no rfl (decide_eq_false hk27ge) ?_
          obtain rfl := Option.some.inj h
          replace h := hO23
          clear hO23
          try dsimp only at h
          obtain ⟨⟨x165, x166, st167⟩, hx168, h⟩ := Option.bind_eq_some_iff.1 h
          try dsimp only at h
          refine T.exit (X.exs (X.exs (X.ex (X.seq (T.seq (T.region rfl ?_))))))
          refine TL.c1 rfl .u (.fn Try.call24 rfl) (gOText_spec b3 st20 _ hx168) (fun _ hs => (Src.triv _)) rfl ?_
          refine TL.run ft_cursitortop_ok [1, 2, 3, 4, 5] rfl rfl ?_
          refine TL.nil (X.seq (T.seq (T.seq (T.region rfl ?_))))
          refine TL.run ft_cursitortop_ok [0, 1] rfl rfl ?_
          by_cases c169 : x166 = 0
          · replace h := ifT c169 h
            refine TL.nil (X.seq ?_)
            refine T.no rfl (bn_f (decide_eq_true c169)) ?_
            refine T.skip (X.seq (T.seq (T.draw (.q 0 (.q 1 (.q 2 (.q 4 (.q 5 (.q 6 (.q 7 (.q 8 (.e 3 (.e 9 (.q 10 (.q 11 .nil)))))))))))) [0, 0, 0] rfl mix_cursitortop (NoP.seq np_post) (by kernel_rfl) ?_)))
            replace h := guard_some h
            obtain ⟨c170, h⟩ := h
            refine TD.run ft_cursitortop_ok [0, 1] rfl rfl ?_
            refine TD.q rfl .u (Ex.sAdd rfl rfl c170) rfl ?_
            refine TD.run ft_cursitortop_ok [4, 5] rfl rfl ?_
            refine TD.q rfl .u (Ex.lenB rfl Try.runUnderlying9) rfl ?_
            replace h := guard_some h
            obtain ⟨c171, h⟩ := h
            refine TD.q rfl .u (Ex.sub rfl rfl c171) rfl ?_
            replace h := guard_some h
            obtain ⟨c172, h⟩ := h
            replace c172 : 0 ≤ ((x165.length : Int) - 1) ∧ ((x165.length : Int) - 1).toNat ≤ x165.length := c172
            refine TD.q rfl .u (Ex.sSl (p := 0) (q := ((x165.length : Int) - 1).toNat) (m := (x165.take (((x165.length : Int) - 1).toNat))) rfl Try.runUnderlying9 .none (.some rfl ((Int.toNat_of_nonneg c172.1).symm)) (by first | omega | (dsimp only; omega)) (by simp)) rfl ?_
            obtain ⟨st173, hx174, h⟩ := Option.bind_eq_some_iff.1 h
            refine TD.cge rfl .u (.fn Try.call27 rfl) (gNew_spec (x165 ++ a1) _ hx174) (fun _ hs => (RX.reads_triv _ _)) rfl [1, 1, 1] ?_ ?_
            · rintro _ _ _ ⟨b175, rfl, rfl, rfl⟩
              rfl
            rintro _ _ _ ⟨b175, rfl, rfl, rfl⟩
            refine TD.sel [0, 0, 0, 0] rfl ?_
            obtain ⟨st176, hx177, h⟩ := Option.bind_eq_some_iff.1 h
            refine TD.cge rfl .u (.fn Try.call27 rfl) (gNew_spec (x165.take (((x165.length : Int) - 1).toNat)) _ hx177) (fun _ hs => (RX.reads_triv _ _)) rfl [2, 2, 2] ?_ ?_
            · rintro _ _ _ ⟨b178, rfl, rfl, rfl⟩
              rfl
            rintro _ _ _ ⟨b178, rfl, rfl, rfl⟩
            refine TD.sel [0, 0, 0, 0, 0] rfl ?_
            refine TD.run ft_cursitortop_ok [10, 11] rfl rfl ?_
            refine TD.nil (X.seq (T.seq (T.seq (T.region rfl ?_))))
            obtain ⟨⟨x179, st180⟩, hx181, h⟩ := Option.bind_eq_some_iff.1 h
            try dsimp only at h
            refine TL.run ft_cursitortop_ok [0] rfl rfl ?_
            refine TL.c1 rfl .u (.fn Try.call37 rfl) (gInt_spec b175 st173 1 _ hx181) (fun _ hs => (Src.triv _)) rfl ?_
            refine TL.run ft_cursitortop_ok [2] rfl rfl ?_
            by_cases c182 : x179 = 5
            · replace h := ifT c182 h
              refine TL.nil (X.seq ?_)
              refine T.no rfl (bn_f (decide_eq_true c182)) ?_
              refine T.skip (X.seq (T.seq (T.region rfl ?_)))
              obtain ⟨⟨x183, st184⟩, hx185, h⟩ := Option.bind_eq_some_iff.1 h
              try dsimp only at h
              refine TL.run ft_cursitortop_ok [0] rfl rfl ?_
              refine TL.c0 rfl .u (.fn Try.call37 rfl) (gInt_spec b178 st176 1 _ hx185) (fun _ hs => (Src.triv _)) rfl ?_
              refine TL.nil (X.seq (T.seq (T.seq (T.region rfl ?_))))
              refine TL.run ft_cursitortop_ok [0] rfl rfl ?_
              refine TL.q rfl .u (Ex.lenS rfl Try.runUnderlying61) rfl ?_
              refine TL.run ft_cursitortop_ok [2] rfl rfl ?_
              refine TL.nil (X.seq (T.block ?_))
              obtain ⟨E190, hE191, hO192⟩ := Option.bind_eq_some_iff.1 h
              refine T.blen 2 rfl (fun w G h => own_reads (by decide) w G h) (fun hk196len => ?_)
              refine T.lp (fun m e Rs => ∃ (y186 : Bool) (k187 : Nat) (st188 : I) (st189 : I), k187 + m = y16.length ∧ e = [(1, .string (bsOf a1)), (4, .bool y186), (11, .pointer (some ⟨b175, 0, none⟩)), (12, .pointer (some ⟨b178, 0, none⟩)), (68, .slice A17 y16.length c18), (69, .int .i64 (y16.length : Int)), (70, .int .i64 (k187 : Int))] ∧ Rs = [InR b178 st188, InR b175 st189, OwnR 64 2 Fld_rd (.slice A17 y16.length c18) y16, OutR b3 st167, EmpR] ∧ f_top_WholeNumbers_l2 (y16.drop k187) y186 st188 st189 = some E190) (y16.length) [0, 0, 0, 0, 0] ⟨false, 0, st184, st180, by simp, rfl, rfl, by rw [List.drop_zero]; exact hE191⟩ (by rfl) (by rfl) ?_
              rintro m193 _ _ ⟨y186, k187, st188, st189, hk196, rfl, rfl, hl195⟩
              clear hE191 h
              cases m193 with
              | zero =>
                have h := hl195
                clear hl195
                rw [List.drop_of_length_le (by omega), f_top_WholeNumbers_l2] at h
                have hk196ge : ¬ ((k187 : Int) < (y16.length : Int)) := by omega
                refine T.seq (T.region rfl ?_)
                refine TL.run ft_cursitortop_ok [0] rfl rfl ?_
                refine TL.nil (X.seq (T.seq ?_))
                refine T.no rfl (decide_eq_false hk196ge) ?_
                obtain rfl := Option.some.inj h
                replace h := hO192
                clear hO192
                try dsimp only at h
                refine T.exit (X.exs (X.exs (X.ex (X.seq (T.seq ?_)))))
                obtain ⟨⟨y264, st265, st266⟩, h, hk267⟩ := Option.bind_eq_some_iff.1 h
                refine T.jq (fun e Rs => e = [(4, .bool y264)] ∧ Rs = [InR b178 st265, InR b175 st266, OwnR 64 2 Fld_rd (.slice A17 y16.length c18) y16, OutR b3 st167, EmpR]) ?_ ?_
                · clear hk267
                  refine T.region rfl ?_
                  obtain ⟨⟨x268, st269⟩, hx270, h⟩ := Option.bind_eq_some_iff.1 h
                  try dsimp only at h
                  refine TL.run ft_cursitortop_ok [0] rfl rfl ?_
                  refine TL.c1 rfl .u (.fn Try.call38 rfl) (gLeft_spec b175 st189 _ hx270) (fun _ hs => (Src.triv _)) rfl ?_
                  refine TL.run ft_cursitortop_ok [2] rfl rfl ?_
                  refine TL.q rfl .u (Ex.lenB rfl Try.runUnderlying9) rfl ?_
                  by_cases c271 : x268 = (a1.length : Int)
                  · replace h := ifT c271 h
                    refine TL.run ft_cursitortop_ok [4, 5] rfl rfl ?_
                    refine TL.q rfl (.g rfl rfl (decide_eq_true c271)) (Ex.ft ft_cursitortop_ok rfl) rfl ?_
                    obtain ⟨⟨x272, st273⟩, hx274, h⟩ := Option.bind_eq_some_iff.1 h
                    try dsimp only at h
                    refine TL.c1 rfl (.g rfl rfl (decide_eq_true c271)) (.fn Try.call30 rfl) (gClose_spec b175 st269 _ hx274) (fun _ hs => (Src.triv _)) rfl ?_
                    refine TL.q rfl (.g rfl rfl (decide_eq_true c271)) (Ex.ft ft_cursitortop_ok rfl) rfl ?_
                    refine TL.q rfl (.g rfl rfl (decide_eq_true c271)) (Ex.ft ft_cursitortop_ok rfl) rfl ?_
                    refine TL.q rfl (.g rfl rfl (decide_eq_true c271)) (Ex.sEq rfl (m := []) rfl) rfl ?_
                    by_cases c275 : x272 = 0
                    · replace h := ifT c275 h
                      by_cases c276 : a1 = []
                      · replace h := ifT c276 h
                        refine TL.q rfl (.g rfl rfl (decide_eq_true c271)) (Ex.bEq rfl (decide_eq_true c275) rfl (decide_eq_true c276) Try.runUnderlying4) rfl ?_
                        refine TL.q rfl .u (Ex.py rfl (decide_eq_true c271) rfl) rfl ?_
                        refine TL.run ft_cursitortop_ok [13] rfl rfl ?_
                        refine TL.q rfl (.g rfl rfl rfl) (Ex.ft ft_cursitortop_ok rfl) rfl ?_
                        obtain ⟨⟨x277, st278⟩, hx279, h⟩ := Option.bind_eq_some_iff.1 h
                        try dsimp only at h
                        refine TL.c0 rfl (.g rfl rfl rfl) (.fn Try.call30 rfl) (gClose_spec b178 st188 _ hx279) (fun _ hs => (Src.triv _)) rfl ?_
                        refine TL.q rfl (.g rfl rfl rfl) (Ex.ft ft_cursitortop_ok rfl) rfl ?_
                        refine TL.q rfl .u (Ex.py rfl rfl rfl) rfl ?_
                        refine TL.run ft_cursitortop_ok [18] rfl rfl ?_
                        by_cases c280 : x277 = 1
                        · replace h := ifT c280 h
                          cases h
                          exact TL.nil (X.as (d := 4) (v' := .bool true) rfl (congrArg Value.bool (decide_eq_true c280)) (X.jq [0, 0, 0, 0, 0] ⟨rfl, rfl⟩ (by rfl) (by rfl)))
                        · replace h := ifF c280 h
                          cases h
                          exact TL.nil (X.as (d := 4) (v' := .bool false) rfl (congrArg Value.bool (decide_eq_false c280)) (X.jq [0, 0, 0, 0, 0] ⟨rfl, rfl⟩ (by rfl) (by rfl)))
                      · replace h := ifF c276 h
                        refine TL.q rfl (.g rfl rfl (decide_eq_true c271)) (Ex.bEq rfl (decide_eq_true c275) rfl (decide_eq_false c276) Try.runUnderlying4) rfl ?_
                        refine TL.q rfl .u (Ex.py rfl (decide_eq_true c271) rfl) rfl ?_
                        refine TL.run ft_cursitortop_ok [13] rfl rfl ?_
                        refine TL.no rfl (.gn rfl rfl rfl) rfl ?_
                        refine TL.no rfl (.gn rfl rfl rfl) rfl ?_
                        refine TL.no rfl (.gn rfl rfl rfl) rfl ?_
                        refine TL.q rfl .u (Ex.pn rfl rfl rfl) rfl ?_
                        refine TL.run ft_cursitortop_ok [18] rfl rfl ?_
                        cases h
                        exact TL.nil (X.jq [0, 0, 0, 0, 0] ⟨rfl, rfl⟩ (by rfl) (by rfl))
                    · replace h := ifF c275 h
                      by_cases c281 : a1 = []
                      · replace h := ifT c281 h
                        refine TL.q rfl (.g rfl rfl (decide_eq_true c271)) (Ex.bEq rfl (decide_eq_false c275) rfl (decide_eq_true c281) Try.runUnderlying4) rfl ?_
                        refine TL.q rfl .u (Ex.py rfl (decide_eq_true c271) rfl) rfl ?_
                        refine TL.run ft_cursitortop_ok [13] rfl rfl ?_
                        refine TL.no rfl (.gn rfl rfl rfl) rfl ?_
                        refine TL.no rfl (.gn rfl rfl rfl) rfl ?_
                        refine TL.no rfl (.gn rfl rfl rfl) rfl ?_
                        refine TL.q rfl .u (Ex.pn rfl rfl rfl) rfl ?_
                        refine TL.run ft_cursitortop_ok [18] rfl rfl ?_
                        cases h
                        exact TL.nil (X.jq [0, 0, 0, 0, 0] ⟨rfl, rfl⟩ (by rfl) (by rfl))
                      · replace h := ifF c281 h
                        refine TL.q rfl (.g rfl rfl (decide_eq_true c271)) (Ex.bEq rfl (decide_eq_false c275) rfl (decide_eq_false c281) Try.runUnderlying4) rfl ?_
                        refine TL.q rfl .u (Ex.py rfl (decide_eq_true c271) rfl) rfl ?_
                        refine TL.run ft_cursitortop_ok [13] rfl rfl ?_
                        refine TL.q rfl (.g rfl rfl rfl) (Ex.ft ft_cursitortop_ok rfl) rfl ?_
                        obtain ⟨⟨x282, st283⟩, hx284, h⟩ := Option.bind_eq_some_iff.1 h
                        try dsimp only at h
                        refine TL.c0 rfl (.g rfl rfl rfl) (.fn Try.call30 rfl) (gClose_spec b178 st188 _ hx284) (fun _ hs => (Src.triv _)) rfl ?_
                        refine TL.q rfl (.g rfl rfl rfl) (Ex.ft ft_cursitortop_ok rfl) rfl ?_
                        refine TL.q rfl .u (Ex.py rfl rfl rfl) rfl ?_
                        refine TL.run ft_cursitortop_ok [18] rfl rfl ?_
                        by_cases c285 : x282 = 1
                        · replace h := ifT c285 h
                          cases h
                          exact TL.nil (X.as (d := 4) (v' := .bool true) rfl (congrArg Value.bool (decide_eq_true c285)) (X.jq [0, 0, 0, 0, 0] ⟨rfl, rfl⟩ (by rfl) (by rfl)))
                        · replace h := ifF c285 h
                          cases h
                          exact TL.nil (X.as (d := 4) (v' := .bool false) rfl (congrArg Value.bool (decide_eq_false c285)) (X.jq [0, 0, 0, 0, 0] ⟨rfl, rfl⟩ (by rfl) (by rfl)))
                  · replace h := ifF c271 h
                    refine TL.run ft_cursitortop_ok [4, 5] rfl rfl ?_
                    refine TL.no rfl (.gn rfl rfl (decide_eq_false c271)) rfl ?_
                    refine TL.no rfl (.gn rfl rfl (decide_eq_false c271)) rfl ?_
                    refine TL.no rfl (.gn rfl rfl (decide_eq_false c271)) rfl ?_
                    refine TL.no rfl (.gn rfl rfl (decide_eq_false c271)) rfl ?_
                    refine TL.no rfl (.gn rfl rfl (decide_eq_false c271)) rfl ?_
                    refine TL.no rfl (.gn rfl rfl (decide_eq_false c271)) rfl ?_
                    refine TL.q rfl .u (Ex.pn rfl (decide_eq_false c271) rfl) rfl ?_
                    refine TL.run ft_cursitortop_ok [13] rfl rfl ?_
                    refine TL.no rfl (.gn rfl rfl rfl) rfl ?_
                    refine TL.no rfl (.gn rfl rfl rfl) rfl ?_
                    refine TL.no rfl (.gn rfl rfl rfl) rfl ?_
                    refine TL.q rfl .u (Ex.pn rfl rfl rfl) rfl ?_
                    refine TL.run ft_cursitortop_ok [18] rfl rfl ?_
                    cases h
                    exact TL.nil (X.jq [0, 0, 0, 0, 0] ⟨rfl, rfl⟩ (by rfl) (by rfl))
                · rintro _ _ ⟨rfl, rfl⟩
                  clear h
                  have h := hk267
                  clear hk267
                  try dsimp only at h
                  obtain rfl := Option.some.inj h
                  exact X.seq (T.ret (X.done1 [4] Try.results6 (RV.tm rfl) ⟨rfl, rfl, rfl⟩ (by rfl) (.inl rfl)))
              | succ m193 =>
                have h := hl195
                clear hl195
                obtain ⟨x194, hxx194⟩ : ∃ x, y16[k187]? = some x := ⟨_, List.getElem?_eq_getElem (by omega)⟩
                rw [drop_cons hxx194, f_top_WholeNumbers_l2] at h
                have hk196lt : (k187 : Int) < (y16.length : Int) := by omega
                refine T.seq (T.region rfl ?_)
                refine TL.run ft_cursitortop_ok [0] rfl rfl ?_
                refine TL.nil (X.seq (T.seq ?_))
                refine T.yes rfl (decide_eq_true hk196lt) ?_
                refine T.skip (X.seq (T.seq (T.block (T.seq (T.region rfl ?_)))))
                refine TL.foc (E := Fld_rd) (k := k187) 2 rfl (fun w G h => own_reads (by decide) w G h) (by decide) hxx194 ?_
                rintro gz197 oz197 z197cs hA z197cl ⟨_, _, z197r⟩
                cases hA
                obtain rfl : z197cs = [.int .i64 x194.fN, .int .i64 x194.fSize] := z197r
                clear z197cl
                refine TL.sel [0, 0, 0, 0, 0] rfl ?_
                refine TL.q rfl .u (Ex.ixS (k := k187) rfl rfl rfl Try.runUnderlying61 Try.sizeOf64 (List.getElem?_eq_some_iff.1 hxx194).1) rfl ?_
                refine TL.q rfl .u (Ex.kS (cs := [.int .i64 x194.fN, .int .i64 x194.fSize]) (us := [.int .i64 x194.fN, .int .i64 x194.fSize]) 2 0 rfl Try.isAgg64 Try.sizeOf64 rfl (fun _ _ h => h.2.2.1) rfl rfl) rfl ?_
                refine TL.alloc rfl .u Try.zeroValue64 rfl (fun b198 => ?_)
                refine TL.st0 (cs' := #[.int .i64 x194.fN, .int .i64 x194.fSize]) rfl .u rfl rfl Try.sizeOf64 rfl rfl rfl rfl ?_
                refine TL.nil (X.seq (T.seq (T.seq (T.draw (.q 0 (.q 1 (.q 2 (.q 4 (.q 5 (.e 3 (.q 6 .nil))))))) [0, 0, 1, 1, 1] rfl mix_cursitortop (NoP.seq (NoP.seq (NoP.blk (NoP.seq (NoP.seq (NoP.blk (NoP.seq np_post))))))) (by kernel_rfl) ?_))))
                refine TD.run ft_cursitortop_ok [0, 1] rfl rfl ?_
                refine TD.q rfl .u (Ex.b1 0 rfl Try.isAgg3 rfl rfl) rfl ?_
                refine TD.run ft_cursitortop_ok [4] rfl rfl ?_
                refine TD.q rfl .u (Ex.b1 0 rfl Try.isAgg3 rfl rfl) rfl ?_
                obtain ⟨⟨x199, st200⟩, hx201, h⟩ := Option.bind_eq_some_iff.1 h
                try dsimp only at h
                refine TD.c2 rfl .u (.fn Try.call37 rfl) (gInt_spec b175 st189 x194.fSize _ hx201) (fun _ hs => (Src.triv _)) rfl [0, 0, 1, 1, 1] (rfl) ?_
                refine TD.run ft_cursitortop_ok [6] rfl rfl ?_
                by_cases c202 : x199 = x194.fN
                · replace h := ifT c202 h
                  refine TD.nil (X.seq ?_)
                  refine T.no rfl (bn_f (decide_eq_true c202)) ?_
                  refine T.skip (X.seq (T.region rfl ?_))
                  refine TL.run ft_cursitortop_ok [0, 1] rfl rfl ?_
                  refine TL.q rfl .u (Ex.b1 0 rfl Try.isAgg3 rfl rfl) rfl ?_
                  obtain ⟨⟨x203, st204⟩, hx205, h⟩ := Option.bind_eq_some_iff.1 h
                  try dsimp only at h
                  refine TL.c1 rfl .u (.fn Try.call37 rfl) (gInt_spec b178 st188 x194.fSize _ hx205) (fun _ hs => (Src.triv _)) rfl ?_
                  refine TL.nil (X.blk (X.seq (T.region rfl ?_)))
                  refine TL.q rfl .u (Ex.add rfl rfl (by omega)) rfl ?_
                  refine TL.run ft_cursitortop_ok [1] rfl rfl ?_
                  refine TL.nil ?_
                  refine X.unf 3 rfl ?_
                  refine X.sel [0, 0, 0, 0, 0, 0] rfl ?_
                  exact X.back (m' := m193) [1, 1, 1, 1, 1] (by omega) ⟨y186, k187 + 1, st204, st200, by omega, rfl, rfl, h⟩ (by rfl) (by rfl)
                · replace h := ifF c202 h
                  refine TD.nil (X.seq ?_)
                  refine T.yes rfl (bn_t (decide_eq_false c202)) ?_
                  exact nomatch h
            · replace h := ifF c182 h
              refine TL.nil (X.seq ?_)
              refine T.yes rfl (bn_t (decide_eq_false c182)) ?_
              exact nomatch h
          · replace h := ifF c169 h
            refine TL.nil (X.seq ?_)
            refine T.yes rfl (bn_t (decide_eq_false c169)) ?_
            exact nomatch h
        | succ m24 =>
          have h := hl26
          clear hl26
          obtain ⟨x25, hxx25⟩ : ∃ x, a0[k19]? = some x := ⟨_, List.getElem?_eq_getElem (by omega)⟩
          rw [drop_cons hxx25, f_top_WholeNumbers_l1] at h
          have hk27lt : (k19 : Int) < (a0.length : Int) := by omega
          refine T.seq (T.region rfl ?_)
          refine TL.run ft_cursitortop_ok [0] rfl rfl ?_
          refine TL.nil (X.seq (T.seq ?_))
          refine T.yes rfl (decide_eq_true hk27lt) ?_
          obtain ⟨gz28, oz28, rfl, z28cs, z28cl, z28cc, z28nf, z28r⟩ := RX.elem (by decide) hX hxx25
          obtain ⟨z28S, z28r, z28rr⟩ := z28r
          obtain rfl : z28cs = [.int .i64 x25.fN, .int .i64 x25.fSize] := z28r
          refine T.skip (X.seq (T.seq (T.block (T.seq (T.region rfl ?_)))))
          refine TL.q rfl .u (Ex.ixS (k := k19) rfl rfl rfl Try.runUnderlying61 Try.sizeOf64 (List.getElem?_eq_some_iff.1 hxx25).1) rfl ?_
          refine TL.q rfl .u (Ex.oS (us := [.int .i64 x25.fN, .int .i64 x25.fSize]) 0 rfl Try.isAgg64 Try.sizeOf64 z28nf z28cc rfl rfl rfl) rfl ?_
          refine TL.alloc rfl .u Try.zeroValue64 rfl (fun b29 => ?_)
          refine TL.st0 (cs' := #[.int .i64 x25.fN, .int .i64 x25.fSize]) rfl .u rfl rfl Try.sizeOf64 rfl rfl rfl rfl ?_
          refine TL.nil (X.seq (T.seq (T.region rfl ?_)))
          refine TL.run ft_cursitortop_ok [0] rfl rfl ?_
          refine TL.q rfl .u (Ex.b1 0 rfl Try.isAgg3 rfl rfl) rfl ?_
          refine TL.run ft_cursitortop_ok [2] rfl rfl ?_
          refine TL.q rfl .u (Ex.b1 0 rfl Try.isAgg3 rfl rfl) rfl ?_
          obtain ⟨x30, hx31, h⟩ := Option.bind_eq_some_iff.1 h
          refine TL.ce rfl .u (.fn Try.call36 rfl) (gRFits_spec x25.fN x25.fSize _ hx31) (fun _ hs => (RX.reads_triv _ _)) rfl ?_
          by_cases c32 : x30 = true
          · replace h := ifT c32 h
            refine TL.nil (X.seq ?_)
            refine T.yes rfl c32 ?_
            refine T.seq (T.region rfl ?_)
            refine TL.run ft_cursitortop_ok [0] rfl rfl ?_
            refine TL.q rfl .u (Ex.b1 0 rfl Try.isAgg3 rfl rfl) rfl ?_
            refine TL.run ft_cursitortop_ok [2] rfl rfl ?_
            refine TL.q rfl .u (Ex.b1 0 rfl Try.isAgg3 rfl rfl) rfl ?_
            obtain ⟨st33, hx34, h⟩ := Option.bind_eq_some_iff.1 h
            refine TL.c2 rfl .u (.fn Try.call34 rfl) (gOInt_spec b3 st20 x25.fN x25.fSize _ hx34) (fun _ hs => (Src.triv _)) rfl ?_
            refine TL.nil (X.seq (T.region rfl ?_))
            refine TL.run ft_cursitortop_ok [0] rfl rfl ?_
            refine TL.q rfl .u (Ex.bS (us := [.int .i64 x25.fN, .int .i64 x25.fSize]) 0 rfl Try.isAgg64 Try.sizeOf64 rfl rfl rfl) rfl ?_
            refine TL.lit (cells := #[.int .i64 x25.fN, .int .i64 x25.fSize]) rfl .u sok_cursitortop_61_1 rfl (by rfl) rfl (fun b35 => ?_)
            replace h := guard_some h
            obtain ⟨c36, h⟩ := h
            refine TL.app1 1 rfl .u (us := [.int .i64 x25.fN, .int .i64 x25.fSize]) (u := x25) (l := y16) (E := Fld_rd) Try.underlying61 inf_cursitortop_64 rfl (by decide) rfl rfl rfl rfl rfl rfl (fun _ _ => rfl) (by have hq := c36; omega) (by have hq := c36; omega) rfl (fun A37 c38 => ?_)
            refine TL.sel [0, 0, 0, 0] rfl ?_
            refine TL.run ft_cursitortop_ok [4] rfl rfl ?_
            refine TL.nil (X.blk (X.seq (T.region rfl ?_)))
            refine TL.q rfl .u (Ex.add rfl rfl (by omega)) rfl ?_
            refine TL.run ft_cursitortop_ok [1] rfl rfl ?_
            exact TL.nil (X.back (m' := m24) [1, 1, 1] (by omega) ⟨(y16 ++ [x25]), A37, c38, k19 + 1, st33, by omega, rfl, rfl, h⟩ (by rfl) (by rfl))
          · replace h := ifF c32 h
            replace c32 := eq_false_of_ne_true c32
            refine TL.nil (X.seq ?_)
            refine T.no rfl c32 ?_
            refine T.skip (X.blk (X.seq (T.region rfl ?_)))
            refine TL.q rfl .u (Ex.add rfl rfl (by omega)) rfl ?_
            refine TL.run ft_cursitortop_ok [1] rfl rfl ?_
            exact TL.nil (X.back (m' := m24) [1, 1, 1] (by omega) ⟨y16, A17, c18, k19 + 1, st20, by omega, rfl, rfl, h⟩ (by rfl) (by rfl))
  · replace h := ifF c9 h
    refine TL.nil (X.seq ?_)
    refine T.yes rfl (bn_t (decide_eq_false c9)) ?_
    exact nomatch h
end Go.Proofs.Ytpiiopppbgpbpaa.Sl
namespace Go.Proofs.Ytpiiopppbgpbpaa.Sl
open Go.RowKit Go.Deep Go.ChangeShapes
set_option linter.unusedVariables false
def andRd {α : Type} (E : Rd α) (W : α → Prop) : Rd α := ⟨fun w S cs a => E.P w S cs a ∧ W a, fun h k => ⟨E.mono h.1 k, h.2⟩, fun h k => ⟨E.move h.1 k, h.2⟩⟩
section
variable {H : Type} (enc : TypeId × Value → H) (P : Program) {α β : Type}
def OpensW (t : TypeId) (E : Rd α) : Prop :=
  ∀ (w : World) (fuel : Nat) (cs : List Value) (x : DataW H × List MemPlace), DataW.trod enc P w 0 (fun _ => true) true fuel t cs = some x → (∀ m, m ∈ x.1.weights P t → m ≤ reachBytes) → ∃ a, E.P w (fun k => k < w.heap.size) cs a
def OpensWFs (off : Nat) (fs : List Field) (n : Nat) (E : Rd α) : Prop :=
  ∀ (w : World) (fuel : Nat) (cs : List Value) (xs : List (DataW H × List MemPlace)), cs.length = off + n → xs.length = fs.length →
    (∀ (i : Nat) (f : Field), fs[i]? = some f → DataW.trod enc P w 0 (fun _ => true) true fuel f.type ((cs.drop f.offset).take (P.cellsOf f.type)) = xs[i]?) →
    (∀ m, m ∈ DataW.weightsEach P (fs.map (·.type)) (xs.map (·.1)) → m ≤ reachBytes) → ∃ a, E.P w (fun k => k < w.heap.size) (cs.drop off) a
variable {enc P}
theorem opensW_weak {t : TypeId} {E : Rd α} {E' : Rd β} (f : α → β) (h : OpensW enc P t E) (hf : ∀ w S cs a, E.P w S cs a → E'.P w S cs (f a)) : OpensW enc P t E' := by
  intro w fuel cs x hx hw
  obtain ⟨a, ha⟩ := h w fuel cs x hx hw
  exact ⟨f a, hf _ _ _ _ ha⟩
theorem opensW_of {t : TypeId} {E : Rd α} {E' : Rd β} (f : α → β) (h : Opens enc P t E) (hf : ∀ w S cs a, E.P w S cs a → E'.P w S cs (f a)) : OpensW enc P t E' := by
  intro w fuel cs x hx hw
  obtain ⟨a, ha⟩ := h w fuel cs x hx
  exact ⟨f a, hf _ _ _ _ ha⟩
def wI (n : Int) : Prop := -9223372036854775808 ≤ n ∧ n ≤ 9223372036854775807
def wL (W : α → Prop) (l : List α) : Prop := l.length ≤ 140737488351232 ∧ ∀ x, x ∈ l → W x
theorem op_i64 {t : TypeId} (ht : P.underlying t = some (.int .i64)) : OpensW enc P t (andRd intE wI) := opensW_of id (opens_int ht) (fun w S cs a h => ⟨h.1, Go.bounds_i64 h.2⟩)
theorem slice_and {size : Nat} {E : Rd α} {W : α → Prop} {w : World} {S : Nat → Prop} {cs : List Value} {l : List α} (h : (sliceRd size (andRd E W)).P w S cs l) : (sliceRd size E).P w S cs l ∧ ∀ x, x ∈ l → W x := by
  rcases h with ⟨h, rfl⟩ | ⟨a, cap, h1, h2, h3, h4, h5⟩
  · exact ⟨.inl ⟨h, rfl⟩, fun x hx => by simp at hx⟩
  · refine ⟨.inr ⟨a, cap, h1, h2, h3, h4, fun i x hx => ?_⟩, fun x hx => ?_⟩
    · obtain ⟨cs, k1, k2, k3⟩ := h5 i x hx
      exact ⟨cs, k1, k2, k3.1⟩
    · obtain ⟨i, hi⟩ := List.getElem?_of_mem hx
      obtain ⟨cs, k1, k2, k3⟩ := h5 i x hi
      exact k3.2
theorem weightsAll_mem {e : TypeId} {l : List (DataW H)} {d : DataW H} {m : Nat} (hd : d ∈ l) (hm : m ∈ d.weights P e) : m ∈ DataW.weightsAll P e l := by
  induction l with
  | nil => simp at hd
  | cons x l ih =>
    simp only [DataW.weightsAll, List.mem_append]
    rcases List.mem_cons.1 hd with rfl | h
    · exact .inl hm
    · exact .inr (ih h)
theorem op_slice {t e : TypeId} {E : Rd α} {W : α → Prop} (size bytes : Nat) (ht : P.underlying t = some (.slice e)) (hc : P.cellsOf e = size) (hb : P.bytesOf e = bytes) (hp : 0 < size) (hpb : 0 < bytes) (he : OpensW enc P e (andRd E W)) : OpensW enc P t (andRd (sliceRd size E) (wL W)) := by
  intro w fuel cs x h hw
  rcases open_slice ht h with ⟨rfl, _⟩ | ⟨a, len, cap, m, n, D, Pl, rfl, _, hl, hm, hmm, rfl, hx⟩
  · exact ⟨[], .inl ⟨rfl, rfl⟩, by simp, fun x hx => by simp at hx⟩
  have hlm : len ≤ m := by rw [hmm]; split <;> omega
  have hlen : len ≤ 140737488351232 := by
    have h1 := hw ((((List.range len).map D).length + ((List.range (m - len)).map fun j => D (len + j)).length) * P.bytesOf e) (by simp only [DataW.weights, ht]; exact List.mem_cons_self)
    rw [hb] at h1
    simp only [List.length_map, List.length_range] at h1
    have h2 : (len + (m - len)) * 1 ≤ (len + (m - len)) * bytes := Nat.mul_le_mul_left _ hpb
    have h3 : reachBytes = 140737488351232 := rfl
    omega
  have hwe : ∀ i, i < len → ∀ z, z ∈ (D i).weights P e → z ≤ reachBytes := by
    intro i hi z hz
    apply hw
    simp only [DataW.weights, ht]
    exact List.mem_cons_of_mem _ (List.mem_append.2 (.inl (weightsAll_mem (d := D i) (List.mem_map.2 ⟨i, List.mem_range.2 hi, rfl⟩) hz)))
  rw [hc] at hx
  have each : ∀ i : Fin len, ∃ y : α, ∃ cs, cs.length = size ∧ (∀ j, j < size → w.cell? (a.add (i.val * size + j)) = cs[j]?) ∧ (andRd E W).P w (fun k => k < w.heap.size) cs y := by
    intro i
    obtain ⟨cs', h1, h2⟩ := hx i.val (by have := i.isLt; omega)
    obtain ⟨_, h3, h4⟩ := World.cells?_some h1
    obtain ⟨y, hy⟩ := he _ _ _ _ h2 (hwe i.val i.isLt)
    refine ⟨y, cs', h3, fun j hj => ?_, hy⟩
    rw [← h4 j hj, add_add]
  obtain ⟨f, hf⟩ := Classical.axiomOfChoice each
  have hs : (sliceRd size (andRd E W)).P w (fun k => k < w.heap.size) [.slice (some a) len cap] ((List.finRange len).map f) := by
    refine .inr ⟨a, cap, by simp, by simpa using hl, hm, fun hz => ?_, ?_⟩
    · simp at hz
      obtain ⟨cs', k1, k2, k3⟩ := hf ⟨0, by omega⟩
      have := k2 0 hp
      rw [List.getElem?_eq_getElem (by omega)] at this
      simp only [World.cell?] at this
      rw [block_add] at this
      rcases Nat.lt_or_ge a.block w.heap.size with h | h
      · exact h
      · rw [Array.getElem?_eq_none h] at this
        simp at this
    · intro i x hx
      rw [List.getElem?_map, Option.map_eq_some_iff] at hx
      obtain ⟨j, hj, rfl⟩ := hx
      have e : j.val = i := by
        obtain ⟨h1, h2⟩ := List.getElem?_eq_some_iff.1 hj
        rw [← h2]
        simp
      rw [← e]
      exact hf j
  obtain ⟨k1, k2⟩ := slice_and hs
  exact ⟨_, k1, by simpa using hlen, k2⟩
theorem opensWFs_nil (off : Nat) : OpensWFs enc P off [] 0 unitRd := by
  intro w fuel cs xs hl _ _ _
  exact ⟨(), List.drop_of_length_le (by omega)⟩
theorem opensWFs_cons {off n : Nat} (m : Nat) {f : Field} {fs : List Field} {A : Rd α} {B : Rd β} (ho : f.offset = off) (hc : P.cellsOf f.type = m) (hA : OpensW enc P f.type A) (hB : OpensWFs enc P (off + m) fs n B) :
    OpensWFs enc P off (f :: fs) (m + n) (pairRd A B) := by
  intro w fuel cs xs hl hx h hw
  cases xs with
  | nil => simp at hx
  | cons x xs =>
    have h0 := h 0 f rfl
    rw [ho, hc] at h0
    simp only [List.map_cons, DataW.weightsEach, List.mem_append] at hw
    obtain ⟨a, ha⟩ := hA _ _ _ _ h0 (fun m hm => hw m (.inl hm))
    obtain ⟨b, hb⟩ := hB w fuel cs xs (by omega) (by simpa using hx) (fun i f' hf => by simpa using h (i + 1) f' (by simpa using hf)) (fun m hm => hw m (.inr hm))
    refine ⟨(a, b), (cs.drop off).take m, cs.drop (off + m), ?_, ha, hb⟩
    rw [← List.drop_drop, List.take_append_drop]
theorem opensW_struct {t : TypeId} {fs : Array Field} {n : Nat} {E : Rd α} (ht : P.underlying t = some (.struct fs)) (hc : P.cellsOf t = n) (h : OpensWFs enc P 0 fs.toList n E) : OpensW enc P t E := by
  intro w fuel cs x hx hw
  obtain ⟨xs, k, rfl, rfl, hl, hxl, hf⟩ := DataW.trod_struct ht hx
  simp only [DataW.weights, ht] at hw
  obtain ⟨a, ha⟩ := h w k cs xs (by omega) (by simpa using hxl) (fun i f hi => hf i f (by simpa using hi)) hw
  exact ⟨a, by simpa using ha⟩
theorem weights_in : ∀ {ts : List TypeId} {ds : List (DataW H)} (j : Nat) {t : TypeId} {d : DataW H} {m : Nat}, ts[j]? = some t → ds[j]? = some d → m ∈ d.weights P t → m ∈ DataW.weightsEach P ts ds
  | [], _, j, _, _, _, ht, _, _ => by simp at ht
  | _ :: _, [], j, _, _, _, _, hd, _ => by simp at hd
  | t :: ts, d :: ds, 0, _, _, _, ht, hd, hm => by
    obtain rfl : t = _ := by simpa using ht
    obtain rfl : d = _ := by simpa using hd
    simp only [DataW.weightsEach, List.mem_append]
    exact .inl hm
  | t :: ts, d :: ds, j + 1, _, _, _, ht, hd, hm => by
    simp only [DataW.weightsEach, List.mem_append]
    exact .inr (weights_in j (by simpa using ht) (by simpa using hd) hm)
theorem slice_cells {size : Nat} {E : Rd α} {w : World} {S : Nat → Prop} {cs : List Value} {l : List α} (h : (sliceRd size E).P w S cs l) : ∃ A c, cs = [.slice A l.length c] := by
  rcases h with ⟨h, rfl⟩ | ⟨a, cap, h, _⟩
  · exact ⟨none, 0, h⟩
  · exact ⟨_, _, h⟩
theorem opens_arg1 {t e : TypeId} {E : Rd α} {r : Reach} {b0 : Nat} {w : World} {v : Value} {d : DataW H} {p : List MemPlace} (ht : P.underlying t = some (.slice e)) (hval : Value.okWide P w r b0 t v) (h : OpensW enc P t E)
    (hv : DataW.Trod enc P w 0 (fun _ => true) true t v d p) (hw : ∀ m, m ∈ d.weights P t → m ≤ reachBytes) : ∃ a, E.P w (fun k => k < w.heap.size) [v] a := by
  obtain ⟨a0, len, cap, rfl⟩ := Go.WideShapes.okWide_slice ht hval
  obtain ⟨fuel, hf⟩ := hv
  exact h _ _ _ _ hf hw
theorem RX.reads_all {E : Rd α} {w : World} {cs : List Value} {a : α} (h : E.P w (fun k => k < w.heap.size) cs a) : (RX.of E cs a).reads w (fun _ => False) := ⟨_, h, fun k hk => ⟨fun h => h, hk⟩⟩
end
end Go.Proofs.Ytpiiopppbgpbpaa.Sl
namespace Go.Proofs.Ytpiiopppbgpbpaa.Sl
open Go.RowKit
set_option linter.unusedVariables false
def wf_Fld (x : Fld) : Prop := wI x.fN ∧ wI x.fSize
end Go.Proofs.Ytpiiopppbgpbpaa.Sl
namespace Go.Proofs.Ytpiiopppbgpbpaa.Sl
open Go.RowKit
set_option linter.unusedVariables false
set_option linter.unusedSimpArgs false
def okF (f : Fld) : Bool := fits f.fN f.fSize
def encF (l : List Fld) : List UInt8 := l.flatMap fun f => be f.fN f.fSize.toNat
theorem okF_size {f : Fld} (h : okF f = true) : 1 ≤ f.fSize.toNat ∧ f.fSize.toNat ≤ 8 ∧ f.fSize = (f.fSize.toNat : Int) := by
  unfold okF fits at h
  simp only [Bool.and_eq_true, decide_eq_true_eq] at h
  omega
theorem wn_l1 : ∀ (l acc : List Fld) (t : List UInt8), (∀ f, f ∈ l → wf_Fld f) → acc.length + l.length ≤ 60 → t.length + 8 * l.length ≤ 1000 →
    f_top_WholeNumbers_l1 l acc (t, 0) = some (acc ++ l.filter okF, (t ++ encF (l.filter okF), 0))
  | [], acc, t, _, _, _ => by
    rw [f_top_WholeNumbers_l1, List.filter_nil, List.append_nil, show encF [] = [] from rfl, List.append_nil]
  | f :: l, acc, t, hw, ha, ht => by
    have hf := hw f (List.mem_cons_self ..)
    rw [List.length_cons] at ha ht
    rw [f_top_WholeNumbers_l1, gRFits_eq _ _ hf.1, Option.bind_some]
    by_cases h : okF f = true
    · obtain ⟨h1, h8, he⟩ := okF_size h
      have hl : (t ++ be f.fN f.fSize.toNat).length = t.length + f.fSize.toNat := by rw [List.length_append, be_length]
      rw [if_pos (show fits f.fN f.fSize = true from h), gOInt_z h (by omega), Option.bind_some, if_pos (by omega), wn_l1 l (acc ++ [f]) _ (fun g hg => hw g (List.mem_cons_of_mem _ hg)) (by rw [List.length_append]; show acc.length + 1 + _ ≤ _; omega) (by omega),
        List.filter_cons_of_pos h]
      simp only [List.append_assoc, List.singleton_append, encF, List.flatMap_cons]
    · rw [if_neg (show ¬ fits f.fN f.fSize = true from h), wn_l1 l acc t (fun g hg => hw g (List.mem_cons_of_mem _ hg)) (by omega) (by omega), List.filter_cons_of_neg h]
theorem gInt_at {S t : List UInt8} {q : Nat} {n k : Int} (hS : S.length ≤ 1000000) (hq : q ≤ S.length) (h : fits n k = true) (hd : S.drop q = be n k.toNat ++ t) :
    gInt ⟨S.drop q, q, 0⟩ k = some (n, ⟨S.drop (q + k.toNat), q + k.toNat, 0⟩) ∧ q + k.toNat ≤ S.length ∧ S.drop (q + k.toNat) = t := by
  have hk : 1 ≤ k.toNat ∧ k.toNat ≤ 8 ∧ k = (k.toNat : Int) := by
    unfold fits at h
    simp only [Bool.and_eq_true, decide_eq_true_eq] at h
    omega
  have h1 := CB.at (Q_int k.toNat hk.1 hk.2.1 k hk.2.2).cb (Sp_int k.toNat hk.1 hk.2.1) (a := n) hS hq (by rw [← hk.2.2]; exact h) hd
  rw [be_length] at h1
  exact h1
theorem gInt_any (T : List UInt8) (q : Nat) (k : Int) (hT : T.length ≤ 1000000) (hq : q ≤ T.length) (hk : 1 ≤ k.toNat ∧ k.toNat ≤ 8 ∧ k = (k.toNat : Int)) :
    (∃ x st, gInt ⟨T.drop q, q, 0⟩ k = some (x, st) ∧ st.err = 1) ∨ (∃ x, gInt ⟨T.drop q, q, 0⟩ k = some (x, ⟨T.drop (q + k.toNat), q + k.toNat, 0⟩) ∧ q + k.toNat ≤ T.length) := by
  rcases (Q_int k.toNat hk.1 hk.2.1 k hk.2.2).run T q hq with ⟨e, st, p1, g1, x1, y1⟩ | ⟨a, r, p1, g1, n1, l1⟩
  · refine .inl ⟨0, st, g1, ?_⟩
    unfold pInt at p1
    split at p1
    · injection p1 with p1
      rw [x1, ← p1]
    · exact nomatch p1
  · unfold pInt at p1
    split at p1
    · exact nomatch p1
    · injection p1 with p1
      obtain ⟨rfl, rfl⟩ := Prod.mk.inj p1
      exact .inr ⟨_, g1, l1⟩
def cutAt (T : List UInt8) (q : Nat) (st : I) : Prop := (st = ⟨T.drop q, q, 0⟩ ∧ q ≤ T.length) ∨ st.err = 1
theorem cut_step {T : List UInt8} {q : Nat} {st : I} (hT : T.length ≤ 1000000) (h : cutAt T q st) {k : Int} (hk : 1 ≤ k.toNat ∧ k.toNat ≤ 8 ∧ k = (k.toNat : Int)) : ∃ x st', gInt st k = some (x, st') ∧ cutAt T (q + k.toNat) st' := by
  rcases h with ⟨rfl, hq⟩ | h
  · rcases gInt_any T q k hT hq hk with ⟨x, st, h1, h2⟩ | ⟨x, h1, h2⟩
    · exact ⟨x, st, h1, .inr h2⟩
    · exact ⟨x, _, h1, .inl ⟨rfl, h2⟩⟩
  · exact ⟨0, st, gInt_d (by rw [h]; decide), .inr h⟩
theorem wn_l2 (S T more : List UInt8) (hS : S.length ≤ 1000000) (hT : T.length ≤ 1000000) : ∀ (l : List Fld) (y : Bool) (q : Nat) (st : I), (∀ f, f ∈ l → okF f = true) → q ≤ S.length → S.drop q = encF l ++ more → cutAt T q st →
    ∃ st', f_top_WholeNumbers_l2 l y st ⟨S.drop q, q, 0⟩ = some (.go (y, st', ⟨more, q + (encF l).length, 0⟩)) ∧ cutAt T (q + (encF l).length) st'
  | [], y, q, st, _, hq, hd, hc => by
    rw [show encF [] = [] from rfl, List.nil_append] at hd
    exact ⟨st, by rw [f_top_WholeNumbers_l2, hd]; rfl, hc⟩
  | f :: l, y, q, st, ho, hq, hd, hc => by
    have hf := ho f (List.mem_cons_self ..)
    have hk := okF_size hf
    rw [show encF (f :: l) = be f.fN f.fSize.toNat ++ encF l by simp [encF], List.append_assoc] at hd
    obtain ⟨h1, h2, h3⟩ := gInt_at hS hq hf hd
    obtain ⟨x, st', h4, h5⟩ := cut_step hT hc hk
    obtain ⟨st2, h6, h7⟩ := wn_l2 S T more hS hT l y (q + f.fSize.toNat) st' (fun g hg => ho g (List.mem_cons_of_mem _ hg)) h2 h3 h5
    have hl : q + (encF (f :: l)).length = q + f.fSize.toNat + (encF l).length := by
      rw [show encF (f :: l) = be f.fN f.fSize.toNat ++ encF l by simp [encF], List.length_append, be_length, Nat.add_assoc]
    rw [hl]
    refine ⟨st2, ?_, h7⟩
    rw [f_top_WholeNumbers_l2, h1, Option.bind_some]
    dsimp only
    rw [if_pos rfl, h4, Option.bind_some]
    exact h6
theorem encF_len : ∀ l : List Fld, (∀ f, f ∈ l → okF f = true) → (encF l).length ≤ 8 * l.length
  | [], _ => by decide
  | f :: l, h => by
    have := encF_len l (fun g hg => h g (List.mem_cons_of_mem _ hg))
    have hk := okF_size (h f (List.mem_cons_self ..))
    rw [show encF (f :: l) = be f.fN f.fSize.toNat ++ encF l by simp [encF], List.length_append, be_length, List.length_cons]
    omega
theorem pure_WholeNumbers (a0 : List Fld) (a1 : List UInt8) (w0 : (wL wf_Fld) a0) (w1 : a1.length ≤ 140737488351232) : f_top_WholeNumbers a0 a1 = some true := by
  unfold f_top_WholeNumbers
  have h5 : fits 5 1 = true := by decide
  rw [gOInt_z (t := []) h5 (by decide), Option.bind_some, gOLen_eq, Option.bind_some]
  dsimp only
  rw [if_pos (by decide)]
  by_cases c1 : (a0.length : Int) > 60
  · rw [if_pos c1, Option.bind_some, if_pos rfl]
  rw [if_neg c1]
  by_cases c2 : (a1.length : Int) > 100
  · rw [if_pos c2, Option.bind_some, if_pos rfl]
  have hfl : (a0.filter okF).length ≤ a0.length := List.length_filter_le ..
  have hok : ∀ f, f ∈ a0.filter okF → okF f = true := fun f hf => (List.mem_filter.1 hf).2
  have hel := encF_len (a0.filter okF) hok
  have h51 : ([] ++ be 5 (Int.toNat 1)) = be 5 1 := rfl
  have hb1 : (be 5 1).length = 1 := by decide
  rw [if_neg c2, Option.bind_some, if_neg (by decide), wn_l1 a0 [] _ w0.2 (by show 0 + _ ≤ _; omega) (by rw [h51, hb1]; omega), Option.bind_some, h51, List.nil_append]
  dsimp only
  rw [gOText_eq, Option.bind_some]
  dsimp only
  rw [otx_z]
  dsimp only
  generalize hP : a0.filter okF = put at hok hel hfl
  have hSl : (be 5 1 ++ encF put).length = 1 + (encF put).length := by rw [List.length_append, hb1]
  rw [if_pos rfl, if_pos (by omega), if_pos (by omega), if_pos (by omega)]
  have hS2 : (be 5 1 ++ encF put ++ a1).length ≤ 1000000 := by rw [List.length_append]; omega
  have ht : ((((be 5 1 ++ encF put).length : Int) - 1).toNat) = (encF put).length := by omega
  rw [ht]
  have hT : ((be 5 1 ++ encF put).take (encF put).length).length = (encF put).length := by rw [List.length_take]; omega
  rw [gNew_eq _ (by omega), Option.bind_some, gNew_eq _ (by omega), Option.bind_some]
  obtain ⟨r1, r2, r3⟩ := gInt_at (S := be 5 1 ++ encF put ++ a1) (t := encF put ++ a1) (q := 0) (n := 5) (k := 1) hS2 (Nat.zero_le _) h5 (by rw [List.drop_zero, List.append_assoc]; rfl)
  rw [List.drop_zero] at r1
  rw [r1, Option.bind_some]
  dsimp only
  rw [if_pos rfl]
  obtain ⟨x, st1, q1, q2⟩ := cut_step (T := (be 5 1 ++ encF put).take (encF put).length) (q := 0) (st := ⟨(be 5 1 ++ encF put).take (encF put).length, 0, 0⟩) (by omega) (.inl ⟨by rw [List.drop_zero], Nat.zero_le _⟩) (k := 1) ⟨by decide, by decide, by decide⟩
  rw [q1, Option.bind_some]
  dsimp only
  obtain ⟨st2, p1, p2⟩ := wn_l2 (be 5 1 ++ encF put ++ a1) ((be 5 1 ++ encF put).take (encF put).length) a1 hS2 (by omega) put false (0 + (1 : Int).toNat) st1 hok r2 r3 q2
  rw [p1, Option.bind_some]
  dsimp only
  have hst : st2.err = 1 := by
    rcases p2 with ⟨_, h⟩ | h
    · rw [hT] at h
      have : (1 : Int).toNat = 1 := rfl
      omega
    · exact h
  have hcl : (iclose st2).err = 1 := by
    unfold iclose ifail
    split
    · exact hst
    · rw [if_neg (by rw [hst]; decide)]; exact hst
  rw [gLeft_eq, Option.bind_some]
  dsimp only
  rw [if_pos rfl, gClose_eq, Option.bind_some]
  dsimp only
  by_cases hm : a1 = []
  · subst hm
    rw [iclose_nil]
    dsimp only
    rw [if_pos rfl, if_pos rfl, gClose_eq, Option.bind_some]
    dsimp only
    rw [if_pos hcl]
    rfl
  · have e : (iclose ⟨a1, 0 + (1 : Int).toNat + (encF put).length, 0⟩).err = 2 := by
      unfold iclose ifail
      rw [if_neg hm, if_pos rfl]
    rw [if_neg (by rw [e]; decide), if_neg hm, gClose_eq, Option.bind_some]
    dsimp only
    rw [if_pos hcl]
    rfl
end Go.Proofs.Ytpiiopppbgpbpaa.Sl
namespace Go.Proofs.Ytpiiopppbgpbpaa.Sl
open Go.RowKit Go.Deep Go.ChangeShapes
set_option linter.unusedVariables false
theorem op_Fld {H : Type} {enc : TypeId × Value → H} : OpensW enc Try.prog 64 (andRd Fld_rd wf_Fld) :=
  opensW_weak (fun x => ⟨x.1, x.2.1⟩) (opensW_struct Try.underlying64 (by kernel_rfl) (opensWFs_cons 1 (by kernel_rfl) (by kernel_rfl) (op_i64 Try.underlying3) (opensWFs_cons 1 (by kernel_rfl) (by kernel_rfl) (op_i64 Try.underlying3) (opensWFs_nil _)))) (by
    rintro w S cs ⟨x0, x1, _⟩ ⟨_, _, rfl, ⟨p0, q0⟩, _, _, rfl, ⟨p1, q1⟩, rfl⟩
    obtain rfl := p0
    obtain rfl := p1
    exact ⟨rfl, q0, q1⟩)
end Go.Proofs.Ytpiiopppbgpbpaa.Sl
namespace Go.Proofs.Ytpiiopppbgpbpaa.wholeNumbers
open Go.ChangeShapes Go.WideShapes Go.ChangeAt Go.RowKit
open Go.ChangeMaps (open_string shut_string)
set_option linter.unusedVariables false
theorem own : ownKnob Try.prog.godebug = none := by kernel_rfl
theorem laidOut : laidOutB Try.prog = true := by kernel_rfl
set_option maxRecDepth 100000 in
set_option maxHeartbeats 1000000 in
theorem lifted (os : Os) (started : os.Started) (H : Type) (enc : TypeId × Value → H) :
    ReturnsInHanded {} Try.checked os 6 .any (Rows.wholeNumbersSpec.pre6 enc Try.prog Try.f6 Rows.wholeNumbersRow.domain false) (Rows.wholeNumbersSpec.post enc Try.prog Try.f6 false true false false) := by
  refine returnsInHanded_of_change_sized (C := Try.checked) own started (by kernel_rfl) Try.func6
    (ChangeSpec.witness6 (enc := enc) (C := Try.checked) false ⟨#[], #[.slice none 0 0, .string ByteArray.empty], []⟩ 8 (by kernel_rfl) (by kernel_rfl) (by kernel_rfl) (by kernel_rfl)) ?_
  intro W base args ds gs before hval0 hW hcnd hsz0 _
  have hsz : (DataW.weightsEach Try.prog (Try.f6.params.toList ++ Rows.wholeNumbersSpec.plain.varTypes Try.prog) (ds ++ gs)).all (· ≤ reachBytes) = true := hsz0
  have hval : ∀ (j : Nat) t v, Try.f6.params[j]? = some t → args[j]? = some v → Value.okWide Try.prog W .any base t v := hval0
  have hW' := hW
  obtain ⟨p, q, hA0, hV, rfl, hfz, hnd⟩ := hW
  have hA : DataW.TrodAll enc Try.prog W 0 (fun _ => true) true Try.f6.params.toList args.toList ds p := hA0
  rw [Try.params6] at hA hval hsz
  obtain ⟨v0, vs0, d0, ds0, p0, q0, hargs, rfl, rfl, h0, r0⟩ := trodAll_cons hA
  obtain ⟨v1, vs1, d1, ds1, p1, q1, rfl, rfl, rfl, h1, r1⟩ := trodAll_cons r0
  obtain ⟨rfl, rfl, rfl⟩ := trodAll_nil r1
  obtain rfl : args = #[v0, v1] := by cases args; simp_all
  obtain ⟨rfl, rfl⟩ := trodVars_none hV
  have k0 := h0
  have lt0 : ∀ x ∈ p0, x.block < W.heap.size := by obtain ⟨m, hm⟩ := k0; exact DataW.trod_lt m _ _ _ hm
  obtain ⟨a0, r_0, w0⟩ := Sl.opens_arg1 Try.underlying61 (hval 0 61 v0 rfl rfl) (Sl.op_slice 2 16 Try.underlying61 (by kernel_rfl) (by kernel_rfl) (by decide) (by decide) Sl.op_Fld) h0 (fun x hx => of_decide_eq_true (List.all_eq_true.1 hsz x (Sl.weights_in 0 rfl rfl hx)))
  obtain ⟨A0, c0, e0⟩ := Sl.slice_cells r_0
  injection e0 with e0
  subst e0
  obtain ⟨s1, rfl, rfl, rfl, y1⟩ := open_string Try.underlying9 (hval 1 9 v1 rfl rfl) h1
  have z1 : s1.size ≤ 140737488351232 := by
    have z := sized_string hsz (j := 1) (t := 9) rfl rfl
    rw [Array.length_toList] at z
    exact z
  obtain ⟨a1, rfl⟩ := Sl.bsOf_of s1
  have w1 : a1.length ≤ 140737488351232 := by rwa [Sl.bsOf_size] at z1
  clear hA0 hval0 hsz0 hsz
  refine (Sl.f_top_WholeNumbers_spec a0 A0 c0 a1 true (Sl.pure_WholeNumbers a0 a1 w0 w1) (fun _ => False) W (fun _ h => h) (Sl.RX.reads_all r_0)).mono fun e W' hP => ?_
  obtain ⟨v, A', Ns, rfl, ⟨rfl, rfl, rfl⟩, hst⟩ := hP
  have bel := Sl.St.below hst
  exact ⟨_, rfl, _, _, _, [], _, [], hW', trodAll_mk1 (shut_bool Try.underlying4 _), (trodAll_cons_mk (Below.trod laidOut (by kernel_rfl) (of_decide_eq_true (by kernel_rfl)) k0 bel lt0) (trodAll_cons_mk (shut_string Try.underlying9 y1) trodAll_mk0)), rfl, bel.frame _, fun h => by cases h⟩
theorem over : Rows.wholeNumbersRow.holds Try.pinned (OpenSpec.ofChange Rows.wholeNumbersSpec) :=
  OpenClaim.holds_of_wide 6 Try.f6 rfl rfl rfl rfl rfl rfl rfl ⟨rfl, rfl, rfl, rfl, rfl⟩ rfl rfl rfl rfl rfl (by kernel_rfl) Try.func6 (by kernel_rfl)
    (of_decide_eq_true (by kernel_rfl)) (by unfold Func.isWrapper; first | (rw [if_pos (by decide +kernel)]; kernel_rfl) | (rw [if_neg (by decide +kernel)]; exact ⟨rfl, rfl⟩))
    (fun os started H enc _ => lifted os started H enc)
theorem proved : Rows.WholeNumbersSaid := over
end Go.Proofs.Ytpiiopppbgpbpaa.wholeNumbers
namespace Go.Proofs.Ytpiiopppbgpbpaa
theorem wholeNumbers_holds : Rows.WholeNumbersSaid := wholeNumbers.proved
end Go.Proofs.Ytpiiopppbgpbpaa
