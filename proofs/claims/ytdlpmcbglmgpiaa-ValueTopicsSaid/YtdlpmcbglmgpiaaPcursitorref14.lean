/- Printed by g2.py: package cursitorref14. -/
import Derived.Test.YtdlpmcbglmgpiaaGb
import Derived.Test.YtdlpmcbglmgpiaaNg
import Derived.Test.YtdlpmcbglmgpiaaPcursitorref01
namespace Go.Proofs.Ytdlpmcbglmgpiaa.Sl
open Go.RowKit
set_option linter.unusedVariables false
set_option linter.unusedSimpArgs false
set_option maxRecDepth 100000
def ft_cursitorref14 : FTab := [(26, 0, 0), (26, 1, 1), (64, 0, 0), (64, 1, 1), (64, 2, 2), (64, 3, 3), (64, 4, 4), (64, 5, 5), (64, 6, 6), (104, 0, 0), (104, 1, 1), (134, 0, 0), (134, 1, 2), (134, 2, 3)]
theorem ft_cursitorref14_ok : (ft_cursitorref14).OK Try.prog := ⟨FOK.mk Try.runUnderlying26 rfl Try.sizeOf4 rfl, FOK.mk Try.runUnderlying26 rfl Try.sizeOf9 rfl, FOK.mk Try.runUnderlying64 rfl Try.sizeOf3 rfl, FOK.mk Try.runUnderlying64 rfl Try.sizeOf3 rfl, FOK.mk Try.runUnderlying64 rfl Try.sizeOf3 rfl, FOK.mk Try.runUnderlying64 rfl Try.sizeOf3 rfl, FOK.mk Try.runUnderlying64 rfl Try.sizeOf62 rfl, FOK.mk Try.runUnderlying64 rfl Try.sizeOf3 rfl, FOK.mk Try.runUnderlying64 rfl Try.sizeOf3 rfl, FOK.mk Try.runUnderlying104 rfl Try.sizeOf9 rfl, FOK.mk Try.runUnderlying104 rfl Try.sizeOf102 rfl, FOK.mk Try.runUnderlying134 rfl Try.sizeOf26 rfl, FOK.mk Try.runUnderlying134 rfl Try.sizeOf3 rfl, FOK.mk Try.runUnderlying134 rfl Try.sizeOf3 rfl, trivial⟩
theorem mix_cursitorref14 : Try.prog.follows .mixedOrders = true := by kernel_rfl
theorem bok_cursitorref14_26 : BOK Try.prog 26 #[.bool false, .string ⟨#[]⟩] [(0, 1), (1, 1)] := BOK.mk Try.zeroValue26 Try.runUnderlying26 (by intro w; simp)
theorem bok_cursitorref14_64 : BOK Try.prog 64 #[.int .i64 0, .int .i64 0, .int .i64 0, .int .i64 0, .slice none 0 0, .int .i64 0, .int .i64 0] [(0, 1), (1, 1), (2, 1), (3, 1), (4, 1), (5, 1), (6, 1)] := BOK.mk Try.zeroValue64 Try.runUnderlying64 (by intro w; simp)
theorem bok_cursitorref14_104 : BOK Try.prog 104 #[.string ⟨#[]⟩, .slice none 0 0] [(0, 1), (1, 1)] := BOK.mk Try.zeroValue104 Try.runUnderlying104 (by intro w; simp)
theorem sok_cursitorref14_62_0 : SOK Try.prog 62 104 0 2 #[] := SOK.mk0 Try.runUnderlying62 Try.sizeOf104
theorem sok_cursitorref14_62_1 : SOK Try.prog 62 104 1 2 #[.string ⟨#[]⟩, .slice none 0 0] := SOK.mk Try.runUnderlying62 Try.sizeOf104 Try.zeroValue104 (by decide) (by kernel_rfl)
theorem sok_cursitorref14_102_1 : SOK Try.prog 102 3 1 1 #[.int .i64 0] := SOK.mk Try.runUnderlying102 Try.sizeOf3 Try.zeroValue3 (by decide) (by kernel_rfl)
theorem inf_cursitorref14_3 : (Try.prog.info? 3).map (fun i => (i.zero, i.size, i.bytes)) = some (some (.int .i64 0), 1, 8) := by kernel_rfl
theorem inf_cursitorref14_104 : (Try.prog.info? 104).map (fun i => (i.zero, i.size, i.bytes)) = some (some (.agg #[.string ⟨#[]⟩, .slice none 0 0]), 2, 40) := by kernel_rfl
def f_r14_count (a0 : List UInt8) (a1 : Int) : Option (Int × Int) := if (a0.length : Int) < 4 then some (0, 1) else (if 4 ≤ a0.length then ((gRInt (a0.take 4)).bind fun x3 => if x3 < 0 then some (0, 4) else (if -9223372036854775808 ≤ ((a0.length : Int) - 4) ∧ ((a0.length : Int) - 4) ≤ 9223372036854775807 then (if 1 ≤ a1 ∧ 0 ≤ ((a0.length : Int) - 4) ∧ ((a0.length : Int) - 4) ≤ 9223372036854775807 then (if x3 > (((a0.length : Int) - 4) / a1) then some (0, 1) else some (x3, 0)) else none) else none)) else none)
set_option maxRecDepth 100000 in
set_option maxHeartbeats 4000000 in
theorem f_r14_count_spec (a0 : List UInt8) (a1 : Int) (r : Int × Int) (h : f_r14_count a0 a1 = some r) : SpecX Try.prog 113 #[.string (bsOf a0), .int .i64 a1] .triv (EmpR) (fun v A' N => v = .tuple #[.int .i64 r.1, .int .i64 r.2] ∧ A' = EmpR ∧ N = []) := by
  refine enterA Try.func113 rfl Try.ntmps113 rfl ?_
  intro F w hX
  unfold f_r14_count at h
  refine T.seq (T.region rfl ?_)
  refine TL.run ft_cursitorref14_ok [0, 1] rfl rfl ?_
  refine TL.nil (X.seq (T.seq (T.seq (T.region rfl ?_))))
  refine TL.run ft_cursitorref14_ok [0] rfl rfl ?_
  refine TL.q rfl .u (Ex.lenB rfl Try.runUnderlying9) rfl ?_
  refine TL.run ft_cursitorref14_ok [2] rfl rfl ?_
  by_cases c1 : (a0.length : Int) < 4
  · replace h := ifT c1 h
    refine TL.nil (X.seq ?_)
    refine T.yes rfl (decide_eq_true c1) ?_
    refine T.seq (T.region rfl ?_)
    refine TL.run ft_cursitorref14_ok [0, 1] rfl rfl ?_
    obtain rfl := Option.some.inj h
    exact TL.nil (X.seq (T.ret (X.rs (X.done2 [0] Try.results113 (RV.tm rfl) (RV.tm rfl) ⟨rfl, rfl, rfl⟩ (by rfl) (.inl rfl)))))
  · replace h := ifF c1 h
    refine TL.nil (X.seq ?_)
    refine T.no rfl (decide_eq_false c1) ?_
    refine T.skip (X.seq (T.seq (T.region rfl ?_)))
    replace h := guard_some h
    obtain ⟨c2, h⟩ := h
    refine TL.run ft_cursitorref14_ok [0] rfl rfl ?_
    refine TL.q rfl .u (Ex.sSl (p := 0) (q := 4) (m := (a0.take 4)) rfl Try.runUnderlying9 .none (.some rfl rfl) (by omega) (by simp)) rfl ?_
    obtain ⟨x3, hx4, h⟩ := Option.bind_eq_some_iff.1 h
    refine TL.ce rfl .u (.fn Try.call76 rfl) (SpecX.pure (fun w => gRInt_spec (a0.take 4) _ hx4 w)) (fun _ _ => RX.reads_triv _ _) rfl ?_
    refine TL.run ft_cursitorref14_ok [3] rfl rfl ?_
    refine TL.nil (X.seq (T.seq (T.seq (T.region rfl ?_))))
    refine TL.run ft_cursitorref14_ok [0, 1] rfl rfl ?_
    by_cases c5 : x3 < 0
    · replace h := ifT c5 h
      refine TL.nil (X.seq ?_)
      refine T.yes rfl (decide_eq_true c5) ?_
      refine T.seq (T.region rfl ?_)
      refine TL.run ft_cursitorref14_ok [0, 1] rfl rfl ?_
      obtain rfl := Option.some.inj h
      exact TL.nil (X.seq (T.ret (X.rs (X.done2 [0] Try.results113 (RV.tm rfl) (RV.tm rfl) ⟨rfl, rfl, rfl⟩ (by rfl) (.inl rfl)))))
    · replace h := ifF c5 h
      refine TL.nil (X.seq ?_)
      refine T.no rfl (decide_eq_false c5) ?_
      refine T.skip (X.seq (T.seq (T.seq (T.region rfl ?_))))
      refine TL.run ft_cursitorref14_ok [0, 1] rfl rfl ?_
      refine TL.q rfl .u (Ex.lenB rfl Try.runUnderlying9) rfl ?_
      replace h := guard_some h
      obtain ⟨c6, h⟩ := h
      refine TL.q rfl .u (Ex.sub rfl rfl c6) rfl ?_
      replace h := guard_some h
      obtain ⟨c7, h⟩ := h
      refine TL.run ft_cursitorref14_ok [4] rfl rfl ?_
      refine TL.q rfl .u (Ex.quo rfl rfl c7.1 c7.2) rfl ?_
      refine TL.run ft_cursitorref14_ok [6] rfl rfl ?_
      by_cases c8 : x3 > (((a0.length : Int) - 4) / a1)
      · replace h := ifT c8 h
        refine TL.nil (X.seq ?_)
        refine T.yes rfl (decide_eq_true c8) ?_
        refine T.seq (T.region rfl ?_)
        refine TL.run ft_cursitorref14_ok [0, 1] rfl rfl ?_
        obtain rfl := Option.some.inj h
        exact TL.nil (X.seq (T.ret (X.rs (X.done2 [0] Try.results113 (RV.tm rfl) (RV.tm rfl) ⟨rfl, rfl, rfl⟩ (by rfl) (.inl rfl)))))
      · replace h := ifF c8 h
        refine TL.nil (X.seq ?_)
        refine T.no rfl (decide_eq_false c8) ?_
        refine T.skip (X.seq (T.seq (T.region rfl ?_)))
        refine TL.run ft_cursitorref14_ok [0, 1, 2] rfl rfl ?_
        obtain rfl := Option.some.inj h
        exact TL.nil (X.seq (T.ret (X.done2 [0] Try.results113 (RV.tm rfl) (RV.tm rfl) ⟨rfl, rfl, rfl⟩ (by rfl) (.inl rfl))))
def f_r14_ReadTopics_l2 (a0 : List UInt8) (x32 : Int) : Nat → Int → Nat → List Int → Option (Int × Nat × List Int)
  | 0, _, _, _ => none
  | m46 + 1, y38, k39, y40 => if (k39 : Int) < x32 then (if -9223372036854775808 ≤ (y38 + 4) ∧ (y38 + 4) ≤ 9223372036854775807 then (if 0 ≤ y38 ∧ 0 ≤ (y38 + 4) ∧ y38.toNat ≤ (y38 + 4).toNat ∧ (y38 + 4).toNat ≤ a0.length then ((gRInt ((a0.drop y38.toNat).take (((y38 + 4).toNat) - y38.toNat))).bind fun x53 => if (y40.length + 1) * 8 ≤ 140737488355328 then (if -9223372036854775808 ≤ (y38 + 4) ∧ (y38 + 4) ≤ 9223372036854775807 then (if -9223372036854775808 ≤ ((k39 : Int) + 1) ∧ ((k39 : Int) + 1) ≤ 9223372036854775807 then (f_r14_ReadTopics_l2 a0 x32 m46 (y38 + 4) (k39 + 1) (y40 ++ [x53])) else none) else none) else none) else none) else none) else some (y38, k39, y40)
def f_r14_ReadTopics_l1 (a0 : List UInt8) (x1 : Int) : Nat → List Top → Int → Int → Int → List Top → Nat → Option (Lp (List Top × Int × Int) (List Top × Int × Int × Int × List Top × Nat))
  | 0, _, _, _, _, _, _ => none
  | m19 + 1, y6, y9, y10, y11, y12, k15 => if (k15 : Int) < x1 then (if 0 ≤ y11 ∧ y11.toNat ≤ a0.length then ((gRRFixed (a0.drop y11.toNat) 2).bind fun x25 => if x25.err = 0 then (if x25.blob.null = true then (some (Lp.ret ([], 0, 4))) else (if -9223372036854775808 ≤ (y11 + x25.many) ∧ (y11 + x25.many) ≤ 9223372036854775807 then (if 0 ≤ (y11 + x25.many) ∧ (y11 + x25.many).toNat ≤ a0.length then ((f_r14_count (a0.drop ((y11 + x25.many).toNat)) 4).bind fun (x32, x33) => if x33 = 0 then (if -9223372036854775808 ≤ ((y11 + x25.many) + 4) ∧ ((y11 + x25.many) + 4) ≤ 9223372036854775807 then ((f_r14_ReadTopics_l2 a0 x32 ((x32).toNat + 1) ((y11 + x25.many) + 4) 0 []).bind fun (y66, k67, y68) => if (y12.length + 1) * 40 ≤ 140737488355328 then (if -9223372036854775808 ≤ ((k15 : Int) + 1) ∧ ((k15 : Int) + 1) ≤ 9223372036854775807 then (f_r14_ReadTopics_l1 a0 x1 m19 y6 y9 y10 y66 (y12 ++ [(⟨x25.blob.data, y68⟩ : Top)]) (k15 + 1)) else none) else none) else none) else (some (Lp.ret ([], 0, x33)))) else none) else none)) else (some (Lp.ret ([], 0, x25.err)))) else none) else (some (Lp.go (y6, y9, y10, y11, y12, k15)))
def f_r14_ReadTopics (a0 : List UInt8) : Option (List Top × Int × Int) := (f_r14_count a0 6).bind fun (x1, x2) => if x2 = 0 then ((f_r14_ReadTopics_l1 a0 x1 ((x1).toNat + 1) [] 0 0 4 ([] : List Top) 0).bind fun e => match e with | .ret r => some r | .go (y76, y79, y80, y81, y82, k85) => some (y82, y81, 0)) else some ([], 0, x2)
set_option maxRecDepth 100000 in
set_option maxHeartbeats 4000000 in
theorem f_r14_ReadTopics_spec (a0 : List UInt8) (r : List Top × Int × Int) (h : f_r14_ReadTopics a0 = some r) : SpecX Try.prog 57 #[.string (bsOf a0)] .triv (EmpR) (fun v A' N => ∃ (A86 : Option Addr) (c87 : Nat), v = .tuple #[.slice A86 r.1.length c87, .int .i64 r.2.1, .int .i64 r.2.2] ∧ A' = EmpR ∧ N = [RdR (sliceRd 2 Top_rd) [.slice A86 r.1.length c87] r.1]) := by
  refine enterA Try.func57 rfl Try.ntmps57 rfl ?_
  intro F w hX
  unfold f_r14_ReadTopics at h
  refine T.seq (T.region rfl ?_)
  refine TL.run ft_cursitorref14_ok [0, 1, 2] rfl rfl ?_
  refine TL.nil (X.seq (T.seq (T.region rfl ?_)))
  obtain ⟨⟨x1, x2⟩, hx3, h⟩ := Option.bind_eq_some_iff.1 h
  try dsimp only at h
  refine TL.run ft_cursitorref14_ok [0] rfl rfl ?_
  refine TL.ce rfl .u (.fn Try.call113 rfl) (f_r14_count_spec a0 6 _ hx3) (fun _ hs => (RX.reads_triv _ _)) rfl ?_
  refine TL.run ft_cursitorref14_ok [2, 3, 4, 5, 6] rfl rfl ?_
  refine TL.nil (X.seq (T.seq (T.seq (T.region rfl ?_))))
  refine TL.run ft_cursitorref14_ok [0, 1] rfl rfl ?_
  by_cases c4 : x2 = 0
  · replace h := ifT c4 h
    refine TL.nil (X.seq ?_)
    refine T.no rfl (bn_f (decide_eq_true c4)) ?_
    refine T.skip (X.seq (T.seq (T.region rfl ?_)))
    refine TL.run ft_cursitorref14_ok [0] rfl rfl ?_
    refine TL.nil (X.seq (T.seq (T.region rfl ?_)))
    refine TL.lit (cells := #[]) rfl .u sok_cursitorref14_62_0 rfl (by rfl) rfl (fun b5 => ?_)
    refine TL.rowOf (us := []) (xs := ([] : List Top)) (E := Top_rd) (z := 2) rfl (Nat.le_of_ble_eq_true rfl) (fun _ => rfl) ?_
    refine TL.run ft_cursitorref14_ok [1] rfl rfl ?_
    refine TL.nil (X.seq (T.seq (T.seq (T.region rfl ?_))))
    refine TL.run ft_cursitorref14_ok [0] rfl rfl ?_
    refine TL.nil (X.seq (T.block ?_))
    refine T.nilrow 104 2 Top_rd ?_
    obtain ⟨E16, hE17, hO18⟩ := Option.bind_eq_some_iff.1 h
    refine T.lp (fun m e Rs => ∃ (y6 : List Top) (A7 : Option Addr) (c8 : Nat) (y9 : Int) (y10 : Int) (y11 : Int) (y12 : List Top) (A13 : Option Addr) (c14 : Nat) (k15 : Nat), e = [(0, .string (bsOf a0)), (2, .slice A7 y6.length c8), (3, .int .i64 y9), (4, .int .i64 y10), (5, .int .i64 x1), (7, .int .i64 y11), (8, .slice A13 y12.length c14), (9, .int .i64 (k15 : Int))] ∧ Rs = [OwnR 104 2 Top_rd (.slice A7 y6.length c8) y6, OwnR 104 2 Top_rd (.slice A13 y12.length c14) y12, EmpR] ∧ f_r14_ReadTopics_l1 a0 x1 m y6 y9 y10 y11 y12 k15 = some E16) ((x1).toNat + 1) [0, 0, 0] ⟨[], none, 0, 0, 0, 4, ([] : List Top), (some ⟨b5, 0, none⟩), 0, 0, rfl, rfl, by exact hE17⟩ (by rfl) (by rfl) ?_
    rintro m19 _ _ ⟨y6, A7, c8, y9, y10, y11, y12, A13, c14, k15, rfl, rfl, hl21⟩
    clear hE17 h
    cases m19 with
    | zero =>
      rw [f_r14_ReadTopics_l1] at hl21
      cases hl21
    | succ m19 =>
      have h := hl21
      clear hl21
      rw [f_r14_ReadTopics_l1] at h
      refine T.seq (T.seq (T.region rfl ?_))
      refine TL.run ft_cursitorref14_ok [0, 1, 2] rfl rfl ?_
      by_cases c23 : (k15 : Int) < x1
      · replace h := ifT c23 h
        refine TL.nil (X.seq ?_)
        refine T.yes rfl (decide_eq_true c23) ?_
        refine T.skip (X.seq (T.seq (T.block (T.seq (T.region rfl ?_)))))
        replace h := guard_some h
        obtain ⟨c24, h⟩ := h
        refine TL.run ft_cursitorref14_ok [0, 1] rfl rfl ?_
        refine TL.q rfl .u (Ex.sSl (p := y11.toNat) (q := a0.length) (m := (a0.drop y11.toNat)) rfl Try.runUnderlying9 (.some rfl ((Int.toNat_of_nonneg c24.1).symm)) .none (by omega) (sl_drop _ _)) rfl ?_
        obtain ⟨x25, hx26, h⟩ := Option.bind_eq_some_iff.1 h
        refine TL.ce rfl .u (.fn Try.call78 rfl) (gRRFixed_spec (a0.drop y11.toNat) 2 _ hx26) (fun _ hs => (RX.reads_triv _ _)) rfl ?_
        refine TL.alloc rfl .u Try.zeroValue134 rfl (fun b27 => ?_)
        refine TL.st0 (cs' := #[.bool x25.blob.null, .string (bsOf x25.blob.data), .int .i64 x25.many, .int .i64 x25.err]) rfl .u rfl rfl Try.sizeOf134 rfl rfl rfl rfl ?_
        refine TL.nil (X.seq (T.seq (T.seq (T.region rfl ?_))))
        refine TL.run ft_cursitorref14_ok [0] rfl rfl ?_
        refine TL.q rfl .u (Ex.b1 0 rfl Try.isAgg3 rfl rfl) rfl ?_
        refine TL.run ft_cursitorref14_ok [2] rfl rfl ?_
        by_cases c28 : x25.err = 0
        · replace h := ifT c28 h
          refine TL.nil (X.seq ?_)
          refine T.no rfl (bn_f (decide_eq_true c28)) ?_
          refine T.skip (X.seq (T.seq (T.seq (T.region rfl ?_))))
          refine TL.run ft_cursitorref14_ok [0, 1] rfl rfl ?_
          refine TL.q rfl .u (Ex.b1 0 rfl Try.isAgg4 rfl rfl) rfl ?_
          by_cases c29 : x25.blob.null = true
          · replace h := ifT c29 h
            refine TL.nil (X.seq ?_)
            refine T.yes rfl c29 ?_
            refine T.seq (T.region rfl ?_)
            refine TL.run ft_cursitorref14_ok [0, 1, 2] rfl rfl ?_
            obtain rfl := Option.some.inj h
            replace h := hO18
            clear hO18
            try dsimp only at h
            obtain rfl := Option.some.inj h
            refine TL.nil (X.seq (T.ret (X.rs (X.rb (X.rs (X.rs (X.rb (X.rs ?_))))))))
            refine X.nilrd 2 Top_rd ?_
            exact X.done3 [4, 0] Try.results57 (RV.tm rfl) (RV.tm rfl) (RV.tm rfl) ⟨_, _, rfl, rfl, rfl⟩ (by rfl) (.inl rfl)
          · replace h := ifF c29 h
            replace c29 := eq_false_of_ne_true c29
            refine TL.nil (X.seq ?_)
            refine T.no rfl c29 ?_
            refine T.skip (X.seq (T.seq (T.region rfl ?_)))
            refine TL.run ft_cursitorref14_ok [0, 1] rfl rfl ?_
            refine TL.q rfl .u (Ex.b1 0 rfl Try.isAgg3 rfl rfl) rfl ?_
            replace h := guard_some h
            obtain ⟨c30, h⟩ := h
            refine TL.q rfl .u (Ex.add rfl rfl c30) rfl ?_
            refine TL.run ft_cursitorref14_ok [4] rfl rfl ?_
            refine TL.nil (X.seq (T.seq (T.region rfl ?_)))
            replace h := guard_some h
            obtain ⟨c31, h⟩ := h
            refine TL.run ft_cursitorref14_ok [0, 1] rfl rfl ?_
            refine TL.q rfl .u (Ex.sSl (p := (y11 + x25.many).toNat) (q := a0.length) (m := (a0.drop ((y11 + x25.many).toNat))) rfl Try.runUnderlying9 (.some rfl ((Int.toNat_of_nonneg c31.1).symm)) .none (by omega) (sl_drop _ _)) rfl ?_
            obtain ⟨⟨x32, x33⟩, hx34, h⟩ := Option.bind_eq_some_iff.1 h
            try dsimp only at h
            refine TL.ce rfl .u (.fn Try.call113 rfl) (f_r14_count_spec (a0.drop ((y11 + x25.many).toNat)) 4 _ hx34) (fun _ hs => (RX.reads_triv _ _)) rfl ?_
            refine TL.run ft_cursitorref14_ok [4, 5, 6, 7, 8] rfl rfl ?_
            refine TL.nil (X.seq (T.seq (T.seq (T.region rfl ?_))))
            refine TL.run ft_cursitorref14_ok [0, 1] rfl rfl ?_
            by_cases c35 : x33 = 0
            · replace h := ifT c35 h
              refine TL.nil (X.seq ?_)
              refine T.no rfl (bn_f (decide_eq_true c35)) ?_
              refine T.skip (X.seq (T.seq (T.region rfl ?_)))
              replace h := guard_some h
              obtain ⟨c36, h⟩ := h
              refine TL.run ft_cursitorref14_ok [0] rfl rfl ?_
              refine TL.q rfl .u (Ex.add rfl rfl c36) rfl ?_
              refine TL.run ft_cursitorref14_ok [2] rfl rfl ?_
              refine TL.nil (X.seq (T.seq (T.region rfl ?_)))
              refine TL.run ft_cursitorref14_ok [0, 1] rfl rfl ?_
              refine TL.q rfl .u (Ex.b1 0 rfl Try.isAgg9 rfl rfl) rfl ?_
              refine TL.q rfl .u (Ex.bld (cells := #[.string (bsOf x25.blob.data), .slice none 0 0]) bok_cursitorref14_104 rfl (by rfl)) rfl ?_
              refine TL.alloc rfl .u Try.zeroValue104 rfl (fun b37 => ?_)
              refine TL.st0 (cs' := #[.string (bsOf x25.blob.data), .slice none 0 0]) rfl .u rfl rfl Try.sizeOf104 rfl rfl rfl rfl ?_
              refine TL.nil (X.seq (T.seq (T.seq (T.region rfl ?_))))
              refine TL.run ft_cursitorref14_ok [0] rfl rfl ?_
              refine TL.nil (X.seq (T.block ?_))
              refine T.nilrow 3 1 intE ?_
              obtain ⟨E43, hE44, hO45⟩ := Option.bind_eq_some_iff.1 h
              refine T.lp (fun m e Rs => ∃ (y38 : Int) (k39 : Nat) (y40 : List Int) (A41 : Option Addr) (c42 : Nat), e = [(0, .string (bsOf a0)), (2, .slice A7 y6.length c8), (3, .int .i64 y9), (4, .int .i64 y10), (5, .int .i64 x1), (7, .int .i64 y38), (8, .slice A13 y12.length c14), (9, .int .i64 (k15 : Int)), (11, .int .i64 x32), (13, .pointer (some ⟨b37, 0, none⟩)), (14, .int .i64 (k39 : Int))] ∧ Rs = [OwnR 3 1 intE (.slice A41 y40.length c42) y40, BlkR b37 104 #[.string (bsOf x25.blob.data), .slice A41 y40.length c42], BlkR b27 134 #[.bool x25.blob.null, .string (bsOf x25.blob.data), .int .i64 x25.many, .int .i64 x25.err], OwnR 104 2 Top_rd (.slice A7 y6.length c8) y6, OwnR 104 2 Top_rd (.slice A13 y12.length c14) y12, EmpR] ∧ f_r14_ReadTopics_l2 a0 x32 m y38 k39 y40 = some E43) ((x32).toNat + 1) [0, 0, 0, 0, 0, 0] ⟨((y11 + x25.many) + 4), 0, [], none, 0, rfl, rfl, by exact hE44⟩ (by rfl) (by rfl) ?_
              rintro m46 _ _ ⟨y38, k39, y40, A41, c42, rfl, rfl, hl48⟩
              clear hE44 h
              cases m46 with
              | zero =>
                rw [f_r14_ReadTopics_l2] at hl48
                cases hl48
              | succ m46 =>
                have h := hl48
                clear hl48
                rw [f_r14_ReadTopics_l2] at h
                refine T.seq (T.seq (T.region rfl ?_))
                refine TL.run ft_cursitorref14_ok [0, 1, 2] rfl rfl ?_
                by_cases c50 : (k39 : Int) < x32
                · replace h := ifT c50 h
                  refine TL.nil (X.seq ?_)
                  refine T.yes rfl (decide_eq_true c50) ?_
                  replace h := guard_some h
                  obtain ⟨c51, h⟩ := h
                  replace h := guard_some h
                  obtain ⟨c52, h⟩ := h
                  obtain ⟨x53, hx54, h⟩ := Option.bind_eq_some_iff.1 h
                  replace h := guard_some h
                  obtain ⟨c56, h⟩ := h
                  refine T.skip (X.seq (T.seq (T.block (T.seq ?_))))
                  refine T.join (fun e Rs => ∃ (b55 : Nat) (A57 : Option Addr) (c58 : Nat), e = [(0, .string (bsOf a0)), (2, .slice A7 y6.length c8), (3, .int .i64 y9), (4, .int .i64 y10), (5, .int .i64 x1), (7, .int .i64 y38), (8, .slice A13 y12.length c14), (9, .int .i64 (k15 : Int)), (11, .int .i64 x32), (13, .pointer (some ⟨b37, 0, none⟩)), (14, .int .i64 (k39 : Int)), (61, .int .i64 (k39 : Int)), (62, .int .i64 x32)] ∧ Rs = [OwnR 3 1 intE (.slice A57 (y40 ++ [x53]).length c58) (y40 ++ [x53]), BlkR b37 104 #[.string (bsOf x25.blob.data), .slice A57 (y40 ++ [x53]).length c58], BlkR b27 134 #[.bool x25.blob.null, .string (bsOf x25.blob.data), .int .i64 x25.many, .int .i64 x25.err], OwnR 104 2 Top_rd (.slice A7 y6.length c8) y6, OwnR 104 2 Top_rd (.slice A13 y12.length c14) y12, EmpR]) ?_ ?_
                  · refine T.draw (.q 0 (.q 2 (.q 3 (.q 4 (.q 5 (.q 6 (.br 1 (.e 7 (.e 8 (.e 9 (.q 10 (.e 11 .nil))))) (.e 7 (.br 1 (.e 8 (.e 9 (.q 10 (.e 11 .nil)))) (.e 8 (.e 1 (.e 9 (.q 10 (.e 11 .nil)))))))))))))) [2, 2, 2, 2] rfl mix_cursitorref14 np_jq (by kernel_rfl) ?_
                    refine TD.run ft_cursitorref14_ok [0, 2, 3, 4] rfl rfl ?_
                    refine TD.q rfl .u (Ex.add rfl rfl c51) rfl ?_
                    refine TD.q rfl .u (Ex.sSl (p := y38.toNat) (q := (y38 + 4).toNat) (m := ((a0.drop y38.toNat).take (((y38 + 4).toNat) - y38.toNat))) rfl Try.runUnderlying9 (.some rfl ((Int.toNat_of_nonneg c52.1).symm)) (.some rfl ((Int.toNat_of_nonneg c52.2.1).symm)) (by omega) rfl) rfl ?_
                    refine TD.br ?_ ?_
                    · refine TD.ny rfl .u (Ex.b1 1 rfl Try.isAgg102 rfl rfl) rfl [2, 2, 2, 2] rfl ?_
                      refine TD.ce rfl .u (.fn Try.call76 rfl) (SpecX.pure (fun w => gRInt_spec ((a0.drop y38.toNat).take (((y38 + 4).toNat) - y38.toNat)) _ hx54 w)) (fun _ _ => RX.reads_triv _ _) rfl [2, 2, 2, 2] (rfl) ?_
                      refine TD.lit (cells := #[.int .i64 x53]) rfl .u sok_cursitorref14_102_1 rfl (by rfl) rfl [3, 3, 3, 3] (fun _ => rfl) (fun b55 => ?_)
                      refine TD.app1 0 rfl .u (us := [.int .i64 x53]) (u := x53) (l := y40) (E := intE) Try.underlying102 inf_cursitorref14_3 rfl (by decide) rfl rfl rfl rfl rfl rfl (fun _ _ => rfl) (by have hq := c56; omega) (by have hq := c56; omega) rfl [2, 2, 2, 2] (fun _ _ => rfl) (fun A57 c58 => ?_)
                      refine TD.sel [0, 0, 0, 0, 0, 0] rfl ?_
                      refine TD.run ft_cursitorref14_ok [10] rfl rfl ?_
                      refine TD.st1 (cs' := #[.string (bsOf x25.blob.data), .slice A57 (y40 ++ [x53]).length c58]) rfl .u rfl rfl Try.sizeOf102 rfl rfl rfl rfl [2, 2, 2, 2] (rfl) ?_
                      exact TD.nil (X.jn [0, 0, 0, 0, 0, 0] ⟨b55, A57, c58, rfl, rfl⟩ (by rfl) (by rfl))
                    · refine TD.ce rfl .u (.fn Try.call76 rfl) (SpecX.pure (fun w => gRInt_spec ((a0.drop y38.toNat).take (((y38 + 4).toNat) - y38.toNat)) _ hx54 w)) (fun _ _ => RX.reads_triv _ _) rfl [2, 2, 2, 2] (rfl) ?_
                      refine TD.br ?_ ?_
                      · refine TD.ny rfl .u (Ex.b1 1 rfl Try.isAgg102 rfl rfl) rfl [2, 2, 2, 2] rfl ?_
                        refine TD.lit (cells := #[.int .i64 x53]) rfl .u sok_cursitorref14_102_1 rfl (by rfl) rfl [3, 3, 3, 3] (fun _ => rfl) (fun b55 => ?_)
                        refine TD.app1 0 rfl .u (us := [.int .i64 x53]) (u := x53) (l := y40) (E := intE) Try.underlying102 inf_cursitorref14_3 rfl (by decide) rfl rfl rfl rfl rfl rfl (fun _ _ => rfl) (by have hq := c56; omega) (by have hq := c56; omega) rfl [2, 2, 2, 2] (fun _ _ => rfl) (fun A57 c58 => ?_)
                        refine TD.sel [0, 0, 0, 0, 0, 0] rfl ?_
                        refine TD.run ft_cursitorref14_ok [10] rfl rfl ?_
                        refine TD.st1 (cs' := #[.string (bsOf x25.blob.data), .slice A57 (y40 ++ [x53]).length c58]) rfl .u rfl rfl Try.sizeOf102 rfl rfl rfl rfl [2, 2, 2, 2] (rfl) ?_
                        exact TD.nil (X.jn [0, 0, 0, 0, 0, 0] ⟨b55, A57, c58, rfl, rfl⟩ (by rfl) (by rfl))
                      · refine TD.lit (cells := #[.int .i64 x53]) rfl .u sok_cursitorref14_102_1 rfl (by rfl) rfl [3, 3, 3, 3] (fun _ => rfl) (fun b55 => ?_)
                        refine TD.ny rfl .u (Ex.b1 2 rfl Try.isAgg102 rfl rfl) rfl [3, 3, 3, 3] rfl ?_
                        refine TD.app1 0 rfl .u (us := [.int .i64 x53]) (u := x53) (l := y40) (E := intE) Try.underlying102 inf_cursitorref14_3 rfl (by decide) rfl rfl rfl rfl rfl rfl (fun _ _ => rfl) (by have hq := c56; omega) (by have hq := c56; omega) rfl [2, 2, 2, 2] (fun _ _ => rfl) (fun A57 c58 => ?_)
                        refine TD.sel [0, 0, 0, 0, 0, 0] rfl ?_
                        refine TD.run ft_cursitorref14_ok [10] rfl rfl ?_
                        refine TD.st1 (cs' := #[.string (bsOf x25.blob.data), .slice A57 (y40 ++ [x53]).length c58]) rfl .u rfl rfl Try.sizeOf102 rfl rfl rfl rfl [2, 2, 2, 2] (rfl) ?_
                        exact TD.nil (X.jn [0, 0, 0, 0, 0, 0] ⟨b55, A57, c58, rfl, rfl⟩ (by rfl) (by rfl))
                  · rintro _ _ ⟨b55, A57, c58, rfl, rfl⟩
                    refine X.seq (T.region rfl ?_)
                    replace h := guard_some h
                    obtain ⟨c59, h⟩ := h
                    refine TL.run ft_cursitorref14_ok [0] rfl rfl ?_
                    refine TL.q rfl .u (Ex.add rfl rfl c59) rfl ?_
                    refine TL.run ft_cursitorref14_ok [2] rfl rfl ?_
                    refine TL.nil (X.blk (X.seq (T.region rfl ?_)))
                    replace h := guard_some h
                    obtain ⟨c60, h⟩ := h
                    refine TL.run ft_cursitorref14_ok [0] rfl rfl ?_
                    refine TL.q rfl .u (Ex.add rfl rfl c60) rfl ?_
                    refine TL.run ft_cursitorref14_ok [2] rfl rfl ?_
                    exact TL.nil (X.back (m' := m46) [0, 0, 0, 0, 0, 0] (by omega) ⟨(y38 + 4), k39 + 1, (y40 ++ [x53]), A57, c58, rfl, rfl, h⟩ (by rfl) (by rfl))
                · replace h := ifF c50 h
                  refine TL.nil (X.seq ?_)
                  refine T.no rfl (decide_eq_false c50) ?_
                  obtain rfl := Option.some.inj h
                  replace h := hO45
                  clear hO45
                  try dsimp only at h
                  refine T.exit (X.exs (X.exs (X.ex (X.seq (T.region rfl ?_)))))
                  refine TL.run ft_cursitorref14_ok [0] rfl rfl ?_
                  refine TL.q rfl .u (Ex.bS (us := [.string (bsOf x25.blob.data), .slice A41 y40.length c42]) 1 rfl Try.isAgg104 Try.sizeOf104 rfl rfl rfl) rfl ?_
                  refine TL.lit (cells := #[.string (bsOf x25.blob.data), .slice A41 y40.length c42]) rfl .u sok_cursitorref14_62_1 rfl (by rfl) rfl (fun b61 => ?_)
                  replace h := guard_some h
                  obtain ⟨c62, h⟩ := h
                  refine TL.app2 4 0 rfl .u (us := [.string (bsOf x25.blob.data), .slice A41 y40.length c42]) (u := (⟨x25.blob.data, y40⟩ : Top)) (l := y12) (E := Top_rd) Try.underlying62 inf_cursitorref14_104 rfl (by decide) rfl rfl rfl rfl rfl rfl rfl (fun w G hG => ⟨_, _, rfl, own_reads (by decide) _ _ hG⟩) (by have hq := c62; omega) (by have hq := c62; omega) rfl (fun A63 c64 => ?_)
                  refine TL.sel [0, 0, 0, 0, 0] rfl ?_
                  refine TL.run ft_cursitorref14_ok [4] rfl rfl ?_
                  refine TL.nil (X.blk (X.seq (T.region rfl ?_)))
                  replace h := guard_some h
                  obtain ⟨c65, h⟩ := h
                  refine TL.run ft_cursitorref14_ok [0] rfl rfl ?_
                  refine TL.q rfl .u (Ex.add rfl rfl c65) rfl ?_
                  refine TL.run ft_cursitorref14_ok [2] rfl rfl ?_
                  exact TL.nil (X.back (m' := m19) [3, 0, 2] (by omega) ⟨y6, A7, c8, y9, y10, y38, (y12 ++ [(⟨x25.blob.data, y40⟩ : Top)]), A63, c64, k15 + 1, rfl, rfl, h⟩ (by rfl) (by rfl))
            · replace h := ifF c35 h
              refine TL.nil (X.seq ?_)
              refine T.yes rfl (bn_t (decide_eq_false c35)) ?_
              refine T.seq (T.region rfl ?_)
              refine TL.run ft_cursitorref14_ok [0, 1, 2, 3] rfl rfl ?_
              obtain rfl := Option.some.inj h
              replace h := hO18
              clear hO18
              try dsimp only at h
              obtain rfl := Option.some.inj h
              refine TL.nil (X.seq (T.ret (X.rs (X.rb (X.rs (X.rs (X.rb (X.rs ?_))))))))
              refine X.nilrd 2 Top_rd ?_
              exact X.done3 [4, 0] Try.results57 (RV.tm rfl) (RV.tm rfl) (RV.tm rfl) ⟨_, _, rfl, rfl, rfl⟩ (by rfl) (.inl rfl)
        · replace h := ifF c28 h
          refine TL.nil (X.seq ?_)
          refine T.yes rfl (bn_t (decide_eq_false c28)) ?_
          refine T.seq (T.draw (.q 0 (.q 1 (.q 2 (.q 3 (.q 4 .nil))))) [0, 0, 0, 0] rfl mix_cursitorref14 (NoP.seq (NoP.seq (NoP.blk (NoP.seq (NoP.seq (NoP.blk (NoP.seq np_post))))))) (by kernel_rfl) ?_)
          refine TD.run ft_cursitorref14_ok [0] rfl rfl ?_
          refine TD.q rfl .u (Ex.b1 0 rfl Try.isAgg3 rfl rfl) rfl ?_
          refine TD.run ft_cursitorref14_ok [2, 3, 4] rfl rfl ?_
          obtain rfl := Option.some.inj h
          replace h := hO18
          clear hO18
          try dsimp only at h
          obtain rfl := Option.some.inj h
          refine TD.nil (X.seq (T.ret (X.rs (X.rb (X.rs (X.rs (X.rb (X.rs ?_))))))))
          refine X.nilrd 2 Top_rd ?_
          exact X.done3 [4, 0] Try.results57 (RV.tm rfl) (RV.tm rfl) (RV.tm rfl) ⟨_, _, rfl, rfl, rfl⟩ (by rfl) (.inl rfl)
      · replace h := ifF c23 h
        refine TL.nil (X.seq ?_)
        refine T.no rfl (decide_eq_false c23) ?_
        obtain rfl := Option.some.inj h
        replace h := hO18
        clear hO18
        try dsimp only at h
        refine T.exit (X.exs (X.exs (X.ex (X.seq (T.seq (T.region rfl ?_))))))
        refine TL.run ft_cursitorref14_ok [0, 1, 2, 3, 4] rfl rfl ?_
        obtain rfl := Option.some.inj h
        refine TL.nil (X.seq (T.ret ?_))
        refine X.shut (by decide) 1 rfl ?_
        refine X.sel [0, 0, 0] rfl ?_
        exact X.done3 [2, 1] Try.results57 (RV.tm rfl) (RV.tm rfl) (RV.tm rfl) ⟨_, _, rfl, rfl, rfl⟩ (by rfl) (.inl rfl)
  · replace h := ifF c4 h
    refine TL.nil (X.seq ?_)
    refine T.yes rfl (bn_t (decide_eq_false c4)) ?_
    refine T.seq (T.region rfl ?_)
    refine TL.run ft_cursitorref14_ok [0, 1, 2, 3] rfl rfl ?_
    obtain rfl := Option.some.inj h
    refine TL.nil (X.seq (T.ret (X.rs ?_)))
    refine X.nilrd 2 Top_rd ?_
    exact X.done3 [1, 0] Try.results57 (RV.tm rfl) (RV.tm rfl) (RV.tm rfl) ⟨_, _, rfl, rfl, rfl⟩ (by rfl) (.inl rfl)
def f_r14_less_l1 (a0 : List UInt8) (a1 : List UInt8) : Nat → Bool → Nat → Option (Lp Bool (Bool × Nat))
  | 0, _, _ => none
  | m6 + 1, y1, k2 => if (k2 : Int) < (a0.length : Int) then (if (k2 : Int) < (a1.length : Int) then ((a0[k2]?).bind fun ch12 => (a1[k2]?).bind fun ch14 => if (ch12.toNat : Int) = (ch14.toNat : Int) then (if -9223372036854775808 ≤ ((k2 : Int) + 1) ∧ ((k2 : Int) + 1) ≤ 9223372036854775807 then (f_r14_less_l1 a0 a1 m6 y1 (k2 + 1)) else none) else (if (ch12.toNat : Int) < (ch14.toNat : Int) then some (Lp.ret true) else some (Lp.ret false))) else (some (Lp.go (y1, k2)))) else (some (Lp.go (y1, k2)))
def f_r14_less (a0 : List UInt8) (a1 : List UInt8) : Option (Bool) := (f_r14_less_l1 a0 a1 (((a1.length : Int)).toNat + 1) false 0).bind fun e => match e with | .ret r => some r | .go (y21, k22) => (if (a0.length : Int) < (a1.length : Int) then some true else some false)
set_option maxRecDepth 100000 in
set_option maxHeartbeats 4000000 in
theorem f_r14_less_spec (a0 : List UInt8) (a1 : List UInt8) (r : Bool) (h : f_r14_less a0 a1 = some r) : SpecX Try.prog 100 #[.string (bsOf a0), .string (bsOf a1)] .triv (EmpR) (fun v A' N => v = .bool r ∧ A' = EmpR ∧ N = []) := by
  refine enterA Try.func100 rfl Try.ntmps100 rfl ?_
  intro F w hX
  unfold f_r14_less at h
  refine T.seq (T.region rfl ?_)
  refine TL.run ft_cursitorref14_ok [0] rfl rfl ?_
  refine TL.nil (X.seq (T.seq (T.seq (T.region rfl ?_))))
  refine TL.run ft_cursitorref14_ok [0] rfl rfl ?_
  refine TL.nil (X.seq (T.block ?_))
  obtain ⟨E3, hE4, hO5⟩ := Option.bind_eq_some_iff.1 h
  refine T.lp (fun m e Rs => ∃ (y1 : Bool) (k2 : Nat), e = [(0, .string (bsOf a0)), (1, .string (bsOf a1)), (4, .bool y1), (5, .int .i64 (k2 : Int))] ∧ Rs = [EmpR] ∧ f_r14_less_l1 a0 a1 m y1 k2 = some E3) (((a1.length : Int)).toNat + 1) [0] ⟨false, 0, rfl, rfl, by exact hE4⟩ (by rfl) (by rfl) ?_
  rintro m6 _ _ ⟨y1, k2, rfl, rfl, hl8⟩
  clear hE4 h
  cases m6 with
  | zero =>
    rw [f_r14_less_l1] at hl8
    cases hl8
  | succ m6 =>
    have h := hl8
    clear hl8
    rw [f_r14_less_l1] at h
    refine T.seq (T.seq (T.region rfl ?_))
    refine TL.run ft_cursitorref14_ok [0, 1] rfl rfl ?_
    refine TL.q rfl .u (Ex.lenB rfl Try.runUnderlying9) rfl ?_
    by_cases c10 : (k2 : Int) < (a0.length : Int)
    · replace h := ifT c10 h
      refine TL.run ft_cursitorref14_ok [3, 4] rfl rfl ?_
      refine TL.q rfl (.g rfl rfl (decide_eq_true c10)) (Ex.ft ft_cursitorref14_ok rfl) rfl ?_
      refine TL.q rfl (.g rfl rfl (decide_eq_true c10)) (Ex.ft ft_cursitorref14_ok rfl) rfl ?_
      refine TL.q rfl (.g rfl rfl (decide_eq_true c10)) (Ex.lenB rfl Try.runUnderlying9) rfl ?_
      refine TL.q rfl (.g rfl rfl (decide_eq_true c10)) (Ex.ft ft_cursitorref14_ok rfl) rfl ?_
      refine TL.q rfl .u (Ex.py rfl (decide_eq_true c10) rfl) rfl ?_
      by_cases c11 : (k2 : Int) < (a1.length : Int)
      · replace h := ifT c11 h
        refine TL.nil (X.seq ?_)
        refine T.yes rfl (decide_eq_true c11) ?_
        refine T.skip (X.seq (T.seq (T.block (T.seq (T.draw (.q 0 (.q 1 (.q 2 (.q 3 (.q 4 (.q 5 (.q 6 .nil))))))) [0] rfl mix_cursitorref14 (NoP.seq (NoP.blk (NoP.seq (NoP.seq (NoP.blk (NoP.seq np_post)))))) (by kernel_rfl) ?_)))))
        obtain ⟨ch12, hc13, h⟩ := Option.bind_eq_some_iff.1 h
        refine TD.run ft_cursitorref14_ok [0, 1] rfl rfl ?_
        refine TD.q rfl .u (Ex.sIx rfl rfl rfl Try.underlying9 hc13) rfl ?_
        obtain ⟨ch14, hc15, h⟩ := Option.bind_eq_some_iff.1 h
        refine TD.run ft_cursitorref14_ok [3, 4] rfl rfl ?_
        refine TD.q rfl .u (Ex.sIx rfl rfl rfl Try.underlying9 hc15) rfl ?_
        refine TD.run ft_cursitorref14_ok [6] rfl rfl ?_
        by_cases c16 : (ch12.toNat : Int) = (ch14.toNat : Int)
        · replace h := ifT c16 h
          refine TD.nil (X.seq ?_)
          refine T.no rfl (bn_f (decide_eq_true c16)) ?_
          refine T.skip (X.blk (X.seq (T.region rfl ?_)))
          replace h := guard_some h
          obtain ⟨c17, h⟩ := h
          refine TL.run ft_cursitorref14_ok [0] rfl rfl ?_
          refine TL.q rfl .u (Ex.add rfl rfl c17) rfl ?_
          refine TL.run ft_cursitorref14_ok [2] rfl rfl ?_
          exact TL.nil (X.back (m' := m6) [0] (by omega) ⟨y1, k2 + 1, rfl, rfl, h⟩ (by rfl) (by rfl))
        · replace h := ifF c16 h
          refine TD.nil (X.seq ?_)
          refine T.yes rfl (bn_t (decide_eq_false c16)) ?_
          refine T.seq (T.draw (.q 0 (.q 1 (.q 2 (.q 3 (.q 4 (.q 5 (.q 6 (.q 7 .nil)))))))) [0] rfl mix_cursitorref14 (NoP.seq (NoP.blk (NoP.seq (NoP.seq (NoP.blk (NoP.seq np_post)))))) (by kernel_rfl) ?_)
          refine TD.run ft_cursitorref14_ok [0, 1] rfl rfl ?_
          refine TD.q rfl .u (Ex.sIx rfl rfl rfl Try.underlying9 hc13) rfl ?_
          refine TD.run ft_cursitorref14_ok [3, 4] rfl rfl ?_
          refine TD.q rfl .u (Ex.sIx rfl rfl rfl Try.underlying9 hc15) rfl ?_
          refine TD.run ft_cursitorref14_ok [6, 7] rfl rfl ?_
          by_cases c18 : (ch12.toNat : Int) < (ch14.toNat : Int)
          · replace h := ifT c18 h
            obtain rfl := Option.some.inj h
            replace h := hO5
            clear hO5
            try dsimp only at h
            obtain rfl := Option.some.inj h
            exact TD.nil (X.seq (T.ret (X.rb (X.rs (X.rs (X.rb (X.rs (X.done1 [0] Try.results100 (RV.tm (v := .bool true) (congrArg (fun b => some (Value.bool b)) (decide_eq_true c18))) ⟨rfl, rfl, rfl⟩ (by rfl) (.inl rfl)))))))))
          · replace h := ifF c18 h
            obtain rfl := Option.some.inj h
            replace h := hO5
            clear hO5
            try dsimp only at h
            obtain rfl := Option.some.inj h
            exact TD.nil (X.seq (T.ret (X.rb (X.rs (X.rs (X.rb (X.rs (X.done1 [0] Try.results100 (RV.tm (v := .bool false) (congrArg (fun b => some (Value.bool b)) (decide_eq_false c18))) ⟨rfl, rfl, rfl⟩ (by rfl) (.inl rfl)))))))))
      · replace h := ifF c11 h
        refine TL.nil (X.seq ?_)
        refine T.no rfl (decide_eq_false c11) ?_
        obtain rfl := Option.some.inj h
        replace h := hO5
        clear hO5
        try dsimp only at h
        refine T.exit (X.exs (X.exs (X.ex (X.seq (T.seq (T.region rfl ?_))))))
        refine TL.run ft_cursitorref14_ok [0] rfl rfl ?_
        refine TL.q rfl .u (Ex.lenB rfl Try.runUnderlying9) rfl ?_
        refine TL.run ft_cursitorref14_ok [2] rfl rfl ?_
        refine TL.q rfl .u (Ex.lenB rfl Try.runUnderlying9) rfl ?_
        refine TL.run ft_cursitorref14_ok [4, 5] rfl rfl ?_
        by_cases c19 : (a0.length : Int) < (a1.length : Int)
        · replace h := ifT c19 h
          obtain rfl := Option.some.inj h
          exact TL.nil (X.seq (T.ret (X.done1 [0] Try.results100 (RV.tm (v := .bool true) (congrArg (fun b => some (Value.bool b)) (decide_eq_true c19))) ⟨rfl, rfl, rfl⟩ (by rfl) (.inl rfl))))
        · replace h := ifF c19 h
          obtain rfl := Option.some.inj h
          exact TL.nil (X.seq (T.ret (X.done1 [0] Try.results100 (RV.tm (v := .bool false) (congrArg (fun b => some (Value.bool b)) (decide_eq_false c19))) ⟨rfl, rfl, rfl⟩ (by rfl) (.inl rfl))))
    · replace h := ifF c10 h
      refine TL.run ft_cursitorref14_ok [3, 4] rfl rfl ?_
      refine TL.no rfl (.gn rfl rfl (decide_eq_false c10)) rfl ?_
      refine TL.no rfl (.gn rfl rfl (decide_eq_false c10)) rfl ?_
      refine TL.no rfl (.gn rfl rfl (decide_eq_false c10)) rfl ?_
      refine TL.no rfl (.gn rfl rfl (decide_eq_false c10)) rfl ?_
      refine TL.q rfl .u (Ex.pn rfl (decide_eq_false c10) rfl) rfl ?_
      refine TL.nil (X.seq ?_)
      refine T.no rfl rfl ?_
      obtain rfl := Option.some.inj h
      replace h := hO5
      clear hO5
      try dsimp only at h
      refine T.exit (X.exs (X.exs (X.ex (X.seq (T.seq (T.region rfl ?_))))))
      refine TL.run ft_cursitorref14_ok [0] rfl rfl ?_
      refine TL.q rfl .u (Ex.lenB rfl Try.runUnderlying9) rfl ?_
      refine TL.run ft_cursitorref14_ok [2] rfl rfl ?_
      refine TL.q rfl .u (Ex.lenB rfl Try.runUnderlying9) rfl ?_
      refine TL.run ft_cursitorref14_ok [4, 5] rfl rfl ?_
      by_cases c20 : (a0.length : Int) < (a1.length : Int)
      · replace h := ifT c20 h
        obtain rfl := Option.some.inj h
        exact TL.nil (X.seq (T.ret (X.done1 [0] Try.results100 (RV.tm (v := .bool true) (congrArg (fun b => some (Value.bool b)) (decide_eq_true c20))) ⟨rfl, rfl, rfl⟩ (by rfl) (.inl rfl))))
      · replace h := ifF c20 h
        obtain rfl := Option.some.inj h
        exact TL.nil (X.seq (T.ret (X.done1 [0] Try.results100 (RV.tm (v := .bool false) (congrArg (fun b => some (Value.bool b)) (decide_eq_false c20))) ⟨rfl, rfl, rfl⟩ (by rfl) (.inl rfl))))
def f_r14_Rise_l2 (x13 : Top) : Nat → Bool → Nat → Option (Lp Bool (Bool × Nat))
  | 0, _, _ => none
  | m39 + 1, y34, k35 => if (k35 : Int) < (x13.fParts.length : Int) then ((x13.fParts[k35]?).bind fun x44 => if x44 < 0 then some (Lp.ret false) else (if x44 > 2147483647 then some (Lp.ret false) else (if (k35 : Int) > 0 then (if -9223372036854775808 ≤ ((k35 : Int) - 1) ∧ ((k35 : Int) - 1) ≤ 9223372036854775807 then (if 0 ≤ ((k35 : Int) - 1) then ((x13.fParts[((k35 : Int) - 1).toNat]?).bind fun x52 => if x52 ≥ x44 then some (Lp.ret false) else (if -9223372036854775808 ≤ ((k35 : Int) + 1) ∧ ((k35 : Int) + 1) ≤ 9223372036854775807 then (f_r14_Rise_l2 x13 m39 y34 (k35 + 1)) else none)) else none) else none) else (if -9223372036854775808 ≤ ((k35 : Int) + 1) ∧ ((k35 : Int) + 1) ≤ 9223372036854775807 then (f_r14_Rise_l2 x13 m39 y34 (k35 + 1)) else none)))) else (some (Lp.go (y34, k35)))
def f_r14_Rise_l3 (x13 : Top) : Nat → Bool → Nat → Option (Lp Bool (Bool × Nat))
  | 0, _, _ => none
  | m67 + 1, y62, k63 => if (k63 : Int) < (x13.fParts.length : Int) then ((x13.fParts[k63]?).bind fun x72 => if x72 < 0 then some (Lp.ret false) else (if x72 > 2147483647 then some (Lp.ret false) else (if (k63 : Int) > 0 then (if -9223372036854775808 ≤ ((k63 : Int) - 1) ∧ ((k63 : Int) - 1) ≤ 9223372036854775807 then (if 0 ≤ ((k63 : Int) - 1) then ((x13.fParts[((k63 : Int) - 1).toNat]?).bind fun x80 => if x80 ≥ x72 then some (Lp.ret false) else (if -9223372036854775808 ≤ ((k63 : Int) + 1) ∧ ((k63 : Int) + 1) ≤ 9223372036854775807 then (f_r14_Rise_l3 x13 m67 y62 (k63 + 1)) else none)) else none) else none) else (if -9223372036854775808 ≤ ((k63 : Int) + 1) ∧ ((k63 : Int) + 1) ≤ 9223372036854775807 then (f_r14_Rise_l3 x13 m67 y62 (k63 + 1)) else none)))) else (some (Lp.go (y62, k63)))
def f_r14_Rise_l1 (a0 : List Top) : Nat → Bool → Nat → Option (Lp Bool (Bool × Nat))
  | 0, _, _ => none
  | m8 + 1, y3, k4 => if (k4 : Int) < (a0.length : Int) then ((a0[k4]?).bind fun x13 => if (x13.fName.length : Int) < 1 then some (Lp.ret false) else (if (x13.fName.length : Int) > 32767 then some (Lp.ret false) else (if (x13.fParts.length : Int) < 1 then some (Lp.ret false) else (if (k4 : Int) > 0 then (if -9223372036854775808 ≤ ((k4 : Int) - 1) ∧ ((k4 : Int) - 1) ≤ 9223372036854775807 then (if 0 ≤ ((k4 : Int) - 1) then ((a0[((k4 : Int) - 1).toNat]?).bind fun x25 => (f_r14_less x25.fName x13.fName).bind fun x31 => if x31 = true then ((f_r14_Rise_l2 x13 (((x13.fParts.length : Int)).toNat + 1) y3 0).bind fun e => match e with | .ret r => some (Lp.ret r) | .go (y59, k60) => (if -9223372036854775808 ≤ ((k4 : Int) + 1) ∧ ((k4 : Int) + 1) ≤ 9223372036854775807 then (f_r14_Rise_l1 a0 m8 y59 (k4 + 1)) else none)) else some (Lp.ret false)) else none) else none) else ((f_r14_Rise_l3 x13 (((x13.fParts.length : Int)).toNat + 1) y3 0).bind fun e => match e with | .ret r => some (Lp.ret r) | .go (y87, k88) => (if -9223372036854775808 ≤ ((k4 : Int) + 1) ∧ ((k4 : Int) + 1) ≤ 9223372036854775807 then (f_r14_Rise_l1 a0 m8 y87 (k4 + 1)) else none)))))) else (some (Lp.go (y3, k4)))
def f_r14_Rise (a0 : List Top) : Option (Bool) := (f_r14_Rise_l1 a0 (((a0.length : Int)).toNat + 1) false 0).bind fun e => match e with | .ret r => some r | .go (y90, k91) => some true
set_option maxRecDepth 100000 in
set_option maxHeartbeats 4000000 in
theorem f_r14_Rise_spec (a0 : List Top) (A1 : Option Addr) (c2 : Nat) (r : Bool) (h : f_r14_Rise a0 = some r) : SpecX Try.prog 46 #[.slice A1 a0.length c2] (RX.of (sliceRd 2 Top_rd) [.slice A1 a0.length c2] a0) (EmpR) (fun v A' N => v = .bool r ∧ A' = EmpR ∧ N = []) := by
  refine enterA Try.func46 rfl Try.ntmps46 rfl ?_
  intro F w hX
  unfold f_r14_Rise at h
  refine T.seq (T.region rfl ?_)
  refine TL.run ft_cursitorref14_ok [0] rfl rfl ?_
  refine TL.nil (X.seq (T.seq (T.seq (T.region rfl ?_))))
  refine TL.run ft_cursitorref14_ok [0] rfl rfl ?_
  refine TL.nil (X.seq (T.block ?_))
  obtain ⟨E5, hE6, hO7⟩ := Option.bind_eq_some_iff.1 h
  refine T.lp (fun m e Rs => ∃ (y3 : Bool) (k4 : Nat), e = [(0, .slice A1 a0.length c2), (2, .bool y3), (3, .int .i64 (k4 : Int))] ∧ Rs = [EmpR] ∧ f_r14_Rise_l1 a0 m y3 k4 = some E5) (((a0.length : Int)).toNat + 1) [0] ⟨false, 0, rfl, rfl, by exact hE6⟩ (by rfl) (by rfl) ?_
  rintro m8 _ _ ⟨y3, k4, rfl, rfl, hl10⟩
  clear hE6 h
  cases m8 with
  | zero =>
    rw [f_r14_Rise_l1] at hl10
    cases hl10
  | succ m8 =>
    have h := hl10
    clear hl10
    rw [f_r14_Rise_l1] at h
    refine T.seq (T.seq (T.region rfl ?_))
    refine TL.run ft_cursitorref14_ok [0, 1] rfl rfl ?_
    refine TL.q rfl .u (Ex.lenS rfl Try.runUnderlying62) rfl ?_
    refine TL.run ft_cursitorref14_ok [3] rfl rfl ?_
    by_cases c12 : (k4 : Int) < (a0.length : Int)
    · replace h := ifT c12 h
      refine TL.nil (X.seq ?_)
      refine T.yes rfl (decide_eq_true c12) ?_
      refine T.skip (X.seq (T.seq (T.block (T.seq (T.seq (T.region rfl ?_))))))
      obtain ⟨x13, hx14, h⟩ := Option.bind_eq_some_iff.1 h
      obtain ⟨gz15, oz15, rfl, z15cs, z15cl, z15cc, z15nf, z15r⟩ := RX.elem (by decide) hX hx14
      obtain ⟨z15S, z15r, z15rr⟩ := z15r
      obtain ⟨A16, c17, rfl, z15s0⟩ := z15r
      have hX18 : (RX.of (sliceRd 1 intE) [.slice A16 x13.fParts.length c17] x13.fParts).reads w F := ⟨z15S, z15s0, z15rr⟩
      refine TL.run ft_cursitorref14_ok [0, 1] rfl rfl ?_
      refine TL.q rfl .u (Ex.ixS (k := k4) rfl rfl rfl Try.runUnderlying62 Try.sizeOf104 (List.getElem?_eq_some_iff.1 hx14).1) rfl ?_
      refine TL.run ft_cursitorref14_ok [3] rfl rfl ?_
      refine TL.q rfl .u (Ex.o1 0 rfl Try.isAgg9 z15nf z15cc rfl rfl) rfl ?_
      refine TL.q rfl .u (Ex.lenB rfl Try.runUnderlying9) rfl ?_
      by_cases c19 : (x13.fName.length : Int) < 1
      · replace h := ifT c19 h
        refine TL.run ft_cursitorref14_ok [6, 7] rfl rfl ?_
        refine TL.no rfl (.gn rfl rfl (decide_eq_true c19)) rfl ?_
        refine TL.no rfl (.gn rfl rfl (decide_eq_true c19)) rfl ?_
        refine TL.no rfl (.gn rfl rfl (decide_eq_true c19)) rfl ?_
        refine TL.no rfl (.gn rfl rfl (decide_eq_true c19)) rfl ?_
        refine TL.no rfl (.gn rfl rfl (decide_eq_true c19)) rfl ?_
        refine TL.no rfl (.gn rfl rfl (decide_eq_true c19)) rfl ?_
        refine TL.no rfl (.gn rfl rfl (decide_eq_true c19)) rfl ?_
        refine TL.q rfl .u (Ex.py rfl (decide_eq_true c19) rfl) rfl ?_
        refine TL.run ft_cursitorref14_ok [16] rfl rfl ?_
        refine TL.no rfl (.gn rfl rfl rfl) rfl ?_
        refine TL.no rfl (.gn rfl rfl rfl) rfl ?_
        refine TL.no rfl (.gn rfl rfl rfl) rfl ?_
        refine TL.no rfl (.gn rfl rfl rfl) rfl ?_
        refine TL.no rfl (.gn rfl rfl rfl) rfl ?_
        refine TL.no rfl (.gn rfl rfl rfl) rfl ?_
        refine TL.no rfl (.gn rfl rfl rfl) rfl ?_
        refine TL.q rfl .u (Ex.py rfl rfl rfl) rfl ?_
        refine TL.nil (X.seq ?_)
        refine T.yes rfl rfl ?_
        refine T.seq (T.region rfl ?_)
        refine TL.run ft_cursitorref14_ok [0] rfl rfl ?_
        obtain rfl := Option.some.inj h
        replace h := hO7
        clear hO7
        try dsimp only at h
        obtain rfl := Option.some.inj h
        exact TL.nil (X.seq (T.ret (X.rs (X.rb (X.rs (X.rs (X.rb (X.rs (X.done1 [0] Try.results46 (RV.tm rfl) ⟨rfl, rfl, rfl⟩ (by rfl) (.inl rfl))))))))))
      · replace h := ifF c19 h
        refine TL.run ft_cursitorref14_ok [6, 7] rfl rfl ?_
        refine TL.q rfl (.g rfl rfl (decide_eq_false c19)) (Ex.ft ft_cursitorref14_ok rfl) rfl ?_
        refine TL.q rfl (.g rfl rfl (decide_eq_false c19)) (Ex.ft ft_cursitorref14_ok rfl) rfl ?_
        refine TL.q rfl (.g rfl rfl (decide_eq_false c19)) (Ex.ixS (k := k4) rfl rfl rfl Try.runUnderlying62 Try.sizeOf104 (List.getElem?_eq_some_iff.1 hx14).1) rfl ?_
        refine TL.q rfl (.g rfl rfl (decide_eq_false c19)) (Ex.ft ft_cursitorref14_ok rfl) rfl ?_
        refine TL.q rfl (.g rfl rfl (decide_eq_false c19)) (Ex.o1 0 rfl Try.isAgg9 z15nf z15cc rfl rfl) rfl ?_
        refine TL.q rfl (.g rfl rfl (decide_eq_false c19)) (Ex.lenB rfl Try.runUnderlying9) rfl ?_
        refine TL.q rfl (.g rfl rfl (decide_eq_false c19)) (Ex.ft ft_cursitorref14_ok rfl) rfl ?_
        refine TL.q rfl .u (Ex.pn rfl (decide_eq_false c19) rfl) rfl ?_
        by_cases c20 : (x13.fName.length : Int) > 32767
        · replace h := ifT c20 h
          refine TL.run ft_cursitorref14_ok [16] rfl rfl ?_
          refine TL.no rfl (.gn rfl rfl (decide_eq_true c20)) rfl ?_
          refine TL.no rfl (.gn rfl rfl (decide_eq_true c20)) rfl ?_
          refine TL.no rfl (.gn rfl rfl (decide_eq_true c20)) rfl ?_
          refine TL.no rfl (.gn rfl rfl (decide_eq_true c20)) rfl ?_
          refine TL.no rfl (.gn rfl rfl (decide_eq_true c20)) rfl ?_
          refine TL.no rfl (.gn rfl rfl (decide_eq_true c20)) rfl ?_
          refine TL.no rfl (.gn rfl rfl (decide_eq_true c20)) rfl ?_
          refine TL.q rfl .u (Ex.py rfl (decide_eq_true c20) rfl) rfl ?_
          refine TL.nil (X.seq ?_)
          refine T.yes rfl rfl ?_
          refine T.seq (T.region rfl ?_)
          refine TL.run ft_cursitorref14_ok [0] rfl rfl ?_
          obtain rfl := Option.some.inj h
          replace h := hO7
          clear hO7
          try dsimp only at h
          obtain rfl := Option.some.inj h
          exact TL.nil (X.seq (T.ret (X.rs (X.rb (X.rs (X.rs (X.rb (X.rs (X.done1 [0] Try.results46 (RV.tm rfl) ⟨rfl, rfl, rfl⟩ (by rfl) (.inl rfl))))))))))
        · replace h := ifF c20 h
          refine TL.run ft_cursitorref14_ok [16] rfl rfl ?_
          refine TL.q rfl (.g rfl rfl (decide_eq_false c20)) (Ex.ft ft_cursitorref14_ok rfl) rfl ?_
          refine TL.q rfl (.g rfl rfl (decide_eq_false c20)) (Ex.ft ft_cursitorref14_ok rfl) rfl ?_
          refine TL.q rfl (.g rfl rfl (decide_eq_false c20)) (Ex.ixS (k := k4) rfl rfl rfl Try.runUnderlying62 Try.sizeOf104 (List.getElem?_eq_some_iff.1 hx14).1) rfl ?_
          refine TL.q rfl (.g rfl rfl (decide_eq_false c20)) (Ex.ft ft_cursitorref14_ok rfl) rfl ?_
          refine TL.q rfl (.g rfl rfl (decide_eq_false c20)) (Ex.o1 1 rfl Try.isAgg102 z15nf z15cc rfl rfl) rfl ?_
          refine TL.q rfl (.g rfl rfl (decide_eq_false c20)) (Ex.lenS rfl Try.runUnderlying102) rfl ?_
          refine TL.q rfl (.g rfl rfl (decide_eq_false c20)) (Ex.ft ft_cursitorref14_ok rfl) rfl ?_
          refine TL.q rfl .u (Ex.pn rfl (decide_eq_false c20) rfl) rfl ?_
          by_cases c21 : (x13.fParts.length : Int) < 1
          · replace h := ifT c21 h
            refine TL.nil (X.seq ?_)
            refine T.yes rfl (decide_eq_true c21) ?_
            refine T.seq (T.region rfl ?_)
            refine TL.run ft_cursitorref14_ok [0] rfl rfl ?_
            obtain rfl := Option.some.inj h
            replace h := hO7
            clear hO7
            try dsimp only at h
            obtain rfl := Option.some.inj h
            exact TL.nil (X.seq (T.ret (X.rs (X.rb (X.rs (X.rs (X.rb (X.rs (X.done1 [0] Try.results46 (RV.tm rfl) ⟨rfl, rfl, rfl⟩ (by rfl) (.inl rfl))))))))))
          · replace h := ifF c21 h
            refine TL.nil (X.seq ?_)
            refine T.no rfl (decide_eq_false c21) ?_
            refine T.skip (X.seq (T.seq (T.seq (T.draw (.q 0 (.q 1 (.q 2 (.q 3 (.q 4 (.q 5 (.q 6 (.q 7 (.q 8 (.q 9 (.q 10 (.q 11 (.q 12 (.q 13 (.e 14 (.q 15 (.q 16 .nil))))))))))))))))) [0] rfl mix_cursitorref14 (NoP.seq (NoP.seq (NoP.blk (NoP.seq (NoP.seq (NoP.blk (NoP.seq np_post))))))) (by kernel_rfl) ?_))))
            by_cases c22 : (k4 : Int) > 0
            · replace h := ifT c22 h
              refine TD.run ft_cursitorref14_ok [0, 1, 2] rfl rfl ?_
              refine TD.q rfl (.g rfl rfl (decide_eq_true c22)) (Ex.ft ft_cursitorref14_ok rfl) rfl ?_
              refine TD.q rfl (.g rfl rfl (decide_eq_true c22)) (Ex.ft ft_cursitorref14_ok rfl) rfl ?_
              replace h := guard_some h
              obtain ⟨c23, h⟩ := h
              refine TD.q rfl (.g rfl rfl (decide_eq_true c22)) (Ex.sub rfl rfl c23) rfl ?_
              replace h := guard_some h
              obtain ⟨c24, h⟩ := h
              obtain ⟨x25, hx26, h⟩ := Option.bind_eq_some_iff.1 h
              obtain ⟨z27cs, z27cl, z27cc, z27nf, z27r⟩ := RX.elem' (by decide) hX hx26
              obtain ⟨z27S, z27r, z27rr⟩ := z27r
              obtain ⟨A28, c29, rfl, z27s0⟩ := z27r
              have hX30 : (RX.of (sliceRd 1 intE) [.slice A28 x25.fParts.length c29] x25.fParts).reads w F := ⟨z27S, z27s0, z27rr⟩
              refine TD.q rfl (.g rfl rfl (decide_eq_true c22)) (Ex.ixS (k := ((k4 : Int) - 1).toNat) rfl rfl ((Int.toNat_of_nonneg c24).symm) Try.runUnderlying62 Try.sizeOf104 (List.getElem?_eq_some_iff.1 hx26).1) rfl ?_
              refine TD.q rfl (.g rfl rfl (decide_eq_true c22)) (Ex.ft ft_cursitorref14_ok rfl) rfl ?_
              refine TD.q rfl (.g rfl rfl (decide_eq_true c22)) (Ex.o1 0 rfl Try.isAgg9 z27nf z27cc rfl rfl) rfl ?_
              refine TD.q rfl (.g rfl rfl (decide_eq_true c22)) (Ex.ft ft_cursitorref14_ok rfl) rfl ?_
              refine TD.q rfl (.g rfl rfl (decide_eq_true c22)) (Ex.ft ft_cursitorref14_ok rfl) rfl ?_
              refine TD.q rfl (.g rfl rfl (decide_eq_true c22)) (Ex.ixS (k := k4) rfl rfl rfl Try.runUnderlying62 Try.sizeOf104 (List.getElem?_eq_some_iff.1 hx14).1) rfl ?_
              refine TD.q rfl (.g rfl rfl (decide_eq_true c22)) (Ex.ft ft_cursitorref14_ok rfl) rfl ?_
              refine TD.q rfl (.g rfl rfl (decide_eq_true c22)) (Ex.o1 0 rfl Try.isAgg9 z15nf z15cc rfl rfl) rfl ?_
              obtain ⟨x31, hx32, h⟩ := Option.bind_eq_some_iff.1 h
              refine TD.ce rfl (.g rfl rfl (decide_eq_true c22)) (.fn Try.call100 rfl) (f_r14_less_spec x25.fName x13.fName _ hx32) (fun _ hs => (RX.reads_triv _ _)) rfl [0] (rfl) ?_
              refine TD.q rfl (.g rfl rfl (decide_eq_true c22)) (Ex.ft ft_cursitorref14_ok rfl) rfl ?_
              refine TD.q rfl .u (Ex.py rfl (decide_eq_true c22) rfl) rfl ?_
              by_cases c33 : x31 = true
              · replace h := ifT c33 h
                refine TD.nil (X.seq ?_)
                refine T.no rfl (bn_f c33) ?_
                refine T.skip (X.seq (T.seq (T.region rfl ?_)))
                refine TL.run ft_cursitorref14_ok [0] rfl rfl ?_
                refine TL.nil (X.seq (T.block ?_))
                obtain ⟨E36, hE37, hO38⟩ := Option.bind_eq_some_iff.1 h
                refine T.lp (fun m e Rs => ∃ (y34 : Bool) (k35 : Nat), e = [(0, .slice (some ⟨gz15, oz15, none⟩) a0.length c2), (2, .bool y34), (3, .int .i64 (k4 : Int)), (4, .int .i64 (k35 : Int))] ∧ Rs = [EmpR] ∧ f_r14_Rise_l2 x13 m y34 k35 = some E36) (((x13.fParts.length : Int)).toNat + 1) [0] ⟨y3, 0, rfl, rfl, by exact hE37⟩ (by rfl) (by rfl) ?_
                rintro m39 _ _ ⟨y34, k35, rfl, rfl, hl41⟩
                clear hE37 h
                cases m39 with
                | zero =>
                  rw [f_r14_Rise_l2] at hl41
                  cases hl41
                | succ m39 =>
                  have h := hl41
                  clear hl41
                  rw [f_r14_Rise_l2] at h
                  refine T.seq (T.seq (T.region rfl ?_))
                  refine TL.run ft_cursitorref14_ok [0, 1, 2] rfl rfl ?_
                  refine TL.q rfl .u (Ex.ixS (k := k4) rfl rfl rfl Try.runUnderlying62 Try.sizeOf104 (List.getElem?_eq_some_iff.1 hx14).1) rfl ?_
                  refine TL.run ft_cursitorref14_ok [4] rfl rfl ?_
                  refine TL.q rfl .u (Ex.o1 1 rfl Try.isAgg102 z15nf z15cc rfl rfl) rfl ?_
                  refine TL.q rfl .u (Ex.lenS rfl Try.runUnderlying102) rfl ?_
                  refine TL.run ft_cursitorref14_ok [7] rfl rfl ?_
                  by_cases c43 : (k35 : Int) < (x13.fParts.length : Int)
                  · replace h := ifT c43 h
                    refine TL.nil (X.seq ?_)
                    refine T.yes rfl (decide_eq_true c43) ?_
                    refine T.skip (X.seq (T.seq (T.block (T.seq (T.region rfl ?_)))))
                    refine TL.run ft_cursitorref14_ok [0, 1] rfl rfl ?_
                    refine TL.q rfl .u (Ex.ixS (k := k4) rfl rfl rfl Try.runUnderlying62 Try.sizeOf104 (List.getElem?_eq_some_iff.1 hx14).1) rfl ?_
                    refine TL.run ft_cursitorref14_ok [3] rfl rfl ?_
                    refine TL.q rfl .u (Ex.o1 1 rfl Try.isAgg102 z15nf z15cc rfl rfl) rfl ?_
                    obtain ⟨x44, hx45, h⟩ := Option.bind_eq_some_iff.1 h
                    obtain ⟨gz46, oz46, rfl, z46cs, z46cl, z46cc, z46nf, z46r⟩ := RX.elem (by decide) hX18 hx45
                    obtain ⟨z46S, z46r, z46rr⟩ := z46r
                    obtain rfl : z46cs = [.int .i64 x44] := z46r
                    refine TL.run ft_cursitorref14_ok [5] rfl rfl ?_
                    refine TL.q rfl .u (Ex.ixS (k := k35) rfl rfl rfl Try.runUnderlying102 Try.sizeOf3 (List.getElem?_eq_some_iff.1 hx45).1) rfl ?_
                    refine TL.q rfl .u (Ex.o1 0 rfl Try.isAgg3 z46nf z46cc rfl rfl) rfl ?_
                    refine TL.run ft_cursitorref14_ok [8] rfl rfl ?_
                    refine TL.nil (X.seq (T.seq (T.region rfl ?_)))
                    by_cases c47 : x44 < 0
                    · replace h := ifT c47 h
                      refine TL.run ft_cursitorref14_ok [0, 1, 2] rfl rfl ?_
                      refine TL.no rfl (.gn rfl rfl (decide_eq_true c47)) rfl ?_
                      refine TL.no rfl (.gn rfl rfl (decide_eq_true c47)) rfl ?_
                      refine TL.q rfl .u (Ex.py rfl (decide_eq_true c47) rfl) rfl ?_
                      refine TL.run ft_cursitorref14_ok [6] rfl rfl ?_
                      refine TL.no rfl (.gn rfl rfl rfl) rfl ?_
                      refine TL.no rfl (.gn rfl rfl rfl) rfl ?_
                      refine TL.no rfl (.gn rfl rfl rfl) rfl ?_
                      refine TL.no rfl (.gu rfl rfl) rfl ?_
                      refine TL.no rfl (.gu rfl rfl) rfl ?_
                      refine TL.no rfl (.gu rfl rfl) rfl ?_
                      refine TL.no rfl (.gu rfl rfl) rfl ?_
                      refine TL.no rfl (.gu rfl rfl) rfl ?_
                      refine TL.no rfl (.gu rfl rfl) rfl ?_
                      refine TL.no rfl (.gu rfl rfl) rfl ?_
                      refine TL.no rfl (.gu rfl rfl) rfl ?_
                      refine TL.no rfl (.gu rfl rfl) rfl ?_
                      refine TL.no rfl (.gu rfl rfl) rfl ?_
                      refine TL.no rfl (.gu rfl rfl) rfl ?_
                      refine TL.no rfl (.gn rfl rfl rfl) rfl ?_
                      refine TL.q rfl .u (Ex.py rfl rfl rfl) rfl ?_
                      refine TL.nil (X.seq ?_)
                      refine T.yes rfl rfl ?_
                      refine T.seq (T.region rfl ?_)
                      refine TL.run ft_cursitorref14_ok [0] rfl rfl ?_
                      obtain rfl := Option.some.inj h
                      replace h := hO38
                      clear hO38
                      try dsimp only at h
                      obtain rfl := Option.some.inj h
                      replace h := hO7
                      clear hO7
                      try dsimp only at h
                      obtain rfl := Option.some.inj h
                      exact TL.nil (X.seq (T.ret (X.rb (X.rs (X.rs (X.rb (X.rb (X.rs (X.rs (X.rb (X.rs (X.done1 [0] Try.results46 (RV.tm rfl) ⟨rfl, rfl, rfl⟩ (by rfl) (.inl rfl)))))))))))))
                    · replace h := ifF c47 h
                      refine TL.run ft_cursitorref14_ok [0, 1, 2] rfl rfl ?_
                      refine TL.q rfl (.g rfl rfl (decide_eq_false c47)) (Ex.ft ft_cursitorref14_ok rfl) rfl ?_
                      refine TL.q rfl (.g rfl rfl (decide_eq_false c47)) (Ex.ft ft_cursitorref14_ok rfl) rfl ?_
                      refine TL.q rfl .u (Ex.pn rfl (decide_eq_false c47) rfl) rfl ?_
                      by_cases c48 : x44 > 2147483647
                      · replace h := ifT c48 h
                        refine TL.run ft_cursitorref14_ok [6] rfl rfl ?_
                        refine TL.no rfl (.gn rfl rfl (decide_eq_true c48)) rfl ?_
                        refine TL.no rfl (.gn rfl rfl (decide_eq_true c48)) rfl ?_
                        refine TL.no rfl (.gn rfl rfl (decide_eq_true c48)) rfl ?_
                        refine TL.no rfl (.gu rfl rfl) rfl ?_
                        refine TL.no rfl (.gu rfl rfl) rfl ?_
                        refine TL.no rfl (.gu rfl rfl) rfl ?_
                        refine TL.no rfl (.gu rfl rfl) rfl ?_
                        refine TL.no rfl (.gu rfl rfl) rfl ?_
                        refine TL.no rfl (.gu rfl rfl) rfl ?_
                        refine TL.no rfl (.gu rfl rfl) rfl ?_
                        refine TL.no rfl (.gu rfl rfl) rfl ?_
                        refine TL.no rfl (.gu rfl rfl) rfl ?_
                        refine TL.no rfl (.gu rfl rfl) rfl ?_
                        refine TL.no rfl (.gu rfl rfl) rfl ?_
                        refine TL.no rfl (.gn rfl rfl (decide_eq_true c48)) rfl ?_
                        refine TL.q rfl .u (Ex.py rfl (decide_eq_true c48) rfl) rfl ?_
                        refine TL.nil (X.seq ?_)
                        refine T.yes rfl rfl ?_
                        refine T.seq (T.region rfl ?_)
                        refine TL.run ft_cursitorref14_ok [0] rfl rfl ?_
                        obtain rfl := Option.some.inj h
                        replace h := hO38
                        clear hO38
                        try dsimp only at h
                        obtain rfl := Option.some.inj h
                        replace h := hO7
                        clear hO7
                        try dsimp only at h
                        obtain rfl := Option.some.inj h
                        exact TL.nil (X.seq (T.ret (X.rb (X.rs (X.rs (X.rb (X.rb (X.rs (X.rs (X.rb (X.rs (X.done1 [0] Try.results46 (RV.tm rfl) ⟨rfl, rfl, rfl⟩ (by rfl) (.inl rfl)))))))))))))
                      · replace h := ifF c48 h
                        refine TL.run ft_cursitorref14_ok [6] rfl rfl ?_
                        refine TL.q rfl (.g rfl rfl (decide_eq_false c48)) (Ex.ft ft_cursitorref14_ok rfl) rfl ?_
                        refine TL.q rfl (.g rfl rfl (decide_eq_false c48)) (Ex.ft ft_cursitorref14_ok rfl) rfl ?_
                        refine TL.q rfl (.g rfl rfl (decide_eq_false c48)) (Ex.ft ft_cursitorref14_ok rfl) rfl ?_
                        by_cases c49 : (k35 : Int) > 0
                        · replace h := ifT c49 h
                          refine TL.q rfl (.g rfl rfl (decide_eq_true c49)) (Ex.ft ft_cursitorref14_ok rfl) rfl ?_
                          refine TL.q rfl (.g rfl rfl (decide_eq_true c49)) (Ex.ft ft_cursitorref14_ok rfl) rfl ?_
                          refine TL.q rfl (.g rfl rfl (decide_eq_true c49)) (Ex.ixS (k := k4) rfl rfl rfl Try.runUnderlying62 Try.sizeOf104 (List.getElem?_eq_some_iff.1 hx14).1) rfl ?_
                          refine TL.q rfl (.g rfl rfl (decide_eq_true c49)) (Ex.ft ft_cursitorref14_ok rfl) rfl ?_
                          refine TL.q rfl (.g rfl rfl (decide_eq_true c49)) (Ex.o1 1 rfl Try.isAgg102 z15nf z15cc rfl rfl) rfl ?_
                          refine TL.q rfl (.g rfl rfl (decide_eq_true c49)) (Ex.ft ft_cursitorref14_ok rfl) rfl ?_
                          replace h := guard_some h
                          obtain ⟨c50, h⟩ := h
                          refine TL.q rfl (.g rfl rfl (decide_eq_true c49)) (Ex.sub rfl rfl c50) rfl ?_
                          replace h := guard_some h
                          obtain ⟨c51, h⟩ := h
                          obtain ⟨x52, hx53, h⟩ := Option.bind_eq_some_iff.1 h
                          obtain ⟨z54cs, z54cl, z54cc, z54nf, z54r⟩ := RX.elem' (by decide) hX18 hx53
                          obtain ⟨z54S, z54r, z54rr⟩ := z54r
                          obtain rfl : z54cs = [.int .i64 x52] := z54r
                          refine TL.q rfl (.g rfl rfl (decide_eq_true c49)) (Ex.ixS (k := ((k35 : Int) - 1).toNat) rfl rfl ((Int.toNat_of_nonneg c51).symm) Try.runUnderlying102 Try.sizeOf3 (List.getElem?_eq_some_iff.1 hx53).1) rfl ?_
                          refine TL.q rfl (.g rfl rfl (decide_eq_true c49)) (Ex.o1 0 rfl Try.isAgg3 z54nf z54cc rfl rfl) rfl ?_
                          refine TL.q rfl (.g rfl rfl (decide_eq_true c49)) (Ex.ft ft_cursitorref14_ok rfl) rfl ?_
                          refine TL.q rfl (.g rfl rfl (decide_eq_true c49)) (Ex.ft ft_cursitorref14_ok rfl) rfl ?_
                          refine TL.q rfl (.g rfl rfl (decide_eq_false c48)) (Ex.py rfl (decide_eq_true c49) rfl) rfl ?_
                          refine TL.q rfl .u (Ex.pn rfl (decide_eq_false c48) rfl) rfl ?_
                          by_cases c55 : x52 ≥ x44
                          · replace h := ifT c55 h
                            refine TL.nil (X.seq ?_)
                            refine T.yes rfl (decide_eq_true c55) ?_
                            refine T.seq (T.region rfl ?_)
                            refine TL.run ft_cursitorref14_ok [0] rfl rfl ?_
                            obtain rfl := Option.some.inj h
                            replace h := hO38
                            clear hO38
                            try dsimp only at h
                            obtain rfl := Option.some.inj h
                            replace h := hO7
                            clear hO7
                            try dsimp only at h
                            obtain rfl := Option.some.inj h
                            exact TL.nil (X.seq (T.ret (X.rb (X.rs (X.rs (X.rb (X.rb (X.rs (X.rs (X.rb (X.rs (X.done1 [0] Try.results46 (RV.tm rfl) ⟨rfl, rfl, rfl⟩ (by rfl) (.inl rfl)))))))))))))
                          · replace h := ifF c55 h
                            refine TL.nil (X.seq ?_)
                            refine T.no rfl (decide_eq_false c55) ?_
                            refine T.skip (X.blk (X.seq (T.region rfl ?_)))
                            replace h := guard_some h
                            obtain ⟨c56, h⟩ := h
                            refine TL.run ft_cursitorref14_ok [0] rfl rfl ?_
                            refine TL.q rfl .u (Ex.add rfl rfl c56) rfl ?_
                            refine TL.run ft_cursitorref14_ok [2] rfl rfl ?_
                            exact TL.nil (X.back (m' := m39) [0] (by omega) ⟨y34, k35 + 1, rfl, rfl, h⟩ (by rfl) (by rfl))
                        · replace h := ifF c49 h
                          refine TL.no rfl (.gn rfl rfl (decide_eq_false c49)) rfl ?_
                          refine TL.no rfl (.gn rfl rfl (decide_eq_false c49)) rfl ?_
                          refine TL.no rfl (.gn rfl rfl (decide_eq_false c49)) rfl ?_
                          refine TL.no rfl (.gn rfl rfl (decide_eq_false c49)) rfl ?_
                          refine TL.no rfl (.gn rfl rfl (decide_eq_false c49)) rfl ?_
                          refine TL.no rfl (.gn rfl rfl (decide_eq_false c49)) rfl ?_
                          refine TL.no rfl (.gn rfl rfl (decide_eq_false c49)) rfl ?_
                          refine TL.no rfl (.gn rfl rfl (decide_eq_false c49)) rfl ?_
                          refine TL.no rfl (.gn rfl rfl (decide_eq_false c49)) rfl ?_
                          refine TL.no rfl (.gn rfl rfl (decide_eq_false c49)) rfl ?_
                          refine TL.no rfl (.gn rfl rfl (decide_eq_false c49)) rfl ?_
                          refine TL.q rfl (.g rfl rfl (decide_eq_false c48)) (Ex.pn rfl (decide_eq_false c49) rfl) rfl ?_
                          refine TL.q rfl .u (Ex.pn rfl (decide_eq_false c48) rfl) rfl ?_
                          refine TL.nil (X.seq ?_)
                          refine T.no rfl rfl ?_
                          refine T.skip (X.blk (X.seq (T.region rfl ?_)))
                          replace h := guard_some h
                          obtain ⟨c57, h⟩ := h
                          refine TL.run ft_cursitorref14_ok [0] rfl rfl ?_
                          refine TL.q rfl .u (Ex.add rfl rfl c57) rfl ?_
                          refine TL.run ft_cursitorref14_ok [2] rfl rfl ?_
                          exact TL.nil (X.back (m' := m39) [0] (by omega) ⟨y34, k35 + 1, rfl, rfl, h⟩ (by rfl) (by rfl))
                  · replace h := ifF c43 h
                    refine TL.nil (X.seq ?_)
                    refine T.no rfl (decide_eq_false c43) ?_
                    obtain rfl := Option.some.inj h
                    replace h := hO38
                    clear hO38
                    try dsimp only at h
                    refine T.exit (X.exs (X.exs (X.ex (X.blk (X.seq (T.region rfl ?_))))))
                    replace h := guard_some h
                    obtain ⟨c58, h⟩ := h
                    refine TL.run ft_cursitorref14_ok [0] rfl rfl ?_
                    refine TL.q rfl .u (Ex.add rfl rfl c58) rfl ?_
                    refine TL.run ft_cursitorref14_ok [2] rfl rfl ?_
                    exact TL.nil (X.back (m' := m8) [0] (by omega) ⟨y34, k4 + 1, rfl, rfl, h⟩ (by rfl) (by rfl))
              · replace h := ifF c33 h
                replace c33 := eq_false_of_ne_true c33
                refine TD.nil (X.seq ?_)
                refine T.yes rfl (bn_t c33) ?_
                refine T.seq (T.region rfl ?_)
                refine TL.run ft_cursitorref14_ok [0] rfl rfl ?_
                obtain rfl := Option.some.inj h
                replace h := hO7
                clear hO7
                try dsimp only at h
                obtain rfl := Option.some.inj h
                exact TL.nil (X.seq (T.ret (X.rs (X.rb (X.rs (X.rs (X.rb (X.rs (X.done1 [0] Try.results46 (RV.tm rfl) ⟨rfl, rfl, rfl⟩ (by rfl) (.inl rfl))))))))))
            · replace h := ifF c22 h
              refine TD.run ft_cursitorref14_ok [0, 1, 2] rfl rfl ?_
              refine TD.no rfl (.gn rfl rfl (decide_eq_false c22)) rfl ?_
              refine TD.no rfl (.gn rfl rfl (decide_eq_false c22)) rfl ?_
              refine TD.no rfl (.gn rfl rfl (decide_eq_false c22)) rfl ?_
              refine TD.no rfl (.gn rfl rfl (decide_eq_false c22)) rfl ?_
              refine TD.no rfl (.gn rfl rfl (decide_eq_false c22)) rfl ?_
              refine TD.no rfl (.gn rfl rfl (decide_eq_false c22)) rfl ?_
              refine TD.no rfl (.gn rfl rfl (decide_eq_false c22)) rfl ?_
              refine TD.no rfl (.gn rfl rfl (decide_eq_false c22)) rfl ?_
              refine TD.no rfl (.gn rfl rfl (decide_eq_false c22)) rfl ?_
              refine TD.no rfl (.gn rfl rfl (decide_eq_false c22)) rfl ?_
              refine TD.no rfl (.gn rfl rfl (decide_eq_false c22)) rfl ?_
              refine TD.noe rfl (.gn rfl rfl (decide_eq_false c22)) rfl [0] rfl ?_
              refine TD.no rfl (.gn rfl rfl (decide_eq_false c22)) rfl ?_
              refine TD.q rfl .u (Ex.pn rfl (decide_eq_false c22) rfl) rfl ?_
              refine TD.nil (X.seq ?_)
              refine T.no rfl rfl ?_
              refine T.skip (X.seq (T.seq (T.region rfl ?_)))
              refine TL.run ft_cursitorref14_ok [0] rfl rfl ?_
              refine TL.nil (X.seq (T.block ?_))
              obtain ⟨E64, hE65, hO66⟩ := Option.bind_eq_some_iff.1 h
              refine T.lp (fun m e Rs => ∃ (y62 : Bool) (k63 : Nat), e = [(0, .slice (some ⟨gz15, oz15, none⟩) a0.length c2), (2, .bool y62), (3, .int .i64 (k4 : Int)), (4, .int .i64 (k63 : Int))] ∧ Rs = [EmpR] ∧ f_r14_Rise_l3 x13 m y62 k63 = some E64) (((x13.fParts.length : Int)).toNat + 1) [0] ⟨y3, 0, rfl, rfl, by exact hE65⟩ (by rfl) (by rfl) ?_
              rintro m67 _ _ ⟨y62, k63, rfl, rfl, hl69⟩
              clear hE65 h
              cases m67 with
              | zero =>
                rw [f_r14_Rise_l3] at hl69
                cases hl69
              | succ m67 =>
                have h := hl69
                clear hl69
                rw [f_r14_Rise_l3] at h
                refine T.seq (T.seq (T.region rfl ?_))
                refine TL.run ft_cursitorref14_ok [0, 1, 2] rfl rfl ?_
                refine TL.q rfl .u (Ex.ixS (k := k4) rfl rfl rfl Try.runUnderlying62 Try.sizeOf104 (List.getElem?_eq_some_iff.1 hx14).1) rfl ?_
                refine TL.run ft_cursitorref14_ok [4] rfl rfl ?_
                refine TL.q rfl .u (Ex.o1 1 rfl Try.isAgg102 z15nf z15cc rfl rfl) rfl ?_
                refine TL.q rfl .u (Ex.lenS rfl Try.runUnderlying102) rfl ?_
                refine TL.run ft_cursitorref14_ok [7] rfl rfl ?_
                by_cases c71 : (k63 : Int) < (x13.fParts.length : Int)
                · replace h := ifT c71 h
                  refine TL.nil (X.seq ?_)
                  refine T.yes rfl (decide_eq_true c71) ?_
                  refine T.skip (X.seq (T.seq (T.block (T.seq (T.region rfl ?_)))))
                  refine TL.run ft_cursitorref14_ok [0, 1] rfl rfl ?_
                  refine TL.q rfl .u (Ex.ixS (k := k4) rfl rfl rfl Try.runUnderlying62 Try.sizeOf104 (List.getElem?_eq_some_iff.1 hx14).1) rfl ?_
                  refine TL.run ft_cursitorref14_ok [3] rfl rfl ?_
                  refine TL.q rfl .u (Ex.o1 1 rfl Try.isAgg102 z15nf z15cc rfl rfl) rfl ?_
                  obtain ⟨x72, hx73, h⟩ := Option.bind_eq_some_iff.1 h
                  obtain ⟨gz74, oz74, rfl, z74cs, z74cl, z74cc, z74nf, z74r⟩ := RX.elem (by decide) hX18 hx73
                  obtain ⟨z74S, z74r, z74rr⟩ := z74r
                  obtain rfl : z74cs = [.int .i64 x72] := z74r
                  refine TL.run ft_cursitorref14_ok [5] rfl rfl ?_
                  refine TL.q rfl .u (Ex.ixS (k := k63) rfl rfl rfl Try.runUnderlying102 Try.sizeOf3 (List.getElem?_eq_some_iff.1 hx73).1) rfl ?_
                  refine TL.q rfl .u (Ex.o1 0 rfl Try.isAgg3 z74nf z74cc rfl rfl) rfl ?_
                  refine TL.run ft_cursitorref14_ok [8] rfl rfl ?_
                  refine TL.nil (X.seq (T.seq (T.region rfl ?_)))
                  by_cases c75 : x72 < 0
                  · replace h := ifT c75 h
                    refine TL.run ft_cursitorref14_ok [0, 1, 2] rfl rfl ?_
                    refine TL.no rfl (.gn rfl rfl (decide_eq_true c75)) rfl ?_
                    refine TL.no rfl (.gn rfl rfl (decide_eq_true c75)) rfl ?_
                    refine TL.q rfl .u (Ex.py rfl (decide_eq_true c75) rfl) rfl ?_
                    refine TL.run ft_cursitorref14_ok [6] rfl rfl ?_
                    refine TL.no rfl (.gn rfl rfl rfl) rfl ?_
                    refine TL.no rfl (.gn rfl rfl rfl) rfl ?_
                    refine TL.no rfl (.gn rfl rfl rfl) rfl ?_
                    refine TL.no rfl (.gu rfl rfl) rfl ?_
                    refine TL.no rfl (.gu rfl rfl) rfl ?_
                    refine TL.no rfl (.gu rfl rfl) rfl ?_
                    refine TL.no rfl (.gu rfl rfl) rfl ?_
                    refine TL.no rfl (.gu rfl rfl) rfl ?_
                    refine TL.no rfl (.gu rfl rfl) rfl ?_
                    refine TL.no rfl (.gu rfl rfl) rfl ?_
                    refine TL.no rfl (.gu rfl rfl) rfl ?_
                    refine TL.no rfl (.gu rfl rfl) rfl ?_
                    refine TL.no rfl (.gu rfl rfl) rfl ?_
                    refine TL.no rfl (.gu rfl rfl) rfl ?_
                    refine TL.no rfl (.gn rfl rfl rfl) rfl ?_
                    refine TL.q rfl .u (Ex.py rfl rfl rfl) rfl ?_
                    refine TL.nil (X.seq ?_)
                    refine T.yes rfl rfl ?_
                    refine T.seq (T.region rfl ?_)
                    refine TL.run ft_cursitorref14_ok [0] rfl rfl ?_
                    obtain rfl := Option.some.inj h
                    replace h := hO66
                    clear hO66
                    try dsimp only at h
                    obtain rfl := Option.some.inj h
                    replace h := hO7
                    clear hO7
                    try dsimp only at h
                    obtain rfl := Option.some.inj h
                    exact TL.nil (X.seq (T.ret (X.rb (X.rs (X.rs (X.rb (X.rb (X.rs (X.rs (X.rb (X.rs (X.done1 [0] Try.results46 (RV.tm rfl) ⟨rfl, rfl, rfl⟩ (by rfl) (.inl rfl)))))))))))))
                  · replace h := ifF c75 h
                    refine TL.run ft_cursitorref14_ok [0, 1, 2] rfl rfl ?_
                    refine TL.q rfl (.g rfl rfl (decide_eq_false c75)) (Ex.ft ft_cursitorref14_ok rfl) rfl ?_
                    refine TL.q rfl (.g rfl rfl (decide_eq_false c75)) (Ex.ft ft_cursitorref14_ok rfl) rfl ?_
                    refine TL.q rfl .u (Ex.pn rfl (decide_eq_false c75) rfl) rfl ?_
                    by_cases c76 : x72 > 2147483647
                    · replace h := ifT c76 h
                      refine TL.run ft_cursitorref14_ok [6] rfl rfl ?_
                      refine TL.no rfl (.gn rfl rfl (decide_eq_true c76)) rfl ?_
                      refine TL.no rfl (.gn rfl rfl (decide_eq_true c76)) rfl ?_
                      refine TL.no rfl (.gn rfl rfl (decide_eq_true c76)) rfl ?_
                      refine TL.no rfl (.gu rfl rfl) rfl ?_
                      refine TL.no rfl (.gu rfl rfl) rfl ?_
                      refine TL.no rfl (.gu rfl rfl) rfl ?_
                      refine TL.no rfl (.gu rfl rfl) rfl ?_
                      refine TL.no rfl (.gu rfl rfl) rfl ?_
                      refine TL.no rfl (.gu rfl rfl) rfl ?_
                      refine TL.no rfl (.gu rfl rfl) rfl ?_
                      refine TL.no rfl (.gu rfl rfl) rfl ?_
                      refine TL.no rfl (.gu rfl rfl) rfl ?_
                      refine TL.no rfl (.gu rfl rfl) rfl ?_
                      refine TL.no rfl (.gu rfl rfl) rfl ?_
                      refine TL.no rfl (.gn rfl rfl (decide_eq_true c76)) rfl ?_
                      refine TL.q rfl .u (Ex.py rfl (decide_eq_true c76) rfl) rfl ?_
                      refine TL.nil (X.seq ?_)
                      refine T.yes rfl rfl ?_
                      refine T.seq (T.region rfl ?_)
                      refine TL.run ft_cursitorref14_ok [0] rfl rfl ?_
                      obtain rfl := Option.some.inj h
                      replace h := hO66
                      clear hO66
                      try dsimp only at h
                      obtain rfl := Option.some.inj h
                      replace h := hO7
                      clear hO7
                      try dsimp only at h
                      obtain rfl := Option.some.inj h
                      exact TL.nil (X.seq (T.ret (X.rb (X.rs (X.rs (X.rb (X.rb (X.rs (X.rs (X.rb (X.rs (X.done1 [0] Try.results46 (RV.tm rfl) ⟨rfl, rfl, rfl⟩ (by rfl) (.inl rfl)))))))))))))
                    · replace h := ifF c76 h
                      refine TL.run ft_cursitorref14_ok [6] rfl rfl ?_
                      refine TL.q rfl (.g rfl rfl (decide_eq_false c76)) (Ex.ft ft_cursitorref14_ok rfl) rfl ?_
                      refine TL.q rfl (.g rfl rfl (decide_eq_false c76)) (Ex.ft ft_cursitorref14_ok rfl) rfl ?_
                      refine TL.q rfl (.g rfl rfl (decide_eq_false c76)) (Ex.ft ft_cursitorref14_ok rfl) rfl ?_
                      by_cases c77 : (k63 : Int) > 0
                      · replace h := ifT c77 h
                        refine TL.q rfl (.g rfl rfl (decide_eq_true c77)) (Ex.ft ft_cursitorref14_ok rfl) rfl ?_
                        refine TL.q rfl (.g rfl rfl (decide_eq_true c77)) (Ex.ft ft_cursitorref14_ok rfl) rfl ?_
                        refine TL.q rfl (.g rfl rfl (decide_eq_true c77)) (Ex.ixS (k := k4) rfl rfl rfl Try.runUnderlying62 Try.sizeOf104 (List.getElem?_eq_some_iff.1 hx14).1) rfl ?_
                        refine TL.q rfl (.g rfl rfl (decide_eq_true c77)) (Ex.ft ft_cursitorref14_ok rfl) rfl ?_
                        refine TL.q rfl (.g rfl rfl (decide_eq_true c77)) (Ex.o1 1 rfl Try.isAgg102 z15nf z15cc rfl rfl) rfl ?_
                        refine TL.q rfl (.g rfl rfl (decide_eq_true c77)) (Ex.ft ft_cursitorref14_ok rfl) rfl ?_
                        replace h := guard_some h
                        obtain ⟨c78, h⟩ := h
                        refine TL.q rfl (.g rfl rfl (decide_eq_true c77)) (Ex.sub rfl rfl c78) rfl ?_
                        replace h := guard_some h
                        obtain ⟨c79, h⟩ := h
                        obtain ⟨x80, hx81, h⟩ := Option.bind_eq_some_iff.1 h
                        obtain ⟨z82cs, z82cl, z82cc, z82nf, z82r⟩ := RX.elem' (by decide) hX18 hx81
                        obtain ⟨z82S, z82r, z82rr⟩ := z82r
                        obtain rfl : z82cs = [.int .i64 x80] := z82r
                        refine TL.q rfl (.g rfl rfl (decide_eq_true c77)) (Ex.ixS (k := ((k63 : Int) - 1).toNat) rfl rfl ((Int.toNat_of_nonneg c79).symm) Try.runUnderlying102 Try.sizeOf3 (List.getElem?_eq_some_iff.1 hx81).1) rfl ?_
                        refine TL.q rfl (.g rfl rfl (decide_eq_true c77)) (Ex.o1 0 rfl Try.isAgg3 z82nf z82cc rfl rfl) rfl ?_
                        refine TL.q rfl (.g rfl rfl (decide_eq_true c77)) (Ex.ft ft_cursitorref14_ok rfl) rfl ?_
                        refine TL.q rfl (.g rfl rfl (decide_eq_true c77)) (Ex.ft ft_cursitorref14_ok rfl) rfl ?_
                        refine TL.q rfl (.g rfl rfl (decide_eq_false c76)) (Ex.py rfl (decide_eq_true c77) rfl) rfl ?_
                        refine TL.q rfl .u (Ex.pn rfl (decide_eq_false c76) rfl) rfl ?_
                        by_cases c83 : x80 ≥ x72
                        · replace h := ifT c83 h
                          refine TL.nil (X.seq ?_)
                          refine T.yes rfl (decide_eq_true c83) ?_
                          refine T.seq (T.region rfl ?_)
                          refine TL.run ft_cursitorref14_ok [0] rfl rfl ?_
                          obtain rfl := Option.some.inj h
                          replace h := hO66
                          clear hO66
                          try dsimp only at h
                          obtain rfl := Option.some.inj h
                          replace h := hO7
                          clear hO7
                          try dsimp only at h
                          obtain rfl := Option.some.inj h
                          exact TL.nil (X.seq (T.ret (X.rb (X.rs (X.rs (X.rb (X.rb (X.rs (X.rs (X.rb (X.rs (X.done1 [0] Try.results46 (RV.tm rfl) ⟨rfl, rfl, rfl⟩ (by rfl) (.inl rfl)))))))))))))
                        · replace h := ifF c83 h
                          refine TL.nil (X.seq ?_)
                          refine T.no rfl (decide_eq_false c83) ?_
                          refine T.skip (X.blk (X.seq (T.region rfl ?_)))
                          replace h := guard_some h
                          obtain ⟨c84, h⟩ := h
                          refine TL.run ft_cursitorref14_ok [0] rfl rfl ?_
                          refine TL.q rfl .u (Ex.add rfl rfl c84) rfl ?_
                          refine TL.run ft_cursitorref14_ok [2] rfl rfl ?_
                          exact TL.nil (X.back (m' := m67) [0] (by omega) ⟨y62, k63 + 1, rfl, rfl, h⟩ (by rfl) (by rfl))
                      · replace h := ifF c77 h
                        refine TL.no rfl (.gn rfl rfl (decide_eq_false c77)) rfl ?_
                        refine TL.no rfl (.gn rfl rfl (decide_eq_false c77)) rfl ?_
                        refine TL.no rfl (.gn rfl rfl (decide_eq_false c77)) rfl ?_
                        refine TL.no rfl (.gn rfl rfl (decide_eq_false c77)) rfl ?_
                        refine TL.no rfl (.gn rfl rfl (decide_eq_false c77)) rfl ?_
                        refine TL.no rfl (.gn rfl rfl (decide_eq_false c77)) rfl ?_
                        refine TL.no rfl (.gn rfl rfl (decide_eq_false c77)) rfl ?_
                        refine TL.no rfl (.gn rfl rfl (decide_eq_false c77)) rfl ?_
                        refine TL.no rfl (.gn rfl rfl (decide_eq_false c77)) rfl ?_
                        refine TL.no rfl (.gn rfl rfl (decide_eq_false c77)) rfl ?_
                        refine TL.no rfl (.gn rfl rfl (decide_eq_false c77)) rfl ?_
                        refine TL.q rfl (.g rfl rfl (decide_eq_false c76)) (Ex.pn rfl (decide_eq_false c77) rfl) rfl ?_
                        refine TL.q rfl .u (Ex.pn rfl (decide_eq_false c76) rfl) rfl ?_
                        refine TL.nil (X.seq ?_)
                        refine T.no rfl rfl ?_
                        refine T.skip (X.blk (X.seq (T.region rfl ?_)))
                        replace h := guard_some h
                        obtain ⟨c85, h⟩ := h
                        refine TL.run ft_cursitorref14_ok [0] rfl rfl ?_
                        refine TL.q rfl .u (Ex.add rfl rfl c85) rfl ?_
                        refine TL.run ft_cursitorref14_ok [2] rfl rfl ?_
                        exact TL.nil (X.back (m' := m67) [0] (by omega) ⟨y62, k63 + 1, rfl, rfl, h⟩ (by rfl) (by rfl))
                · replace h := ifF c71 h
                  refine TL.nil (X.seq ?_)
                  refine T.no rfl (decide_eq_false c71) ?_
                  obtain rfl := Option.some.inj h
                  replace h := hO66
                  clear hO66
                  try dsimp only at h
                  refine T.exit (X.exs (X.exs (X.ex (X.blk (X.seq (T.region rfl ?_))))))
                  replace h := guard_some h
                  obtain ⟨c86, h⟩ := h
                  refine TL.run ft_cursitorref14_ok [0] rfl rfl ?_
                  refine TL.q rfl .u (Ex.add rfl rfl c86) rfl ?_
                  refine TL.run ft_cursitorref14_ok [2] rfl rfl ?_
                  exact TL.nil (X.back (m' := m8) [0] (by omega) ⟨y62, k4 + 1, rfl, rfl, h⟩ (by rfl) (by rfl))
    · replace h := ifF c12 h
      refine TL.nil (X.seq ?_)
      refine T.no rfl (decide_eq_false c12) ?_
      obtain rfl := Option.some.inj h
      replace h := hO7
      clear hO7
      try dsimp only at h
      refine T.exit (X.exs (X.exs (X.ex (X.seq (T.seq (T.region rfl ?_))))))
      refine TL.run ft_cursitorref14_ok [0] rfl rfl ?_
      obtain rfl := Option.some.inj h
      exact TL.nil (X.seq (T.ret (X.done1 [0] Try.results46 (RV.tm rfl) ⟨rfl, rfl, rfl⟩ (by rfl) (.inl rfl))))
def f_r14_Check (a0 : Val) : Option (Int) := if a0.fProducer < 0 then some 11 else (if a0.fEpoch < 0 then some 11 else (if a0.fEpoch > 32767 then some 11 else (if a0.fTimeout < 0 then some 11 else (if a0.fTimeout > 2147483647 then some 11 else (if a0.fUpdated < 0 then some 11 else (if a0.fStarted < (-1) then some 11 else (if a0.fState < 0 then some 12 else (if a0.fState > 6 then some 12 else (if a0.fState ≥ 1 then (if a0.fState ≤ 3 then (if (a0.fTopics.length : Int) = 0 then some 10 else (if a0.fState = 0 then (if a0.fStarted = (-1) then (if a0.fState > 0 then some 10 else ((f_r14_Rise a0.fTopics).bind fun x19 => if x19 = true then some 0 else some 13)) else some 10) else (if a0.fState > 0 then (if a0.fStarted = (-1) then some 10 else ((f_r14_Rise a0.fTopics).bind fun x24 => if x24 = true then some 0 else some 13)) else ((f_r14_Rise a0.fTopics).bind fun x27 => if x27 = true then some 0 else some 13)))) else (if (a0.fTopics.length : Int) > 0 then some 10 else (if a0.fState = 0 then (if a0.fStarted = (-1) then (if a0.fState > 0 then some 10 else ((f_r14_Rise a0.fTopics).bind fun x34 => if x34 = true then some 0 else some 13)) else some 10) else (if a0.fState > 0 then (if a0.fStarted = (-1) then some 10 else ((f_r14_Rise a0.fTopics).bind fun x39 => if x39 = true then some 0 else some 13)) else ((f_r14_Rise a0.fTopics).bind fun x42 => if x42 = true then some 0 else some 13))))) else (if (a0.fTopics.length : Int) > 0 then some 10 else (if a0.fState = 0 then (if a0.fStarted = (-1) then (if a0.fState > 0 then some 10 else ((f_r14_Rise a0.fTopics).bind fun x49 => if x49 = true then some 0 else some 13)) else some 10) else (if a0.fState > 0 then (if a0.fStarted = (-1) then some 10 else ((f_r14_Rise a0.fTopics).bind fun x54 => if x54 = true then some 0 else some 13)) else ((f_r14_Rise a0.fTopics).bind fun x57 => if x57 = true then some 0 else some 13)))))))))))))
set_option maxRecDepth 100000 in
set_option maxHeartbeats 4000000 in
theorem f_r14_Check_spec (a0 : Val) (A1 : Option Addr) (c2 : Nat) (r : Int) (h : f_r14_Check a0 = some r) : SpecX Try.prog 62 #[.agg #[.int .i64 a0.fProducer, .int .i64 a0.fEpoch, .int .i64 a0.fTimeout, .int .i64 a0.fState, .slice A1 a0.fTopics.length c2, .int .i64 a0.fUpdated, .int .i64 a0.fStarted]] (RX.of (sliceRd 2 Top_rd) [.slice A1 a0.fTopics.length c2] a0.fTopics) (EmpR) (fun v A' N => v = .int .i64 r ∧ A' = EmpR ∧ N = []) := by
  refine enterA Try.func62 rfl Try.ntmps62 rfl ?_
  intro F w hX
  unfold f_r14_Check at h
  refine T.seq (T.region rfl ?_)
  refine TL.box rfl .u rfl rfl (fun b3 => ?_)
  refine TL.run ft_cursitorref14_ok [1] rfl rfl ?_
  refine TL.nil (X.seq (T.seq (T.seq (T.region rfl ?_))))
  refine TL.run ft_cursitorref14_ok [0] rfl rfl ?_
  refine TL.q rfl .u (Ex.b1 0 rfl Try.isAgg3 rfl rfl) rfl ?_
  by_cases c4 : a0.fProducer < 0
  · replace h := ifT c4 h
    refine TL.run ft_cursitorref14_ok [2, 3] rfl rfl ?_
    refine TL.no rfl (.gn rfl rfl (decide_eq_true c4)) rfl ?_
    refine TL.no rfl (.gn rfl rfl (decide_eq_true c4)) rfl ?_
    refine TL.no rfl (.gn rfl rfl (decide_eq_true c4)) rfl ?_
    refine TL.q rfl .u (Ex.py rfl (decide_eq_true c4) rfl) rfl ?_
    refine TL.run ft_cursitorref14_ok [8] rfl rfl ?_
    refine TL.no rfl (.gn rfl rfl rfl) rfl ?_
    refine TL.no rfl (.gn rfl rfl rfl) rfl ?_
    refine TL.no rfl (.gn rfl rfl rfl) rfl ?_
    refine TL.q rfl .u (Ex.py rfl rfl rfl) rfl ?_
    refine TL.run ft_cursitorref14_ok [13] rfl rfl ?_
    refine TL.no rfl (.gn rfl rfl rfl) rfl ?_
    refine TL.no rfl (.gn rfl rfl rfl) rfl ?_
    refine TL.no rfl (.gn rfl rfl rfl) rfl ?_
    refine TL.q rfl .u (Ex.py rfl rfl rfl) rfl ?_
    refine TL.run ft_cursitorref14_ok [18] rfl rfl ?_
    refine TL.no rfl (.gn rfl rfl rfl) rfl ?_
    refine TL.no rfl (.gn rfl rfl rfl) rfl ?_
    refine TL.no rfl (.gn rfl rfl rfl) rfl ?_
    refine TL.q rfl .u (Ex.py rfl rfl rfl) rfl ?_
    refine TL.run ft_cursitorref14_ok [23] rfl rfl ?_
    refine TL.no rfl (.gn rfl rfl rfl) rfl ?_
    refine TL.no rfl (.gn rfl rfl rfl) rfl ?_
    refine TL.no rfl (.gn rfl rfl rfl) rfl ?_
    refine TL.q rfl .u (Ex.py rfl rfl rfl) rfl ?_
    refine TL.run ft_cursitorref14_ok [28] rfl rfl ?_
    refine TL.no rfl (.gn rfl rfl rfl) rfl ?_
    refine TL.no rfl (.gn rfl rfl rfl) rfl ?_
    refine TL.no rfl (.gn rfl rfl rfl) rfl ?_
    refine TL.q rfl .u (Ex.py rfl rfl rfl) rfl ?_
    refine TL.nil (X.seq ?_)
    refine T.yes rfl rfl ?_
    refine T.seq (T.region rfl ?_)
    refine TL.run ft_cursitorref14_ok [0] rfl rfl ?_
    obtain rfl := Option.some.inj h
    exact TL.nil (X.seq (T.ret (X.rs (X.done1 [1] Try.results62 (RV.tm rfl) ⟨rfl, rfl, rfl⟩ (by rfl) (.inl rfl)))))
  · replace h := ifF c4 h
    refine TL.run ft_cursitorref14_ok [2, 3] rfl rfl ?_
    refine TL.q rfl (.g rfl rfl (decide_eq_false c4)) (Ex.ft ft_cursitorref14_ok rfl) rfl ?_
    refine TL.q rfl (.g rfl rfl (decide_eq_false c4)) (Ex.b1 0 rfl Try.isAgg3 rfl rfl) rfl ?_
    refine TL.q rfl (.g rfl rfl (decide_eq_false c4)) (Ex.ft ft_cursitorref14_ok rfl) rfl ?_
    refine TL.q rfl .u (Ex.pn rfl (decide_eq_false c4) rfl) rfl ?_
    by_cases c5 : a0.fEpoch < 0
    · replace h := ifT c5 h
      refine TL.run ft_cursitorref14_ok [8] rfl rfl ?_
      refine TL.no rfl (.gn rfl rfl (decide_eq_true c5)) rfl ?_
      refine TL.no rfl (.gn rfl rfl (decide_eq_true c5)) rfl ?_
      refine TL.no rfl (.gn rfl rfl (decide_eq_true c5)) rfl ?_
      refine TL.q rfl .u (Ex.py rfl (decide_eq_true c5) rfl) rfl ?_
      refine TL.run ft_cursitorref14_ok [13] rfl rfl ?_
      refine TL.no rfl (.gn rfl rfl rfl) rfl ?_
      refine TL.no rfl (.gn rfl rfl rfl) rfl ?_
      refine TL.no rfl (.gn rfl rfl rfl) rfl ?_
      refine TL.q rfl .u (Ex.py rfl rfl rfl) rfl ?_
      refine TL.run ft_cursitorref14_ok [18] rfl rfl ?_
      refine TL.no rfl (.gn rfl rfl rfl) rfl ?_
      refine TL.no rfl (.gn rfl rfl rfl) rfl ?_
      refine TL.no rfl (.gn rfl rfl rfl) rfl ?_
      refine TL.q rfl .u (Ex.py rfl rfl rfl) rfl ?_
      refine TL.run ft_cursitorref14_ok [23] rfl rfl ?_
      refine TL.no rfl (.gn rfl rfl rfl) rfl ?_
      refine TL.no rfl (.gn rfl rfl rfl) rfl ?_
      refine TL.no rfl (.gn rfl rfl rfl) rfl ?_
      refine TL.q rfl .u (Ex.py rfl rfl rfl) rfl ?_
      refine TL.run ft_cursitorref14_ok [28] rfl rfl ?_
      refine TL.no rfl (.gn rfl rfl rfl) rfl ?_
      refine TL.no rfl (.gn rfl rfl rfl) rfl ?_
      refine TL.no rfl (.gn rfl rfl rfl) rfl ?_
      refine TL.q rfl .u (Ex.py rfl rfl rfl) rfl ?_
      refine TL.nil (X.seq ?_)
      refine T.yes rfl rfl ?_
      refine T.seq (T.region rfl ?_)
      refine TL.run ft_cursitorref14_ok [0] rfl rfl ?_
      obtain rfl := Option.some.inj h
      exact TL.nil (X.seq (T.ret (X.rs (X.done1 [1] Try.results62 (RV.tm rfl) ⟨rfl, rfl, rfl⟩ (by rfl) (.inl rfl)))))
    · replace h := ifF c5 h
      refine TL.run ft_cursitorref14_ok [8] rfl rfl ?_
      refine TL.q rfl (.g rfl rfl (decide_eq_false c5)) (Ex.ft ft_cursitorref14_ok rfl) rfl ?_
      refine TL.q rfl (.g rfl rfl (decide_eq_false c5)) (Ex.b1 0 rfl Try.isAgg3 rfl rfl) rfl ?_
      refine TL.q rfl (.g rfl rfl (decide_eq_false c5)) (Ex.ft ft_cursitorref14_ok rfl) rfl ?_
      refine TL.q rfl .u (Ex.pn rfl (decide_eq_false c5) rfl) rfl ?_
      by_cases c6 : a0.fEpoch > 32767
      · replace h := ifT c6 h
        refine TL.run ft_cursitorref14_ok [13] rfl rfl ?_
        refine TL.no rfl (.gn rfl rfl (decide_eq_true c6)) rfl ?_
        refine TL.no rfl (.gn rfl rfl (decide_eq_true c6)) rfl ?_
        refine TL.no rfl (.gn rfl rfl (decide_eq_true c6)) rfl ?_
        refine TL.q rfl .u (Ex.py rfl (decide_eq_true c6) rfl) rfl ?_
        refine TL.run ft_cursitorref14_ok [18] rfl rfl ?_
        refine TL.no rfl (.gn rfl rfl rfl) rfl ?_
        refine TL.no rfl (.gn rfl rfl rfl) rfl ?_
        refine TL.no rfl (.gn rfl rfl rfl) rfl ?_
        refine TL.q rfl .u (Ex.py rfl rfl rfl) rfl ?_
        refine TL.run ft_cursitorref14_ok [23] rfl rfl ?_
        refine TL.no rfl (.gn rfl rfl rfl) rfl ?_
        refine TL.no rfl (.gn rfl rfl rfl) rfl ?_
        refine TL.no rfl (.gn rfl rfl rfl) rfl ?_
        refine TL.q rfl .u (Ex.py rfl rfl rfl) rfl ?_
        refine TL.run ft_cursitorref14_ok [28] rfl rfl ?_
        refine TL.no rfl (.gn rfl rfl rfl) rfl ?_
        refine TL.no rfl (.gn rfl rfl rfl) rfl ?_
        refine TL.no rfl (.gn rfl rfl rfl) rfl ?_
        refine TL.q rfl .u (Ex.py rfl rfl rfl) rfl ?_
        refine TL.nil (X.seq ?_)
        refine T.yes rfl rfl ?_
        refine T.seq (T.region rfl ?_)
        refine TL.run ft_cursitorref14_ok [0] rfl rfl ?_
        obtain rfl := Option.some.inj h
        exact TL.nil (X.seq (T.ret (X.rs (X.done1 [1] Try.results62 (RV.tm rfl) ⟨rfl, rfl, rfl⟩ (by rfl) (.inl rfl)))))
      · replace h := ifF c6 h
        refine TL.run ft_cursitorref14_ok [13] rfl rfl ?_
        refine TL.q rfl (.g rfl rfl (decide_eq_false c6)) (Ex.ft ft_cursitorref14_ok rfl) rfl ?_
        refine TL.q rfl (.g rfl rfl (decide_eq_false c6)) (Ex.b1 0 rfl Try.isAgg3 rfl rfl) rfl ?_
        refine TL.q rfl (.g rfl rfl (decide_eq_false c6)) (Ex.ft ft_cursitorref14_ok rfl) rfl ?_
        refine TL.q rfl .u (Ex.pn rfl (decide_eq_false c6) rfl) rfl ?_
        by_cases c7 : a0.fTimeout < 0
        · replace h := ifT c7 h
          refine TL.run ft_cursitorref14_ok [18] rfl rfl ?_
          refine TL.no rfl (.gn rfl rfl (decide_eq_true c7)) rfl ?_
          refine TL.no rfl (.gn rfl rfl (decide_eq_true c7)) rfl ?_
          refine TL.no rfl (.gn rfl rfl (decide_eq_true c7)) rfl ?_
          refine TL.q rfl .u (Ex.py rfl (decide_eq_true c7) rfl) rfl ?_
          refine TL.run ft_cursitorref14_ok [23] rfl rfl ?_
          refine TL.no rfl (.gn rfl rfl rfl) rfl ?_
          refine TL.no rfl (.gn rfl rfl rfl) rfl ?_
          refine TL.no rfl (.gn rfl rfl rfl) rfl ?_
          refine TL.q rfl .u (Ex.py rfl rfl rfl) rfl ?_
          refine TL.run ft_cursitorref14_ok [28] rfl rfl ?_
          refine TL.no rfl (.gn rfl rfl rfl) rfl ?_
          refine TL.no rfl (.gn rfl rfl rfl) rfl ?_
          refine TL.no rfl (.gn rfl rfl rfl) rfl ?_
          refine TL.q rfl .u (Ex.py rfl rfl rfl) rfl ?_
          refine TL.nil (X.seq ?_)
          refine T.yes rfl rfl ?_
          refine T.seq (T.region rfl ?_)
          refine TL.run ft_cursitorref14_ok [0] rfl rfl ?_
          obtain rfl := Option.some.inj h
          exact TL.nil (X.seq (T.ret (X.rs (X.done1 [1] Try.results62 (RV.tm rfl) ⟨rfl, rfl, rfl⟩ (by rfl) (.inl rfl)))))
        · replace h := ifF c7 h
          refine TL.run ft_cursitorref14_ok [18] rfl rfl ?_
          refine TL.q rfl (.g rfl rfl (decide_eq_false c7)) (Ex.ft ft_cursitorref14_ok rfl) rfl ?_
          refine TL.q rfl (.g rfl rfl (decide_eq_false c7)) (Ex.b1 0 rfl Try.isAgg3 rfl rfl) rfl ?_
          refine TL.q rfl (.g rfl rfl (decide_eq_false c7)) (Ex.ft ft_cursitorref14_ok rfl) rfl ?_
          refine TL.q rfl .u (Ex.pn rfl (decide_eq_false c7) rfl) rfl ?_
          by_cases c8 : a0.fTimeout > 2147483647
          · replace h := ifT c8 h
            refine TL.run ft_cursitorref14_ok [23] rfl rfl ?_
            refine TL.no rfl (.gn rfl rfl (decide_eq_true c8)) rfl ?_
            refine TL.no rfl (.gn rfl rfl (decide_eq_true c8)) rfl ?_
            refine TL.no rfl (.gn rfl rfl (decide_eq_true c8)) rfl ?_
            refine TL.q rfl .u (Ex.py rfl (decide_eq_true c8) rfl) rfl ?_
            refine TL.run ft_cursitorref14_ok [28] rfl rfl ?_
            refine TL.no rfl (.gn rfl rfl rfl) rfl ?_
            refine TL.no rfl (.gn rfl rfl rfl) rfl ?_
            refine TL.no rfl (.gn rfl rfl rfl) rfl ?_
            refine TL.q rfl .u (Ex.py rfl rfl rfl) rfl ?_
            refine TL.nil (X.seq ?_)
            refine T.yes rfl rfl ?_
            refine T.seq (T.region rfl ?_)
            refine TL.run ft_cursitorref14_ok [0] rfl rfl ?_
            obtain rfl := Option.some.inj h
            exact TL.nil (X.seq (T.ret (X.rs (X.done1 [1] Try.results62 (RV.tm rfl) ⟨rfl, rfl, rfl⟩ (by rfl) (.inl rfl)))))
          · replace h := ifF c8 h
            refine TL.run ft_cursitorref14_ok [23] rfl rfl ?_
            refine TL.q rfl (.g rfl rfl (decide_eq_false c8)) (Ex.ft ft_cursitorref14_ok rfl) rfl ?_
            refine TL.q rfl (.g rfl rfl (decide_eq_false c8)) (Ex.b1 0 rfl Try.isAgg3 rfl rfl) rfl ?_
            refine TL.q rfl (.g rfl rfl (decide_eq_false c8)) (Ex.ft ft_cursitorref14_ok rfl) rfl ?_
            refine TL.q rfl .u (Ex.pn rfl (decide_eq_false c8) rfl) rfl ?_
            by_cases c9 : a0.fUpdated < 0
            · replace h := ifT c9 h
              refine TL.run ft_cursitorref14_ok [28] rfl rfl ?_
              refine TL.no rfl (.gn rfl rfl (decide_eq_true c9)) rfl ?_
              refine TL.no rfl (.gn rfl rfl (decide_eq_true c9)) rfl ?_
              refine TL.no rfl (.gn rfl rfl (decide_eq_true c9)) rfl ?_
              refine TL.q rfl .u (Ex.py rfl (decide_eq_true c9) rfl) rfl ?_
              refine TL.nil (X.seq ?_)
              refine T.yes rfl rfl ?_
              refine T.seq (T.region rfl ?_)
              refine TL.run ft_cursitorref14_ok [0] rfl rfl ?_
              obtain rfl := Option.some.inj h
              exact TL.nil (X.seq (T.ret (X.rs (X.done1 [1] Try.results62 (RV.tm rfl) ⟨rfl, rfl, rfl⟩ (by rfl) (.inl rfl)))))
            · replace h := ifF c9 h
              refine TL.run ft_cursitorref14_ok [28] rfl rfl ?_
              refine TL.q rfl (.g rfl rfl (decide_eq_false c9)) (Ex.ft ft_cursitorref14_ok rfl) rfl ?_
              refine TL.q rfl (.g rfl rfl (decide_eq_false c9)) (Ex.b1 0 rfl Try.isAgg3 rfl rfl) rfl ?_
              refine TL.q rfl (.g rfl rfl (decide_eq_false c9)) (Ex.ft ft_cursitorref14_ok rfl) rfl ?_
              refine TL.q rfl .u (Ex.pn rfl (decide_eq_false c9) rfl) rfl ?_
              by_cases c10 : a0.fStarted < (-1)
              · replace h := ifT c10 h
                refine TL.nil (X.seq ?_)
                refine T.yes rfl (decide_eq_true c10) ?_
                refine T.seq (T.region rfl ?_)
                refine TL.run ft_cursitorref14_ok [0] rfl rfl ?_
                obtain rfl := Option.some.inj h
                exact TL.nil (X.seq (T.ret (X.rs (X.done1 [1] Try.results62 (RV.tm rfl) ⟨rfl, rfl, rfl⟩ (by rfl) (.inl rfl)))))
              · replace h := ifF c10 h
                refine TL.nil (X.seq ?_)
                refine T.no rfl (decide_eq_false c10) ?_
                refine T.skip (X.seq (T.seq (T.seq (T.region rfl ?_))))
                refine TL.run ft_cursitorref14_ok [0] rfl rfl ?_
                refine TL.q rfl .u (Ex.b1 0 rfl Try.isAgg3 rfl rfl) rfl ?_
                by_cases c11 : a0.fState < 0
                · replace h := ifT c11 h
                  refine TL.run ft_cursitorref14_ok [2, 3] rfl rfl ?_
                  refine TL.no rfl (.gn rfl rfl (decide_eq_true c11)) rfl ?_
                  refine TL.no rfl (.gn rfl rfl (decide_eq_true c11)) rfl ?_
                  refine TL.no rfl (.gn rfl rfl (decide_eq_true c11)) rfl ?_
                  refine TL.q rfl .u (Ex.py rfl (decide_eq_true c11) rfl) rfl ?_
                  refine TL.nil (X.seq ?_)
                  refine T.yes rfl rfl ?_
                  refine T.seq (T.region rfl ?_)
                  refine TL.run ft_cursitorref14_ok [0] rfl rfl ?_
                  obtain rfl := Option.some.inj h
                  exact TL.nil (X.seq (T.ret (X.rs (X.done1 [1] Try.results62 (RV.tm rfl) ⟨rfl, rfl, rfl⟩ (by rfl) (.inl rfl)))))
                · replace h := ifF c11 h
                  refine TL.run ft_cursitorref14_ok [2, 3] rfl rfl ?_
                  refine TL.q rfl (.g rfl rfl (decide_eq_false c11)) (Ex.ft ft_cursitorref14_ok rfl) rfl ?_
                  refine TL.q rfl (.g rfl rfl (decide_eq_false c11)) (Ex.b1 0 rfl Try.isAgg3 rfl rfl) rfl ?_
                  refine TL.q rfl (.g rfl rfl (decide_eq_false c11)) (Ex.ft ft_cursitorref14_ok rfl) rfl ?_
                  refine TL.q rfl .u (Ex.pn rfl (decide_eq_false c11) rfl) rfl ?_
                  by_cases c12 : a0.fState > 6
                  · replace h := ifT c12 h
                    refine TL.nil (X.seq ?_)
                    refine T.yes rfl (decide_eq_true c12) ?_
                    refine T.seq (T.region rfl ?_)
                    refine TL.run ft_cursitorref14_ok [0] rfl rfl ?_
                    obtain rfl := Option.some.inj h
                    exact TL.nil (X.seq (T.ret (X.rs (X.done1 [1] Try.results62 (RV.tm rfl) ⟨rfl, rfl, rfl⟩ (by rfl) (.inl rfl)))))
                  · replace h := ifF c12 h
                    refine TL.nil (X.seq ?_)
                    refine T.no rfl (decide_eq_false c12) ?_
                    refine T.skip (X.seq (T.seq (T.region rfl ?_)))
                    refine TL.run ft_cursitorref14_ok [0] rfl rfl ?_
                    refine TL.q rfl .u (Ex.b1 0 rfl Try.isAgg3 rfl rfl) rfl ?_
                    by_cases c13 : a0.fState ≥ 1
                    · replace h := ifT c13 h
                      refine TL.run ft_cursitorref14_ok [2, 3] rfl rfl ?_
                      refine TL.q rfl (.g rfl rfl (decide_eq_true c13)) (Ex.ft ft_cursitorref14_ok rfl) rfl ?_
                      refine TL.q rfl (.g rfl rfl (decide_eq_true c13)) (Ex.b1 0 rfl Try.isAgg3 rfl rfl) rfl ?_
                      refine TL.q rfl (.g rfl rfl (decide_eq_true c13)) (Ex.ft ft_cursitorref14_ok rfl) rfl ?_
                      refine TL.q rfl .u (Ex.py rfl (decide_eq_true c13) rfl) rfl ?_
                      refine TL.run ft_cursitorref14_ok [8] rfl rfl ?_
                      refine TL.nil (X.seq (T.seq (T.seq (T.region rfl ?_))))
                      by_cases c14 : a0.fState ≤ 3
                      · replace h := ifT c14 h
                        refine TL.run ft_cursitorref14_ok [0, 1] rfl rfl ?_
                        refine TL.q rfl (.g rfl rfl (decide_eq_true c14)) (Ex.ft ft_cursitorref14_ok rfl) rfl ?_
                        refine TL.q rfl (.g rfl rfl (decide_eq_true c14)) (Ex.b1 0 rfl Try.isAgg62 rfl rfl) rfl ?_
                        refine TL.q rfl (.g rfl rfl (decide_eq_true c14)) (Ex.lenS rfl Try.runUnderlying62) rfl ?_
                        refine TL.q rfl (.g rfl rfl (decide_eq_true c14)) (Ex.ft ft_cursitorref14_ok rfl) rfl ?_
                        refine TL.q rfl .u (Ex.py rfl (decide_eq_true c14) rfl) rfl ?_
                        by_cases c15 : (a0.fTopics.length : Int) = 0
                        · replace h := ifT c15 h
                          refine TL.run ft_cursitorref14_ok [7] rfl rfl ?_
                          refine TL.no rfl (.gn rfl rfl (decide_eq_true c15)) rfl ?_
                          refine TL.no rfl (.gn rfl rfl (decide_eq_true c15)) rfl ?_
                          refine TL.no rfl (.gn rfl rfl (decide_eq_true c15)) rfl ?_
                          refine TL.no rfl (.gu rfl rfl) rfl ?_
                          refine TL.no rfl (.gu rfl rfl) rfl ?_
                          refine TL.no rfl (.gu rfl rfl) rfl ?_
                          refine TL.no rfl (.gu rfl rfl) rfl ?_
                          refine TL.no rfl (.gn rfl rfl (decide_eq_true c15)) rfl ?_
                          refine TL.q rfl .u (Ex.py rfl (decide_eq_true c15) rfl) rfl ?_
                          refine TL.run ft_cursitorref14_ok [17] rfl rfl ?_
                          refine TL.no rfl (.gn rfl rfl rfl) rfl ?_
                          refine TL.no rfl (.gn rfl rfl rfl) rfl ?_
                          refine TL.no rfl (.gn rfl rfl rfl) rfl ?_
                          refine TL.no rfl (.gn rfl rfl rfl) rfl ?_
                          refine TL.no rfl (.gu rfl rfl) rfl ?_
                          refine TL.no rfl (.gu rfl rfl) rfl ?_
                          refine TL.no rfl (.gu rfl rfl) rfl ?_
                          refine TL.no rfl (.gn rfl rfl rfl) rfl ?_
                          refine TL.q rfl .u (Ex.py rfl rfl rfl) rfl ?_
                          refine TL.run ft_cursitorref14_ok [27] rfl rfl ?_
                          refine TL.no rfl (.gn rfl rfl rfl) rfl ?_
                          refine TL.no rfl (.gn rfl rfl rfl) rfl ?_
                          refine TL.no rfl (.gn rfl rfl rfl) rfl ?_
                          refine TL.no rfl (.gn rfl rfl rfl) rfl ?_
                          refine TL.no rfl (.gu rfl rfl) rfl ?_
                          refine TL.no rfl (.gu rfl rfl) rfl ?_
                          refine TL.no rfl (.gu rfl rfl) rfl ?_
                          refine TL.no rfl (.gn rfl rfl rfl) rfl ?_
                          refine TL.q rfl .u (Ex.py rfl rfl rfl) rfl ?_
                          refine TL.nil (X.seq ?_)
                          refine T.yes rfl rfl ?_
                          refine T.seq (T.region rfl ?_)
                          refine TL.run ft_cursitorref14_ok [0] rfl rfl ?_
                          obtain rfl := Option.some.inj h
                          exact TL.nil (X.seq (T.ret (X.rs (X.done1 [1] Try.results62 (RV.tm rfl) ⟨rfl, rfl, rfl⟩ (by rfl) (.inl rfl)))))
                        · replace h := ifF c15 h
                          refine TL.run ft_cursitorref14_ok [7] rfl rfl ?_
                          refine TL.q rfl (.g rfl rfl (decide_eq_false c15)) (Ex.ft ft_cursitorref14_ok rfl) rfl ?_
                          refine TL.q rfl (.g rfl rfl (decide_eq_false c15)) (Ex.ft ft_cursitorref14_ok rfl) rfl ?_
                          refine TL.q rfl (.g rfl rfl (decide_eq_false c15)) (Ex.ft ft_cursitorref14_ok rfl) rfl ?_
                          refine TL.no rfl (.gn rfl rfl (bn_f (decide_eq_true c14))) rfl ?_
                          refine TL.no rfl (.gn rfl rfl (bn_f (decide_eq_true c14))) rfl ?_
                          refine TL.no rfl (.gn rfl rfl (bn_f (decide_eq_true c14))) rfl ?_
                          refine TL.no rfl (.gn rfl rfl (bn_f (decide_eq_true c14))) rfl ?_
                          refine TL.q rfl (.g rfl rfl (decide_eq_false c15)) (Ex.pn rfl (bn_f (decide_eq_true c14)) rfl) rfl ?_
                          refine TL.q rfl .u (Ex.pn rfl (decide_eq_false c15) rfl) rfl ?_
                          refine TL.run ft_cursitorref14_ok [17] rfl rfl ?_
                          refine TL.q rfl (.g rfl rfl rfl) (Ex.ft ft_cursitorref14_ok rfl) rfl ?_
                          refine TL.q rfl (.g rfl rfl rfl) (Ex.b1 0 rfl Try.isAgg3 rfl rfl) rfl ?_
                          refine TL.q rfl (.g rfl rfl rfl) (Ex.ft ft_cursitorref14_ok rfl) rfl ?_
                          refine TL.q rfl (.g rfl rfl rfl) (Ex.ft ft_cursitorref14_ok rfl) rfl ?_
                          by_cases c16 : a0.fState = 0
                          · replace h := ifT c16 h
                            refine TL.q rfl (.g rfl rfl (decide_eq_true c16)) (Ex.ft ft_cursitorref14_ok rfl) rfl ?_
                            refine TL.q rfl (.g rfl rfl (decide_eq_true c16)) (Ex.b1 0 rfl Try.isAgg3 rfl rfl) rfl ?_
                            refine TL.q rfl (.g rfl rfl (decide_eq_true c16)) (Ex.ft ft_cursitorref14_ok rfl) rfl ?_
                            refine TL.q rfl (.g rfl rfl rfl) (Ex.py rfl (decide_eq_true c16) rfl) rfl ?_
                            refine TL.q rfl .u (Ex.pn rfl rfl rfl) rfl ?_
                            by_cases c17 : a0.fStarted = (-1)
                            · replace h := ifT c17 h
                              refine TL.run ft_cursitorref14_ok [27] rfl rfl ?_
                              refine TL.q rfl (.g rfl rfl (bn_f (decide_eq_true c17))) (Ex.ft ft_cursitorref14_ok rfl) rfl ?_
                              refine TL.q rfl (.g rfl rfl (bn_f (decide_eq_true c17))) (Ex.b1 0 rfl Try.isAgg3 rfl rfl) rfl ?_
                              refine TL.q rfl (.g rfl rfl (bn_f (decide_eq_true c17))) (Ex.ft ft_cursitorref14_ok rfl) rfl ?_
                              refine TL.q rfl (.g rfl rfl (bn_f (decide_eq_true c17))) (Ex.ft ft_cursitorref14_ok rfl) rfl ?_
                              by_cases c18 : a0.fState > 0
                              · replace h := ifT c18 h
                                refine TL.q rfl (.g rfl rfl (decide_eq_true c18)) (Ex.ft ft_cursitorref14_ok rfl) rfl ?_
                                refine TL.q rfl (.g rfl rfl (decide_eq_true c18)) (Ex.b1 0 rfl Try.isAgg3 rfl rfl) rfl ?_
                                refine TL.q rfl (.g rfl rfl (decide_eq_true c18)) (Ex.ft ft_cursitorref14_ok rfl) rfl ?_
                                refine TL.q rfl (.g rfl rfl (bn_f (decide_eq_true c17))) (Ex.py rfl (decide_eq_true c18) rfl) rfl ?_
                                refine TL.q rfl .u (Ex.pn rfl (bn_f (decide_eq_true c17)) rfl) rfl ?_
                                refine TL.nil (X.seq ?_)
                                refine T.yes rfl (decide_eq_true c17) ?_
                                refine T.seq (T.region rfl ?_)
                                refine TL.run ft_cursitorref14_ok [0] rfl rfl ?_
                                obtain rfl := Option.some.inj h
                                exact TL.nil (X.seq (T.ret (X.rs (X.done1 [1] Try.results62 (RV.tm rfl) ⟨rfl, rfl, rfl⟩ (by rfl) (.inl rfl)))))
                              · replace h := ifF c18 h
                                refine TL.no rfl (.gn rfl rfl (decide_eq_false c18)) rfl ?_
                                refine TL.no rfl (.gn rfl rfl (decide_eq_false c18)) rfl ?_
                                refine TL.no rfl (.gn rfl rfl (decide_eq_false c18)) rfl ?_
                                refine TL.q rfl (.g rfl rfl (bn_f (decide_eq_true c17))) (Ex.pn rfl (decide_eq_false c18) rfl) rfl ?_
                                refine TL.q rfl .u (Ex.pn rfl (bn_f (decide_eq_true c17)) rfl) rfl ?_
                                refine TL.nil (X.seq ?_)
                                refine T.no rfl rfl ?_
                                refine T.skip (X.seq (T.seq (T.seq (T.region rfl ?_))))
                                refine TL.run ft_cursitorref14_ok [0] rfl rfl ?_
                                refine TL.q rfl .u (Ex.b1 0 rfl Try.isAgg62 rfl rfl) rfl ?_
                                obtain ⟨x19, hx20, h⟩ := Option.bind_eq_some_iff.1 h
                                refine TL.ce rfl .u (.fn Try.call46 rfl) (f_r14_Rise_spec a0.fTopics _ _ _ hx20) (fun _ hs => (SrcE.old hs hX)) rfl ?_
                                refine TL.run ft_cursitorref14_ok [3] rfl rfl ?_
                                by_cases c21 : x19 = true
                                · replace h := ifT c21 h
                                  refine TL.nil (X.seq ?_)
                                  refine T.no rfl (bn_f c21) ?_
                                  refine T.skip (X.seq (T.seq (T.region rfl ?_)))
                                  refine TL.run ft_cursitorref14_ok [0] rfl rfl ?_
                                  obtain rfl := Option.some.inj h
                                  exact TL.nil (X.seq (T.ret (X.done1 [1] Try.results62 (RV.tm rfl) ⟨rfl, rfl, rfl⟩ (by rfl) (.inl rfl))))
                                · replace h := ifF c21 h
                                  replace c21 := eq_false_of_ne_true c21
                                  refine TL.nil (X.seq ?_)
                                  refine T.yes rfl (bn_t c21) ?_
                                  refine T.seq (T.region rfl ?_)
                                  refine TL.run ft_cursitorref14_ok [0] rfl rfl ?_
                                  obtain rfl := Option.some.inj h
                                  exact TL.nil (X.seq (T.ret (X.rs (X.done1 [1] Try.results62 (RV.tm rfl) ⟨rfl, rfl, rfl⟩ (by rfl) (.inl rfl)))))
                            · replace h := ifF c17 h
                              refine TL.run ft_cursitorref14_ok [27] rfl rfl ?_
                              refine TL.no rfl (.gn rfl rfl (bn_t (decide_eq_false c17))) rfl ?_
                              refine TL.no rfl (.gn rfl rfl (bn_t (decide_eq_false c17))) rfl ?_
                              refine TL.no rfl (.gn rfl rfl (bn_t (decide_eq_false c17))) rfl ?_
                              refine TL.no rfl (.gn rfl rfl (bn_t (decide_eq_false c17))) rfl ?_
                              refine TL.no rfl (.gu rfl rfl) rfl ?_
                              refine TL.no rfl (.gu rfl rfl) rfl ?_
                              refine TL.no rfl (.gu rfl rfl) rfl ?_
                              refine TL.no rfl (.gn rfl rfl (bn_t (decide_eq_false c17))) rfl ?_
                              refine TL.q rfl .u (Ex.py rfl (bn_t (decide_eq_false c17)) rfl) rfl ?_
                              refine TL.nil (X.seq ?_)
                              refine T.yes rfl rfl ?_
                              refine T.seq (T.region rfl ?_)
                              refine TL.run ft_cursitorref14_ok [0] rfl rfl ?_
                              obtain rfl := Option.some.inj h
                              exact TL.nil (X.seq (T.ret (X.rs (X.done1 [1] Try.results62 (RV.tm rfl) ⟨rfl, rfl, rfl⟩ (by rfl) (.inl rfl)))))
                          · replace h := ifF c16 h
                            refine TL.no rfl (.gn rfl rfl (decide_eq_false c16)) rfl ?_
                            refine TL.no rfl (.gn rfl rfl (decide_eq_false c16)) rfl ?_
                            refine TL.no rfl (.gn rfl rfl (decide_eq_false c16)) rfl ?_
                            refine TL.q rfl (.g rfl rfl rfl) (Ex.pn rfl (decide_eq_false c16) rfl) rfl ?_
                            refine TL.q rfl .u (Ex.pn rfl rfl rfl) rfl ?_
                            refine TL.run ft_cursitorref14_ok [27] rfl rfl ?_
                            refine TL.q rfl (.g rfl rfl rfl) (Ex.ft ft_cursitorref14_ok rfl) rfl ?_
                            refine TL.q rfl (.g rfl rfl rfl) (Ex.b1 0 rfl Try.isAgg3 rfl rfl) rfl ?_
                            refine TL.q rfl (.g rfl rfl rfl) (Ex.ft ft_cursitorref14_ok rfl) rfl ?_
                            refine TL.q rfl (.g rfl rfl rfl) (Ex.ft ft_cursitorref14_ok rfl) rfl ?_
                            by_cases c22 : a0.fState > 0
                            · replace h := ifT c22 h
                              refine TL.q rfl (.g rfl rfl (decide_eq_true c22)) (Ex.ft ft_cursitorref14_ok rfl) rfl ?_
                              refine TL.q rfl (.g rfl rfl (decide_eq_true c22)) (Ex.b1 0 rfl Try.isAgg3 rfl rfl) rfl ?_
                              refine TL.q rfl (.g rfl rfl (decide_eq_true c22)) (Ex.ft ft_cursitorref14_ok rfl) rfl ?_
                              refine TL.q rfl (.g rfl rfl rfl) (Ex.py rfl (decide_eq_true c22) rfl) rfl ?_
                              refine TL.q rfl .u (Ex.pn rfl rfl rfl) rfl ?_
                              by_cases c23 : a0.fStarted = (-1)
                              · replace h := ifT c23 h
                                refine TL.nil (X.seq ?_)
                                refine T.yes rfl (decide_eq_true c23) ?_
                                refine T.seq (T.region rfl ?_)
                                refine TL.run ft_cursitorref14_ok [0] rfl rfl ?_
                                obtain rfl := Option.some.inj h
                                exact TL.nil (X.seq (T.ret (X.rs (X.done1 [1] Try.results62 (RV.tm rfl) ⟨rfl, rfl, rfl⟩ (by rfl) (.inl rfl)))))
                              · replace h := ifF c23 h
                                refine TL.nil (X.seq ?_)
                                refine T.no rfl (decide_eq_false c23) ?_
                                refine T.skip (X.seq (T.seq (T.seq (T.region rfl ?_))))
                                refine TL.run ft_cursitorref14_ok [0] rfl rfl ?_
                                refine TL.q rfl .u (Ex.b1 0 rfl Try.isAgg62 rfl rfl) rfl ?_
                                obtain ⟨x24, hx25, h⟩ := Option.bind_eq_some_iff.1 h
                                refine TL.ce rfl .u (.fn Try.call46 rfl) (f_r14_Rise_spec a0.fTopics _ _ _ hx25) (fun _ hs => (SrcE.old hs hX)) rfl ?_
                                refine TL.run ft_cursitorref14_ok [3] rfl rfl ?_
                                by_cases c26 : x24 = true
                                · replace h := ifT c26 h
                                  refine TL.nil (X.seq ?_)
                                  refine T.no rfl (bn_f c26) ?_
                                  refine T.skip (X.seq (T.seq (T.region rfl ?_)))
                                  refine TL.run ft_cursitorref14_ok [0] rfl rfl ?_
                                  obtain rfl := Option.some.inj h
                                  exact TL.nil (X.seq (T.ret (X.done1 [1] Try.results62 (RV.tm rfl) ⟨rfl, rfl, rfl⟩ (by rfl) (.inl rfl))))
                                · replace h := ifF c26 h
                                  replace c26 := eq_false_of_ne_true c26
                                  refine TL.nil (X.seq ?_)
                                  refine T.yes rfl (bn_t c26) ?_
                                  refine T.seq (T.region rfl ?_)
                                  refine TL.run ft_cursitorref14_ok [0] rfl rfl ?_
                                  obtain rfl := Option.some.inj h
                                  exact TL.nil (X.seq (T.ret (X.rs (X.done1 [1] Try.results62 (RV.tm rfl) ⟨rfl, rfl, rfl⟩ (by rfl) (.inl rfl)))))
                            · replace h := ifF c22 h
                              refine TL.no rfl (.gn rfl rfl (decide_eq_false c22)) rfl ?_
                              refine TL.no rfl (.gn rfl rfl (decide_eq_false c22)) rfl ?_
                              refine TL.no rfl (.gn rfl rfl (decide_eq_false c22)) rfl ?_
                              refine TL.q rfl (.g rfl rfl rfl) (Ex.pn rfl (decide_eq_false c22) rfl) rfl ?_
                              refine TL.q rfl .u (Ex.pn rfl rfl rfl) rfl ?_
                              refine TL.nil (X.seq ?_)
                              refine T.no rfl rfl ?_
                              refine T.skip (X.seq (T.seq (T.seq (T.region rfl ?_))))
                              refine TL.run ft_cursitorref14_ok [0] rfl rfl ?_
                              refine TL.q rfl .u (Ex.b1 0 rfl Try.isAgg62 rfl rfl) rfl ?_
                              obtain ⟨x27, hx28, h⟩ := Option.bind_eq_some_iff.1 h
                              refine TL.ce rfl .u (.fn Try.call46 rfl) (f_r14_Rise_spec a0.fTopics _ _ _ hx28) (fun _ hs => (SrcE.old hs hX)) rfl ?_
                              refine TL.run ft_cursitorref14_ok [3] rfl rfl ?_
                              by_cases c29 : x27 = true
                              · replace h := ifT c29 h
                                refine TL.nil (X.seq ?_)
                                refine T.no rfl (bn_f c29) ?_
                                refine T.skip (X.seq (T.seq (T.region rfl ?_)))
                                refine TL.run ft_cursitorref14_ok [0] rfl rfl ?_
                                obtain rfl := Option.some.inj h
                                exact TL.nil (X.seq (T.ret (X.done1 [1] Try.results62 (RV.tm rfl) ⟨rfl, rfl, rfl⟩ (by rfl) (.inl rfl))))
                              · replace h := ifF c29 h
                                replace c29 := eq_false_of_ne_true c29
                                refine TL.nil (X.seq ?_)
                                refine T.yes rfl (bn_t c29) ?_
                                refine T.seq (T.region rfl ?_)
                                refine TL.run ft_cursitorref14_ok [0] rfl rfl ?_
                                obtain rfl := Option.some.inj h
                                exact TL.nil (X.seq (T.ret (X.rs (X.done1 [1] Try.results62 (RV.tm rfl) ⟨rfl, rfl, rfl⟩ (by rfl) (.inl rfl)))))
                      · replace h := ifF c14 h
                        refine TL.run ft_cursitorref14_ok [0, 1] rfl rfl ?_
                        refine TL.no rfl (.gn rfl rfl (decide_eq_false c14)) rfl ?_
                        refine TL.no rfl (.gn rfl rfl (decide_eq_false c14)) rfl ?_
                        refine TL.no rfl (.gn rfl rfl (decide_eq_false c14)) rfl ?_
                        refine TL.no rfl (.gn rfl rfl (decide_eq_false c14)) rfl ?_
                        refine TL.q rfl .u (Ex.pn rfl (decide_eq_false c14) rfl) rfl ?_
                        refine TL.run ft_cursitorref14_ok [7] rfl rfl ?_
                        refine TL.q rfl (.g rfl rfl rfl) (Ex.ft ft_cursitorref14_ok rfl) rfl ?_
                        refine TL.q rfl (.g rfl rfl rfl) (Ex.ft ft_cursitorref14_ok rfl) rfl ?_
                        refine TL.q rfl (.g rfl rfl rfl) (Ex.ft ft_cursitorref14_ok rfl) rfl ?_
                        refine TL.q rfl (.g rfl rfl (bn_t (decide_eq_false c14))) (Ex.ft ft_cursitorref14_ok rfl) rfl ?_
                        refine TL.q rfl (.g rfl rfl (bn_t (decide_eq_false c14))) (Ex.b1 0 rfl Try.isAgg62 rfl rfl) rfl ?_
                        refine TL.q rfl (.g rfl rfl (bn_t (decide_eq_false c14))) (Ex.lenS rfl Try.runUnderlying62) rfl ?_
                        refine TL.q rfl (.g rfl rfl (bn_t (decide_eq_false c14))) (Ex.ft ft_cursitorref14_ok rfl) rfl ?_
                        refine TL.q rfl (.g rfl rfl rfl) (Ex.py rfl (bn_t (decide_eq_false c14)) rfl) rfl ?_
                        refine TL.q rfl .u (Ex.pn rfl rfl rfl) rfl ?_
                        by_cases c30 : (a0.fTopics.length : Int) > 0
                        · replace h := ifT c30 h
                          refine TL.run ft_cursitorref14_ok [17] rfl rfl ?_
                          refine TL.no rfl (.gn rfl rfl (decide_eq_true c30)) rfl ?_
                          refine TL.no rfl (.gn rfl rfl (decide_eq_true c30)) rfl ?_
                          refine TL.no rfl (.gn rfl rfl (decide_eq_true c30)) rfl ?_
                          refine TL.no rfl (.gn rfl rfl (decide_eq_true c30)) rfl ?_
                          refine TL.no rfl (.gu rfl rfl) rfl ?_
                          refine TL.no rfl (.gu rfl rfl) rfl ?_
                          refine TL.no rfl (.gu rfl rfl) rfl ?_
                          refine TL.no rfl (.gn rfl rfl (decide_eq_true c30)) rfl ?_
                          refine TL.q rfl .u (Ex.py rfl (decide_eq_true c30) rfl) rfl ?_
                          refine TL.run ft_cursitorref14_ok [27] rfl rfl ?_
                          refine TL.no rfl (.gn rfl rfl rfl) rfl ?_
                          refine TL.no rfl (.gn rfl rfl rfl) rfl ?_
                          refine TL.no rfl (.gn rfl rfl rfl) rfl ?_
                          refine TL.no rfl (.gn rfl rfl rfl) rfl ?_
                          refine TL.no rfl (.gu rfl rfl) rfl ?_
                          refine TL.no rfl (.gu rfl rfl) rfl ?_
                          refine TL.no rfl (.gu rfl rfl) rfl ?_
                          refine TL.no rfl (.gn rfl rfl rfl) rfl ?_
                          refine TL.q rfl .u (Ex.py rfl rfl rfl) rfl ?_
                          refine TL.nil (X.seq ?_)
                          refine T.yes rfl rfl ?_
                          refine T.seq (T.region rfl ?_)
                          refine TL.run ft_cursitorref14_ok [0] rfl rfl ?_
                          obtain rfl := Option.some.inj h
                          exact TL.nil (X.seq (T.ret (X.rs (X.done1 [1] Try.results62 (RV.tm rfl) ⟨rfl, rfl, rfl⟩ (by rfl) (.inl rfl)))))
                        · replace h := ifF c30 h
                          refine TL.run ft_cursitorref14_ok [17] rfl rfl ?_
                          refine TL.q rfl (.g rfl rfl (decide_eq_false c30)) (Ex.ft ft_cursitorref14_ok rfl) rfl ?_
                          refine TL.q rfl (.g rfl rfl (decide_eq_false c30)) (Ex.b1 0 rfl Try.isAgg3 rfl rfl) rfl ?_
                          refine TL.q rfl (.g rfl rfl (decide_eq_false c30)) (Ex.ft ft_cursitorref14_ok rfl) rfl ?_
                          refine TL.q rfl (.g rfl rfl (decide_eq_false c30)) (Ex.ft ft_cursitorref14_ok rfl) rfl ?_
                          by_cases c31 : a0.fState = 0
                          · replace h := ifT c31 h
                            refine TL.q rfl (.g rfl rfl (decide_eq_true c31)) (Ex.ft ft_cursitorref14_ok rfl) rfl ?_
                            refine TL.q rfl (.g rfl rfl (decide_eq_true c31)) (Ex.b1 0 rfl Try.isAgg3 rfl rfl) rfl ?_
                            refine TL.q rfl (.g rfl rfl (decide_eq_true c31)) (Ex.ft ft_cursitorref14_ok rfl) rfl ?_
                            refine TL.q rfl (.g rfl rfl (decide_eq_false c30)) (Ex.py rfl (decide_eq_true c31) rfl) rfl ?_
                            refine TL.q rfl .u (Ex.pn rfl (decide_eq_false c30) rfl) rfl ?_
                            by_cases c32 : a0.fStarted = (-1)
                            · replace h := ifT c32 h
                              refine TL.run ft_cursitorref14_ok [27] rfl rfl ?_
                              refine TL.q rfl (.g rfl rfl (bn_f (decide_eq_true c32))) (Ex.ft ft_cursitorref14_ok rfl) rfl ?_
                              refine TL.q rfl (.g rfl rfl (bn_f (decide_eq_true c32))) (Ex.b1 0 rfl Try.isAgg3 rfl rfl) rfl ?_
                              refine TL.q rfl (.g rfl rfl (bn_f (decide_eq_true c32))) (Ex.ft ft_cursitorref14_ok rfl) rfl ?_
                              refine TL.q rfl (.g rfl rfl (bn_f (decide_eq_true c32))) (Ex.ft ft_cursitorref14_ok rfl) rfl ?_
                              by_cases c33 : a0.fState > 0
                              · replace h := ifT c33 h
                                refine TL.q rfl (.g rfl rfl (decide_eq_true c33)) (Ex.ft ft_cursitorref14_ok rfl) rfl ?_
                                refine TL.q rfl (.g rfl rfl (decide_eq_true c33)) (Ex.b1 0 rfl Try.isAgg3 rfl rfl) rfl ?_
                                refine TL.q rfl (.g rfl rfl (decide_eq_true c33)) (Ex.ft ft_cursitorref14_ok rfl) rfl ?_
                                refine TL.q rfl (.g rfl rfl (bn_f (decide_eq_true c32))) (Ex.py rfl (decide_eq_true c33) rfl) rfl ?_
                                refine TL.q rfl .u (Ex.pn rfl (bn_f (decide_eq_true c32)) rfl) rfl ?_
                                refine TL.nil (X.seq ?_)
                                refine T.yes rfl (decide_eq_true c32) ?_
                                refine T.seq (T.region rfl ?_)
                                refine TL.run ft_cursitorref14_ok [0] rfl rfl ?_
                                obtain rfl := Option.some.inj h
                                exact TL.nil (X.seq (T.ret (X.rs (X.done1 [1] Try.results62 (RV.tm rfl) ⟨rfl, rfl, rfl⟩ (by rfl) (.inl rfl)))))
                              · replace h := ifF c33 h
                                refine TL.no rfl (.gn rfl rfl (decide_eq_false c33)) rfl ?_
                                refine TL.no rfl (.gn rfl rfl (decide_eq_false c33)) rfl ?_
                                refine TL.no rfl (.gn rfl rfl (decide_eq_false c33)) rfl ?_
                                refine TL.q rfl (.g rfl rfl (bn_f (decide_eq_true c32))) (Ex.pn rfl (decide_eq_false c33) rfl) rfl ?_
                                refine TL.q rfl .u (Ex.pn rfl (bn_f (decide_eq_true c32)) rfl) rfl ?_
                                refine TL.nil (X.seq ?_)
                                refine T.no rfl rfl ?_
                                refine T.skip (X.seq (T.seq (T.seq (T.region rfl ?_))))
                                refine TL.run ft_cursitorref14_ok [0] rfl rfl ?_
                                refine TL.q rfl .u (Ex.b1 0 rfl Try.isAgg62 rfl rfl) rfl ?_
                                obtain ⟨x34, hx35, h⟩ := Option.bind_eq_some_iff.1 h
                                refine TL.ce rfl .u (.fn Try.call46 rfl) (f_r14_Rise_spec a0.fTopics _ _ _ hx35) (fun _ hs => (SrcE.old hs hX)) rfl ?_
                                refine TL.run ft_cursitorref14_ok [3] rfl rfl ?_
                                by_cases c36 : x34 = true
                                · replace h := ifT c36 h
                                  refine TL.nil (X.seq ?_)
                                  refine T.no rfl (bn_f c36) ?_
                                  refine T.skip (X.seq (T.seq (T.region rfl ?_)))
                                  refine TL.run ft_cursitorref14_ok [0] rfl rfl ?_
                                  obtain rfl := Option.some.inj h
                                  exact TL.nil (X.seq (T.ret (X.done1 [1] Try.results62 (RV.tm rfl) ⟨rfl, rfl, rfl⟩ (by rfl) (.inl rfl))))
                                · replace h := ifF c36 h
                                  replace c36 := eq_false_of_ne_true c36
                                  refine TL.nil (X.seq ?_)
                                  refine T.yes rfl (bn_t c36) ?_
                                  refine T.seq (T.region rfl ?_)
                                  refine TL.run ft_cursitorref14_ok [0] rfl rfl ?_
                                  obtain rfl := Option.some.inj h
                                  exact TL.nil (X.seq (T.ret (X.rs (X.done1 [1] Try.results62 (RV.tm rfl) ⟨rfl, rfl, rfl⟩ (by rfl) (.inl rfl)))))
                            · replace h := ifF c32 h
                              refine TL.run ft_cursitorref14_ok [27] rfl rfl ?_
                              refine TL.no rfl (.gn rfl rfl (bn_t (decide_eq_false c32))) rfl ?_
                              refine TL.no rfl (.gn rfl rfl (bn_t (decide_eq_false c32))) rfl ?_
                              refine TL.no rfl (.gn rfl rfl (bn_t (decide_eq_false c32))) rfl ?_
                              refine TL.no rfl (.gn rfl rfl (bn_t (decide_eq_false c32))) rfl ?_
                              refine TL.no rfl (.gu rfl rfl) rfl ?_
                              refine TL.no rfl (.gu rfl rfl) rfl ?_
                              refine TL.no rfl (.gu rfl rfl) rfl ?_
                              refine TL.no rfl (.gn rfl rfl (bn_t (decide_eq_false c32))) rfl ?_
                              refine TL.q rfl .u (Ex.py rfl (bn_t (decide_eq_false c32)) rfl) rfl ?_
                              refine TL.nil (X.seq ?_)
                              refine T.yes rfl rfl ?_
                              refine T.seq (T.region rfl ?_)
                              refine TL.run ft_cursitorref14_ok [0] rfl rfl ?_
                              obtain rfl := Option.some.inj h
                              exact TL.nil (X.seq (T.ret (X.rs (X.done1 [1] Try.results62 (RV.tm rfl) ⟨rfl, rfl, rfl⟩ (by rfl) (.inl rfl)))))
                          · replace h := ifF c31 h
                            refine TL.no rfl (.gn rfl rfl (decide_eq_false c31)) rfl ?_
                            refine TL.no rfl (.gn rfl rfl (decide_eq_false c31)) rfl ?_
                            refine TL.no rfl (.gn rfl rfl (decide_eq_false c31)) rfl ?_
                            refine TL.q rfl (.g rfl rfl (decide_eq_false c30)) (Ex.pn rfl (decide_eq_false c31) rfl) rfl ?_
                            refine TL.q rfl .u (Ex.pn rfl (decide_eq_false c30) rfl) rfl ?_
                            refine TL.run ft_cursitorref14_ok [27] rfl rfl ?_
                            refine TL.q rfl (.g rfl rfl rfl) (Ex.ft ft_cursitorref14_ok rfl) rfl ?_
                            refine TL.q rfl (.g rfl rfl rfl) (Ex.b1 0 rfl Try.isAgg3 rfl rfl) rfl ?_
                            refine TL.q rfl (.g rfl rfl rfl) (Ex.ft ft_cursitorref14_ok rfl) rfl ?_
                            refine TL.q rfl (.g rfl rfl rfl) (Ex.ft ft_cursitorref14_ok rfl) rfl ?_
                            by_cases c37 : a0.fState > 0
                            · replace h := ifT c37 h
                              refine TL.q rfl (.g rfl rfl (decide_eq_true c37)) (Ex.ft ft_cursitorref14_ok rfl) rfl ?_
                              refine TL.q rfl (.g rfl rfl (decide_eq_true c37)) (Ex.b1 0 rfl Try.isAgg3 rfl rfl) rfl ?_
                              refine TL.q rfl (.g rfl rfl (decide_eq_true c37)) (Ex.ft ft_cursitorref14_ok rfl) rfl ?_
                              refine TL.q rfl (.g rfl rfl rfl) (Ex.py rfl (decide_eq_true c37) rfl) rfl ?_
                              refine TL.q rfl .u (Ex.pn rfl rfl rfl) rfl ?_
                              by_cases c38 : a0.fStarted = (-1)
                              · replace h := ifT c38 h
                                refine TL.nil (X.seq ?_)
                                refine T.yes rfl (decide_eq_true c38) ?_
                                refine T.seq (T.region rfl ?_)
                                refine TL.run ft_cursitorref14_ok [0] rfl rfl ?_
                                obtain rfl := Option.some.inj h
                                exact TL.nil (X.seq (T.ret (X.rs (X.done1 [1] Try.results62 (RV.tm rfl) ⟨rfl, rfl, rfl⟩ (by rfl) (.inl rfl)))))
                              · replace h := ifF c38 h
                                refine TL.nil (X.seq ?_)
                                refine T.no rfl (decide_eq_false c38) ?_
                                refine T.skip (X.seq (T.seq (T.seq (T.region rfl ?_))))
                                refine TL.run ft_cursitorref14_ok [0] rfl rfl ?_
                                refine TL.q rfl .u (Ex.b1 0 rfl Try.isAgg62 rfl rfl) rfl ?_
                                obtain ⟨x39, hx40, h⟩ := Option.bind_eq_some_iff.1 h
                                refine TL.ce rfl .u (.fn Try.call46 rfl) (f_r14_Rise_spec a0.fTopics _ _ _ hx40) (fun _ hs => (SrcE.old hs hX)) rfl ?_
                                refine TL.run ft_cursitorref14_ok [3] rfl rfl ?_
                                by_cases c41 : x39 = true
                                · replace h := ifT c41 h
                                  refine TL.nil (X.seq ?_)
                                  refine T.no rfl (bn_f c41) ?_
                                  refine T.skip (X.seq (T.seq (T.region rfl ?_)))
                                  refine TL.run ft_cursitorref14_ok [0] rfl rfl ?_
                                  obtain rfl := Option.some.inj h
                                  exact TL.nil (X.seq (T.ret (X.done1 [1] Try.results62 (RV.tm rfl) ⟨rfl, rfl, rfl⟩ (by rfl) (.inl rfl))))
                                · replace h := ifF c41 h
                                  replace c41 := eq_false_of_ne_true c41
                                  refine TL.nil (X.seq ?_)
                                  refine T.yes rfl (bn_t c41) ?_
                                  refine T.seq (T.region rfl ?_)
                                  refine TL.run ft_cursitorref14_ok [0] rfl rfl ?_
                                  obtain rfl := Option.some.inj h
                                  exact TL.nil (X.seq (T.ret (X.rs (X.done1 [1] Try.results62 (RV.tm rfl) ⟨rfl, rfl, rfl⟩ (by rfl) (.inl rfl)))))
                            · replace h := ifF c37 h
                              refine TL.no rfl (.gn rfl rfl (decide_eq_false c37)) rfl ?_
                              refine TL.no rfl (.gn rfl rfl (decide_eq_false c37)) rfl ?_
                              refine TL.no rfl (.gn rfl rfl (decide_eq_false c37)) rfl ?_
                              refine TL.q rfl (.g rfl rfl rfl) (Ex.pn rfl (decide_eq_false c37) rfl) rfl ?_
                              refine TL.q rfl .u (Ex.pn rfl rfl rfl) rfl ?_
                              refine TL.nil (X.seq ?_)
                              refine T.no rfl rfl ?_
                              refine T.skip (X.seq (T.seq (T.seq (T.region rfl ?_))))
                              refine TL.run ft_cursitorref14_ok [0] rfl rfl ?_
                              refine TL.q rfl .u (Ex.b1 0 rfl Try.isAgg62 rfl rfl) rfl ?_
                              obtain ⟨x42, hx43, h⟩ := Option.bind_eq_some_iff.1 h
                              refine TL.ce rfl .u (.fn Try.call46 rfl) (f_r14_Rise_spec a0.fTopics _ _ _ hx43) (fun _ hs => (SrcE.old hs hX)) rfl ?_
                              refine TL.run ft_cursitorref14_ok [3] rfl rfl ?_
                              by_cases c44 : x42 = true
                              · replace h := ifT c44 h
                                refine TL.nil (X.seq ?_)
                                refine T.no rfl (bn_f c44) ?_
                                refine T.skip (X.seq (T.seq (T.region rfl ?_)))
                                refine TL.run ft_cursitorref14_ok [0] rfl rfl ?_
                                obtain rfl := Option.some.inj h
                                exact TL.nil (X.seq (T.ret (X.done1 [1] Try.results62 (RV.tm rfl) ⟨rfl, rfl, rfl⟩ (by rfl) (.inl rfl))))
                              · replace h := ifF c44 h
                                replace c44 := eq_false_of_ne_true c44
                                refine TL.nil (X.seq ?_)
                                refine T.yes rfl (bn_t c44) ?_
                                refine T.seq (T.region rfl ?_)
                                refine TL.run ft_cursitorref14_ok [0] rfl rfl ?_
                                obtain rfl := Option.some.inj h
                                exact TL.nil (X.seq (T.ret (X.rs (X.done1 [1] Try.results62 (RV.tm rfl) ⟨rfl, rfl, rfl⟩ (by rfl) (.inl rfl)))))
                    · replace h := ifF c13 h
                      refine TL.run ft_cursitorref14_ok [2, 3] rfl rfl ?_
                      refine TL.no rfl (.gn rfl rfl (decide_eq_false c13)) rfl ?_
                      refine TL.no rfl (.gn rfl rfl (decide_eq_false c13)) rfl ?_
                      refine TL.no rfl (.gn rfl rfl (decide_eq_false c13)) rfl ?_
                      refine TL.q rfl .u (Ex.pn rfl (decide_eq_false c13) rfl) rfl ?_
                      refine TL.run ft_cursitorref14_ok [8] rfl rfl ?_
                      refine TL.nil (X.seq (T.seq (T.seq (T.region rfl ?_))))
                      refine TL.run ft_cursitorref14_ok [0, 1] rfl rfl ?_
                      refine TL.no rfl (.gn rfl rfl rfl) rfl ?_
                      refine TL.no rfl (.gn rfl rfl rfl) rfl ?_
                      refine TL.no rfl (.gn rfl rfl rfl) rfl ?_
                      refine TL.no rfl (.gn rfl rfl rfl) rfl ?_
                      refine TL.q rfl .u (Ex.pn rfl rfl rfl) rfl ?_
                      refine TL.run ft_cursitorref14_ok [7] rfl rfl ?_
                      refine TL.q rfl (.g rfl rfl rfl) (Ex.ft ft_cursitorref14_ok rfl) rfl ?_
                      refine TL.q rfl (.g rfl rfl rfl) (Ex.ft ft_cursitorref14_ok rfl) rfl ?_
                      refine TL.q rfl (.g rfl rfl rfl) (Ex.ft ft_cursitorref14_ok rfl) rfl ?_
                      refine TL.q rfl (.g rfl rfl rfl) (Ex.ft ft_cursitorref14_ok rfl) rfl ?_
                      refine TL.q rfl (.g rfl rfl rfl) (Ex.b1 0 rfl Try.isAgg62 rfl rfl) rfl ?_
                      refine TL.q rfl (.g rfl rfl rfl) (Ex.lenS rfl Try.runUnderlying62) rfl ?_
                      refine TL.q rfl (.g rfl rfl rfl) (Ex.ft ft_cursitorref14_ok rfl) rfl ?_
                      refine TL.q rfl (.g rfl rfl rfl) (Ex.py rfl rfl rfl) rfl ?_
                      refine TL.q rfl .u (Ex.pn rfl rfl rfl) rfl ?_
                      by_cases c45 : (a0.fTopics.length : Int) > 0
                      · replace h := ifT c45 h
                        refine TL.run ft_cursitorref14_ok [17] rfl rfl ?_
                        refine TL.no rfl (.gn rfl rfl (decide_eq_true c45)) rfl ?_
                        refine TL.no rfl (.gn rfl rfl (decide_eq_true c45)) rfl ?_
                        refine TL.no rfl (.gn rfl rfl (decide_eq_true c45)) rfl ?_
                        refine TL.no rfl (.gn rfl rfl (decide_eq_true c45)) rfl ?_
                        refine TL.no rfl (.gu rfl rfl) rfl ?_
                        refine TL.no rfl (.gu rfl rfl) rfl ?_
                        refine TL.no rfl (.gu rfl rfl) rfl ?_
                        refine TL.no rfl (.gn rfl rfl (decide_eq_true c45)) rfl ?_
                        refine TL.q rfl .u (Ex.py rfl (decide_eq_true c45) rfl) rfl ?_
                        refine TL.run ft_cursitorref14_ok [27] rfl rfl ?_
                        refine TL.no rfl (.gn rfl rfl rfl) rfl ?_
                        refine TL.no rfl (.gn rfl rfl rfl) rfl ?_
                        refine TL.no rfl (.gn rfl rfl rfl) rfl ?_
                        refine TL.no rfl (.gn rfl rfl rfl) rfl ?_
                        refine TL.no rfl (.gu rfl rfl) rfl ?_
                        refine TL.no rfl (.gu rfl rfl) rfl ?_
                        refine TL.no rfl (.gu rfl rfl) rfl ?_
                        refine TL.no rfl (.gn rfl rfl rfl) rfl ?_
                        refine TL.q rfl .u (Ex.py rfl rfl rfl) rfl ?_
                        refine TL.nil (X.seq ?_)
                        refine T.yes rfl rfl ?_
                        refine T.seq (T.region rfl ?_)
                        refine TL.run ft_cursitorref14_ok [0] rfl rfl ?_
                        obtain rfl := Option.some.inj h
                        exact TL.nil (X.seq (T.ret (X.rs (X.done1 [1] Try.results62 (RV.tm rfl) ⟨rfl, rfl, rfl⟩ (by rfl) (.inl rfl)))))
                      · replace h := ifF c45 h
                        refine TL.run ft_cursitorref14_ok [17] rfl rfl ?_
                        refine TL.q rfl (.g rfl rfl (decide_eq_false c45)) (Ex.ft ft_cursitorref14_ok rfl) rfl ?_
                        refine TL.q rfl (.g rfl rfl (decide_eq_false c45)) (Ex.b1 0 rfl Try.isAgg3 rfl rfl) rfl ?_
                        refine TL.q rfl (.g rfl rfl (decide_eq_false c45)) (Ex.ft ft_cursitorref14_ok rfl) rfl ?_
                        refine TL.q rfl (.g rfl rfl (decide_eq_false c45)) (Ex.ft ft_cursitorref14_ok rfl) rfl ?_
                        by_cases c46 : a0.fState = 0
                        · replace h := ifT c46 h
                          refine TL.q rfl (.g rfl rfl (decide_eq_true c46)) (Ex.ft ft_cursitorref14_ok rfl) rfl ?_
                          refine TL.q rfl (.g rfl rfl (decide_eq_true c46)) (Ex.b1 0 rfl Try.isAgg3 rfl rfl) rfl ?_
                          refine TL.q rfl (.g rfl rfl (decide_eq_true c46)) (Ex.ft ft_cursitorref14_ok rfl) rfl ?_
                          refine TL.q rfl (.g rfl rfl (decide_eq_false c45)) (Ex.py rfl (decide_eq_true c46) rfl) rfl ?_
                          refine TL.q rfl .u (Ex.pn rfl (decide_eq_false c45) rfl) rfl ?_
                          by_cases c47 : a0.fStarted = (-1)
                          · replace h := ifT c47 h
                            refine TL.run ft_cursitorref14_ok [27] rfl rfl ?_
                            refine TL.q rfl (.g rfl rfl (bn_f (decide_eq_true c47))) (Ex.ft ft_cursitorref14_ok rfl) rfl ?_
                            refine TL.q rfl (.g rfl rfl (bn_f (decide_eq_true c47))) (Ex.b1 0 rfl Try.isAgg3 rfl rfl) rfl ?_
                            refine TL.q rfl (.g rfl rfl (bn_f (decide_eq_true c47))) (Ex.ft ft_cursitorref14_ok rfl) rfl ?_
                            refine TL.q rfl (.g rfl rfl (bn_f (decide_eq_true c47))) (Ex.ft ft_cursitorref14_ok rfl) rfl ?_
                            by_cases c48 : a0.fState > 0
                            · replace h := ifT c48 h
                              refine TL.q rfl (.g rfl rfl (decide_eq_true c48)) (Ex.ft ft_cursitorref14_ok rfl) rfl ?_
                              refine TL.q rfl (.g rfl rfl (decide_eq_true c48)) (Ex.b1 0 rfl Try.isAgg3 rfl rfl) rfl ?_
                              refine TL.q rfl (.g rfl rfl (decide_eq_true c48)) (Ex.ft ft_cursitorref14_ok rfl) rfl ?_
                              refine TL.q rfl (.g rfl rfl (bn_f (decide_eq_true c47))) (Ex.py rfl (decide_eq_true c48) rfl) rfl ?_
                              refine TL.q rfl .u (Ex.pn rfl (bn_f (decide_eq_true c47)) rfl) rfl ?_
                              refine TL.nil (X.seq ?_)
                              refine T.yes rfl (decide_eq_true c47) ?_
                              refine T.seq (T.region rfl ?_)
                              refine TL.run ft_cursitorref14_ok [0] rfl rfl ?_
                              obtain rfl := Option.some.inj h
                              exact TL.nil (X.seq (T.ret (X.rs (X.done1 [1] Try.results62 (RV.tm rfl) ⟨rfl, rfl, rfl⟩ (by rfl) (.inl rfl)))))
                            · replace h := ifF c48 h
                              refine TL.no rfl (.gn rfl rfl (decide_eq_false c48)) rfl ?_
                              refine TL.no rfl (.gn rfl rfl (decide_eq_false c48)) rfl ?_
                              refine TL.no rfl (.gn rfl rfl (decide_eq_false c48)) rfl ?_
                              refine TL.q rfl (.g rfl rfl (bn_f (decide_eq_true c47))) (Ex.pn rfl (decide_eq_false c48) rfl) rfl ?_
                              refine TL.q rfl .u (Ex.pn rfl (bn_f (decide_eq_true c47)) rfl) rfl ?_
                              refine TL.nil (X.seq ?_)
                              refine T.no rfl rfl ?_
                              refine T.skip (X.seq (T.seq (T.seq (T.region rfl ?_))))
                              refine TL.run ft_cursitorref14_ok [0] rfl rfl ?_
                              refine TL.q rfl .u (Ex.b1 0 rfl Try.isAgg62 rfl rfl) rfl ?_
                              obtain ⟨x49, hx50, h⟩ := Option.bind_eq_some_iff.1 h
                              refine TL.ce rfl .u (.fn Try.call46 rfl) (f_r14_Rise_spec a0.fTopics _ _ _ hx50) (fun _ hs => (SrcE.old hs hX)) rfl ?_
                              refine TL.run ft_cursitorref14_ok [3] rfl rfl ?_
                              by_cases c51 : x49 = true
                              · replace h := ifT c51 h
                                refine TL.nil (X.seq ?_)
                                refine T.no rfl (bn_f c51) ?_
                                refine T.skip (X.seq (T.seq (T.region rfl ?_)))
                                refine TL.run ft_cursitorref14_ok [0] rfl rfl ?_
                                obtain rfl := Option.some.inj h
                                exact TL.nil (X.seq (T.ret (X.done1 [1] Try.results62 (RV.tm rfl) ⟨rfl, rfl, rfl⟩ (by rfl) (.inl rfl))))
                              · replace h := ifF c51 h
                                replace c51 := eq_false_of_ne_true c51
                                refine TL.nil (X.seq ?_)
                                refine T.yes rfl (bn_t c51) ?_
                                refine T.seq (T.region rfl ?_)
                                refine TL.run ft_cursitorref14_ok [0] rfl rfl ?_
                                obtain rfl := Option.some.inj h
                                exact TL.nil (X.seq (T.ret (X.rs (X.done1 [1] Try.results62 (RV.tm rfl) ⟨rfl, rfl, rfl⟩ (by rfl) (.inl rfl)))))
                          · replace h := ifF c47 h
                            refine TL.run ft_cursitorref14_ok [27] rfl rfl ?_
                            refine TL.no rfl (.gn rfl rfl (bn_t (decide_eq_false c47))) rfl ?_
                            refine TL.no rfl (.gn rfl rfl (bn_t (decide_eq_false c47))) rfl ?_
                            refine TL.no rfl (.gn rfl rfl (bn_t (decide_eq_false c47))) rfl ?_
                            refine TL.no rfl (.gn rfl rfl (bn_t (decide_eq_false c47))) rfl ?_
                            refine TL.no rfl (.gu rfl rfl) rfl ?_
                            refine TL.no rfl (.gu rfl rfl) rfl ?_
                            refine TL.no rfl (.gu rfl rfl) rfl ?_
                            refine TL.no rfl (.gn rfl rfl (bn_t (decide_eq_false c47))) rfl ?_
                            refine TL.q rfl .u (Ex.py rfl (bn_t (decide_eq_false c47)) rfl) rfl ?_
                            refine TL.nil (X.seq ?_)
                            refine T.yes rfl rfl ?_
                            refine T.seq (T.region rfl ?_)
                            refine TL.run ft_cursitorref14_ok [0] rfl rfl ?_
                            obtain rfl := Option.some.inj h
                            exact TL.nil (X.seq (T.ret (X.rs (X.done1 [1] Try.results62 (RV.tm rfl) ⟨rfl, rfl, rfl⟩ (by rfl) (.inl rfl)))))
                        · replace h := ifF c46 h
                          refine TL.no rfl (.gn rfl rfl (decide_eq_false c46)) rfl ?_
                          refine TL.no rfl (.gn rfl rfl (decide_eq_false c46)) rfl ?_
                          refine TL.no rfl (.gn rfl rfl (decide_eq_false c46)) rfl ?_
                          refine TL.q rfl (.g rfl rfl (decide_eq_false c45)) (Ex.pn rfl (decide_eq_false c46) rfl) rfl ?_
                          refine TL.q rfl .u (Ex.pn rfl (decide_eq_false c45) rfl) rfl ?_
                          refine TL.run ft_cursitorref14_ok [27] rfl rfl ?_
                          refine TL.q rfl (.g rfl rfl rfl) (Ex.ft ft_cursitorref14_ok rfl) rfl ?_
                          refine TL.q rfl (.g rfl rfl rfl) (Ex.b1 0 rfl Try.isAgg3 rfl rfl) rfl ?_
                          refine TL.q rfl (.g rfl rfl rfl) (Ex.ft ft_cursitorref14_ok rfl) rfl ?_
                          refine TL.q rfl (.g rfl rfl rfl) (Ex.ft ft_cursitorref14_ok rfl) rfl ?_
                          by_cases c52 : a0.fState > 0
                          · replace h := ifT c52 h
                            refine TL.q rfl (.g rfl rfl (decide_eq_true c52)) (Ex.ft ft_cursitorref14_ok rfl) rfl ?_
                            refine TL.q rfl (.g rfl rfl (decide_eq_true c52)) (Ex.b1 0 rfl Try.isAgg3 rfl rfl) rfl ?_
                            refine TL.q rfl (.g rfl rfl (decide_eq_true c52)) (Ex.ft ft_cursitorref14_ok rfl) rfl ?_
                            refine TL.q rfl (.g rfl rfl rfl) (Ex.py rfl (decide_eq_true c52) rfl) rfl ?_
                            refine TL.q rfl .u (Ex.pn rfl rfl rfl) rfl ?_
                            by_cases c53 : a0.fStarted = (-1)
                            · replace h := ifT c53 h
                              refine TL.nil (X.seq ?_)
                              refine T.yes rfl (decide_eq_true c53) ?_
                              refine T.seq (T.region rfl ?_)
                              refine TL.run ft_cursitorref14_ok [0] rfl rfl ?_
                              obtain rfl := Option.some.inj h
                              exact TL.nil (X.seq (T.ret (X.rs (X.done1 [1] Try.results62 (RV.tm rfl) ⟨rfl, rfl, rfl⟩ (by rfl) (.inl rfl)))))
                            · replace h := ifF c53 h
                              refine TL.nil (X.seq ?_)
                              refine T.no rfl (decide_eq_false c53) ?_
                              refine T.skip (X.seq (T.seq (T.seq (T.region rfl ?_))))
                              refine TL.run ft_cursitorref14_ok [0] rfl rfl ?_
                              refine TL.q rfl .u (Ex.b1 0 rfl Try.isAgg62 rfl rfl) rfl ?_
                              obtain ⟨x54, hx55, h⟩ := Option.bind_eq_some_iff.1 h
                              refine TL.ce rfl .u (.fn Try.call46 rfl) (f_r14_Rise_spec a0.fTopics _ _ _ hx55) (fun _ hs => (SrcE.old hs hX)) rfl ?_
                              refine TL.run ft_cursitorref14_ok [3] rfl rfl ?_
                              by_cases c56 : x54 = true
                              · replace h := ifT c56 h
                                refine TL.nil (X.seq ?_)
                                refine T.no rfl (bn_f c56) ?_
                                refine T.skip (X.seq (T.seq (T.region rfl ?_)))
                                refine TL.run ft_cursitorref14_ok [0] rfl rfl ?_
                                obtain rfl := Option.some.inj h
                                exact TL.nil (X.seq (T.ret (X.done1 [1] Try.results62 (RV.tm rfl) ⟨rfl, rfl, rfl⟩ (by rfl) (.inl rfl))))
                              · replace h := ifF c56 h
                                replace c56 := eq_false_of_ne_true c56
                                refine TL.nil (X.seq ?_)
                                refine T.yes rfl (bn_t c56) ?_
                                refine T.seq (T.region rfl ?_)
                                refine TL.run ft_cursitorref14_ok [0] rfl rfl ?_
                                obtain rfl := Option.some.inj h
                                exact TL.nil (X.seq (T.ret (X.rs (X.done1 [1] Try.results62 (RV.tm rfl) ⟨rfl, rfl, rfl⟩ (by rfl) (.inl rfl)))))
                          · replace h := ifF c52 h
                            refine TL.no rfl (.gn rfl rfl (decide_eq_false c52)) rfl ?_
                            refine TL.no rfl (.gn rfl rfl (decide_eq_false c52)) rfl ?_
                            refine TL.no rfl (.gn rfl rfl (decide_eq_false c52)) rfl ?_
                            refine TL.q rfl (.g rfl rfl rfl) (Ex.pn rfl (decide_eq_false c52) rfl) rfl ?_
                            refine TL.q rfl .u (Ex.pn rfl rfl rfl) rfl ?_
                            refine TL.nil (X.seq ?_)
                            refine T.no rfl rfl ?_
                            refine T.skip (X.seq (T.seq (T.seq (T.region rfl ?_))))
                            refine TL.run ft_cursitorref14_ok [0] rfl rfl ?_
                            refine TL.q rfl .u (Ex.b1 0 rfl Try.isAgg62 rfl rfl) rfl ?_
                            obtain ⟨x57, hx58, h⟩ := Option.bind_eq_some_iff.1 h
                            refine TL.ce rfl .u (.fn Try.call46 rfl) (f_r14_Rise_spec a0.fTopics _ _ _ hx58) (fun _ hs => (SrcE.old hs hX)) rfl ?_
                            refine TL.run ft_cursitorref14_ok [3] rfl rfl ?_
                            by_cases c59 : x57 = true
                            · replace h := ifT c59 h
                              refine TL.nil (X.seq ?_)
                              refine T.no rfl (bn_f c59) ?_
                              refine T.skip (X.seq (T.seq (T.region rfl ?_)))
                              refine TL.run ft_cursitorref14_ok [0] rfl rfl ?_
                              obtain rfl := Option.some.inj h
                              exact TL.nil (X.seq (T.ret (X.done1 [1] Try.results62 (RV.tm rfl) ⟨rfl, rfl, rfl⟩ (by rfl) (.inl rfl))))
                            · replace h := ifF c59 h
                              replace c59 := eq_false_of_ne_true c59
                              refine TL.nil (X.seq ?_)
                              refine T.yes rfl (bn_t c59) ?_
                              refine T.seq (T.region rfl ?_)
                              refine TL.run ft_cursitorref14_ok [0] rfl rfl ?_
                              obtain rfl := Option.some.inj h
                              exact TL.nil (X.seq (T.ret (X.rs (X.done1 [1] Try.results62 (RV.tm rfl) ⟨rfl, rfl, rfl⟩ (by rfl) (.inl rfl)))))
def f_r14_Decode (a0 : List UInt8) : Option (Val × Int) := if (a0.length : Int) < 2 then (some ((⟨0, 0, 0, 0, [], 0, 0⟩ : Val), 1)) else (if 2 ≤ a0.length then ((gRInt (a0.take 2)).bind fun x5 => if x5 = 0 then (if (a0.length : Int) < 17 then (some ((⟨0, 0, 0, 0, [], 0, 0⟩ : Val), 1)) else (if 10 ≤ a0.length then ((gRInt ((a0.drop 2).take 8)).bind fun x10 => if 12 ≤ a0.length then ((gRInt ((a0.drop 10).take 2)).bind fun x13 => if 16 ≤ a0.length then ((gRInt ((a0.drop 12).take 4)).bind fun x16 => if 17 ≤ a0.length then ((gRInt ((a0.drop 16).take 1)).bind fun x19 => if 17 ≤ a0.length then ((f_r14_ReadTopics (a0.drop 17)).bind fun (x23, x26, x27) => if x27 = 0 then (if -9223372036854775808 ≤ (17 + x26) ∧ (17 + x26) ≤ 9223372036854775807 then (if 0 ≤ (17 + x26) ∧ (17 + x26).toNat ≤ a0.length then (if ((a0.drop ((17 + x26).toNat)).length : Int) < 16 then (some ((⟨0, 0, 0, 0, [], 0, 0⟩ : Val), 1)) else (if ((a0.drop ((17 + x26).toNat)).length : Int) > 16 then (some ((⟨0, 0, 0, 0, [], 0, 0⟩ : Val), 2)) else (if 8 ≤ (a0.drop ((17 + x26).toNat)).length then ((gRInt ((a0.drop ((17 + x26).toNat)).take 8)).bind fun x35 => if 8 ≤ (a0.drop ((17 + x26).toNat)).length then ((gRInt ((a0.drop ((17 + x26).toNat)).drop 8)).bind fun x38 => (f_r14_Check (⟨x10, x13, x16, x19, x23, x35, x38⟩ : Val)).bind fun x40 => if x40 = 0 then (some ((⟨x10, x13, x16, x19, x23, x35, x38⟩ : Val), 0)) else (some ((⟨0, 0, 0, 0, [], 0, 0⟩ : Val), x40))) else none) else none))) else none) else none) else (some ((⟨0, 0, 0, 0, [], 0, 0⟩ : Val), x27))) else none) else none) else none) else none) else none)) else (some ((⟨0, 0, 0, 0, [], 0, 0⟩ : Val), 7))) else none)
set_option maxRecDepth 100000 in
set_option maxHeartbeats 4000000 in
theorem f_r14_Decode_spec (a0 : List UInt8) (r : Val × Int) (h : f_r14_Decode a0 = some r) : SpecX Try.prog 38 #[.string (bsOf a0)] .triv (EmpR) (fun v A' N => ∃ (A43 : Option Addr) (c44 : Nat), v = .tuple #[.agg #[.int .i64 r.1.fProducer, .int .i64 r.1.fEpoch, .int .i64 r.1.fTimeout, .int .i64 r.1.fState, .slice A43 r.1.fTopics.length c44, .int .i64 r.1.fUpdated, .int .i64 r.1.fStarted], .int .i64 r.2] ∧ A' = EmpR ∧ N = [RdR (sliceRd 2 Top_rd) [.slice A43 r.1.fTopics.length c44] r.1.fTopics]) := by
  refine enterA Try.func38 rfl Try.ntmps38 rfl ?_
  intro F w hX
  unfold f_r14_Decode at h
  refine T.seq (T.region rfl ?_)
  refine TL.alloc rfl .u Try.zeroValue64 rfl (fun b1 => ?_)
  refine TL.run ft_cursitorref14_ok [1] rfl rfl ?_
  refine TL.nil (X.seq (T.seq (T.region rfl ?_)))
  refine TL.q rfl .u (Ex.bld (cells := #[.int .i64 0, .int .i64 0, .int .i64 0, .int .i64 0, .slice none 0 0, .int .i64 0, .int .i64 0]) bok_cursitorref14_64 rfl (by rfl)) rfl ?_
  refine TL.alloc rfl .u Try.zeroValue64 rfl (fun b2 => ?_)
  refine TL.st0 (cs' := #[.int .i64 0, .int .i64 0, .int .i64 0, .int .i64 0, .slice none 0 0, .int .i64 0, .int .i64 0]) rfl .u rfl rfl Try.sizeOf64 rfl rfl rfl rfl ?_
  refine TL.nil (X.seq (T.seq (T.seq (T.region rfl ?_))))
  refine TL.run ft_cursitorref14_ok [0] rfl rfl ?_
  refine TL.q rfl .u (Ex.lenB rfl Try.runUnderlying9) rfl ?_
  refine TL.run ft_cursitorref14_ok [2] rfl rfl ?_
  by_cases c3 : (a0.length : Int) < 2
  · replace h := ifT c3 h
    refine TL.nil (X.seq ?_)
    refine T.yes rfl (decide_eq_true c3) ?_
    refine T.seq (T.region rfl ?_)
    refine TL.q rfl .u (Ex.bS (us := [.int .i64 0, .int .i64 0, .int .i64 0, .int .i64 0, .slice none 0 0, .int .i64 0, .int .i64 0]) 0 rfl Try.isAgg64 Try.sizeOf64 rfl rfl rfl) rfl ?_
    refine TL.st1 (cs' := #[.int .i64 0, .int .i64 0, .int .i64 0, .int .i64 0, .slice none 0 0, .int .i64 0, .int .i64 0]) rfl .u rfl rfl Try.sizeOf64 rfl rfl rfl rfl ?_
    refine TL.run ft_cursitorref14_ok [2] rfl rfl ?_
    obtain rfl := Option.some.inj h
    refine TL.nil (X.seq (T.ret (X.rs ?_)))
    refine X.nilrd 2 Top_rd ?_
    exact X.done2 [3, 0] Try.results38 (RV.cS (us := #[.int .i64 0, .int .i64 0, .int .i64 0, .int .i64 0, .slice none 0 0, .int .i64 0, .int .i64 0]) 2 rfl Try.isAgg64 Try.sizeOf64 rfl rfl) (RV.tm rfl) ⟨_, _, rfl, rfl, rfl⟩ (by rfl) (.inl rfl)
  · replace h := ifF c3 h
    refine TL.nil (X.seq ?_)
    refine T.no rfl (decide_eq_false c3) ?_
    refine T.skip (X.seq (T.seq (T.seq (T.region rfl ?_))))
    replace h := guard_some h
    obtain ⟨c4, h⟩ := h
    refine TL.run ft_cursitorref14_ok [0] rfl rfl ?_
    refine TL.q rfl .u (Ex.sSl (p := 0) (q := 2) (m := (a0.take 2)) rfl Try.runUnderlying9 .none (.some rfl rfl) (by omega) (by simp)) rfl ?_
    obtain ⟨x5, hx6, h⟩ := Option.bind_eq_some_iff.1 h
    refine TL.ce rfl .u (.fn Try.call76 rfl) (SpecX.pure (fun w => gRInt_spec (a0.take 2) _ hx6 w)) (fun _ _ => RX.reads_triv _ _) rfl ?_
    refine TL.run ft_cursitorref14_ok [3] rfl rfl ?_
    by_cases c7 : x5 = 0
    · replace h := ifT c7 h
      refine TL.nil (X.seq ?_)
      refine T.no rfl (bn_f (decide_eq_true c7)) ?_
      refine T.skip (X.seq (T.seq (T.seq (T.region rfl ?_))))
      refine TL.run ft_cursitorref14_ok [0] rfl rfl ?_
      refine TL.q rfl .u (Ex.lenB rfl Try.runUnderlying9) rfl ?_
      refine TL.run ft_cursitorref14_ok [2] rfl rfl ?_
      by_cases c8 : (a0.length : Int) < 17
      · replace h := ifT c8 h
        refine TL.nil (X.seq ?_)
        refine T.yes rfl (decide_eq_true c8) ?_
        refine T.seq (T.region rfl ?_)
        refine TL.q rfl .u (Ex.bS (us := [.int .i64 0, .int .i64 0, .int .i64 0, .int .i64 0, .slice none 0 0, .int .i64 0, .int .i64 0]) 0 rfl Try.isAgg64 Try.sizeOf64 rfl rfl rfl) rfl ?_
        refine TL.st1 (cs' := #[.int .i64 0, .int .i64 0, .int .i64 0, .int .i64 0, .slice none 0 0, .int .i64 0, .int .i64 0]) rfl .u rfl rfl Try.sizeOf64 rfl rfl rfl rfl ?_
        refine TL.run ft_cursitorref14_ok [2] rfl rfl ?_
        obtain rfl := Option.some.inj h
        refine TL.nil (X.seq (T.ret (X.rs ?_)))
        refine X.nilrd 2 Top_rd ?_
        exact X.done2 [3, 0] Try.results38 (RV.cS (us := #[.int .i64 0, .int .i64 0, .int .i64 0, .int .i64 0, .slice none 0 0, .int .i64 0, .int .i64 0]) 2 rfl Try.isAgg64 Try.sizeOf64 rfl rfl) (RV.tm rfl) ⟨_, _, rfl, rfl, rfl⟩ (by rfl) (.inl rfl)
      · replace h := ifF c8 h
        refine TL.nil (X.seq ?_)
        refine T.no rfl (decide_eq_false c8) ?_
        replace h := guard_some h
        obtain ⟨c9, h⟩ := h
        obtain ⟨x10, hx11, h⟩ := Option.bind_eq_some_iff.1 h
        replace h := guard_some h
        obtain ⟨c12, h⟩ := h
        obtain ⟨x13, hx14, h⟩ := Option.bind_eq_some_iff.1 h
        replace h := guard_some h
        obtain ⟨c15, h⟩ := h
        obtain ⟨x16, hx17, h⟩ := Option.bind_eq_some_iff.1 h
        replace h := guard_some h
        obtain ⟨c18, h⟩ := h
        obtain ⟨x19, hx20, h⟩ := Option.bind_eq_some_iff.1 h
        refine T.skip (X.seq (T.seq ?_))
        refine T.join (fun e Rs => ∃ (b21 : Nat), e = [(0, .string (bsOf a0)), (2, .pointer (some ⟨b1, 0, none⟩)), (3, .int .i64 0), (4, .pointer (some ⟨b2, 0, none⟩)), (5, .pointer (some ⟨b21, 0, none⟩)), (11, .agg #[.int .i64 0, .int .i64 0, .int .i64 0, .int .i64 0, .slice none 0 0, .int .i64 0, .int .i64 0]), (12, .string (bsOf a0)), (13, .int .i64 (a0.length : Int)), (14, .bool (decide ((a0.length : Int) < 2))), (16, .string (bsOf a0)), (17, .string (bsOf (a0.take 2))), (18, .int .i64 x5), (19, .bool (!(decide (x5 = 0)))), (21, .string (bsOf a0)), (22, .int .i64 (a0.length : Int)), (23, .bool (decide ((a0.length : Int) < 17)))] ∧ Rs = [BlkR b21 64 #[.int .i64 x10, .int .i64 x13, .int .i64 x16, .int .i64 x19, .slice none 0 0, .int .i64 0, .int .i64 0], BlkR b2 64 #[.int .i64 0, .int .i64 0, .int .i64 0, .int .i64 0, .slice none 0 0, .int .i64 0, .int .i64 0], BlkR b1 64 #[.int .i64 0, .int .i64 0, .int .i64 0, .int .i64 0, .slice none 0 0, .int .i64 0, .int .i64 0], EmpR]) ?_ ?_
        · refine T.draw (.q 0 (.q 1 (.q 3 (.q 4 (.q 6 (.q 7 (.q 9 (.q 10 (.br 2 (.br 5 (.br 8 (.br 11 (.q 12 (.e 13 (.e 14 .nil))) (.e 13 (.e 11 (.q 12 (.e 14 .nil))))) (.e 13 (.e 8 (.e 11 (.q 12 (.e 14 .nil)))))) (.e 13 (.e 5 (.e 8 (.e 11 (.q 12 (.e 14 .nil))))))) (.e 13 (.e 2 (.e 5 (.e 8 (.e 11 (.q 12 (.e 14 .nil)))))))))))))))) [0, 0, 0] rfl mix_cursitorref14 np_jq (by kernel_rfl) ?_
          refine TD.run ft_cursitorref14_ok [0] rfl rfl ?_
          refine TD.q rfl .u (Ex.sSl (p := 2) (q := 10) (m := ((a0.drop 2).take 8)) rfl Try.runUnderlying9 (.some rfl rfl) (.some rfl rfl) (by omega) rfl) rfl ?_
          refine TD.run ft_cursitorref14_ok [3] rfl rfl ?_
          refine TD.q rfl .u (Ex.sSl (p := 10) (q := 12) (m := ((a0.drop 10).take 2)) rfl Try.runUnderlying9 (.some rfl rfl) (.some rfl rfl) (by omega) rfl) rfl ?_
          refine TD.run ft_cursitorref14_ok [6] rfl rfl ?_
          refine TD.q rfl .u (Ex.sSl (p := 12) (q := 16) (m := ((a0.drop 12).take 4)) rfl Try.runUnderlying9 (.some rfl rfl) (.some rfl rfl) (by omega) rfl) rfl ?_
          refine TD.run ft_cursitorref14_ok [9] rfl rfl ?_
          refine TD.q rfl .u (Ex.sSl (p := 16) (q := 17) (m := ((a0.drop 16).take 1)) rfl Try.runUnderlying9 (.some rfl rfl) (.some rfl rfl) (by omega) rfl) rfl ?_
          refine TD.br ?_ ?_
          · refine TD.ce rfl .u (.fn Try.call76 rfl) (SpecX.pure (fun w => gRInt_spec ((a0.drop 2).take 8) _ hx11 w)) (fun _ _ => RX.reads_triv _ _) rfl [0, 0, 0] (rfl) ?_
            refine TD.br ?_ ?_
            · refine TD.ce rfl .u (.fn Try.call76 rfl) (SpecX.pure (fun w => gRInt_spec ((a0.drop 10).take 2) _ hx14 w)) (fun _ _ => RX.reads_triv _ _) rfl [0, 0, 0] (rfl) ?_
              refine TD.br ?_ ?_
              · refine TD.ce rfl .u (.fn Try.call76 rfl) (SpecX.pure (fun w => gRInt_spec ((a0.drop 12).take 4) _ hx17 w)) (fun _ _ => RX.reads_triv _ _) rfl [0, 0, 0] (rfl) ?_
                refine TD.br ?_ ?_
                · refine TD.ce rfl .u (.fn Try.call76 rfl) (SpecX.pure (fun w => gRInt_spec ((a0.drop 16).take 1) _ hx20 w)) (fun _ _ => RX.reads_triv _ _) rfl [0, 0, 0] (rfl) ?_
                  refine TD.q rfl .u (Ex.bld (cells := #[.int .i64 x10, .int .i64 x13, .int .i64 x16, .int .i64 x19, .slice none 0 0, .int .i64 0, .int .i64 0]) bok_cursitorref14_64 rfl (by rfl)) rfl ?_
                  refine TD.alloc rfl .u Try.zeroValue64 rfl [1, 1, 1] (fun _ => rfl) (fun b21 => ?_)
                  refine TD.st0 (cs' := #[.int .i64 x10, .int .i64 x13, .int .i64 x16, .int .i64 x19, .slice none 0 0, .int .i64 0, .int .i64 0]) rfl .u rfl rfl Try.sizeOf64 rfl rfl rfl rfl [1, 1, 1] (rfl) ?_
                  exact TD.nil (X.jn [0, 0, 0, 0] ⟨b21, rfl, rfl⟩ (by rfl) (by rfl))
                · refine TD.alloc rfl .u Try.zeroValue64 rfl [1, 1, 1] (fun _ => rfl) (fun b21 => ?_)
                  refine TD.ce rfl .u (.fn Try.call76 rfl) (SpecX.pure (fun w => gRInt_spec ((a0.drop 16).take 1) _ hx20 w)) (fun _ _ => RX.reads_triv _ _) rfl [1, 1, 1] (rfl) ?_
                  refine TD.q rfl .u (Ex.bld (cells := #[.int .i64 x10, .int .i64 x13, .int .i64 x16, .int .i64 x19, .slice none 0 0, .int .i64 0, .int .i64 0]) bok_cursitorref14_64 rfl (by rfl)) rfl ?_
                  refine TD.st0 (cs' := #[.int .i64 x10, .int .i64 x13, .int .i64 x16, .int .i64 x19, .slice none 0 0, .int .i64 0, .int .i64 0]) rfl .u rfl rfl Try.sizeOf64 rfl rfl rfl rfl [1, 1, 1] (rfl) ?_
                  exact TD.nil (X.jn [0, 0, 0, 0] ⟨b21, rfl, rfl⟩ (by rfl) (by rfl))
              · refine TD.alloc rfl .u Try.zeroValue64 rfl [1, 1, 1] (fun _ => rfl) (fun b21 => ?_)
                refine TD.ce rfl .u (.fn Try.call76 rfl) (SpecX.pure (fun w => gRInt_spec ((a0.drop 12).take 4) _ hx17 w)) (fun _ _ => RX.reads_triv _ _) rfl [1, 1, 1] (rfl) ?_
                refine TD.ce rfl .u (.fn Try.call76 rfl) (SpecX.pure (fun w => gRInt_spec ((a0.drop 16).take 1) _ hx20 w)) (fun _ _ => RX.reads_triv _ _) rfl [1, 1, 1] (rfl) ?_
                refine TD.q rfl .u (Ex.bld (cells := #[.int .i64 x10, .int .i64 x13, .int .i64 x16, .int .i64 x19, .slice none 0 0, .int .i64 0, .int .i64 0]) bok_cursitorref14_64 rfl (by rfl)) rfl ?_
                refine TD.st0 (cs' := #[.int .i64 x10, .int .i64 x13, .int .i64 x16, .int .i64 x19, .slice none 0 0, .int .i64 0, .int .i64 0]) rfl .u rfl rfl Try.sizeOf64 rfl rfl rfl rfl [1, 1, 1] (rfl) ?_
                exact TD.nil (X.jn [0, 0, 0, 0] ⟨b21, rfl, rfl⟩ (by rfl) (by rfl))
            · refine TD.alloc rfl .u Try.zeroValue64 rfl [1, 1, 1] (fun _ => rfl) (fun b21 => ?_)
              refine TD.ce rfl .u (.fn Try.call76 rfl) (SpecX.pure (fun w => gRInt_spec ((a0.drop 10).take 2) _ hx14 w)) (fun _ _ => RX.reads_triv _ _) rfl [1, 1, 1] (rfl) ?_
              refine TD.ce rfl .u (.fn Try.call76 rfl) (SpecX.pure (fun w => gRInt_spec ((a0.drop 12).take 4) _ hx17 w)) (fun _ _ => RX.reads_triv _ _) rfl [1, 1, 1] (rfl) ?_
              refine TD.ce rfl .u (.fn Try.call76 rfl) (SpecX.pure (fun w => gRInt_spec ((a0.drop 16).take 1) _ hx20 w)) (fun _ _ => RX.reads_triv _ _) rfl [1, 1, 1] (rfl) ?_
              refine TD.q rfl .u (Ex.bld (cells := #[.int .i64 x10, .int .i64 x13, .int .i64 x16, .int .i64 x19, .slice none 0 0, .int .i64 0, .int .i64 0]) bok_cursitorref14_64 rfl (by rfl)) rfl ?_
              refine TD.st0 (cs' := #[.int .i64 x10, .int .i64 x13, .int .i64 x16, .int .i64 x19, .slice none 0 0, .int .i64 0, .int .i64 0]) rfl .u rfl rfl Try.sizeOf64 rfl rfl rfl rfl [1, 1, 1] (rfl) ?_
              exact TD.nil (X.jn [0, 0, 0, 0] ⟨b21, rfl, rfl⟩ (by rfl) (by rfl))
          · refine TD.alloc rfl .u Try.zeroValue64 rfl [1, 1, 1] (fun _ => rfl) (fun b21 => ?_)
            refine TD.ce rfl .u (.fn Try.call76 rfl) (SpecX.pure (fun w => gRInt_spec ((a0.drop 2).take 8) _ hx11 w)) (fun _ _ => RX.reads_triv _ _) rfl [1, 1, 1] (rfl) ?_
            refine TD.ce rfl .u (.fn Try.call76 rfl) (SpecX.pure (fun w => gRInt_spec ((a0.drop 10).take 2) _ hx14 w)) (fun _ _ => RX.reads_triv _ _) rfl [1, 1, 1] (rfl) ?_
            refine TD.ce rfl .u (.fn Try.call76 rfl) (SpecX.pure (fun w => gRInt_spec ((a0.drop 12).take 4) _ hx17 w)) (fun _ _ => RX.reads_triv _ _) rfl [1, 1, 1] (rfl) ?_
            refine TD.ce rfl .u (.fn Try.call76 rfl) (SpecX.pure (fun w => gRInt_spec ((a0.drop 16).take 1) _ hx20 w)) (fun _ _ => RX.reads_triv _ _) rfl [1, 1, 1] (rfl) ?_
            refine TD.q rfl .u (Ex.bld (cells := #[.int .i64 x10, .int .i64 x13, .int .i64 x16, .int .i64 x19, .slice none 0 0, .int .i64 0, .int .i64 0]) bok_cursitorref14_64 rfl (by rfl)) rfl ?_
            refine TD.st0 (cs' := #[.int .i64 x10, .int .i64 x13, .int .i64 x16, .int .i64 x19, .slice none 0 0, .int .i64 0, .int .i64 0]) rfl .u rfl rfl Try.sizeOf64 rfl rfl rfl rfl [1, 1, 1] (rfl) ?_
            exact TD.nil (X.jn [0, 0, 0, 0] ⟨b21, rfl, rfl⟩ (by rfl) (by rfl))
        · rintro _ _ ⟨b21, rfl, rfl⟩
          refine X.seq (T.seq (T.region rfl ?_))
          replace h := guard_some h
          obtain ⟨c22, h⟩ := h
          refine TL.run ft_cursitorref14_ok [0] rfl rfl ?_
          refine TL.q rfl .u (Ex.sSl (p := 17) (q := a0.length) (m := (a0.drop 17)) rfl Try.runUnderlying9 (.some rfl rfl) .none (by omega) (sl_drop _ _)) rfl ?_
          obtain ⟨⟨x23, x26, x27⟩, hx28, h⟩ := Option.bind_eq_some_iff.1 h
          try dsimp only at h
          refine TL.cge rfl .u (.fn Try.call57 rfl) (f_r14_ReadTopics_spec (a0.drop 17) _ hx28) (fun _ hs => (RX.reads_triv _ _)) rfl ?_
          rintro _ _ _ ⟨A24, c25, rfl, rfl, rfl⟩
          refine TL.sel [0, 0, 0, 0, 0] rfl ?_
          refine TL.run ft_cursitorref14_ok [3, 4, 5, 6, 7, 8, 9] rfl rfl ?_
          refine TL.nil (X.seq (T.seq (T.seq (T.region rfl ?_))))
          refine TL.run ft_cursitorref14_ok [0, 1] rfl rfl ?_
          by_cases c29 : x27 = 0
          · replace h := ifT c29 h
            refine TL.nil (X.seq ?_)
            refine T.no rfl (bn_f (decide_eq_true c29)) ?_
            refine T.skip (X.seq (T.seq (T.region rfl ?_)))
            replace h := guard_some h
            obtain ⟨c30, h⟩ := h
            refine TL.run ft_cursitorref14_ok [0, 1] rfl rfl ?_
            refine TL.q rfl .u (Ex.add rfl rfl c30) rfl ?_
            replace h := guard_some h
            obtain ⟨c31, h⟩ := h
            refine TL.q rfl .u (Ex.sSl (p := (17 + x26).toNat) (q := a0.length) (m := (a0.drop ((17 + x26).toNat))) rfl Try.runUnderlying9 (.some rfl ((Int.toNat_of_nonneg c31.1).symm)) .none (by omega) (sl_drop _ _)) rfl ?_
            refine TL.run ft_cursitorref14_ok [4] rfl rfl ?_
            refine TL.nil (X.seq (T.seq (T.seq (T.region rfl ?_))))
            refine TL.run ft_cursitorref14_ok [0] rfl rfl ?_
            refine TL.q rfl .u (Ex.lenB rfl Try.runUnderlying9) rfl ?_
            refine TL.run ft_cursitorref14_ok [2] rfl rfl ?_
            by_cases c32 : ((a0.drop ((17 + x26).toNat)).length : Int) < 16
            · replace h := ifT c32 h
              refine TL.nil (X.seq ?_)
              refine T.yes rfl (decide_eq_true c32) ?_
              refine T.seq (T.region rfl ?_)
              refine TL.q rfl .u (Ex.bS (us := [.int .i64 0, .int .i64 0, .int .i64 0, .int .i64 0, .slice none 0 0, .int .i64 0, .int .i64 0]) 2 rfl Try.isAgg64 Try.sizeOf64 rfl rfl rfl) rfl ?_
              refine TL.st3 (cs' := #[.int .i64 0, .int .i64 0, .int .i64 0, .int .i64 0, .slice none 0 0, .int .i64 0, .int .i64 0]) rfl .u rfl rfl Try.sizeOf64 rfl rfl rfl rfl ?_
              refine TL.run ft_cursitorref14_ok [2] rfl rfl ?_
              obtain rfl := Option.some.inj h
              refine TL.nil (X.seq (T.ret (X.rs ?_)))
              refine X.nilrd 2 Top_rd ?_
              exact X.done2 [5, 0] Try.results38 (RV.cS (us := #[.int .i64 0, .int .i64 0, .int .i64 0, .int .i64 0, .slice none 0 0, .int .i64 0, .int .i64 0]) 4 rfl Try.isAgg64 Try.sizeOf64 rfl rfl) (RV.tm rfl) ⟨_, _, rfl, rfl, rfl⟩ (by rfl) (.inl rfl)
            · replace h := ifF c32 h
              refine TL.nil (X.seq ?_)
              refine T.no rfl (decide_eq_false c32) ?_
              refine T.skip (X.seq (T.seq (T.seq (T.region rfl ?_))))
              refine TL.run ft_cursitorref14_ok [0] rfl rfl ?_
              refine TL.q rfl .u (Ex.lenB rfl Try.runUnderlying9) rfl ?_
              refine TL.run ft_cursitorref14_ok [2] rfl rfl ?_
              by_cases c33 : ((a0.drop ((17 + x26).toNat)).length : Int) > 16
              · replace h := ifT c33 h
                refine TL.nil (X.seq ?_)
                refine T.yes rfl (decide_eq_true c33) ?_
                refine T.seq (T.region rfl ?_)
                refine TL.q rfl .u (Ex.bS (us := [.int .i64 0, .int .i64 0, .int .i64 0, .int .i64 0, .slice none 0 0, .int .i64 0, .int .i64 0]) 2 rfl Try.isAgg64 Try.sizeOf64 rfl rfl rfl) rfl ?_
                refine TL.st3 (cs' := #[.int .i64 0, .int .i64 0, .int .i64 0, .int .i64 0, .slice none 0 0, .int .i64 0, .int .i64 0]) rfl .u rfl rfl Try.sizeOf64 rfl rfl rfl rfl ?_
                refine TL.run ft_cursitorref14_ok [2] rfl rfl ?_
                obtain rfl := Option.some.inj h
                refine TL.nil (X.seq (T.ret (X.rs ?_)))
                refine X.nilrd 2 Top_rd ?_
                exact X.done2 [5, 0] Try.results38 (RV.cS (us := #[.int .i64 0, .int .i64 0, .int .i64 0, .int .i64 0, .slice none 0 0, .int .i64 0, .int .i64 0]) 4 rfl Try.isAgg64 Try.sizeOf64 rfl rfl) (RV.tm rfl) ⟨_, _, rfl, rfl, rfl⟩ (by rfl) (.inl rfl)
              · replace h := ifF c33 h
                refine TL.nil (X.seq ?_)
                refine T.no rfl (decide_eq_false c33) ?_
                refine T.skip (X.seq (T.seq (T.region rfl ?_)))
                refine TL.run ft_cursitorref14_ok [0, 1] rfl rfl ?_
                refine TL.st1 (cs' := #[.int .i64 x10, .int .i64 x13, .int .i64 x16, .int .i64 x19, .slice A24 x23.length c25, .int .i64 0, .int .i64 0]) rfl .u rfl rfl Try.sizeOf62 rfl rfl rfl rfl ?_
                refine TL.nil (X.seq (T.seq (T.region rfl ?_)))
                replace h := guard_some h
                obtain ⟨c34, h⟩ := h
                refine TL.run ft_cursitorref14_ok [0] rfl rfl ?_
                refine TL.q rfl .u (Ex.sSl (p := 0) (q := 8) (m := ((a0.drop ((17 + x26).toNat)).take 8)) rfl Try.runUnderlying9 .none (.some rfl rfl) (by omega) (by simp)) rfl ?_
                obtain ⟨x35, hx36, h⟩ := Option.bind_eq_some_iff.1 h
                refine TL.ce rfl .u (.fn Try.call76 rfl) (SpecX.pure (fun w => gRInt_spec ((a0.drop ((17 + x26).toNat)).take 8) _ hx36 w)) (fun _ _ => RX.reads_triv _ _) rfl ?_
                refine TL.run ft_cursitorref14_ok [3] rfl rfl ?_
                refine TL.st1 (cs' := #[.int .i64 x10, .int .i64 x13, .int .i64 x16, .int .i64 x19, .slice A24 x23.length c25, .int .i64 x35, .int .i64 0]) rfl .u rfl rfl Try.sizeOf3 rfl rfl rfl rfl ?_
                refine TL.nil (X.seq (T.seq (T.region rfl ?_)))
                replace h := guard_some h
                obtain ⟨c37, h⟩ := h
                refine TL.run ft_cursitorref14_ok [0] rfl rfl ?_
                refine TL.q rfl .u (Ex.sSl (p := 8) (q := (a0.drop ((17 + x26).toNat)).length) (m := ((a0.drop ((17 + x26).toNat)).drop 8)) rfl Try.runUnderlying9 (.some rfl rfl) .none (by omega) (sl_drop _ _)) rfl ?_
                obtain ⟨x38, hx39, h⟩ := Option.bind_eq_some_iff.1 h
                refine TL.ce rfl .u (.fn Try.call76 rfl) (SpecX.pure (fun w => gRInt_spec ((a0.drop ((17 + x26).toNat)).drop 8) _ hx39 w)) (fun _ _ => RX.reads_triv _ _) rfl ?_
                refine TL.run ft_cursitorref14_ok [3] rfl rfl ?_
                refine TL.st1 (cs' := #[.int .i64 x10, .int .i64 x13, .int .i64 x16, .int .i64 x19, .slice A24 x23.length c25, .int .i64 x35, .int .i64 x38]) rfl .u rfl rfl Try.sizeOf3 rfl rfl rfl rfl ?_
                refine TL.nil (X.seq (T.seq (T.region rfl ?_)))
                refine TL.q rfl .u (Ex.bS (us := [.int .i64 x10, .int .i64 x13, .int .i64 x16, .int .i64 x19, .slice A24 x23.length c25, .int .i64 x35, .int .i64 x38]) 1 rfl Try.isAgg64 Try.sizeOf64 rfl rfl rfl) rfl ?_
                obtain ⟨x40, hx41, h⟩ := Option.bind_eq_some_iff.1 h
                refine TL.ce rfl .u (.fn Try.call62 rfl) (f_r14_Check_spec (⟨x10, x13, x16, x19, x23, x35, x38⟩ : Val) _ _ _ hx41) (fun _ hs => (SrcE.res 0 hs rfl (fun w G h => rd_reads w G h))) rfl ?_
                refine TL.run ft_cursitorref14_ok [2] rfl rfl ?_
                refine TL.nil (X.seq (T.seq (T.seq (T.region rfl ?_))))
                refine TL.run ft_cursitorref14_ok [0, 1] rfl rfl ?_
                by_cases c42 : x40 = 0
                · replace h := ifT c42 h
                  refine TL.nil (X.seq ?_)
                  refine T.no rfl (bn_f (decide_eq_true c42)) ?_
                  refine T.skip (X.seq (T.seq (T.region rfl ?_)))
                  refine TL.q rfl .u (Ex.bS (us := [.int .i64 x10, .int .i64 x13, .int .i64 x16, .int .i64 x19, .slice A24 x23.length c25, .int .i64 x35, .int .i64 x38]) 1 rfl Try.isAgg64 Try.sizeOf64 rfl rfl rfl) rfl ?_
                  refine TL.st3 (cs' := #[.int .i64 x10, .int .i64 x13, .int .i64 x16, .int .i64 x19, .slice A24 x23.length c25, .int .i64 x35, .int .i64 x38]) rfl .u rfl rfl Try.sizeOf64 rfl rfl rfl rfl ?_
                  refine TL.run ft_cursitorref14_ok [2] rfl rfl ?_
                  obtain rfl := Option.some.inj h
                  exact TL.nil (X.seq (T.ret (X.done2 [4, 0] Try.results38 (RV.cS (us := #[.int .i64 x10, .int .i64 x13, .int .i64 x16, .int .i64 x19, .slice A24 x23.length c25, .int .i64 x35, .int .i64 x38]) 3 rfl Try.isAgg64 Try.sizeOf64 rfl rfl) (RV.tm rfl) ⟨_, _, rfl, rfl, rfl⟩ (by rfl) (.inl rfl))))
                · replace h := ifF c42 h
                  refine TL.nil (X.seq ?_)
                  refine T.yes rfl (bn_t (decide_eq_false c42)) ?_
                  refine T.seq (T.region rfl ?_)
                  refine TL.q rfl .u (Ex.bS (us := [.int .i64 0, .int .i64 0, .int .i64 0, .int .i64 0, .slice none 0 0, .int .i64 0, .int .i64 0]) 2 rfl Try.isAgg64 Try.sizeOf64 rfl rfl rfl) rfl ?_
                  refine TL.run ft_cursitorref14_ok [1] rfl rfl ?_
                  refine TL.st3 (cs' := #[.int .i64 0, .int .i64 0, .int .i64 0, .int .i64 0, .slice none 0 0, .int .i64 0, .int .i64 0]) rfl .u rfl rfl Try.sizeOf64 rfl rfl rfl rfl ?_
                  refine TL.run ft_cursitorref14_ok [3] rfl rfl ?_
                  obtain rfl := Option.some.inj h
                  refine TL.nil (X.seq (T.ret (X.rs ?_)))
                  refine X.nilrd 2 Top_rd ?_
                  exact X.done2 [5, 0] Try.results38 (RV.cS (us := #[.int .i64 0, .int .i64 0, .int .i64 0, .int .i64 0, .slice none 0 0, .int .i64 0, .int .i64 0]) 4 rfl Try.isAgg64 Try.sizeOf64 rfl rfl) (RV.tm rfl) ⟨_, _, rfl, rfl, rfl⟩ (by rfl) (.inl rfl)
          · replace h := ifF c29 h
            refine TL.nil (X.seq ?_)
            refine T.yes rfl (bn_t (decide_eq_false c29)) ?_
            refine T.seq (T.region rfl ?_)
            refine TL.q rfl .u (Ex.bS (us := [.int .i64 0, .int .i64 0, .int .i64 0, .int .i64 0, .slice none 0 0, .int .i64 0, .int .i64 0]) 2 rfl Try.isAgg64 Try.sizeOf64 rfl rfl rfl) rfl ?_
            refine TL.run ft_cursitorref14_ok [1] rfl rfl ?_
            refine TL.st3 (cs' := #[.int .i64 0, .int .i64 0, .int .i64 0, .int .i64 0, .slice none 0 0, .int .i64 0, .int .i64 0]) rfl .u rfl rfl Try.sizeOf64 rfl rfl rfl rfl ?_
            refine TL.run ft_cursitorref14_ok [3] rfl rfl ?_
            obtain rfl := Option.some.inj h
            refine TL.nil (X.seq (T.ret (X.rs ?_)))
            refine X.nilrd 2 Top_rd ?_
            exact X.done2 [5, 0] Try.results38 (RV.cS (us := #[.int .i64 0, .int .i64 0, .int .i64 0, .int .i64 0, .slice none 0 0, .int .i64 0, .int .i64 0]) 4 rfl Try.isAgg64 Try.sizeOf64 rfl rfl) (RV.tm rfl) ⟨_, _, rfl, rfl, rfl⟩ (by rfl) (.inl rfl)
    · replace h := ifF c7 h
      refine TL.nil (X.seq ?_)
      refine T.yes rfl (bn_t (decide_eq_false c7)) ?_
      refine T.seq (T.region rfl ?_)
      refine TL.q rfl .u (Ex.bS (us := [.int .i64 0, .int .i64 0, .int .i64 0, .int .i64 0, .slice none 0 0, .int .i64 0, .int .i64 0]) 0 rfl Try.isAgg64 Try.sizeOf64 rfl rfl rfl) rfl ?_
      refine TL.st1 (cs' := #[.int .i64 0, .int .i64 0, .int .i64 0, .int .i64 0, .slice none 0 0, .int .i64 0, .int .i64 0]) rfl .u rfl rfl Try.sizeOf64 rfl rfl rfl rfl ?_
      refine TL.run ft_cursitorref14_ok [2] rfl rfl ?_
      obtain rfl := Option.some.inj h
      refine TL.nil (X.seq (T.ret (X.rs ?_)))
      refine X.nilrd 2 Top_rd ?_
      exact X.done2 [3, 0] Try.results38 (RV.cS (us := #[.int .i64 0, .int .i64 0, .int .i64 0, .int .i64 0, .slice none 0 0, .int .i64 0, .int .i64 0]) 2 rfl Try.isAgg64 Try.sizeOf64 rfl rfl) (RV.tm rfl) ⟨_, _, rfl, rfl, rfl⟩ (by rfl) (.inl rfl)
def f_r14_SameTopics_l1 (a0 : List Top) (a1 : List Top) : Nat → Bool → Nat → Option (Lp Bool (Bool × Nat))
  | 0, _, _ => none
  | m11 + 1, y6, k7 => if (k7 : Int) < (a0.length : Int) then ((a0[k7]?).bind fun x16 => (a1[k7]?).bind fun x22 => if x16.fName = x22.fName then ((f_r01_Same x16.fParts x22.fParts).bind fun x29 => if x29 = true then (if -9223372036854775808 ≤ ((k7 : Int) + 1) ∧ ((k7 : Int) + 1) ≤ 9223372036854775807 then (f_r14_SameTopics_l1 a0 a1 m11 y6 (k7 + 1)) else none) else some (Lp.ret false)) else some (Lp.ret false)) else (some (Lp.go (y6, k7)))
def f_r14_SameTopics (a0 : List Top) (a1 : List Top) : Option (Bool) := if (a0.length : Int) = (a1.length : Int) then ((f_r14_SameTopics_l1 a0 a1 (((a0.length : Int)).toNat + 1) false 0).bind fun e => match e with | .ret r => some r | .go (y33, k34) => some true) else some false
set_option maxRecDepth 100000 in
set_option maxHeartbeats 4000000 in
theorem f_r14_SameTopics_spec (a0 : List Top) (A1 : Option Addr) (c2 : Nat) (a1 : List Top) (A3 : Option Addr) (c4 : Nat) (r : Bool) (h : f_r14_SameTopics a0 a1 = some r) : SpecX Try.prog 58 #[.slice A1 a0.length c2, .slice A3 a1.length c4] (RX.and (RX.of (sliceRd 2 Top_rd) [.slice A1 a0.length c2] a0) (RX.of (sliceRd 2 Top_rd) [.slice A3 a1.length c4] a1)) (EmpR) (fun v A' N => v = .bool r ∧ A' = EmpR ∧ N = []) := by
  refine enterA Try.func58 rfl Try.ntmps58 rfl ?_
  intro F w hX
  unfold f_r14_SameTopics at h
  refine T.seq (T.region rfl ?_)
  refine TL.run ft_cursitorref14_ok [0] rfl rfl ?_
  refine TL.nil (X.seq (T.seq (T.seq (T.region rfl ?_))))
  refine TL.run ft_cursitorref14_ok [0] rfl rfl ?_
  refine TL.q rfl .u (Ex.lenS rfl Try.runUnderlying62) rfl ?_
  refine TL.run ft_cursitorref14_ok [2] rfl rfl ?_
  refine TL.q rfl .u (Ex.lenS rfl Try.runUnderlying62) rfl ?_
  refine TL.run ft_cursitorref14_ok [4] rfl rfl ?_
  by_cases c5 : (a0.length : Int) = (a1.length : Int)
  · replace h := ifT c5 h
    refine TL.nil (X.seq ?_)
    refine T.no rfl (bn_f (decide_eq_true c5)) ?_
    refine T.skip (X.seq (T.seq (T.seq (T.region rfl ?_))))
    refine TL.run ft_cursitorref14_ok [0] rfl rfl ?_
    refine TL.nil (X.seq (T.block ?_))
    obtain ⟨E8, hE9, hO10⟩ := Option.bind_eq_some_iff.1 h
    refine T.lp (fun m e Rs => ∃ (y6 : Bool) (k7 : Nat), e = [(0, .slice A1 a0.length c2), (1, .slice A3 a1.length c4), (4, .bool y6), (5, .int .i64 (k7 : Int))] ∧ Rs = [EmpR] ∧ f_r14_SameTopics_l1 a0 a1 m y6 k7 = some E8) (((a0.length : Int)).toNat + 1) [0] ⟨false, 0, rfl, rfl, by exact hE9⟩ (by rfl) (by rfl) ?_
    rintro m11 _ _ ⟨y6, k7, rfl, rfl, hl13⟩
    clear hE9 h
    cases m11 with
    | zero =>
      rw [f_r14_SameTopics_l1] at hl13
      cases hl13
    | succ m11 =>
      have h := hl13
      clear hl13
      rw [f_r14_SameTopics_l1] at h
      refine T.seq (T.seq (T.region rfl ?_))
      refine TL.run ft_cursitorref14_ok [0, 1] rfl rfl ?_
      refine TL.q rfl .u (Ex.lenS rfl Try.runUnderlying62) rfl ?_
      refine TL.run ft_cursitorref14_ok [3] rfl rfl ?_
      by_cases c15 : (k7 : Int) < (a0.length : Int)
      · replace h := ifT c15 h
        refine TL.nil (X.seq ?_)
        refine T.yes rfl (decide_eq_true c15) ?_
        refine T.skip (X.seq (T.seq (T.block (T.seq (T.draw (.q 0 (.q 1 (.q 2 (.q 3 (.q 4 (.q 5 (.q 6 (.q 7 (.q 8 (.q 9 (.q 10 (.q 11 (.q 12 (.q 13 (.q 14 (.q 15 (.q 16 (.q 17 (.q 18 (.q 19 (.q 20 (.q 21 (.e 22 (.q 23 (.q 24 .nil))))))))))))))))))))))))) [0] rfl mix_cursitorref14 (NoP.seq (NoP.blk (NoP.seq (NoP.seq (NoP.blk (NoP.seq np_post)))))) (by kernel_rfl) ?_)))))
        obtain ⟨x16, hx17, h⟩ := Option.bind_eq_some_iff.1 h
        obtain ⟨gz18, oz18, rfl, z18cs, z18cl, z18cc, z18nf, z18r⟩ := RX.elem (by decide) (RX.reads_left hX) hx17
        obtain ⟨z18S, z18r, z18rr⟩ := z18r
        obtain ⟨A19, c20, rfl, z18s0⟩ := z18r
        have hX21 : (RX.of (sliceRd 1 intE) [.slice A19 x16.fParts.length c20] x16.fParts).reads w F := ⟨z18S, z18s0, z18rr⟩
        refine TD.run ft_cursitorref14_ok [0, 1] rfl rfl ?_
        refine TD.q rfl .u (Ex.ixS (k := k7) rfl rfl rfl Try.runUnderlying62 Try.sizeOf104 (List.getElem?_eq_some_iff.1 hx17).1) rfl ?_
        refine TD.run ft_cursitorref14_ok [3] rfl rfl ?_
        refine TD.q rfl .u (Ex.o1 0 rfl Try.isAgg9 z18nf z18cc rfl rfl) rfl ?_
        obtain ⟨x22, hx23, h⟩ := Option.bind_eq_some_iff.1 h
        obtain ⟨gz24, oz24, rfl, z24cs, z24cl, z24cc, z24nf, z24r⟩ := RX.elem (by decide) (RX.reads_right hX) hx23
        obtain ⟨z24S, z24r, z24rr⟩ := z24r
        obtain ⟨A25, c26, rfl, z24s0⟩ := z24r
        have hX27 : (RX.of (sliceRd 1 intE) [.slice A25 x22.fParts.length c26] x22.fParts).reads w F := ⟨z24S, z24s0, z24rr⟩
        refine TD.run ft_cursitorref14_ok [5, 6] rfl rfl ?_
        refine TD.q rfl .u (Ex.ixS (k := k7) rfl rfl rfl Try.runUnderlying62 Try.sizeOf104 (List.getElem?_eq_some_iff.1 hx23).1) rfl ?_
        refine TD.run ft_cursitorref14_ok [8] rfl rfl ?_
        refine TD.q rfl .u (Ex.o1 0 rfl Try.isAgg9 z24nf z24cc rfl rfl) rfl ?_
        refine TD.q rfl .u (Ex.sNe rfl rfl) rfl ?_
        by_cases c28 : x16.fName = x22.fName
        · replace h := ifT c28 h
          refine TD.run ft_cursitorref14_ok [11] rfl rfl ?_
          refine TD.q rfl (.g rfl rfl (bn_f (decide_eq_true c28))) (Ex.ft ft_cursitorref14_ok rfl) rfl ?_
          refine TD.q rfl (.g rfl rfl (bn_f (decide_eq_true c28))) (Ex.ft ft_cursitorref14_ok rfl) rfl ?_
          refine TD.q rfl (.g rfl rfl (bn_f (decide_eq_true c28))) (Ex.ixS (k := k7) rfl rfl rfl Try.runUnderlying62 Try.sizeOf104 (List.getElem?_eq_some_iff.1 hx17).1) rfl ?_
          refine TD.q rfl (.g rfl rfl (bn_f (decide_eq_true c28))) (Ex.ft ft_cursitorref14_ok rfl) rfl ?_
          refine TD.q rfl (.g rfl rfl (bn_f (decide_eq_true c28))) (Ex.o1 1 rfl Try.isAgg102 z18nf z18cc rfl rfl) rfl ?_
          refine TD.q rfl (.g rfl rfl (bn_f (decide_eq_true c28))) (Ex.ft ft_cursitorref14_ok rfl) rfl ?_
          refine TD.q rfl (.g rfl rfl (bn_f (decide_eq_true c28))) (Ex.ft ft_cursitorref14_ok rfl) rfl ?_
          refine TD.q rfl (.g rfl rfl (bn_f (decide_eq_true c28))) (Ex.ixS (k := k7) rfl rfl rfl Try.runUnderlying62 Try.sizeOf104 (List.getElem?_eq_some_iff.1 hx23).1) rfl ?_
          refine TD.q rfl (.g rfl rfl (bn_f (decide_eq_true c28))) (Ex.ft ft_cursitorref14_ok rfl) rfl ?_
          refine TD.q rfl (.g rfl rfl (bn_f (decide_eq_true c28))) (Ex.o1 1 rfl Try.isAgg102 z24nf z24cc rfl rfl) rfl ?_
          obtain ⟨x29, hx30, h⟩ := Option.bind_eq_some_iff.1 h
          refine TD.ce rfl (.g rfl rfl (bn_f (decide_eq_true c28))) (.fn Try.call114 rfl) (f_r01_Same_spec x16.fParts _ _ x22.fParts _ _ _ hx30) (fun _ hs => (RX.reads_and (SrcE.old hs hX21) (SrcE.old hs hX27))) rfl [0] (rfl) ?_
          refine TD.q rfl (.g rfl rfl (bn_f (decide_eq_true c28))) (Ex.ft ft_cursitorref14_ok rfl) rfl ?_
          refine TD.q rfl .u (Ex.pn rfl (bn_f (decide_eq_true c28)) rfl) rfl ?_
          by_cases c31 : x29 = true
          · replace h := ifT c31 h
            refine TD.nil (X.seq ?_)
            refine T.no rfl (bn_f c31) ?_
            refine T.skip (X.blk (X.seq (T.region rfl ?_)))
            replace h := guard_some h
            obtain ⟨c32, h⟩ := h
            refine TL.run ft_cursitorref14_ok [0] rfl rfl ?_
            refine TL.q rfl .u (Ex.add rfl rfl c32) rfl ?_
            refine TL.run ft_cursitorref14_ok [2] rfl rfl ?_
            exact TL.nil (X.back (m' := m11) [0] (by omega) ⟨y6, k7 + 1, rfl, rfl, h⟩ (by rfl) (by rfl))
          · replace h := ifF c31 h
            replace c31 := eq_false_of_ne_true c31
            refine TD.nil (X.seq ?_)
            refine T.yes rfl (bn_t c31) ?_
            refine T.seq (T.region rfl ?_)
            refine TL.run ft_cursitorref14_ok [0] rfl rfl ?_
            obtain rfl := Option.some.inj h
            replace h := hO10
            clear hO10
            try dsimp only at h
            obtain rfl := Option.some.inj h
            exact TL.nil (X.seq (T.ret (X.rb (X.rs (X.rs (X.rb (X.rs (X.done1 [0] Try.results58 (RV.tm rfl) ⟨rfl, rfl, rfl⟩ (by rfl) (.inl rfl)))))))))
        · replace h := ifF c28 h
          refine TD.run ft_cursitorref14_ok [11] rfl rfl ?_
          refine TD.no rfl (.gn rfl rfl (bn_t (decide_eq_false c28))) rfl ?_
          refine TD.no rfl (.gn rfl rfl (bn_t (decide_eq_false c28))) rfl ?_
          refine TD.no rfl (.gn rfl rfl (bn_t (decide_eq_false c28))) rfl ?_
          refine TD.no rfl (.gn rfl rfl (bn_t (decide_eq_false c28))) rfl ?_
          refine TD.no rfl (.gn rfl rfl (bn_t (decide_eq_false c28))) rfl ?_
          refine TD.no rfl (.gn rfl rfl (bn_t (decide_eq_false c28))) rfl ?_
          refine TD.no rfl (.gn rfl rfl (bn_t (decide_eq_false c28))) rfl ?_
          refine TD.no rfl (.gn rfl rfl (bn_t (decide_eq_false c28))) rfl ?_
          refine TD.no rfl (.gn rfl rfl (bn_t (decide_eq_false c28))) rfl ?_
          refine TD.no rfl (.gn rfl rfl (bn_t (decide_eq_false c28))) rfl ?_
          refine TD.noe rfl (.gn rfl rfl (bn_t (decide_eq_false c28))) rfl [0] rfl ?_
          refine TD.no rfl (.gn rfl rfl (bn_t (decide_eq_false c28))) rfl ?_
          refine TD.q rfl .u (Ex.py rfl (bn_t (decide_eq_false c28)) rfl) rfl ?_
          refine TD.nil (X.seq ?_)
          refine T.yes rfl rfl ?_
          refine T.seq (T.region rfl ?_)
          refine TL.run ft_cursitorref14_ok [0] rfl rfl ?_
          obtain rfl := Option.some.inj h
          replace h := hO10
          clear hO10
          try dsimp only at h
          obtain rfl := Option.some.inj h
          exact TL.nil (X.seq (T.ret (X.rb (X.rs (X.rs (X.rb (X.rs (X.done1 [0] Try.results58 (RV.tm rfl) ⟨rfl, rfl, rfl⟩ (by rfl) (.inl rfl)))))))))
      · replace h := ifF c15 h
        refine TL.nil (X.seq ?_)
        refine T.no rfl (decide_eq_false c15) ?_
        obtain rfl := Option.some.inj h
        replace h := hO10
        clear hO10
        try dsimp only at h
        refine T.exit (X.exs (X.exs (X.ex (X.seq (T.seq (T.region rfl ?_))))))
        refine TL.run ft_cursitorref14_ok [0] rfl rfl ?_
        obtain rfl := Option.some.inj h
        exact TL.nil (X.seq (T.ret (X.done1 [0] Try.results58 (RV.tm rfl) ⟨rfl, rfl, rfl⟩ (by rfl) (.inl rfl))))
  · replace h := ifF c5 h
    refine TL.nil (X.seq ?_)
    refine T.yes rfl (bn_t (decide_eq_false c5)) ?_
    refine T.seq (T.region rfl ?_)
    refine TL.run ft_cursitorref14_ok [0] rfl rfl ?_
    obtain rfl := Option.some.inj h
    exact TL.nil (X.seq (T.ret (X.rs (X.done1 [0] Try.results58 (RV.tm rfl) ⟨rfl, rfl, rfl⟩ (by rfl) (.inl rfl)))))
def f_r14_Same (a0 : Val) (a1 : Val) : Option (Bool) := if a0.fProducer = a1.fProducer then (if a0.fEpoch = a1.fEpoch then (if a0.fTimeout = a1.fTimeout then (if a0.fState = a1.fState then (if a0.fUpdated = a1.fUpdated then (if a0.fStarted = a1.fStarted then ((f_r14_SameTopics a0.fTopics a1.fTopics).bind fun x13 => some x13) else some false) else some false) else some false) else some false) else some false) else some false
set_option maxRecDepth 100000 in
set_option maxHeartbeats 4000000 in
theorem f_r14_Same_spec (a0 : Val) (A1 : Option Addr) (c2 : Nat) (a1 : Val) (A3 : Option Addr) (c4 : Nat) (r : Bool) (h : f_r14_Same a0 a1 = some r) : SpecX Try.prog 39 #[.agg #[.int .i64 a0.fProducer, .int .i64 a0.fEpoch, .int .i64 a0.fTimeout, .int .i64 a0.fState, .slice A1 a0.fTopics.length c2, .int .i64 a0.fUpdated, .int .i64 a0.fStarted], .agg #[.int .i64 a1.fProducer, .int .i64 a1.fEpoch, .int .i64 a1.fTimeout, .int .i64 a1.fState, .slice A3 a1.fTopics.length c4, .int .i64 a1.fUpdated, .int .i64 a1.fStarted]] (RX.and (RX.of (sliceRd 2 Top_rd) [.slice A1 a0.fTopics.length c2] a0.fTopics) (RX.of (sliceRd 2 Top_rd) [.slice A3 a1.fTopics.length c4] a1.fTopics)) (EmpR) (fun v A' N => v = .bool r ∧ A' = EmpR ∧ N = []) := by
  refine enterA Try.func39 rfl Try.ntmps39 rfl ?_
  intro F w hX
  unfold f_r14_Same at h
  refine T.seq (T.region rfl ?_)
  refine TL.box rfl .u rfl rfl (fun b5 => ?_)
  refine TL.box rfl .u rfl rfl (fun b6 => ?_)
  refine TL.run ft_cursitorref14_ok [2] rfl rfl ?_
  refine TL.nil (X.seq (T.seq (T.region rfl ?_)))
  refine TL.run ft_cursitorref14_ok [0] rfl rfl ?_
  refine TL.q rfl .u (Ex.b1 1 rfl Try.isAgg3 rfl rfl) rfl ?_
  refine TL.run ft_cursitorref14_ok [2] rfl rfl ?_
  refine TL.q rfl .u (Ex.b1 0 rfl Try.isAgg3 rfl rfl) rfl ?_
  by_cases c7 : a0.fProducer = a1.fProducer
  · replace h := ifT c7 h
    refine TL.run ft_cursitorref14_ok [4, 5] rfl rfl ?_
    refine TL.q rfl (.g rfl rfl (decide_eq_true c7)) (Ex.ft ft_cursitorref14_ok rfl) rfl ?_
    refine TL.q rfl (.g rfl rfl (decide_eq_true c7)) (Ex.b1 1 rfl Try.isAgg3 rfl rfl) rfl ?_
    refine TL.q rfl (.g rfl rfl (decide_eq_true c7)) (Ex.ft ft_cursitorref14_ok rfl) rfl ?_
    refine TL.q rfl (.g rfl rfl (decide_eq_true c7)) (Ex.b1 0 rfl Try.isAgg3 rfl rfl) rfl ?_
    refine TL.q rfl (.g rfl rfl (decide_eq_true c7)) (Ex.ft ft_cursitorref14_ok rfl) rfl ?_
    refine TL.q rfl .u (Ex.py rfl (decide_eq_true c7) rfl) rfl ?_
    by_cases c8 : a0.fEpoch = a1.fEpoch
    · replace h := ifT c8 h
      refine TL.run ft_cursitorref14_ok [12] rfl rfl ?_
      refine TL.q rfl (.g rfl rfl (decide_eq_true c8)) (Ex.ft ft_cursitorref14_ok rfl) rfl ?_
      refine TL.q rfl (.g rfl rfl (decide_eq_true c8)) (Ex.b1 1 rfl Try.isAgg3 rfl rfl) rfl ?_
      refine TL.q rfl (.g rfl rfl (decide_eq_true c8)) (Ex.ft ft_cursitorref14_ok rfl) rfl ?_
      refine TL.q rfl (.g rfl rfl (decide_eq_true c8)) (Ex.b1 0 rfl Try.isAgg3 rfl rfl) rfl ?_
      refine TL.q rfl (.g rfl rfl (decide_eq_true c8)) (Ex.ft ft_cursitorref14_ok rfl) rfl ?_
      refine TL.q rfl .u (Ex.py rfl (decide_eq_true c8) rfl) rfl ?_
      by_cases c9 : a0.fTimeout = a1.fTimeout
      · replace h := ifT c9 h
        refine TL.run ft_cursitorref14_ok [19] rfl rfl ?_
        refine TL.q rfl (.g rfl rfl (decide_eq_true c9)) (Ex.ft ft_cursitorref14_ok rfl) rfl ?_
        refine TL.q rfl (.g rfl rfl (decide_eq_true c9)) (Ex.b1 1 rfl Try.isAgg3 rfl rfl) rfl ?_
        refine TL.q rfl (.g rfl rfl (decide_eq_true c9)) (Ex.ft ft_cursitorref14_ok rfl) rfl ?_
        refine TL.q rfl (.g rfl rfl (decide_eq_true c9)) (Ex.b1 0 rfl Try.isAgg3 rfl rfl) rfl ?_
        refine TL.q rfl (.g rfl rfl (decide_eq_true c9)) (Ex.ft ft_cursitorref14_ok rfl) rfl ?_
        refine TL.q rfl .u (Ex.py rfl (decide_eq_true c9) rfl) rfl ?_
        by_cases c10 : a0.fState = a1.fState
        · replace h := ifT c10 h
          refine TL.run ft_cursitorref14_ok [26] rfl rfl ?_
          refine TL.q rfl (.g rfl rfl (decide_eq_true c10)) (Ex.ft ft_cursitorref14_ok rfl) rfl ?_
          refine TL.q rfl (.g rfl rfl (decide_eq_true c10)) (Ex.b1 1 rfl Try.isAgg3 rfl rfl) rfl ?_
          refine TL.q rfl (.g rfl rfl (decide_eq_true c10)) (Ex.ft ft_cursitorref14_ok rfl) rfl ?_
          refine TL.q rfl (.g rfl rfl (decide_eq_true c10)) (Ex.b1 0 rfl Try.isAgg3 rfl rfl) rfl ?_
          refine TL.q rfl (.g rfl rfl (decide_eq_true c10)) (Ex.ft ft_cursitorref14_ok rfl) rfl ?_
          refine TL.q rfl .u (Ex.py rfl (decide_eq_true c10) rfl) rfl ?_
          by_cases c11 : a0.fUpdated = a1.fUpdated
          · replace h := ifT c11 h
            refine TL.run ft_cursitorref14_ok [33] rfl rfl ?_
            refine TL.q rfl (.g rfl rfl (decide_eq_true c11)) (Ex.ft ft_cursitorref14_ok rfl) rfl ?_
            refine TL.q rfl (.g rfl rfl (decide_eq_true c11)) (Ex.b1 1 rfl Try.isAgg3 rfl rfl) rfl ?_
            refine TL.q rfl (.g rfl rfl (decide_eq_true c11)) (Ex.ft ft_cursitorref14_ok rfl) rfl ?_
            refine TL.q rfl (.g rfl rfl (decide_eq_true c11)) (Ex.b1 0 rfl Try.isAgg3 rfl rfl) rfl ?_
            refine TL.q rfl (.g rfl rfl (decide_eq_true c11)) (Ex.ft ft_cursitorref14_ok rfl) rfl ?_
            refine TL.q rfl .u (Ex.py rfl (decide_eq_true c11) rfl) rfl ?_
            by_cases c12 : a0.fStarted = a1.fStarted
            · replace h := ifT c12 h
              refine TL.run ft_cursitorref14_ok [40] rfl rfl ?_
              refine TL.q rfl (.g rfl rfl (decide_eq_true c12)) (Ex.ft ft_cursitorref14_ok rfl) rfl ?_
              refine TL.q rfl (.g rfl rfl (decide_eq_true c12)) (Ex.b1 1 rfl Try.isAgg62 rfl rfl) rfl ?_
              refine TL.q rfl (.g rfl rfl (decide_eq_true c12)) (Ex.ft ft_cursitorref14_ok rfl) rfl ?_
              refine TL.q rfl (.g rfl rfl (decide_eq_true c12)) (Ex.b1 0 rfl Try.isAgg62 rfl rfl) rfl ?_
              obtain ⟨x13, hx14, h⟩ := Option.bind_eq_some_iff.1 h
              refine TL.ce rfl (.g rfl rfl (decide_eq_true c12)) (.fn Try.call58 rfl) (f_r14_SameTopics_spec a0.fTopics _ _ a1.fTopics _ _ _ hx14) (fun _ hs => (RX.reads_and (SrcE.old hs (RX.reads_left hX)) (SrcE.old hs (RX.reads_right hX)))) rfl ?_
              refine TL.q rfl .u (Ex.py rfl (decide_eq_true c12) rfl) rfl ?_
              refine TL.run ft_cursitorref14_ok [47] rfl rfl ?_
              obtain rfl := Option.some.inj h
              exact TL.nil (X.seq (T.ret (X.done1 [2] Try.results39 (RV.tm rfl) ⟨rfl, rfl, rfl⟩ (by rfl) (.inl rfl))))
            · replace h := ifF c12 h
              refine TL.run ft_cursitorref14_ok [40] rfl rfl ?_
              refine TL.no rfl (.gn rfl rfl (decide_eq_false c12)) rfl ?_
              refine TL.no rfl (.gn rfl rfl (decide_eq_false c12)) rfl ?_
              refine TL.no rfl (.gn rfl rfl (decide_eq_false c12)) rfl ?_
              refine TL.no rfl (.gn rfl rfl (decide_eq_false c12)) rfl ?_
              refine TL.no rfl (.gn rfl rfl (decide_eq_false c12)) rfl ?_
              refine TL.q rfl .u (Ex.pn rfl (decide_eq_false c12) rfl) rfl ?_
              refine TL.run ft_cursitorref14_ok [47] rfl rfl ?_
              obtain rfl := Option.some.inj h
              exact TL.nil (X.seq (T.ret (X.done1 [2] Try.results39 (RV.tm rfl) ⟨rfl, rfl, rfl⟩ (by rfl) (.inl rfl))))
          · replace h := ifF c11 h
            refine TL.run ft_cursitorref14_ok [33] rfl rfl ?_
            refine TL.no rfl (.gn rfl rfl (decide_eq_false c11)) rfl ?_
            refine TL.no rfl (.gn rfl rfl (decide_eq_false c11)) rfl ?_
            refine TL.no rfl (.gn rfl rfl (decide_eq_false c11)) rfl ?_
            refine TL.no rfl (.gn rfl rfl (decide_eq_false c11)) rfl ?_
            refine TL.no rfl (.gn rfl rfl (decide_eq_false c11)) rfl ?_
            refine TL.q rfl .u (Ex.pn rfl (decide_eq_false c11) rfl) rfl ?_
            refine TL.run ft_cursitorref14_ok [40] rfl rfl ?_
            refine TL.no rfl (.gn rfl rfl rfl) rfl ?_
            refine TL.no rfl (.gn rfl rfl rfl) rfl ?_
            refine TL.no rfl (.gn rfl rfl rfl) rfl ?_
            refine TL.no rfl (.gn rfl rfl rfl) rfl ?_
            refine TL.no rfl (.gn rfl rfl rfl) rfl ?_
            refine TL.q rfl .u (Ex.pn rfl rfl rfl) rfl ?_
            refine TL.run ft_cursitorref14_ok [47] rfl rfl ?_
            obtain rfl := Option.some.inj h
            exact TL.nil (X.seq (T.ret (X.done1 [2] Try.results39 (RV.tm rfl) ⟨rfl, rfl, rfl⟩ (by rfl) (.inl rfl))))
        · replace h := ifF c10 h
          refine TL.run ft_cursitorref14_ok [26] rfl rfl ?_
          refine TL.no rfl (.gn rfl rfl (decide_eq_false c10)) rfl ?_
          refine TL.no rfl (.gn rfl rfl (decide_eq_false c10)) rfl ?_
          refine TL.no rfl (.gn rfl rfl (decide_eq_false c10)) rfl ?_
          refine TL.no rfl (.gn rfl rfl (decide_eq_false c10)) rfl ?_
          refine TL.no rfl (.gn rfl rfl (decide_eq_false c10)) rfl ?_
          refine TL.q rfl .u (Ex.pn rfl (decide_eq_false c10) rfl) rfl ?_
          refine TL.run ft_cursitorref14_ok [33] rfl rfl ?_
          refine TL.no rfl (.gn rfl rfl rfl) rfl ?_
          refine TL.no rfl (.gn rfl rfl rfl) rfl ?_
          refine TL.no rfl (.gn rfl rfl rfl) rfl ?_
          refine TL.no rfl (.gn rfl rfl rfl) rfl ?_
          refine TL.no rfl (.gn rfl rfl rfl) rfl ?_
          refine TL.q rfl .u (Ex.pn rfl rfl rfl) rfl ?_
          refine TL.run ft_cursitorref14_ok [40] rfl rfl ?_
          refine TL.no rfl (.gn rfl rfl rfl) rfl ?_
          refine TL.no rfl (.gn rfl rfl rfl) rfl ?_
          refine TL.no rfl (.gn rfl rfl rfl) rfl ?_
          refine TL.no rfl (.gn rfl rfl rfl) rfl ?_
          refine TL.no rfl (.gn rfl rfl rfl) rfl ?_
          refine TL.q rfl .u (Ex.pn rfl rfl rfl) rfl ?_
          refine TL.run ft_cursitorref14_ok [47] rfl rfl ?_
          obtain rfl := Option.some.inj h
          exact TL.nil (X.seq (T.ret (X.done1 [2] Try.results39 (RV.tm rfl) ⟨rfl, rfl, rfl⟩ (by rfl) (.inl rfl))))
      · replace h := ifF c9 h
        refine TL.run ft_cursitorref14_ok [19] rfl rfl ?_
        refine TL.no rfl (.gn rfl rfl (decide_eq_false c9)) rfl ?_
        refine TL.no rfl (.gn rfl rfl (decide_eq_false c9)) rfl ?_
        refine TL.no rfl (.gn rfl rfl (decide_eq_false c9)) rfl ?_
        refine TL.no rfl (.gn rfl rfl (decide_eq_false c9)) rfl ?_
        refine TL.no rfl (.gn rfl rfl (decide_eq_false c9)) rfl ?_
        refine TL.q rfl .u (Ex.pn rfl (decide_eq_false c9) rfl) rfl ?_
        refine TL.run ft_cursitorref14_ok [26] rfl rfl ?_
        refine TL.no rfl (.gn rfl rfl rfl) rfl ?_
        refine TL.no rfl (.gn rfl rfl rfl) rfl ?_
        refine TL.no rfl (.gn rfl rfl rfl) rfl ?_
        refine TL.no rfl (.gn rfl rfl rfl) rfl ?_
        refine TL.no rfl (.gn rfl rfl rfl) rfl ?_
        refine TL.q rfl .u (Ex.pn rfl rfl rfl) rfl ?_
        refine TL.run ft_cursitorref14_ok [33] rfl rfl ?_
        refine TL.no rfl (.gn rfl rfl rfl) rfl ?_
        refine TL.no rfl (.gn rfl rfl rfl) rfl ?_
        refine TL.no rfl (.gn rfl rfl rfl) rfl ?_
        refine TL.no rfl (.gn rfl rfl rfl) rfl ?_
        refine TL.no rfl (.gn rfl rfl rfl) rfl ?_
        refine TL.q rfl .u (Ex.pn rfl rfl rfl) rfl ?_
        refine TL.run ft_cursitorref14_ok [40] rfl rfl ?_
        refine TL.no rfl (.gn rfl rfl rfl) rfl ?_
        refine TL.no rfl (.gn rfl rfl rfl) rfl ?_
        refine TL.no rfl (.gn rfl rfl rfl) rfl ?_
        refine TL.no rfl (.gn rfl rfl rfl) rfl ?_
        refine TL.no rfl (.gn rfl rfl rfl) rfl ?_
        refine TL.q rfl .u (Ex.pn rfl rfl rfl) rfl ?_
        refine TL.run ft_cursitorref14_ok [47] rfl rfl ?_
        obtain rfl := Option.some.inj h
        exact TL.nil (X.seq (T.ret (X.done1 [2] Try.results39 (RV.tm rfl) ⟨rfl, rfl, rfl⟩ (by rfl) (.inl rfl))))
    · replace h := ifF c8 h
      refine TL.run ft_cursitorref14_ok [12] rfl rfl ?_
      refine TL.no rfl (.gn rfl rfl (decide_eq_false c8)) rfl ?_
      refine TL.no rfl (.gn rfl rfl (decide_eq_false c8)) rfl ?_
      refine TL.no rfl (.gn rfl rfl (decide_eq_false c8)) rfl ?_
      refine TL.no rfl (.gn rfl rfl (decide_eq_false c8)) rfl ?_
      refine TL.no rfl (.gn rfl rfl (decide_eq_false c8)) rfl ?_
      refine TL.q rfl .u (Ex.pn rfl (decide_eq_false c8) rfl) rfl ?_
      refine TL.run ft_cursitorref14_ok [19] rfl rfl ?_
      refine TL.no rfl (.gn rfl rfl rfl) rfl ?_
      refine TL.no rfl (.gn rfl rfl rfl) rfl ?_
      refine TL.no rfl (.gn rfl rfl rfl) rfl ?_
      refine TL.no rfl (.gn rfl rfl rfl) rfl ?_
      refine TL.no rfl (.gn rfl rfl rfl) rfl ?_
      refine TL.q rfl .u (Ex.pn rfl rfl rfl) rfl ?_
      refine TL.run ft_cursitorref14_ok [26] rfl rfl ?_
      refine TL.no rfl (.gn rfl rfl rfl) rfl ?_
      refine TL.no rfl (.gn rfl rfl rfl) rfl ?_
      refine TL.no rfl (.gn rfl rfl rfl) rfl ?_
      refine TL.no rfl (.gn rfl rfl rfl) rfl ?_
      refine TL.no rfl (.gn rfl rfl rfl) rfl ?_
      refine TL.q rfl .u (Ex.pn rfl rfl rfl) rfl ?_
      refine TL.run ft_cursitorref14_ok [33] rfl rfl ?_
      refine TL.no rfl (.gn rfl rfl rfl) rfl ?_
      refine TL.no rfl (.gn rfl rfl rfl) rfl ?_
      refine TL.no rfl (.gn rfl rfl rfl) rfl ?_
      refine TL.no rfl (.gn rfl rfl rfl) rfl ?_
      refine TL.no rfl (.gn rfl rfl rfl) rfl ?_
      refine TL.q rfl .u (Ex.pn rfl rfl rfl) rfl ?_
      refine TL.run ft_cursitorref14_ok [40] rfl rfl ?_
      refine TL.no rfl (.gn rfl rfl rfl) rfl ?_
      refine TL.no rfl (.gn rfl rfl rfl) rfl ?_
      refine TL.no rfl (.gn rfl rfl rfl) rfl ?_
      refine TL.no rfl (.gn rfl rfl rfl) rfl ?_
      refine TL.no rfl (.gn rfl rfl rfl) rfl ?_
      refine TL.q rfl .u (Ex.pn rfl rfl rfl) rfl ?_
      refine TL.run ft_cursitorref14_ok [47] rfl rfl ?_
      obtain rfl := Option.some.inj h
      exact TL.nil (X.seq (T.ret (X.done1 [2] Try.results39 (RV.tm rfl) ⟨rfl, rfl, rfl⟩ (by rfl) (.inl rfl))))
  · replace h := ifF c7 h
    refine TL.run ft_cursitorref14_ok [4, 5] rfl rfl ?_
    refine TL.no rfl (.gn rfl rfl (decide_eq_false c7)) rfl ?_
    refine TL.no rfl (.gn rfl rfl (decide_eq_false c7)) rfl ?_
    refine TL.no rfl (.gn rfl rfl (decide_eq_false c7)) rfl ?_
    refine TL.no rfl (.gn rfl rfl (decide_eq_false c7)) rfl ?_
    refine TL.no rfl (.gn rfl rfl (decide_eq_false c7)) rfl ?_
    refine TL.q rfl .u (Ex.pn rfl (decide_eq_false c7) rfl) rfl ?_
    refine TL.run ft_cursitorref14_ok [12] rfl rfl ?_
    refine TL.no rfl (.gn rfl rfl rfl) rfl ?_
    refine TL.no rfl (.gn rfl rfl rfl) rfl ?_
    refine TL.no rfl (.gn rfl rfl rfl) rfl ?_
    refine TL.no rfl (.gn rfl rfl rfl) rfl ?_
    refine TL.no rfl (.gn rfl rfl rfl) rfl ?_
    refine TL.q rfl .u (Ex.pn rfl rfl rfl) rfl ?_
    refine TL.run ft_cursitorref14_ok [19] rfl rfl ?_
    refine TL.no rfl (.gn rfl rfl rfl) rfl ?_
    refine TL.no rfl (.gn rfl rfl rfl) rfl ?_
    refine TL.no rfl (.gn rfl rfl rfl) rfl ?_
    refine TL.no rfl (.gn rfl rfl rfl) rfl ?_
    refine TL.no rfl (.gn rfl rfl rfl) rfl ?_
    refine TL.q rfl .u (Ex.pn rfl rfl rfl) rfl ?_
    refine TL.run ft_cursitorref14_ok [26] rfl rfl ?_
    refine TL.no rfl (.gn rfl rfl rfl) rfl ?_
    refine TL.no rfl (.gn rfl rfl rfl) rfl ?_
    refine TL.no rfl (.gn rfl rfl rfl) rfl ?_
    refine TL.no rfl (.gn rfl rfl rfl) rfl ?_
    refine TL.no rfl (.gn rfl rfl rfl) rfl ?_
    refine TL.q rfl .u (Ex.pn rfl rfl rfl) rfl ?_
    refine TL.run ft_cursitorref14_ok [33] rfl rfl ?_
    refine TL.no rfl (.gn rfl rfl rfl) rfl ?_
    refine TL.no rfl (.gn rfl rfl rfl) rfl ?_
    refine TL.no rfl (.gn rfl rfl rfl) rfl ?_
    refine TL.no rfl (.gn rfl rfl rfl) rfl ?_
    refine TL.no rfl (.gn rfl rfl rfl) rfl ?_
    refine TL.q rfl .u (Ex.pn rfl rfl rfl) rfl ?_
    refine TL.run ft_cursitorref14_ok [40] rfl rfl ?_
    refine TL.no rfl (.gn rfl rfl rfl) rfl ?_
    refine TL.no rfl (.gn rfl rfl rfl) rfl ?_
    refine TL.no rfl (.gn rfl rfl rfl) rfl ?_
    refine TL.no rfl (.gn rfl rfl rfl) rfl ?_
    refine TL.no rfl (.gn rfl rfl rfl) rfl ?_
    refine TL.q rfl .u (Ex.pn rfl rfl rfl) rfl ?_
    refine TL.run ft_cursitorref14_ok [47] rfl rfl ?_
    obtain rfl := Option.some.inj h
    exact TL.nil (X.seq (T.ret (X.done1 [2] Try.results39 (RV.tm rfl) ⟨rfl, rfl, rfl⟩ (by rfl) (.inl rfl))))
def f_r14_Topics_l2 (x15 : Top) : Nat → List UInt8 → Nat → Option (List UInt8 × Nat)
  | 0, _, _ => none
  | m32 + 1, y27, k28 => if (k28 : Int) < (x15.fParts.length : Int) then ((x15.fParts[k28]?).bind fun x37 => (gRBytes x37 4).bind fun x40 => if y27.length + x40.length ≤ 9223372036854775807 then (if -9223372036854775808 ≤ ((k28 : Int) + 1) ∧ ((k28 : Int) + 1) ≤ 9223372036854775807 then (f_r14_Topics_l2 x15 m32 (y27 ++ x40) (k28 + 1)) else none) else none) else some (y27, k28)
def f_r14_Topics_l1 (a0 : List Top) : Nat → List UInt8 → Nat → Option (List UInt8 × Nat)
  | 0, _, _ => none
  | m10 + 1, y5, k6 => if (k6 : Int) < (a0.length : Int) then ((a0[k6]?).bind fun x15 => (gRBFixed (⟨false, x15.fName⟩ : Bl) 2).bind fun x21 => if y5.length + x21.length ≤ 9223372036854775807 then ((gRBytes (x15.fParts.length : Int) 4).bind fun x24 => if (y5 ++ x21).length + x24.length ≤ 9223372036854775807 then ((f_r14_Topics_l2 x15 (((x15.fParts.length : Int)).toNat + 1) ((y5 ++ x21) ++ x24) 0).bind fun (y45, k46) => if -9223372036854775808 ≤ ((k6 : Int) + 1) ∧ ((k6 : Int) + 1) ≤ 9223372036854775807 then (f_r14_Topics_l1 a0 m10 y45 (k6 + 1)) else none) else none) else none) else some (y5, k6)
def f_r14_Topics (a0 : List Top) : Option (List UInt8) := (gRBytes (a0.length : Int) 4).bind fun x3 => (f_r14_Topics_l1 a0 (((a0.length : Int)).toNat + 1) x3 0).bind fun (y48, k49) => some y48
set_option maxRecDepth 100000 in
set_option maxHeartbeats 4000000 in
theorem f_r14_Topics_spec (a0 : List Top) (A1 : Option Addr) (c2 : Nat) (r : List UInt8) (h : f_r14_Topics a0 = some r) : SpecX Try.prog 61 #[.slice A1 a0.length c2] (RX.of (sliceRd 2 Top_rd) [.slice A1 a0.length c2] a0) (EmpR) (fun v A' N => v = .string (bsOf r) ∧ A' = EmpR ∧ N = []) := by
  refine enterA Try.func61 rfl Try.ntmps61 rfl ?_
  intro F w hX
  unfold f_r14_Topics at h
  refine T.seq (T.region rfl ?_)
  refine TL.run ft_cursitorref14_ok [0] rfl rfl ?_
  refine TL.nil (X.seq (T.seq (T.region rfl ?_)))
  refine TL.run ft_cursitorref14_ok [0] rfl rfl ?_
  refine TL.q rfl .u (Ex.lenS rfl Try.runUnderlying62) rfl ?_
  obtain ⟨x3, hx4, h⟩ := Option.bind_eq_some_iff.1 h
  refine TL.ce rfl .u (.fn Try.call79 rfl) (gRBytes_spec (a0.length : Int) 4 _ hx4) (fun _ hs => (RX.reads_triv _ _)) rfl ?_
  refine TL.run ft_cursitorref14_ok [3] rfl rfl ?_
  refine TL.nil (X.seq (T.seq (T.seq (T.region rfl ?_))))
  refine TL.run ft_cursitorref14_ok [0] rfl rfl ?_
  refine TL.nil (X.seq (T.block ?_))
  obtain ⟨E7, hE8, hO9⟩ := Option.bind_eq_some_iff.1 h
  refine T.lp (fun m e Rs => ∃ (y5 : List UInt8) (k6 : Nat), e = [(0, .slice A1 a0.length c2), (2, .string ⟨#[]⟩), (3, .string (bsOf y5)), (4, .int .i64 (k6 : Int))] ∧ Rs = [EmpR] ∧ f_r14_Topics_l1 a0 m y5 k6 = some E7) (((a0.length : Int)).toNat + 1) [0] ⟨x3, 0, rfl, rfl, by exact hE8⟩ (by rfl) (by rfl) ?_
  rintro m10 _ _ ⟨y5, k6, rfl, rfl, hl12⟩
  clear hE8 h
  cases m10 with
  | zero =>
    rw [f_r14_Topics_l1] at hl12
    cases hl12
  | succ m10 =>
    have h := hl12
    clear hl12
    rw [f_r14_Topics_l1] at h
    refine T.seq (T.seq (T.region rfl ?_))
    refine TL.run ft_cursitorref14_ok [0, 1] rfl rfl ?_
    refine TL.q rfl .u (Ex.lenS rfl Try.runUnderlying62) rfl ?_
    refine TL.run ft_cursitorref14_ok [3] rfl rfl ?_
    by_cases c14 : (k6 : Int) < (a0.length : Int)
    · replace h := ifT c14 h
      refine TL.nil (X.seq ?_)
      refine T.yes rfl (decide_eq_true c14) ?_
      refine T.skip (X.seq (T.seq (T.block (T.seq (T.draw (.q 0 (.q 1 (.q 2 (.q 3 (.q 4 (.q 5 (.q 6 (.q 9 (.q 10 (.q 11 (.q 12 (.q 13 (.q 14 (.e 7 (.q 8 (.e 15 (.q 16 (.q 17 .nil)))))))))))))))))) [0] rfl mix_cursitorref14 (NoP.seq (NoP.blk (NoP.seq (NoP.seq (NoP.blk (NoP.seq np_post)))))) (by kernel_rfl) ?_)))))
      obtain ⟨x15, hx16, h⟩ := Option.bind_eq_some_iff.1 h
      obtain ⟨gz17, oz17, rfl, z17cs, z17cl, z17cc, z17nf, z17r⟩ := RX.elem (by decide) hX hx16
      obtain ⟨z17S, z17r, z17rr⟩ := z17r
      obtain ⟨A18, c19, rfl, z17s0⟩ := z17r
      have hX20 : (RX.of (sliceRd 1 intE) [.slice A18 x15.fParts.length c19] x15.fParts).reads w F := ⟨z17S, z17s0, z17rr⟩
      refine TD.run ft_cursitorref14_ok [0, 1, 2] rfl rfl ?_
      refine TD.q rfl .u (Ex.ixS (k := k6) rfl rfl rfl Try.runUnderlying62 Try.sizeOf104 (List.getElem?_eq_some_iff.1 hx16).1) rfl ?_
      refine TD.run ft_cursitorref14_ok [4] rfl rfl ?_
      refine TD.q rfl .u (Ex.o1 0 rfl Try.isAgg9 z17nf z17cc rfl rfl) rfl ?_
      refine TD.q rfl .u (Ex.bld (cells := #[.bool false, .string (bsOf x15.fName)]) bok_cursitorref14_26 rfl (by rfl)) rfl ?_
      refine TD.run ft_cursitorref14_ok [9, 10] rfl rfl ?_
      refine TD.q rfl .u (Ex.ixS (k := k6) rfl rfl rfl Try.runUnderlying62 Try.sizeOf104 (List.getElem?_eq_some_iff.1 hx16).1) rfl ?_
      refine TD.run ft_cursitorref14_ok [12] rfl rfl ?_
      refine TD.q rfl .u (Ex.o1 1 rfl Try.isAgg102 z17nf z17cc rfl rfl) rfl ?_
      refine TD.q rfl .u (Ex.lenS rfl Try.runUnderlying102) rfl ?_
      obtain ⟨x21, hx22, h⟩ := Option.bind_eq_some_iff.1 h
      refine TD.ce rfl .u (.fn Try.call80 rfl) (gRBFixed_spec (⟨false, x15.fName⟩ : Bl) 2 _ hx22) (fun _ hs => (RX.reads_triv _ _)) rfl [0] (rfl) ?_
      replace h := guard_some h
      obtain ⟨c23, h⟩ := h
      refine TD.q rfl .u (Ex.sAdd rfl rfl c23) rfl ?_
      obtain ⟨x24, hx25, h⟩ := Option.bind_eq_some_iff.1 h
      refine TD.ce rfl .u (.fn Try.call79 rfl) (gRBytes_spec (x15.fParts.length : Int) 4 _ hx25) (fun _ hs => (RX.reads_triv _ _)) rfl [0] (rfl) ?_
      replace h := guard_some h
      obtain ⟨c26, h⟩ := h
      refine TD.q rfl .u (Ex.sAdd rfl rfl c26) rfl ?_
      refine TD.run ft_cursitorref14_ok [17] rfl rfl ?_
      refine TD.nil (X.seq (T.seq (T.region rfl ?_)))
      refine TL.run ft_cursitorref14_ok [0] rfl rfl ?_
      refine TL.nil (X.seq (T.block ?_))
      obtain ⟨E29, hE30, hO31⟩ := Option.bind_eq_some_iff.1 h
      refine T.lp (fun m e Rs => ∃ (y27 : List UInt8) (k28 : Nat), e = [(0, .slice (some ⟨gz17, oz17, none⟩) a0.length c2), (2, .string ⟨#[]⟩), (3, .string (bsOf y27)), (4, .int .i64 (k6 : Int)), (5, .int .i64 (k28 : Int))] ∧ Rs = [EmpR] ∧ f_r14_Topics_l2 x15 m y27 k28 = some E29) (((x15.fParts.length : Int)).toNat + 1) [0] ⟨((y5 ++ x21) ++ x24), 0, rfl, rfl, by exact hE30⟩ (by rfl) (by rfl) ?_
      rintro m32 _ _ ⟨y27, k28, rfl, rfl, hl34⟩
      clear hE30 h
      cases m32 with
      | zero =>
        rw [f_r14_Topics_l2] at hl34
        cases hl34
      | succ m32 =>
        have h := hl34
        clear hl34
        rw [f_r14_Topics_l2] at h
        refine T.seq (T.seq (T.region rfl ?_))
        refine TL.run ft_cursitorref14_ok [0, 1, 2] rfl rfl ?_
        refine TL.q rfl .u (Ex.ixS (k := k6) rfl rfl rfl Try.runUnderlying62 Try.sizeOf104 (List.getElem?_eq_some_iff.1 hx16).1) rfl ?_
        refine TL.run ft_cursitorref14_ok [4] rfl rfl ?_
        refine TL.q rfl .u (Ex.o1 1 rfl Try.isAgg102 z17nf z17cc rfl rfl) rfl ?_
        refine TL.q rfl .u (Ex.lenS rfl Try.runUnderlying102) rfl ?_
        refine TL.run ft_cursitorref14_ok [7] rfl rfl ?_
        by_cases c36 : (k28 : Int) < (x15.fParts.length : Int)
        · replace h := ifT c36 h
          refine TL.nil (X.seq ?_)
          refine T.yes rfl (decide_eq_true c36) ?_
          refine T.skip (X.seq (T.seq (T.block (T.region rfl ?_))))
          refine TL.run ft_cursitorref14_ok [0, 1, 2] rfl rfl ?_
          refine TL.q rfl .u (Ex.ixS (k := k6) rfl rfl rfl Try.runUnderlying62 Try.sizeOf104 (List.getElem?_eq_some_iff.1 hx16).1) rfl ?_
          refine TL.run ft_cursitorref14_ok [4] rfl rfl ?_
          refine TL.q rfl .u (Ex.o1 1 rfl Try.isAgg102 z17nf z17cc rfl rfl) rfl ?_
          obtain ⟨x37, hx38, h⟩ := Option.bind_eq_some_iff.1 h
          obtain ⟨gz39, oz39, rfl, z39cs, z39cl, z39cc, z39nf, z39r⟩ := RX.elem (by decide) hX20 hx38
          obtain ⟨z39S, z39r, z39rr⟩ := z39r
          obtain rfl : z39cs = [.int .i64 x37] := z39r
          refine TL.run ft_cursitorref14_ok [6] rfl rfl ?_
          refine TL.q rfl .u (Ex.ixS (k := k28) rfl rfl rfl Try.runUnderlying102 Try.sizeOf3 (List.getElem?_eq_some_iff.1 hx38).1) rfl ?_
          refine TL.q rfl .u (Ex.o1 0 rfl Try.isAgg3 z39nf z39cc rfl rfl) rfl ?_
          obtain ⟨x40, hx41, h⟩ := Option.bind_eq_some_iff.1 h
          refine TL.ce rfl .u (.fn Try.call79 rfl) (gRBytes_spec x37 4 _ hx41) (fun _ hs => (RX.reads_triv _ _)) rfl ?_
          replace h := guard_some h
          obtain ⟨c42, h⟩ := h
          refine TL.q rfl .u (Ex.sAdd rfl rfl c42) rfl ?_
          refine TL.run ft_cursitorref14_ok [11] rfl rfl ?_
          refine TL.nil (X.blk (X.seq (T.region rfl ?_)))
          replace h := guard_some h
          obtain ⟨c43, h⟩ := h
          refine TL.run ft_cursitorref14_ok [0] rfl rfl ?_
          refine TL.q rfl .u (Ex.add rfl rfl c43) rfl ?_
          refine TL.run ft_cursitorref14_ok [2] rfl rfl ?_
          exact TL.nil (X.back (m' := m32) [0] (by omega) ⟨(y27 ++ x40), k28 + 1, rfl, rfl, h⟩ (by rfl) (by rfl))
        · replace h := ifF c36 h
          refine TL.nil (X.seq ?_)
          refine T.no rfl (decide_eq_false c36) ?_
          obtain rfl := Option.some.inj h
          replace h := hO31
          clear hO31
          try dsimp only at h
          refine T.exit (X.exs (X.exs (X.ex (X.blk (X.seq (T.region rfl ?_))))))
          replace h := guard_some h
          obtain ⟨c44, h⟩ := h
          refine TL.run ft_cursitorref14_ok [0] rfl rfl ?_
          refine TL.q rfl .u (Ex.add rfl rfl c44) rfl ?_
          refine TL.run ft_cursitorref14_ok [2] rfl rfl ?_
          exact TL.nil (X.back (m' := m10) [0] (by omega) ⟨y27, k6 + 1, rfl, rfl, h⟩ (by rfl) (by rfl))
    · replace h := ifF c14 h
      refine TL.nil (X.seq ?_)
      refine T.no rfl (decide_eq_false c14) ?_
      obtain rfl := Option.some.inj h
      replace h := hO9
      clear hO9
      try dsimp only at h
      refine T.exit (X.exs (X.exs (X.ex (X.seq (T.seq (T.region rfl ?_))))))
      refine TL.run ft_cursitorref14_ok [0, 1] rfl rfl ?_
      obtain rfl := Option.some.inj h
      exact TL.nil (X.seq (T.ret (X.done1 [0] Try.results61 (RV.tm rfl) ⟨rfl, rfl, rfl⟩ (by rfl) (.inl rfl))))
def f_r14_Encode (a0 : Val) : Option (List UInt8) := (gRBytes 0 2).bind fun x4 => (gRBytes a0.fProducer 8).bind fun x6 => if x4.length + x6.length ≤ 9223372036854775807 then ((gRBytes a0.fEpoch 2).bind fun x9 => if (x4 ++ x6).length + x9.length ≤ 9223372036854775807 then ((gRBytes a0.fTimeout 4).bind fun x12 => if ((x4 ++ x6) ++ x9).length + x12.length ≤ 9223372036854775807 then ((gRBytes a0.fState 1).bind fun x15 => if (((x4 ++ x6) ++ x9) ++ x12).length + x15.length ≤ 9223372036854775807 then ((f_r14_Topics a0.fTopics).bind fun x18 => if ((((x4 ++ x6) ++ x9) ++ x12) ++ x15).length + x18.length ≤ 9223372036854775807 then ((gRBytes a0.fUpdated 8).bind fun x21 => if (((((x4 ++ x6) ++ x9) ++ x12) ++ x15) ++ x18).length + x21.length ≤ 9223372036854775807 then ((gRBytes a0.fStarted 8).bind fun x24 => if ((((((x4 ++ x6) ++ x9) ++ x12) ++ x15) ++ x18) ++ x21).length + x24.length ≤ 9223372036854775807 then (some (((((((x4 ++ x6) ++ x9) ++ x12) ++ x15) ++ x18) ++ x21) ++ x24)) else none) else none) else none) else none) else none) else none) else none
set_option maxRecDepth 100000 in
set_option maxHeartbeats 4000000 in
theorem f_r14_Encode_spec (a0 : Val) (A1 : Option Addr) (c2 : Nat) (r : List UInt8) (h : f_r14_Encode a0 = some r) : SpecX Try.prog 64 #[.agg #[.int .i64 a0.fProducer, .int .i64 a0.fEpoch, .int .i64 a0.fTimeout, .int .i64 a0.fState, .slice A1 a0.fTopics.length c2, .int .i64 a0.fUpdated, .int .i64 a0.fStarted]] (RX.of (sliceRd 2 Top_rd) [.slice A1 a0.fTopics.length c2] a0.fTopics) (EmpR) (fun v A' N => v = .string (bsOf r) ∧ A' = EmpR ∧ N = []) := by
  refine enterA Try.func64 rfl Try.ntmps64 rfl ?_
  intro F w hX
  unfold f_r14_Encode at h
  refine T.seq (T.region rfl ?_)
  refine TL.box rfl .u rfl rfl (fun b3 => ?_)
  refine TL.run ft_cursitorref14_ok [1] rfl rfl ?_
  refine TL.nil (X.seq (T.seq (T.draw (.q 1 (.q 2 (.q 5 (.q 6 (.q 9 (.q 10 (.q 13 (.q 14 (.q 17 (.q 18 (.q 21 (.q 22 (.q 25 (.q 26 (.e 0 (.e 3 (.q 4 (.e 7 (.q 8 (.e 11 (.q 12 (.e 15 (.q 16 (.e 19 (.q 20 (.e 23 (.q 24 (.e 27 (.q 28 (.q 29 .nil)))))))))))))))))))))))))))))) [0, 0] rfl mix_cursitorref14 (NoP.seq np_post) (by kernel_rfl) ?_)))
  refine TD.run ft_cursitorref14_ok [1] rfl rfl ?_
  refine TD.q rfl .u (Ex.b1 0 rfl Try.isAgg3 rfl rfl) rfl ?_
  refine TD.run ft_cursitorref14_ok [5] rfl rfl ?_
  refine TD.q rfl .u (Ex.b1 0 rfl Try.isAgg3 rfl rfl) rfl ?_
  refine TD.run ft_cursitorref14_ok [9] rfl rfl ?_
  refine TD.q rfl .u (Ex.b1 0 rfl Try.isAgg3 rfl rfl) rfl ?_
  refine TD.run ft_cursitorref14_ok [13] rfl rfl ?_
  refine TD.q rfl .u (Ex.b1 0 rfl Try.isAgg3 rfl rfl) rfl ?_
  refine TD.run ft_cursitorref14_ok [17] rfl rfl ?_
  refine TD.q rfl .u (Ex.b1 0 rfl Try.isAgg62 rfl rfl) rfl ?_
  refine TD.run ft_cursitorref14_ok [21] rfl rfl ?_
  refine TD.q rfl .u (Ex.b1 0 rfl Try.isAgg3 rfl rfl) rfl ?_
  refine TD.run ft_cursitorref14_ok [25] rfl rfl ?_
  refine TD.q rfl .u (Ex.b1 0 rfl Try.isAgg3 rfl rfl) rfl ?_
  obtain ⟨x4, hx5, h⟩ := Option.bind_eq_some_iff.1 h
  refine TD.ce rfl .u (.fn Try.call79 rfl) (gRBytes_spec 0 2 _ hx5) (fun _ hs => (RX.reads_triv _ _)) rfl [0, 0] (rfl) ?_
  obtain ⟨x6, hx7, h⟩ := Option.bind_eq_some_iff.1 h
  refine TD.ce rfl .u (.fn Try.call79 rfl) (gRBytes_spec a0.fProducer 8 _ hx7) (fun _ hs => (RX.reads_triv _ _)) rfl [0, 0] (rfl) ?_
  replace h := guard_some h
  obtain ⟨c8, h⟩ := h
  refine TD.q rfl .u (Ex.sAdd rfl rfl c8) rfl ?_
  obtain ⟨x9, hx10, h⟩ := Option.bind_eq_some_iff.1 h
  refine TD.ce rfl .u (.fn Try.call79 rfl) (gRBytes_spec a0.fEpoch 2 _ hx10) (fun _ hs => (RX.reads_triv _ _)) rfl [0, 0] (rfl) ?_
  replace h := guard_some h
  obtain ⟨c11, h⟩ := h
  refine TD.q rfl .u (Ex.sAdd rfl rfl c11) rfl ?_
  obtain ⟨x12, hx13, h⟩ := Option.bind_eq_some_iff.1 h
  refine TD.ce rfl .u (.fn Try.call79 rfl) (gRBytes_spec a0.fTimeout 4 _ hx13) (fun _ hs => (RX.reads_triv _ _)) rfl [0, 0] (rfl) ?_
  replace h := guard_some h
  obtain ⟨c14, h⟩ := h
  refine TD.q rfl .u (Ex.sAdd rfl rfl c14) rfl ?_
  obtain ⟨x15, hx16, h⟩ := Option.bind_eq_some_iff.1 h
  refine TD.ce rfl .u (.fn Try.call79 rfl) (gRBytes_spec a0.fState 1 _ hx16) (fun _ hs => (RX.reads_triv _ _)) rfl [0, 0] (rfl) ?_
  replace h := guard_some h
  obtain ⟨c17, h⟩ := h
  refine TD.q rfl .u (Ex.sAdd rfl rfl c17) rfl ?_
  obtain ⟨x18, hx19, h⟩ := Option.bind_eq_some_iff.1 h
  refine TD.ce rfl .u (.fn Try.call61 rfl) (f_r14_Topics_spec a0.fTopics _ _ _ hx19) (fun _ hs => (SrcE.old hs hX)) rfl [0, 0] (rfl) ?_
  replace h := guard_some h
  obtain ⟨c20, h⟩ := h
  refine TD.q rfl .u (Ex.sAdd rfl rfl c20) rfl ?_
  obtain ⟨x21, hx22, h⟩ := Option.bind_eq_some_iff.1 h
  refine TD.ce rfl .u (.fn Try.call79 rfl) (gRBytes_spec a0.fUpdated 8 _ hx22) (fun _ hs => (RX.reads_triv _ _)) rfl [0, 0] (rfl) ?_
  replace h := guard_some h
  obtain ⟨c23, h⟩ := h
  refine TD.q rfl .u (Ex.sAdd rfl rfl c23) rfl ?_
  obtain ⟨x24, hx25, h⟩ := Option.bind_eq_some_iff.1 h
  refine TD.ce rfl .u (.fn Try.call79 rfl) (gRBytes_spec a0.fStarted 8 _ hx25) (fun _ hs => (RX.reads_triv _ _)) rfl [0, 0] (rfl) ?_
  replace h := guard_some h
  obtain ⟨c26, h⟩ := h
  refine TD.q rfl .u (Ex.sAdd rfl rfl c26) rfl ?_
  refine TD.run ft_cursitorref14_ok [29] rfl rfl ?_
  obtain rfl := Option.some.inj h
  exact TD.nil (X.seq (T.ret (X.done1 [1] Try.results64 (RV.tm rfl) ⟨rfl, rfl, rfl⟩ (by rfl) (.inl rfl))))
end Go.Proofs.Ytdlpmcbglmgpiaa.Sl
