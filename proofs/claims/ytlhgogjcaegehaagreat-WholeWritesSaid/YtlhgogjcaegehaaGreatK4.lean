/- wholeWrites_holds: part 4. -/
import Derived.Test.YtlhgogjcaegehaaGreatK3
namespace Go.Proofs.YtlhgogjcaegehaaGreat.Sl
open Go.RowKit
set_option linter.unusedVariables false
set_option linter.unusedSimpArgs false
set_option maxRecDepth 100000
def ft_cursitorref20 : FTab := [(23, 0, 0), (23, 1, 1), (30, 3, 3), (30, 4, 4), (40, 0, 0), (40, 1, 2), (40, 2, 3), (40, 3, 4), (69, 0, 0), (69, 1, 1), (71, 0, 0), (71, 1, 1), (106, 1, 1)]
theorem ft_cursitorref20_ok : (ft_cursitorref20).OK Tryz.prog := ⟨FOK.mk Tryz.runUnderlying23 rfl Tryz.sizeOf4 rfl, FOK.mk Tryz.runUnderlying23 rfl Tryz.sizeOf9 rfl, FOK.mk Tryz.runUnderlying30 rfl Tryz.sizeOf4 rfl, FOK.mk Tryz.runUnderlying30 rfl Tryz.sizeOf4 rfl, FOK.mk Tryz.runUnderlying40 rfl Tryz.sizeOf23 rfl, FOK.mk Tryz.runUnderlying40 rfl Tryz.sizeOf3 rfl, FOK.mk Tryz.runUnderlying40 rfl Tryz.sizeOf3 rfl, FOK.mk Tryz.runUnderlying40 rfl Tryz.sizeOf38 rfl, FOK.mk Tryz.runUnderlying69 rfl Tryz.sizeOf9 rfl, FOK.mk Tryz.runUnderlying69 rfl Tryz.sizeOf67 rfl, FOK.mk Tryz.runUnderlying71 rfl Tryz.sizeOf3 rfl, FOK.mk Tryz.runUnderlying71 rfl Tryz.sizeOf52 rfl, FOK.mk Tryz.runUnderlying106 rfl Tryz.sizeOf104 rfl, trivial⟩
def nt_cursitorref20 : List Nat := [3, 4, 9, 38, 67]
theorem nt_cursitorref20_ok : NOK Tryz.prog nt_cursitorref20 := ⟨Tryz.isAgg3, Tryz.isAgg4, Tryz.isAgg9, Tryz.isAgg38, Tryz.isAgg67, trivial⟩
theorem mix_cursitorref20 : Tryz.prog.follows .mixedOrders = true := by kernel_rfl
theorem bok_cursitorref20_106 : BOK Tryz.prog 106 #[.string ⟨#[]⟩, .slice none 0 0] [(0, 1), (1, 1)] := BOK.mk Tryz.zeroValue106 Tryz.runUnderlying106 (by intro w; simp)
theorem sok_cursitorref20_60_0 : SOK Tryz.prog 60 106 0 2 #[] := SOK.mk0 Tryz.runUnderlying60 Tryz.sizeOf106
theorem sok_cursitorref20_60_1 : SOK Tryz.prog 60 106 1 2 #[.string ⟨#[]⟩, .slice none 0 0] := SOK.mk Tryz.runUnderlying60 Tryz.sizeOf106 Tryz.zeroValue106 (by decide) (by kernel_rfl)
theorem sok_cursitorref20_104_1 : SOK Tryz.prog 104 3 1 1 #[.int .i64 0] := SOK.mk Tryz.runUnderlying104 Tryz.sizeOf3 Tryz.zeroValue3 (by decide) (by kernel_rfl)
theorem inf_cursitorref20_3 : (Tryz.prog.info? 3).map (fun i => (i.zero, i.size, i.bytes)) = some (some (.int .i64 0), 1, 8) := by kernel_rfl
theorem inf_cursitorref20_106 : (Tryz.prog.info? 106).map (fun i => (i.zero, i.size, i.bytes)) = some (some (.agg #[.string ⟨#[]⟩, .slice none 0 0]), 2, 40) := by kernel_rfl
def f_r20_plain_l1 (a0 : R20Topic) : Nat → Nat → List Int → Option (Nat × List Int)
  | 0, _, _ => none
  | m13 + 1, k6, y7 => if (k6 : Int) < (a0.fParts.length : Int) then ((a0.fParts[k6]?).bind fun x18 => if (y7.length + 1) * 8 ≤ 140737488355328 then (if -9223372036854775808 ≤ ((k6 : Int) + 1) ∧ ((k6 : Int) + 1) ≤ 9223372036854775807 then (f_r20_plain_l1 a0 m13 (k6 + 1) (y7 ++ [x18.fIndex])) else none) else none) else some (k6, y7)
def f_r20_plain (a0 : R20Topic) : Option (Top) := (f_r20_plain_l1 a0 (((a0.fParts.length : Int)).toNat + 1) 0 []).bind fun (k29, y30) => some (⟨a0.fName, y30⟩ : Top)
set_option maxRecDepth 100000 in
set_option maxHeartbeats 4000000 in
theorem f_r20_plain_spec (a0 : R20Topic) (A1 : Option Addr) (c2 : Nat) (r : Top) (h : f_r20_plain a0 = some r) : SpecX Tryz.prog 42 #[.agg #[.string (bsOf a0.fName), .slice A1 a0.fParts.length c2]] (RX.of (sliceRd 2 R20Part_rd) [.slice A1 a0.fParts.length c2] a0.fParts) (EmpR) (fun v A' N => ∃ (A33 : Option Addr) (c34 : Nat), v = .agg #[.string (bsOf r.fName), .slice A33 r.fParts.length c34] ∧ A' = EmpR ∧ N = [RdR (sliceRd 1 intE) [.slice A33 r.fParts.length c34] r.fParts]) := by
  refine enterA Tryz.func42 rfl Tryz.ntmps42 rfl ?_
  intro F w hX
  unfold f_r20_plain at h
  refine T.seq (T.region rfl ?_)
  refine TL.box rfl .u rfl rfl (fun b3 => ?_)
  refine TL.alloc rfl .u Tryz.zeroValue106 rfl (fun b4 => ?_)
  refine TL.nil (X.seq (T.seq (T.region rfl ?_)))
  refine TL.rb ft_cursitorref20_ok nt_cursitorref20_ok 1 rfl 2 rfl rfl ?_
  refine TL.q rfl .u (Ex.bld (cells := #[.string (bsOf a0.fName), .slice none 0 0]) bok_cursitorref20_106 rfl (by kernel_rfl)) rfl ?_
  refine TL.alloc rfl .u Tryz.zeroValue106 rfl (fun b5 => ?_)
  refine TL.st0 (cs' := #[.string (bsOf a0.fName), .slice none 0 0]) rfl .u rfl rfl Tryz.sizeOf106 rfl rfl rfl rfl ?_
  refine TL.nil (X.seq (T.seq (T.seq (T.region rfl ?_))))
  refine TL.run ft_cursitorref20_ok [0] rfl rfl ?_
  refine TL.nil (X.seq (T.block ?_))
  refine T.nilrow 3 1 intE ?_
  obtain ⟨E10, hE11, hO12⟩ := Option.bind_eq_some_iff.1 h
  refine T.lp (fun m e Rs => ∃ (k6 : Nat) (y7 : List Int) (A8 : Option Addr) (c9 : Nat), e = [(1, .pointer (some ⟨b3, 0, none⟩)), (2, .pointer (some ⟨b4, 0, none⟩)), (3, .pointer (some ⟨b5, 0, none⟩)), (4, .int .i64 (k6 : Int))] ∧ Rs = [OwnR 3 1 intE (.slice A8 y7.length c9) y7, BlkR b5 106 #[.string (bsOf a0.fName), .slice A8 y7.length c9], BlkR b4 106 #[.string ⟨#[]⟩, .slice none 0 0], BlkR b3 69 #[.string (bsOf a0.fName), .slice A1 a0.fParts.length c2], EmpR] ∧ f_r20_plain_l1 a0 m k6 y7 = some E10) (((a0.fParts.length : Int)).toNat + 1) [0, 0, 0, 0, 0] ⟨0, [], none, 0, rfl, rfl, by exact hE11⟩ (by rfl) (by rfl) ?_
  rintro m13 _ _ ⟨k6, y7, A8, c9, rfl, rfl, hl15⟩
  clear hE11 h
  cases m13 with
  | zero =>
    rw [f_r20_plain_l1] at hl15
    cases hl15
  | succ m13 =>
    have h := hl15
    clear hl15
    rw [f_r20_plain_l1] at h
    refine T.seq (T.seq (T.region rfl ?_))
    refine TL.rb ft_cursitorref20_ok nt_cursitorref20_ok 3 rfl 3 rfl rfl ?_
    refine TL.q rfl .u (Ex.lenS rfl Tryz.runUnderlying67) rfl ?_
    refine TL.run ft_cursitorref20_ok [4] rfl rfl ?_
    by_cases c17 : (k6 : Int) < (a0.fParts.length : Int)
    · replace h := ifT c17 h
      refine TL.nil (X.seq ?_)
      refine T.yes rfl (decide_eq_true c17) ?_
      obtain ⟨x18, hx19, h⟩ := Option.bind_eq_some_iff.1 h
      obtain ⟨gz20, oz20, rfl, z20cs, z20cl, z20cc, z20nf, z20r⟩ := RX.elem (by decide) hX hx19
      obtain ⟨z20S, z20r, z20rr⟩ := z20r
      obtain ⟨A21, c22, rfl, z20s0⟩ := z20r
      have hX23 : (RX.of (sliceRd 12 Bat_rd) [.slice A21 x18.fBatches.length c22] x18.fBatches).reads w F := ⟨z20S, z20s0, z20rr⟩
      replace h := guard_some h
      obtain ⟨c25, h⟩ := h
      refine T.skip (X.seq (T.seq (T.block ?_)))
      refine T.join (fun e Rs => ∃ (b24 : Nat) (A26 : Option Addr) (c27 : Nat), e = [(1, .pointer (some ⟨b3, 0, none⟩)), (2, .pointer (some ⟨b4, 0, none⟩)), (3, .pointer (some ⟨b5, 0, none⟩)), (4, .int .i64 (k6 : Int)), (8, .int .i64 (k6 : Int)), (9, .pointer (some ⟨b3, 1, none⟩)), (10, .slice (some ⟨gz20, oz20, none⟩) a0.fParts.length c2), (11, .int .i64 (a0.fParts.length : Int))] ∧ Rs = [OwnR 3 1 intE (.slice A26 (y7 ++ [x18.fIndex]).length c27) (y7 ++ [x18.fIndex]), BlkR b5 106 #[.string (bsOf a0.fName), .slice A26 (y7 ++ [x18.fIndex]).length c27], BlkR b4 106 #[.string ⟨#[]⟩, .slice none 0 0], BlkR b3 69 #[.string (bsOf a0.fName), .slice (some ⟨gz20, oz20, none⟩) a0.fParts.length c2], EmpR]) ?_ ?_
      · refine T.draw (.q 0 (.q 2 (.q 3 (.q 4 (.q 5 (.q 6 (.q 7 (.br 1 (.e 8 (.e 9 (.q 10 (.e 11 .nil)))) (.e 8 (.e 1 (.e 9 (.q 10 (.e 11 .nil))))))))))))) [2, 2, 2] rfl mix_cursitorref20 np_jq (by kernel_rfl) ?_
        refine TD.run ft_cursitorref20_ok [0, 2] rfl rfl ?_
        refine TD.q rfl .u (Ex.b1 1 rfl Tryz.isAgg67 rfl rfl) rfl ?_
        refine TD.run ft_cursitorref20_ok [4] rfl rfl ?_
        refine TD.q rfl .u (Ex.ixS (k := k6) rfl rfl rfl Tryz.runUnderlying67 Tryz.sizeOf71 (List.getElem?_eq_some_iff.1 hx19).1) rfl ?_
        refine TD.run ft_cursitorref20_ok [6] rfl rfl ?_
        refine TD.q rfl .u (Ex.o1 0 rfl Tryz.isAgg3 z20nf z20cc rfl rfl) rfl ?_
        refine TD.br ?_ ?_
        · refine TD.ny rfl .u (Ex.b1 1 rfl Tryz.isAgg104 rfl rfl) rfl [2, 2, 2] rfl ?_
          refine TD.lit (cells := #[.int .i64 x18.fIndex]) rfl .u sok_cursitorref20_104_1 rfl (by rfl) rfl [3, 3, 3] (fun _ => rfl) (fun b24 => ?_)
          refine TD.app1 0 rfl .u (us := [.int .i64 x18.fIndex]) (u := x18.fIndex) (l := y7) (E := intE) Tryz.underlying104 inf_cursitorref20_3 rfl (by decide) rfl rfl rfl rfl rfl rfl (fun _ _ => rfl) (by have hq := c25; omega) (by have hq := c25; omega) rfl [2, 2, 2] (fun _ _ => rfl) (fun A26 c27 => ?_)
          refine TD.sel [0, 0, 0, 0, 0] rfl ?_
          refine TD.run ft_cursitorref20_ok [10] rfl rfl ?_
          refine TD.st1 (cs' := #[.string (bsOf a0.fName), .slice A26 (y7 ++ [x18.fIndex]).length c27]) rfl .u rfl rfl Tryz.sizeOf104 rfl rfl rfl rfl [2, 2, 2] (rfl) ?_
          exact TD.nil (X.jn [0, 0, 0, 0, 0] ⟨b24, A26, c27, rfl, rfl⟩ (by rfl) (by rfl))
        · refine TD.lit (cells := #[.int .i64 x18.fIndex]) rfl .u sok_cursitorref20_104_1 rfl (by rfl) rfl [3, 3, 3] (fun _ => rfl) (fun b24 => ?_)
          refine TD.ny rfl .u (Ex.b1 2 rfl Tryz.isAgg104 rfl rfl) rfl [3, 3, 3] rfl ?_
          refine TD.app1 0 rfl .u (us := [.int .i64 x18.fIndex]) (u := x18.fIndex) (l := y7) (E := intE) Tryz.underlying104 inf_cursitorref20_3 rfl (by decide) rfl rfl rfl rfl rfl rfl (fun _ _ => rfl) (by have hq := c25; omega) (by have hq := c25; omega) rfl [2, 2, 2] (fun _ _ => rfl) (fun A26 c27 => ?_)
          refine TD.sel [0, 0, 0, 0, 0] rfl ?_
          refine TD.run ft_cursitorref20_ok [10] rfl rfl ?_
          refine TD.st1 (cs' := #[.string (bsOf a0.fName), .slice A26 (y7 ++ [x18.fIndex]).length c27]) rfl .u rfl rfl Tryz.sizeOf104 rfl rfl rfl rfl [2, 2, 2] (rfl) ?_
          exact TD.nil (X.jn [0, 0, 0, 0, 0] ⟨b24, A26, c27, rfl, rfl⟩ (by rfl) (by rfl))
      · rintro _ _ ⟨b24, A26, c27, rfl, rfl⟩
        refine X.blk (X.seq (T.region rfl ?_))
        replace h := guard_some h
        obtain ⟨c28, h⟩ := h
        refine TL.run ft_cursitorref20_ok [0] rfl rfl ?_
        refine TL.q rfl .u (Ex.add rfl rfl c28) rfl ?_
        refine TL.run ft_cursitorref20_ok [2] rfl rfl ?_
        exact TL.nil (X.back (m' := m13) [0, 0, 0, 0, 0] (by omega) ⟨k6 + 1, (y7 ++ [x18.fIndex]), A26, c27, rfl, rfl, h⟩ (by rfl) (by rfl))
    · replace h := ifF c17 h
      refine TL.nil (X.seq ?_)
      refine T.no rfl (decide_eq_false c17) ?_
      obtain rfl := Option.some.inj h
      replace h := hO12
      clear hO12
      try dsimp only at h
      refine T.exit (X.exs (X.exs (X.ex (X.seq (T.seq (T.region rfl ?_))))))
      refine TL.q rfl .u (Ex.bS (us := [.string (bsOf a0.fName), .slice A8 y7.length c9]) 1 rfl Tryz.isAgg106 Tryz.sizeOf106 rfl rfl rfl) rfl ?_
      refine TL.st2 (cs' := #[.string (bsOf a0.fName), .slice A8 y7.length c9]) rfl .u rfl rfl Tryz.sizeOf106 rfl rfl rfl rfl ?_
      obtain rfl := Option.some.inj h
      refine TL.nil (X.seq (T.ret ?_))
      refine X.shut (by decide) 0 rfl ?_
      refine X.sel [0, 0, 0, 0, 0] rfl ?_
      exact X.done1 [4, 0] Tryz.results42 (RV.cS (us := #[.string (bsOf a0.fName), .slice A8 y7.length c9]) 2 rfl Tryz.isAgg106 Tryz.sizeOf106 rfl rfl) ⟨_, _, rfl, rfl, rfl⟩ (by rfl) (.inl rfl)
def f_r20_rise_l1 (a0 : List R20Topic) : Nat → Int → List Top → Nat → Option (Lp Int (Int × List Top × Nat))
  | 0, _, _, _ => none
  | m13 + 1, y5, y6, k9 => if (k9 : Int) < (a0.length : Int) then ((a0[k9]?).bind fun x18 => if (x18.fParts.length : Int) = 0 then some (Lp.ret 10) else ((f_r20_plain x18).bind fun x25 => if (y6.length + 1) * 40 ≤ 140737488355328 then ((f_r14_Rise (y6 ++ [x25])).bind fun x33 => if x33 = true then (if -9223372036854775808 ≤ ((k9 : Int) + 1) ∧ ((k9 : Int) + 1) ≤ 9223372036854775807 then (f_r20_rise_l1 a0 m13 y5 (y6 ++ [x25]) (k9 + 1)) else none) else some (Lp.ret 13)) else none)) else (some (Lp.go (y5, y6, k9)))
def f_r20_rise (a0 : List R20Topic) : Option (Int) := if (a0.length : Int) = 0 then some 10 else ((f_r20_rise_l1 a0 (((a0.length : Int)).toNat + 1) 0 ([] : List Top) 0).bind fun e => match e with | .ret r => some r | .go (y37, y38, k41) => some 0)
set_option maxRecDepth 100000 in
set_option maxHeartbeats 4000000 in
theorem f_r20_rise_spec (a0 : List R20Topic) (A1 : Option Addr) (c2 : Nat) (r : Int) (h : f_r20_rise a0 = some r) : SpecX Tryz.prog 19 #[.slice A1 a0.length c2] (RX.of (sliceRd 2 R20Topic_rd) [.slice A1 a0.length c2] a0) (EmpR) (fun v A' N => v = .int .i64 r ∧ A' = EmpR ∧ N = []) := by
  refine enterA Tryz.func19 rfl Tryz.ntmps19 rfl ?_
  intro F w hX
  unfold f_r20_rise at h
  refine T.seq (T.region rfl ?_)
  refine TL.run ft_cursitorref20_ok [0] rfl rfl ?_
  refine TL.nil (X.seq (T.seq (T.seq (T.region rfl ?_))))
  refine TL.run ft_cursitorref20_ok [0] rfl rfl ?_
  refine TL.q rfl .u (Ex.lenS rfl Tryz.runUnderlying38) rfl ?_
  refine TL.run ft_cursitorref20_ok [2] rfl rfl ?_
  by_cases c3 : (a0.length : Int) = 0
  · replace h := ifT c3 h
    refine TL.nil (X.seq ?_)
    refine T.yes rfl (decide_eq_true c3) ?_
    refine T.seq (T.region rfl ?_)
    refine TL.run ft_cursitorref20_ok [0] rfl rfl ?_
    obtain rfl := Option.some.inj h
    exact TL.nil (X.seq (T.ret (X.rs (X.done1 [0] Tryz.results19 (RV.tm rfl) ⟨rfl, rfl, rfl⟩ (by rfl) (.inl rfl)))))
  · replace h := ifF c3 h
    refine TL.nil (X.seq ?_)
    refine T.no rfl (decide_eq_false c3) ?_
    refine T.skip (X.seq (T.seq (T.region rfl ?_)))
    refine TL.lit (cells := #[]) rfl .u sok_cursitorref20_60_0 rfl (by rfl) rfl (fun b4 => ?_)
    refine TL.rowOf (us := []) (xs := ([] : List Top)) (E := Top_rd) (z := 2) rfl (Nat.le_of_ble_eq_true rfl) (fun _ => rfl) ?_
    refine TL.run ft_cursitorref20_ok [1] rfl rfl ?_
    refine TL.nil (X.seq (T.seq (T.seq (T.region rfl ?_))))
    refine TL.run ft_cursitorref20_ok [0] rfl rfl ?_
    refine TL.nil (X.seq (T.block ?_))
    obtain ⟨E10, hE11, hO12⟩ := Option.bind_eq_some_iff.1 h
    refine T.lp (fun m e Rs => ∃ (y5 : Int) (y6 : List Top) (A7 : Option Addr) (c8 : Nat) (k9 : Nat), e = [(0, .slice A1 a0.length c2), (2, .int .i64 y5), (3, .slice A7 y6.length c8), (4, .int .i64 (k9 : Int))] ∧ Rs = [OwnR 106 2 Top_rd (.slice A7 y6.length c8) y6, EmpR] ∧ f_r20_rise_l1 a0 m y5 y6 k9 = some E10) (((a0.length : Int)).toNat + 1) [0, 0] ⟨0, ([] : List Top), (some ⟨b4, 0, none⟩), 0, 0, rfl, rfl, by exact hE11⟩ (by rfl) (by rfl) ?_
    rintro m13 _ _ ⟨y5, y6, A7, c8, k9, rfl, rfl, hl15⟩
    clear hE11 h
    cases m13 with
    | zero =>
      rw [f_r20_rise_l1] at hl15
      cases hl15
    | succ m13 =>
      have h := hl15
      clear hl15
      rw [f_r20_rise_l1] at h
      refine T.seq (T.seq (T.region rfl ?_))
      refine TL.run ft_cursitorref20_ok [0, 1] rfl rfl ?_
      refine TL.q rfl .u (Ex.lenS rfl Tryz.runUnderlying38) rfl ?_
      refine TL.run ft_cursitorref20_ok [3] rfl rfl ?_
      by_cases c17 : (k9 : Int) < (a0.length : Int)
      · replace h := ifT c17 h
        refine TL.nil (X.seq ?_)
        refine T.yes rfl (decide_eq_true c17) ?_
        refine T.skip (X.seq (T.seq (T.block (T.seq (T.seq (T.region rfl ?_))))))
        obtain ⟨x18, hx19, h⟩ := Option.bind_eq_some_iff.1 h
        obtain ⟨gz20, oz20, rfl, z20cs, z20cl, z20cc, z20nf, z20r⟩ := RX.elem (by decide) hX hx19
        obtain ⟨z20S, z20r, z20rr⟩ := z20r
        obtain ⟨A21, c22, rfl, z20s0⟩ := z20r
        have hX23 : (RX.of (sliceRd 2 R20Part_rd) [.slice A21 x18.fParts.length c22] x18.fParts).reads w F := ⟨z20S, z20s0, z20rr⟩
        refine TL.run ft_cursitorref20_ok [0, 1] rfl rfl ?_
        refine TL.q rfl .u (Ex.ixS (k := k9) rfl rfl rfl Tryz.runUnderlying38 Tryz.sizeOf69 (List.getElem?_eq_some_iff.1 hx19).1) rfl ?_
        refine TL.run ft_cursitorref20_ok [3] rfl rfl ?_
        refine TL.q rfl .u (Ex.o1 1 rfl Tryz.isAgg67 z20nf z20cc rfl rfl) rfl ?_
        refine TL.q rfl .u (Ex.lenS rfl Tryz.runUnderlying67) rfl ?_
        refine TL.run ft_cursitorref20_ok [6] rfl rfl ?_
        by_cases c24 : (x18.fParts.length : Int) = 0
        · replace h := ifT c24 h
          refine TL.nil (X.seq ?_)
          refine T.yes rfl (decide_eq_true c24) ?_
          refine T.seq (T.region rfl ?_)
          refine TL.run ft_cursitorref20_ok [0] rfl rfl ?_
          obtain rfl := Option.some.inj h
          replace h := hO12
          clear hO12
          try dsimp only at h
          obtain rfl := Option.some.inj h
          exact TL.nil (X.seq (T.ret (X.rs (X.rb (X.rs (X.rs (X.rb (X.rs (X.done1 [1] Tryz.results19 (RV.tm rfl) ⟨rfl, rfl, rfl⟩ (by rfl) (.inl rfl))))))))))
        · replace h := ifF c24 h
          refine TL.nil (X.seq ?_)
          refine T.no rfl (decide_eq_false c24) ?_
          refine T.skip (X.seq (T.seq (T.region rfl ?_)))
          refine TL.run ft_cursitorref20_ok [0, 1, 2] rfl rfl ?_
          refine TL.q rfl .u (Ex.ixS (k := k9) rfl rfl rfl Tryz.runUnderlying38 Tryz.sizeOf69 (List.getElem?_eq_some_iff.1 hx19).1) rfl ?_
          refine TL.q rfl .u (Ex.oS (us := [.string (bsOf x18.fName), .slice A21 x18.fParts.length c22]) 0 rfl Tryz.isAgg69 Tryz.sizeOf69 z20nf z20cc rfl rfl rfl) rfl ?_
          obtain ⟨x25, hx28, h⟩ := Option.bind_eq_some_iff.1 h
          refine TL.cge rfl .u (.fn Tryz.call42 rfl) (f_r20_plain_spec x18 _ _ _ hx28) (fun _ hs => (SrcE.old hs hX23)) rfl ?_
          rintro _ _ _ ⟨A26, c27, rfl, rfl, rfl⟩
          refine TL.sel [0, 0, 0] rfl ?_
          refine TL.lit (cells := #[.string (bsOf x25.fName), .slice A26 x25.fParts.length c27]) rfl .u sok_cursitorref20_60_1 rfl (by rfl) rfl (fun b29 => ?_)
          replace h := guard_some h
          obtain ⟨c30, h⟩ := h
          refine TL.app2 1 0 rfl .u (us := [.string (bsOf x25.fName), .slice A26 x25.fParts.length c27]) (u := x25) (l := y6) (E := Top_rd) Tryz.underlying60 inf_cursitorref20_106 rfl (by decide) rfl rfl rfl rfl rfl rfl rfl (fun w G hG => ⟨_, _, rfl, hG.1⟩) (by have hq := c30; omega) (by have hq := c30; omega) rfl (fun A31 c32 => ?_)
          refine TL.sel [0, 0] rfl ?_
          refine TL.run ft_cursitorref20_ok [8] rfl rfl ?_
          refine TL.nil (X.seq (T.seq (T.region rfl ?_)))
          obtain ⟨x33, hx34, h⟩ := Option.bind_eq_some_iff.1 h
          refine TL.run ft_cursitorref20_ok [0] rfl rfl ?_
          refine TL.ce rfl .u (.fn Tryz.call43 rfl) (f_r14_Rise_spec (y6 ++ [x25]) _ _ _ hx34) (fun _ hs => (SrcE.res 0 hs rfl (fun w G h => own_reads (by decide) w G h))) rfl ?_
          refine TL.run ft_cursitorref20_ok [2] rfl rfl ?_
          by_cases c35 : x33 = true
          · replace h := ifT c35 h
            refine TL.nil (X.seq ?_)
            refine T.no rfl (bn_f c35) ?_
            refine T.skip (X.blk (X.seq (T.region rfl ?_)))
            replace h := guard_some h
            obtain ⟨c36, h⟩ := h
            refine TL.run ft_cursitorref20_ok [0] rfl rfl ?_
            refine TL.q rfl .u (Ex.add rfl rfl c36) rfl ?_
            refine TL.run ft_cursitorref20_ok [2] rfl rfl ?_
            exact TL.nil (X.back (m' := m13) [0, 0] (by omega) ⟨y5, (y6 ++ [x25]), A31, c32, k9 + 1, rfl, rfl, h⟩ (by rfl) (by rfl))
          · replace h := ifF c35 h
            replace c35 := eq_false_of_ne_true c35
            refine TL.nil (X.seq ?_)
            refine T.yes rfl (bn_t c35) ?_
            refine T.seq (T.region rfl ?_)
            refine TL.run ft_cursitorref20_ok [0] rfl rfl ?_
            obtain rfl := Option.some.inj h
            replace h := hO12
            clear hO12
            try dsimp only at h
            obtain rfl := Option.some.inj h
            exact TL.nil (X.seq (T.ret (X.rb (X.rs (X.rs (X.rb (X.rs (X.done1 [1] Tryz.results19 (RV.tm rfl) ⟨rfl, rfl, rfl⟩ (by rfl) (.inl rfl)))))))))
      · replace h := ifF c17 h
        refine TL.nil (X.seq ?_)
        refine T.no rfl (decide_eq_false c17) ?_
        obtain rfl := Option.some.inj h
        replace h := hO12
        clear hO12
        try dsimp only at h
        refine T.exit (X.exs (X.exs (X.ex (X.seq (T.seq (T.region rfl ?_))))))
        refine TL.run ft_cursitorref20_ok [0] rfl rfl ?_
        obtain rfl := Option.some.inj h
        exact TL.nil (X.seq (T.ret (X.done1 [1] Tryz.results19 (RV.tm rfl) ⟨rfl, rfl, rfl⟩ (by rfl) (.inl rfl))))
def f_r20_batches_l1 (a0 : List Bat) (a1 : Bool) : Nat → Int → Nat → Option (Lp Int (Int × Nat))
  | 0, _, _ => none
  | m16 + 1, y11, k12 => if (k12 : Int) < (a0.length : Int) then ((a0[k12]?).bind fun x21 => (f_r11_Check x21).bind fun x27 => if x27 = 0 then (if x21.fControl = true then some (Lp.ret 12) else (if (x21.fTxn == a1) = true then (if -9223372036854775808 ≤ ((k12 : Int) + 1) ∧ ((k12 : Int) + 1) ≤ 9223372036854775807 then (f_r20_batches_l1 a0 a1 m16 y11 (k12 + 1)) else none) else some (Lp.ret 8))) else some (Lp.ret x27)) else (some (Lp.go (y11, k12)))
def f_r20_batches (a0 : List Bat) (a1 : Bool) (a2 : Int) : Option (Int) := (if (a0.length : Int) = 0 then some true else (if a2 = 3 then (if (a0.length : Int) > 1 then some true else some false) else some false)).bind fun y5 => if y5 = true then some 10 else ((f_r20_batches_l1 a0 a1 (((a0.length : Int)).toNat + 1) 0 0).bind fun e => match e with | .ret r => some r | .go (y33, k34) => some 0)
set_option maxRecDepth 100000 in
set_option maxHeartbeats 4000000 in
theorem f_r20_batches_spec (a0 : List Bat) (A1 : Option Addr) (c2 : Nat) (a1 : Bool) (a2 : Int) (r : Int) (h : f_r20_batches a0 a1 a2 = some r) : SpecX Tryz.prog 20 #[.slice A1 a0.length c2, .bool a1, .int .i64 a2] (RX.of (sliceRd 12 Bat_rd) [.slice A1 a0.length c2] a0) (EmpR) (fun v A' N => v = .int .i64 r ∧ A' = EmpR ∧ N = []) := by
  refine enterA Tryz.func20 rfl Tryz.ntmps20 rfl ?_
  intro F w hX
  unfold f_r20_batches at h
  refine T.seq (T.region rfl ?_)
  refine TL.run ft_cursitorref20_ok [0] rfl rfl ?_
  refine TL.nil (X.seq (T.seq (T.seq ?_)))
  obtain ⟨y5, h, hk6⟩ := Option.bind_eq_some_iff.1 h
  refine T.jq (fun e Rs => e = [(0, .slice A1 a0.length c2), (1, .bool a1), (6, .int .i64 0), (20, .bool y5)] ∧ Rs = [EmpR]) ?_ ?_
  · clear hk6
    refine T.region rfl ?_
    refine TL.run ft_cursitorref20_ok [0] rfl rfl ?_
    refine TL.q rfl .u (Ex.lenS rfl Tryz.runUnderlying52) rfl ?_
    by_cases c7 : (a0.length : Int) = 0
    · replace h := ifT c7 h
      refine TL.run ft_cursitorref20_ok [2, 3] rfl rfl ?_
      refine TL.hv 12 rfl (decide_eq_true c7) ?_
      refine TL.rw ft_cursitorref20_ok 8 rfl ?_
      cases h
      exact TL.nil (X.jq [0] ⟨rfl, rfl⟩ (by rfl) (by rfl))
    · replace h := ifF c7 h
      refine TL.run ft_cursitorref20_ok [2, 3] rfl rfl ?_
      refine TL.hv 12 rfl (decide_eq_false c7) ?_
      by_cases c8 : a2 = 3
      · replace h := ifT c8 h
        refine TL.rw ft_cursitorref20_ok 3 rfl ?_
        refine TL.hv 15 rfl (decide_eq_true c8) ?_
        refine TL.rw ft_cursitorref20_ok 1 rfl ?_
        refine TL.q rfl (.g rfl rfl rfl) (Ex.lenS rfl Tryz.runUnderlying52) rfl ?_
        refine TL.rw ft_cursitorref20_ok 3 rfl ?_
        by_cases c9 : (a0.length : Int) > 1
        · replace h := ifT c9 h
          cases h
          exact TL.nil (X.as (d := 20) (v' := .bool true) rfl (congrArg Value.bool (decide_eq_true c9)) (X.jq [0] ⟨rfl, rfl⟩ (by rfl) (by rfl)))
        · replace h := ifF c9 h
          cases h
          exact TL.nil (X.as (d := 20) (v' := .bool false) rfl (congrArg Value.bool (decide_eq_false c9)) (X.jq [0] ⟨rfl, rfl⟩ (by rfl) (by rfl)))
      · replace h := ifF c8 h
        refine TL.rw ft_cursitorref20_ok 3 rfl ?_
        refine TL.hv 15 rfl (decide_eq_false c8) ?_
        refine TL.rw ft_cursitorref20_ok 5 rfl ?_
        cases h
        exact TL.nil (X.jq [0] ⟨rfl, rfl⟩ (by rfl) (by rfl))
  · rintro _ _ ⟨rfl, rfl⟩
    clear h
    have h := hk6
    clear hk6
    try dsimp only at h
    by_cases c10 : y5 = true
    · replace h := ifT c10 h
      refine X.seq ?_
      refine T.yes rfl c10 ?_
      refine T.seq (T.region rfl ?_)
      refine TL.run ft_cursitorref20_ok [0] rfl rfl ?_
      obtain rfl := Option.some.inj h
      exact TL.nil (X.seq (T.ret (X.rs (X.done1 [0] Tryz.results20 (RV.tm rfl) ⟨rfl, rfl, rfl⟩ (by rfl) (.inl rfl)))))
    · replace h := ifF c10 h
      replace c10 := eq_false_of_ne_true c10
      refine X.seq ?_
      refine T.no rfl c10 ?_
      refine T.skip (X.seq (T.seq (T.seq (T.region rfl ?_))))
      refine TL.run ft_cursitorref20_ok [0] rfl rfl ?_
      refine TL.nil (X.seq (T.block ?_))
      obtain ⟨E13, hE14, hO15⟩ := Option.bind_eq_some_iff.1 h
      refine T.lp (fun m e Rs => ∃ (y11 : Int) (k12 : Nat), e = [(0, .slice A1 a0.length c2), (1, .bool a1), (6, .int .i64 y11), (7, .int .i64 (k12 : Int))] ∧ Rs = [EmpR] ∧ f_r20_batches_l1 a0 a1 m y11 k12 = some E13) (((a0.length : Int)).toNat + 1) [0] ⟨0, 0, rfl, rfl, by exact hE14⟩ (by rfl) (by rfl) ?_
      rintro m16 _ _ ⟨y11, k12, rfl, rfl, hl18⟩
      clear hE14 h
      cases m16 with
      | zero =>
        rw [f_r20_batches_l1] at hl18
        cases hl18
      | succ m16 =>
        have h := hl18
        clear hl18
        rw [f_r20_batches_l1] at h
        refine T.seq (T.seq (T.region rfl ?_))
        refine TL.run ft_cursitorref20_ok [0, 1] rfl rfl ?_
        refine TL.q rfl .u (Ex.lenS rfl Tryz.runUnderlying52) rfl ?_
        refine TL.run ft_cursitorref20_ok [3] rfl rfl ?_
        by_cases c20 : (k12 : Int) < (a0.length : Int)
        · replace h := ifT c20 h
          refine TL.nil (X.seq ?_)
          refine T.yes rfl (decide_eq_true c20) ?_
          refine T.skip (X.seq (T.seq (T.block (T.seq (T.region rfl ?_)))))
          obtain ⟨x21, hx22, h⟩ := Option.bind_eq_some_iff.1 h
          obtain ⟨gz23, oz23, rfl, z23cs, z23cl, z23cc, z23nf, z23r⟩ := RX.elem (by decide) hX hx22
          obtain ⟨z23S, z23r, z23rr⟩ := z23r
          obtain ⟨A24, c25, rfl, z23s0⟩ := z23r
          have hX26 : (RX.of (sliceRd 7 Rec_rd) [.slice A24 x21.fRecords.length c25] x21.fRecords).reads w F := ⟨z23S, z23s0, z23rr⟩
          refine TL.run ft_cursitorref20_ok [0, 1] rfl rfl ?_
          refine TL.q rfl .u (Ex.ixS (k := k12) rfl rfl rfl Tryz.runUnderlying52 Tryz.sizeOf30 (List.getElem?_eq_some_iff.1 hx22).1) rfl ?_
          refine TL.q rfl .u (Ex.oS (us := [.int .i64 x21.fBase, .int .i64 x21.fLeader, .bool x21.fAppend, .bool x21.fTxn, .bool x21.fControl, .int .i64 x21.fLast, .int .i64 x21.fFirst, .int .i64 x21.fMax, .int .i64 x21.fProducer, .int .i64 x21.fEpoch, .int .i64 x21.fSequence, .slice A24 x21.fRecords.length c25]) 0 rfl Tryz.isAgg30 Tryz.sizeOf30 z23nf z23cc rfl rfl rfl) rfl ?_
          obtain ⟨x27, hx28, h⟩ := Option.bind_eq_some_iff.1 h
          refine TL.ce rfl .u (.fn Tryz.call44 rfl) (f_r11_Check_spec x21 _ _ _ hx28) (fun _ hs => (SrcE.old hs hX26)) rfl ?_
          refine TL.run ft_cursitorref20_ok [5] rfl rfl ?_
          refine TL.nil (X.seq (T.seq (T.seq (T.region rfl ?_))))
          refine TL.run ft_cursitorref20_ok [0, 1] rfl rfl ?_
          by_cases c29 : x27 = 0
          · replace h := ifT c29 h
            refine TL.nil (X.seq ?_)
            refine T.no rfl (bn_f (decide_eq_true c29)) ?_
            refine T.skip (X.seq (T.seq (T.seq (T.region rfl ?_))))
            refine TL.run ft_cursitorref20_ok [0, 1] rfl rfl ?_
            refine TL.q rfl .u (Ex.ixS (k := k12) rfl rfl rfl Tryz.runUnderlying52 Tryz.sizeOf30 (List.getElem?_eq_some_iff.1 hx22).1) rfl ?_
            refine TL.run ft_cursitorref20_ok [3] rfl rfl ?_
            refine TL.q rfl .u (Ex.o1 4 rfl Tryz.isAgg4 z23nf z23cc rfl rfl) rfl ?_
            by_cases c30 : x21.fControl = true
            · replace h := ifT c30 h
              refine TL.nil (X.seq ?_)
              refine T.yes rfl c30 ?_
              refine T.seq (T.region rfl ?_)
              refine TL.run ft_cursitorref20_ok [0] rfl rfl ?_
              obtain rfl := Option.some.inj h
              replace h := hO15
              clear hO15
              try dsimp only at h
              obtain rfl := Option.some.inj h
              exact TL.nil (X.seq (T.ret (X.rs (X.rb (X.rs (X.rs (X.rb (X.rs (X.done1 [0] Tryz.results20 (RV.tm rfl) ⟨rfl, rfl, rfl⟩ (by rfl) (.inl rfl))))))))))
            · replace h := ifF c30 h
              replace c30 := eq_false_of_ne_true c30
              refine TL.nil (X.seq ?_)
              refine T.no rfl c30 ?_
              refine T.skip (X.seq (T.seq (T.region rfl ?_)))
              refine TL.run ft_cursitorref20_ok [0, 1] rfl rfl ?_
              refine TL.q rfl .u (Ex.ixS (k := k12) rfl rfl rfl Tryz.runUnderlying52 Tryz.sizeOf30 (List.getElem?_eq_some_iff.1 hx22).1) rfl ?_
              refine TL.run ft_cursitorref20_ok [3] rfl rfl ?_
              refine TL.q rfl .u (Ex.o1 3 rfl Tryz.isAgg4 z23nf z23cc rfl rfl) rfl ?_
              refine TL.run ft_cursitorref20_ok [5] rfl rfl ?_
              refine TL.q rfl .u (Ex.bNe rfl rfl rfl rfl Tryz.runUnderlying4) rfl ?_
              by_cases c31 : (x21.fTxn == a1) = true
              · replace h := ifT c31 h
                refine TL.nil (X.seq ?_)
                refine T.no rfl (bn_f c31) ?_
                refine T.skip (X.blk (X.seq (T.region rfl ?_)))
                replace h := guard_some h
                obtain ⟨c32, h⟩ := h
                refine TL.run ft_cursitorref20_ok [0] rfl rfl ?_
                refine TL.q rfl .u (Ex.add rfl rfl c32) rfl ?_
                refine TL.run ft_cursitorref20_ok [2] rfl rfl ?_
                exact TL.nil (X.back (m' := m16) [0] (by omega) ⟨y11, k12 + 1, rfl, rfl, h⟩ (by rfl) (by rfl))
              · replace h := ifF c31 h
                replace c31 := eq_false_of_ne_true c31
                refine TL.nil (X.seq ?_)
                refine T.yes rfl (bn_t c31) ?_
                refine T.seq (T.region rfl ?_)
                refine TL.run ft_cursitorref20_ok [0] rfl rfl ?_
                obtain rfl := Option.some.inj h
                replace h := hO15
                clear hO15
                try dsimp only at h
                obtain rfl := Option.some.inj h
                exact TL.nil (X.seq (T.ret (X.rb (X.rs (X.rs (X.rb (X.rs (X.done1 [0] Tryz.results20 (RV.tm rfl) ⟨rfl, rfl, rfl⟩ (by rfl) (.inl rfl)))))))))
          · replace h := ifF c29 h
            refine TL.nil (X.seq ?_)
            refine T.yes rfl (bn_t (decide_eq_false c29)) ?_
            refine T.seq (T.region rfl ?_)
            refine TL.run ft_cursitorref20_ok [0, 1] rfl rfl ?_
            obtain rfl := Option.some.inj h
            replace h := hO15
            clear hO15
            try dsimp only at h
            obtain rfl := Option.some.inj h
            exact TL.nil (X.seq (T.ret (X.rs (X.rb (X.rs (X.rs (X.rb (X.rs (X.done1 [0] Tryz.results20 (RV.tm rfl) ⟨rfl, rfl, rfl⟩ (by rfl) (.inl rfl))))))))))
        · replace h := ifF c20 h
          refine TL.nil (X.seq ?_)
          refine T.no rfl (decide_eq_false c20) ?_
          obtain rfl := Option.some.inj h
          replace h := hO15
          clear hO15
          try dsimp only at h
          refine T.exit (X.exs (X.exs (X.ex (X.seq (T.seq (T.region rfl ?_))))))
          refine TL.run ft_cursitorref20_ok [0] rfl rfl ?_
          obtain rfl := Option.some.inj h
          exact TL.nil (X.seq (T.ret (X.done1 [0] Tryz.results20 (RV.tm rfl) ⟨rfl, rfl, rfl⟩ (by rfl) (.inl rfl))))
def f_r20_Check_l2 (a0 : R20Request) (a1 : Int) (k28 : Nat) : Nat → Int → Nat → Option (Lp Int (Int × Nat))
  | 0, _, _ => none
  | m42 + 1, y37, k38 => (a0.fTopics[k28]?).bind fun x46 => if (k38 : Int) < (x46.fParts.length : Int) then ((x46.fParts[k38]?).bind fun x53 => if a0.fID.null = true then ((f_r20_batches x53.fBatches false a1).bind fun x60 => if x60 = 0 then (if -9223372036854775808 ≤ ((k38 : Int) + 1) ∧ ((k38 : Int) + 1) ≤ 9223372036854775807 then (f_r20_Check_l2 a0 a1 k28 m42 y37 (k38 + 1)) else none) else some (Lp.ret x60)) else ((f_r20_batches x53.fBatches true a1).bind fun x64 => if x64 = 0 then (if -9223372036854775808 ≤ ((k38 : Int) + 1) ∧ ((k38 : Int) + 1) ≤ 9223372036854775807 then (f_r20_Check_l2 a0 a1 k28 m42 y37 (k38 + 1)) else none) else some (Lp.ret x64))) else (some (Lp.go (y37, k38)))
def f_r20_Check_l1 (a0 : R20Request) (a1 : Int) : Nat → Int → Nat → Option (Lp Int (Int × Nat))
  | 0, _, _ => none
  | m32 + 1, y27, k28 => if (k28 : Int) < (a0.fTopics.length : Int) then ((f_r20_Check_l2 a0 a1 k28 (((a0.fTopics[k28]?).map (fun x37 => ((x37.fParts.length : Int)).toNat + 1)).getD 0) y27 0).bind fun e => match e with | .ret r => some (Lp.ret r) | .go (y69, k70) => (if -9223372036854775808 ≤ ((k28 : Int) + 1) ∧ ((k28 : Int) + 1) ≤ 9223372036854775807 then (f_r20_Check_l1 a0 a1 m32 y69 (k28 + 1)) else none)) else (some (Lp.go (y27, k28)))
theorem f_r20_Check_l1_z (a0 : R20Request) (a1 : Int) (u1 : Int) (u2 : Nat) : f_r20_Check_l1 a0 a1 0 u1 u2 = none := rfl
theorem f_r20_Check_l1_s (a0 : R20Request) (a1 : Int) (m32 : Nat) (y27 : Int) (k28 : Nat) : f_r20_Check_l1 a0 a1 (m32 + 1) y27 k28 = (if (k28 : Int) < (a0.fTopics.length : Int) then ((f_r20_Check_l2 a0 a1 k28 (((a0.fTopics[k28]?).map (fun x37 => ((x37.fParts.length : Int)).toNat + 1)).getD 0) y27 0).bind fun e => match e with | .ret r => some (Lp.ret r) | .go (y69, k70) => (if -9223372036854775808 ≤ ((k28 : Int) + 1) ∧ ((k28 : Int) + 1) ≤ 9223372036854775807 then (f_r20_Check_l1 a0 a1 m32 y69 (k28 + 1)) else none)) else (some (Lp.go (y27, k28)))) := rfl
def f_r20_Check (a0 : R20Request) (a1 : Int) : Option (Int) := (if a0.fID.null = true then (if a0.fID.data = [] then some false else some true) else (if (a0.fID.data.length : Int) < 1 then some true else (if (a0.fID.data.length : Int) > 32767 then some true else some false))).bind fun y7 => if y7 = true then some 4 else ((if a0.fAcks < (-1) then some true else (if a0.fAcks > 1 then some true else (if a0.fTimeout < 0 then some true else (if a0.fTimeout > 2147483647 then some true else some false)))).bind fun y17 => if y17 = true then some 11 else ((f_r20_rise a0.fTopics).bind fun x24 => if x24 = 0 then ((f_r20_Check_l1 a0 a1 (((a0.fTopics.length : Int)).toNat + 1) 0 0).bind fun e => match e with | .ret r => some r | .go (y72, k73) => some 0) else some x24))
set_option maxRecDepth 100000 in
set_option maxHeartbeats 4000000 in
theorem f_r20_Check_spec (a0 : R20Request) (A1 : Option Addr) (c2 : Nat) (a1 : Int) (r : Int) (h : f_r20_Check a0 a1 = some r) : SpecX Tryz.prog 8 #[.agg #[.bool a0.fID.null, .string (bsOf a0.fID.data), .int .i64 a0.fAcks, .int .i64 a0.fTimeout, .slice A1 a0.fTopics.length c2], .int .i64 a1] (RX.of (sliceRd 2 R20Topic_rd) [.slice A1 a0.fTopics.length c2] a0.fTopics) (EmpR) (fun v A' N => v = .int .i64 r ∧ A' = EmpR ∧ N = []) := by
  refine enterA Tryz.func8 rfl Tryz.ntmps8 rfl ?_
  intro F w hX
  unfold f_r20_Check at h
  refine T.seq (T.region rfl ?_)
  refine TL.box rfl .u rfl rfl (fun b3 => ?_)
  refine TL.run ft_cursitorref20_ok [1] rfl rfl ?_
  refine TL.nil (X.seq (T.seq (T.seq ?_)))
  obtain ⟨y7, h, hk8⟩ := Option.bind_eq_some_iff.1 h
  refine T.jq (fun e Rs => e = [(1, .int .i64 a1), (2, .pointer (some ⟨b3, 0, none⟩)), (4, .int .i64 0), (37, .bool y7)] ∧ Rs = [BlkR b3 40 #[.bool a0.fID.null, .string (bsOf a0.fID.data), .int .i64 a0.fAcks, .int .i64 a0.fTimeout, .slice A1 a0.fTopics.length c2], EmpR]) ?_ ?_
  · clear hk8
    refine T.region rfl ?_
    by_cases c9 : a0.fID.null = true
    · replace h := ifT c9 h
      refine TL.rb ft_cursitorref20_ok nt_cursitorref20_ok 0 rfl 4 rfl rfl ?_
      refine TL.hv 12 rfl c9 ?_
      refine TL.rb ft_cursitorref20_ok nt_cursitorref20_ok 0 rfl 3 rfl rfl ?_
      refine TL.q rfl (.g rfl rfl rfl) (Ex.sNe rfl (m := []) rfl) rfl ?_
      by_cases c10 : a0.fID.data = []
      · replace h := ifT c10 h
        refine TL.rw ft_cursitorref20_ok 2 rfl ?_
        refine TL.hv 18 rfl (bn_f (decide_eq_true c10)) ?_
        refine TL.rb ft_cursitorref20_ok nt_cursitorref20_ok 0 rfl 5 rfl rfl ?_
        refine TL.hv 23 rfl (bn_f c9) ?_
        refine TL.rw ft_cursitorref20_ok 14 rfl ?_
        cases h
        exact TL.nil (X.jq [0, 0] ⟨rfl, rfl⟩ (by rfl) (by rfl))
      · replace h := ifF c10 h
        refine TL.rw ft_cursitorref20_ok 2 rfl ?_
        refine TL.hv 18 rfl (bn_t (decide_eq_false c10)) ?_
        refine TL.rw ft_cursitorref20_ok 19 rfl ?_
        cases h
        exact TL.nil (X.jq [0, 0] ⟨rfl, rfl⟩ (by rfl) (by rfl))
    · replace h := ifF c9 h
      replace c9 := eq_false_of_ne_true c9
      refine TL.rb ft_cursitorref20_ok nt_cursitorref20_ok 0 rfl 4 rfl rfl ?_
      refine TL.hv 12 rfl c9 ?_
      refine TL.rb ft_cursitorref20_ok nt_cursitorref20_ok 0 rfl 11 rfl rfl ?_
      refine TL.hv 23 rfl (bn_t c9) ?_
      refine TL.rb ft_cursitorref20_ok nt_cursitorref20_ok 0 rfl 3 rfl rfl ?_
      refine TL.q rfl (.g rfl rfl rfl) (Ex.lenB rfl Tryz.runUnderlying9) rfl ?_
      by_cases c11 : (a0.fID.data.length : Int) < 1
      · replace h := ifT c11 h
        refine TL.rw ft_cursitorref20_ok 2 rfl ?_
        refine TL.hv 29 rfl (decide_eq_true c11) ?_
        refine TL.rw ft_cursitorref20_ok 8 rfl ?_
        cases h
        exact TL.nil (X.jq [0, 0] ⟨rfl, rfl⟩ (by rfl) (by rfl))
      · replace h := ifF c11 h
        refine TL.rw ft_cursitorref20_ok 2 rfl ?_
        refine TL.hv 29 rfl (decide_eq_false c11) ?_
        refine TL.rb ft_cursitorref20_ok nt_cursitorref20_ok 0 rfl 3 rfl rfl ?_
        refine TL.q rfl (.g rfl rfl rfl) (Ex.lenB rfl Tryz.runUnderlying9) rfl ?_
        refine TL.rw ft_cursitorref20_ok 4 rfl ?_
        by_cases c12 : (a0.fID.data.length : Int) > 32767
        · replace h := ifT c12 h
          cases h
          exact TL.nil (X.as (d := 37) (v' := .bool true) rfl (congrArg Value.bool (decide_eq_true c12)) (X.jq [0, 0] ⟨rfl, rfl⟩ (by rfl) (by rfl)))
        · replace h := ifF c12 h
          cases h
          exact TL.nil (X.as (d := 37) (v' := .bool false) rfl (congrArg Value.bool (decide_eq_false c12)) (X.jq [0, 0] ⟨rfl, rfl⟩ (by rfl) (by rfl)))
  · rintro _ _ ⟨rfl, rfl⟩
    clear h
    have h := hk8
    clear hk8
    try dsimp only at h
    by_cases c13 : y7 = true
    · replace h := ifT c13 h
      refine X.seq ?_
      refine T.yes rfl c13 ?_
      refine T.seq (T.region rfl ?_)
      refine TL.run ft_cursitorref20_ok [0] rfl rfl ?_
      obtain rfl := Option.some.inj h
      exact TL.nil (X.seq (T.ret (X.rs (X.done1 [1] Tryz.results8 (RV.tm rfl) ⟨rfl, rfl, rfl⟩ (by rfl) (.inl rfl)))))
    · replace h := ifF c13 h
      replace c13 := eq_false_of_ne_true c13
      refine X.seq ?_
      refine T.no rfl c13 ?_
      refine T.skip (X.seq (T.seq (T.seq ?_)))
      obtain ⟨y17, h, hk18⟩ := Option.bind_eq_some_iff.1 h
      refine T.jq (fun e Rs => e = [(1, .int .i64 a1), (2, .pointer (some ⟨b3, 0, none⟩)), (4, .int .i64 0), (55, .bool y17)] ∧ Rs = [BlkR b3 40 #[.bool a0.fID.null, .string (bsOf a0.fID.data), .int .i64 a0.fAcks, .int .i64 a0.fTimeout, .slice A1 a0.fTopics.length c2], EmpR]) ?_ ?_
      · clear hk18
        refine T.region rfl ?_
        by_cases c19 : a0.fAcks < (-1)
        · replace h := ifT c19 h
          refine TL.rb ft_cursitorref20_ok nt_cursitorref20_ok 0 rfl 4 rfl rfl ?_
          refine TL.hv 41 rfl (decide_eq_true c19) ?_
          refine TL.rw ft_cursitorref20_ok 14 rfl ?_
          cases h
          exact TL.nil (X.jq [0, 0] ⟨rfl, rfl⟩ (by rfl) (by rfl))
        · replace h := ifF c19 h
          refine TL.rb ft_cursitorref20_ok nt_cursitorref20_ok 0 rfl 4 rfl rfl ?_
          refine TL.hv 41 rfl (decide_eq_false c19) ?_
          by_cases c20 : a0.fAcks > 1
          · replace h := ifT c20 h
            refine TL.rb ft_cursitorref20_ok nt_cursitorref20_ok 0 rfl 5 rfl rfl ?_
            refine TL.hv 46 rfl (decide_eq_true c20) ?_
            refine TL.rw ft_cursitorref20_ok 9 rfl ?_
            cases h
            exact TL.nil (X.jq [0, 0] ⟨rfl, rfl⟩ (by rfl) (by rfl))
          · replace h := ifF c20 h
            refine TL.rb ft_cursitorref20_ok nt_cursitorref20_ok 0 rfl 5 rfl rfl ?_
            refine TL.hv 46 rfl (decide_eq_false c20) ?_
            by_cases c21 : a0.fTimeout < 0
            · replace h := ifT c21 h
              refine TL.rb ft_cursitorref20_ok nt_cursitorref20_ok 0 rfl 5 rfl rfl ?_
              refine TL.hv 51 rfl (decide_eq_true c21) ?_
              refine TL.rw ft_cursitorref20_ok 4 rfl ?_
              cases h
              exact TL.nil (X.jq [0, 0] ⟨rfl, rfl⟩ (by rfl) (by rfl))
            · replace h := ifF c21 h
              refine TL.rb ft_cursitorref20_ok nt_cursitorref20_ok 0 rfl 5 rfl rfl ?_
              refine TL.hv 51 rfl (decide_eq_false c21) ?_
              refine TL.rb ft_cursitorref20_ok nt_cursitorref20_ok 0 rfl 4 rfl rfl ?_
              by_cases c22 : a0.fTimeout > 2147483647
              · replace h := ifT c22 h
                cases h
                exact TL.nil (X.as (d := 55) (v' := .bool true) rfl (congrArg Value.bool (decide_eq_true c22)) (X.jq [0, 0] ⟨rfl, rfl⟩ (by rfl) (by rfl)))
              · replace h := ifF c22 h
                cases h
                exact TL.nil (X.as (d := 55) (v' := .bool false) rfl (congrArg Value.bool (decide_eq_false c22)) (X.jq [0, 0] ⟨rfl, rfl⟩ (by rfl) (by rfl)))
      · rintro _ _ ⟨rfl, rfl⟩
        clear h
        have h := hk18
        clear hk18
        try dsimp only at h
        by_cases c23 : y17 = true
        · replace h := ifT c23 h
          refine X.seq ?_
          refine T.yes rfl c23 ?_
          refine T.seq (T.region rfl ?_)
          refine TL.run ft_cursitorref20_ok [0] rfl rfl ?_
          obtain rfl := Option.some.inj h
          exact TL.nil (X.seq (T.ret (X.rs (X.done1 [1] Tryz.results8 (RV.tm rfl) ⟨rfl, rfl, rfl⟩ (by rfl) (.inl rfl)))))
        · replace h := ifF c23 h
          replace c23 := eq_false_of_ne_true c23
          refine X.seq ?_
          refine T.no rfl c23 ?_
          refine T.skip (X.seq (T.seq (T.region rfl ?_)))
          obtain ⟨x24, hx25, h⟩ := Option.bind_eq_some_iff.1 h
          refine TL.rb ft_cursitorref20_ok nt_cursitorref20_ok 0 rfl 2 rfl rfl ?_
          refine TL.ce rfl .u (.fn Tryz.call19 rfl) (f_r20_rise_spec a0.fTopics _ _ _ hx25) (fun _ hs => (SrcE.old hs hX)) rfl ?_
          refine TL.run ft_cursitorref20_ok [3] rfl rfl ?_
          refine TL.nil (X.seq (T.seq (T.seq (T.region rfl ?_))))
          refine TL.run ft_cursitorref20_ok [0, 1] rfl rfl ?_
          by_cases c26 : x24 = 0
          · replace h := ifT c26 h
            refine TL.nil (X.seq ?_)
            refine T.no rfl (bn_f (decide_eq_true c26)) ?_
            refine T.skip (X.seq (T.seq (T.seq (T.region rfl ?_))))
            refine TL.run ft_cursitorref20_ok [0] rfl rfl ?_
            refine TL.nil (X.seq (T.block ?_))
            obtain ⟨E29, hE30, hO31⟩ := Option.bind_eq_some_iff.1 h
            refine T.lp (fun m e Rs => ∃ (y27 : Int) (k28 : Nat), e = [(1, .int .i64 a1), (2, .pointer (some ⟨b3, 0, none⟩)), (4, .int .i64 y27), (6, .int .i64 (k28 : Int))] ∧ Rs = [BlkR b3 40 #[.bool a0.fID.null, .string (bsOf a0.fID.data), .int .i64 a0.fAcks, .int .i64 a0.fTimeout, .slice A1 a0.fTopics.length c2], EmpR] ∧ f_r20_Check_l1 a0 a1 m y27 k28 = some E29) (((a0.fTopics.length : Int)).toNat + 1) [0, 0] ⟨0, 0, rfl, rfl, by exact hE30⟩ (by rfl) (by rfl) ?_
            rintro m32 _ _ ⟨y27, k28, rfl, rfl, hl34⟩
            clear hE30 h
            cases m32 with
            | zero =>
              rw [f_r20_Check_l1_z] at hl34
              cases hl34
            | succ m32 =>
              have h := hl34
              clear hl34
              rw [f_r20_Check_l1_s] at h
              refine T.seq (T.seq (T.region rfl ?_))
              refine TL.rb ft_cursitorref20_ok nt_cursitorref20_ok 0 rfl 3 rfl rfl ?_
              refine TL.q rfl .u (Ex.lenS rfl Tryz.runUnderlying38) rfl ?_
              refine TL.run ft_cursitorref20_ok [4] rfl rfl ?_
              by_cases c36 : (k28 : Int) < (a0.fTopics.length : Int)
              · replace h := ifT c36 h
                refine TL.nil (X.seq ?_)
                refine T.yes rfl (decide_eq_true c36) ?_
                refine T.skip (X.seq (T.seq (T.block (T.seq (T.region rfl ?_)))))
                refine TL.run ft_cursitorref20_ok [0] rfl rfl ?_
                refine TL.nil (X.seq (T.block ?_))
                obtain ⟨E39, hE40, hO41⟩ := Option.bind_eq_some_iff.1 h
                refine T.lp (fun m e Rs => ∃ (y37 : Int) (k38 : Nat), e = [(1, .int .i64 a1), (2, .pointer (some ⟨b3, 0, none⟩)), (4, .int .i64 y37), (6, .int .i64 (k28 : Int)), (7, .int .i64 (k38 : Int))] ∧ Rs = [BlkR b3 40 #[.bool a0.fID.null, .string (bsOf a0.fID.data), .int .i64 a0.fAcks, .int .i64 a0.fTimeout, .slice A1 a0.fTopics.length c2], EmpR] ∧ f_r20_Check_l2 a0 a1 k28 m y37 k38 = some E39) (((a0.fTopics[k28]?).map (fun x37 => ((x37.fParts.length : Int)).toNat + 1)).getD 0) [0, 0] ⟨y27, 0, rfl, rfl, by exact hE40⟩ (by rfl) (by rfl) ?_
                rintro m42 _ _ ⟨y37, k38, rfl, rfl, hl44⟩
                clear hE40 h
                cases m42 with
                | zero =>
                  rw [f_r20_Check_l2] at hl44
                  cases hl44
                | succ m42 =>
                  have h := hl44
                  clear hl44
                  rw [f_r20_Check_l2] at h
                  refine T.seq (T.seq (T.region rfl ?_))
                  obtain ⟨x46, hx47, h⟩ := Option.bind_eq_some_iff.1 h
                  obtain ⟨gz48, oz48, rfl, z48cs, z48cl, z48cc, z48nf, z48r⟩ := RX.elem (by decide) hX hx47
                  obtain ⟨z48S, z48r, z48rr⟩ := z48r
                  obtain ⟨A49, c50, rfl, z48s0⟩ := z48r
                  have hX51 : (RX.of (sliceRd 2 R20Part_rd) [.slice A49 x46.fParts.length c50] x46.fParts).reads w F := ⟨z48S, z48s0, z48rr⟩
                  refine TL.rb ft_cursitorref20_ok nt_cursitorref20_ok 0 rfl 4 rfl rfl ?_
                  refine TL.q rfl .u (Ex.ixS (k := k28) rfl rfl rfl Tryz.runUnderlying38 Tryz.sizeOf69 (List.getElem?_eq_some_iff.1 hx47).1) rfl ?_
                  refine TL.run ft_cursitorref20_ok [5] rfl rfl ?_
                  refine TL.q rfl .u (Ex.o1 1 rfl Tryz.isAgg67 z48nf z48cc rfl rfl) rfl ?_
                  refine TL.q rfl .u (Ex.lenS rfl Tryz.runUnderlying67) rfl ?_
                  refine TL.run ft_cursitorref20_ok [8] rfl rfl ?_
                  by_cases c52 : (k38 : Int) < (x46.fParts.length : Int)
                  · replace h := ifT c52 h
                    refine TL.nil (X.seq ?_)
                    refine T.yes rfl (decide_eq_true c52) ?_
                    refine T.skip (X.seq (T.seq (T.block (T.seq (T.draw (.q 0 (.q 1 (.q 2 (.q 3 (.q 4 (.q 5 (.q 6 (.q 7 (.q 8 (.q 9 (.q 10 (.q 11 (.q 12 (.q 13 (.q 14 (.e 15 (.q 16 .nil))))))))))))))))) [0, 0] rfl mix_cursitorref20 (NoP.seq (NoP.blk (NoP.seq (NoP.seq (NoP.blk (NoP.blk (NoP.seq (NoP.seq (NoP.blk (NoP.seq np_post)))))))))) (by kernel_rfl) ?_)))))
                    refine TD.run ft_cursitorref20_ok [0] rfl rfl ?_
                    refine TD.q rfl .u (Ex.b1 0 rfl Tryz.isAgg38 rfl rfl) rfl ?_
                    refine TD.run ft_cursitorref20_ok [2] rfl rfl ?_
                    refine TD.q rfl .u (Ex.ixS (k := k28) rfl rfl rfl Tryz.runUnderlying38 Tryz.sizeOf69 (List.getElem?_eq_some_iff.1 hx47).1) rfl ?_
                    refine TD.run ft_cursitorref20_ok [4] rfl rfl ?_
                    refine TD.q rfl .u (Ex.o1 1 rfl Tryz.isAgg67 z48nf z48cc rfl rfl) rfl ?_
                    obtain ⟨x53, hx54, h⟩ := Option.bind_eq_some_iff.1 h
                    obtain ⟨gz55, oz55, rfl, z55cs, z55cl, z55cc, z55nf, z55r⟩ := RX.elem (by decide) hX51 hx54
                    obtain ⟨z55S, z55r, z55rr⟩ := z55r
                    obtain ⟨A56, c57, rfl, z55s0⟩ := z55r
                    have hX58 : (RX.of (sliceRd 12 Bat_rd) [.slice A56 x53.fBatches.length c57] x53.fBatches).reads w F := ⟨z55S, z55s0, z55rr⟩
                    refine TD.run ft_cursitorref20_ok [6] rfl rfl ?_
                    refine TD.q rfl .u (Ex.ixS (k := k38) rfl rfl rfl Tryz.runUnderlying67 Tryz.sizeOf71 (List.getElem?_eq_some_iff.1 hx54).1) rfl ?_
                    refine TD.run ft_cursitorref20_ok [8] rfl rfl ?_
                    refine TD.q rfl .u (Ex.o1 1 rfl Tryz.isAgg52 z55nf z55cc rfl rfl) rfl ?_
                    refine TD.run ft_cursitorref20_ok [10, 11] rfl rfl ?_
                    refine TD.q rfl .u (Ex.b1 0 rfl Tryz.isAgg4 rfl rfl) rfl ?_
                    by_cases c59 : a0.fID.null = true
                    · replace h := ifT c59 h
                      obtain ⟨x60, hx61, h⟩ := Option.bind_eq_some_iff.1 h
                      refine TD.run ft_cursitorref20_ok [13, 14] rfl rfl ?_
                      refine TD.as (d := 93) (v' := .bool false) rfl (congrArg Value.bool (bn_f c59)) ?_
                      refine TD.ce rfl .u (.fn Tryz.call20 rfl) (f_r20_batches_spec x53.fBatches _ _ false a1 _ hx61) (fun _ hs => (SrcE.old hs hX58)) rfl [0, 0] (rfl) ?_
                      refine TD.run ft_cursitorref20_ok [16] rfl rfl ?_
                      refine TD.nil (X.seq (T.seq (T.region rfl ?_)))
                      refine TL.run ft_cursitorref20_ok [0, 1] rfl rfl ?_
                      by_cases c62 : x60 = 0
                      · replace h := ifT c62 h
                        refine TL.nil (X.seq ?_)
                        refine T.no rfl (bn_f (decide_eq_true c62)) ?_
                        refine T.skip (X.blk (X.seq (T.region rfl ?_)))
                        replace h := guard_some h
                        obtain ⟨c63, h⟩ := h
                        refine TL.run ft_cursitorref20_ok [0] rfl rfl ?_
                        refine TL.q rfl .u (Ex.add rfl rfl c63) rfl ?_
                        refine TL.run ft_cursitorref20_ok [2] rfl rfl ?_
                        exact TL.nil (X.back (m' := m42) [0, 0] (by omega) ⟨y37, k38 + 1, rfl, rfl, h⟩ (by rfl) (by rfl))
                      · replace h := ifF c62 h
                        refine TL.nil (X.seq ?_)
                        refine T.yes rfl (bn_t (decide_eq_false c62)) ?_
                        refine T.seq (T.region rfl ?_)
                        refine TL.run ft_cursitorref20_ok [0, 1] rfl rfl ?_
                        obtain rfl := Option.some.inj h
                        replace h := hO41
                        clear hO41
                        try dsimp only at h
                        obtain rfl := Option.some.inj h
                        replace h := hO31
                        clear hO31
                        try dsimp only at h
                        obtain rfl := Option.some.inj h
                        exact TL.nil (X.seq (T.ret (X.rb (X.rs (X.rs (X.rb (X.rb (X.rs (X.rs (X.rb (X.rs (X.done1 [1] Tryz.results8 (RV.tm rfl) ⟨rfl, rfl, rfl⟩ (by rfl) (.inl rfl)))))))))))))
                    · replace h := ifF c59 h
                      replace c59 := eq_false_of_ne_true c59
                      obtain ⟨x64, hx65, h⟩ := Option.bind_eq_some_iff.1 h
                      refine TD.run ft_cursitorref20_ok [13, 14] rfl rfl ?_
                      refine TD.as (d := 93) (v' := .bool true) rfl (congrArg Value.bool (bn_t c59)) ?_
                      refine TD.ce rfl .u (.fn Tryz.call20 rfl) (f_r20_batches_spec x53.fBatches _ _ true a1 _ hx65) (fun _ hs => (SrcE.old hs hX58)) rfl [0, 0] (rfl) ?_
                      refine TD.run ft_cursitorref20_ok [16] rfl rfl ?_
                      refine TD.nil (X.seq (T.seq (T.region rfl ?_)))
                      refine TL.run ft_cursitorref20_ok [0, 1] rfl rfl ?_
                      by_cases c66 : x64 = 0
                      · replace h := ifT c66 h
                        refine TL.nil (X.seq ?_)
                        refine T.no rfl (bn_f (decide_eq_true c66)) ?_
                        refine T.skip (X.blk (X.seq (T.region rfl ?_)))
                        replace h := guard_some h
                        obtain ⟨c67, h⟩ := h
                        refine TL.run ft_cursitorref20_ok [0] rfl rfl ?_
                        refine TL.q rfl .u (Ex.add rfl rfl c67) rfl ?_
                        refine TL.run ft_cursitorref20_ok [2] rfl rfl ?_
                        exact TL.nil (X.back (m' := m42) [0, 0] (by omega) ⟨y37, k38 + 1, rfl, rfl, h⟩ (by rfl) (by rfl))
                      · replace h := ifF c66 h
                        refine TL.nil (X.seq ?_)
                        refine T.yes rfl (bn_t (decide_eq_false c66)) ?_
                        refine T.seq (T.region rfl ?_)
                        refine TL.run ft_cursitorref20_ok [0, 1] rfl rfl ?_
                        obtain rfl := Option.some.inj h
                        replace h := hO41
                        clear hO41
                        try dsimp only at h
                        obtain rfl := Option.some.inj h
                        replace h := hO31
                        clear hO31
                        try dsimp only at h
                        obtain rfl := Option.some.inj h
                        exact TL.nil (X.seq (T.ret (X.rb (X.rs (X.rs (X.rb (X.rb (X.rs (X.rs (X.rb (X.rs (X.done1 [1] Tryz.results8 (RV.tm rfl) ⟨rfl, rfl, rfl⟩ (by rfl) (.inl rfl)))))))))))))
                  · replace h := ifF c52 h
                    refine TL.nil (X.seq ?_)
                    refine T.no rfl (decide_eq_false c52) ?_
                    obtain rfl := Option.some.inj h
                    replace h := hO41
                    clear hO41
                    try dsimp only at h
                    refine T.exit (X.exs (X.exs (X.ex (X.blk (X.seq (T.region rfl ?_))))))
                    replace h := guard_some h
                    obtain ⟨c68, h⟩ := h
                    refine TL.run ft_cursitorref20_ok [0] rfl rfl ?_
                    refine TL.q rfl .u (Ex.add rfl rfl c68) rfl ?_
                    refine TL.run ft_cursitorref20_ok [2] rfl rfl ?_
                    exact TL.nil (X.back (m' := m32) [0, 0] (by omega) ⟨y37, k28 + 1, rfl, rfl, h⟩ (by rfl) (by rfl))
              · replace h := ifF c36 h
                refine TL.nil (X.seq ?_)
                refine T.no rfl (decide_eq_false c36) ?_
                obtain rfl := Option.some.inj h
                replace h := hO31
                clear hO31
                try dsimp only at h
                refine T.exit (X.exs (X.exs (X.ex (X.seq (T.seq (T.region rfl ?_))))))
                refine TL.run ft_cursitorref20_ok [0] rfl rfl ?_
                obtain rfl := Option.some.inj h
                exact TL.nil (X.seq (T.ret (X.done1 [1] Tryz.results8 (RV.tm rfl) ⟨rfl, rfl, rfl⟩ (by rfl) (.inl rfl))))
          · replace h := ifF c26 h
            refine TL.nil (X.seq ?_)
            refine T.yes rfl (bn_t (decide_eq_false c26)) ?_
            refine T.seq (T.region rfl ?_)
            refine TL.run ft_cursitorref20_ok [0, 1] rfl rfl ?_
            obtain rfl := Option.some.inj h
            exact TL.nil (X.seq (T.ret (X.rs (X.done1 [1] Tryz.results8 (RV.tm rfl) ⟨rfl, rfl, rfl⟩ (by rfl) (.inl rfl)))))
end Go.Proofs.YtlhgogjcaegehaaGreat.Sl
namespace Go.Proofs.YtlhgogjcaegehaaGreat.Sl
open Go.RowKit
set_option linter.unusedVariables false
set_option linter.unusedSimpArgs false
set_option maxRecDepth 100000
def ft_cursitorlaw20 : FTab := [(23, 1, 1), (26, 0, 0), (26, 1, 2), (26, 2, 3), (26, 3, 4), (40, 3, 4), (51, 0, 0), (51, 1, 1), (54, 1, 1), (69, 1, 1)]
theorem ft_cursitorlaw20_ok : (ft_cursitorlaw20).OK Tryz.prog := ⟨FOK.mk Tryz.runUnderlying23 rfl Tryz.sizeOf9 rfl, FOK.mk Tryz.runUnderlying26 rfl Tryz.sizeOf23 rfl, FOK.mk Tryz.runUnderlying26 rfl Tryz.sizeOf3 rfl, FOK.mk Tryz.runUnderlying26 rfl Tryz.sizeOf3 rfl, FOK.mk Tryz.runUnderlying26 rfl Tryz.sizeOf24 rfl, FOK.mk Tryz.runUnderlying40 rfl Tryz.sizeOf38 rfl, FOK.mk Tryz.runUnderlying51 rfl Tryz.sizeOf9 rfl, FOK.mk Tryz.runUnderlying51 rfl Tryz.sizeOf49 rfl, FOK.mk Tryz.runUnderlying54 rfl Tryz.sizeOf52 rfl, FOK.mk Tryz.runUnderlying69 rfl Tryz.sizeOf67 rfl, trivial⟩
def nt_cursitorlaw20 : List Nat := [3, 9, 24, 38, 49, 52, 67]
theorem nt_cursitorlaw20_ok : NOK Tryz.prog nt_cursitorlaw20 := ⟨Tryz.isAgg3, Tryz.isAgg9, Tryz.isAgg24, Tryz.isAgg38, Tryz.isAgg49, Tryz.isAgg52, Tryz.isAgg67, trivial⟩
theorem bok_cursitorlaw20_40 : BOK Tryz.prog 40 #[.bool false, .string ⟨#[]⟩, .int .i64 0, .int .i64 0, .slice none 0 0] [(0, 2), (2, 1), (3, 1), (4, 1)] := BOK.mk Tryz.zeroValue40 Tryz.runUnderlying40 (by intro w; simp)
theorem bok_cursitorlaw20_69 : BOK Tryz.prog 69 #[.string ⟨#[]⟩, .slice none 0 0] [(0, 1), (1, 1)] := BOK.mk Tryz.zeroValue69 Tryz.runUnderlying69 (by intro w; simp)
theorem sok_cursitorlaw20_38_1 : SOK Tryz.prog 38 69 1 2 #[.string ⟨#[]⟩, .slice none 0 0] := SOK.mk Tryz.runUnderlying38 Tryz.sizeOf69 Tryz.zeroValue69 (by decide) (by kernel_rfl)
theorem sok_cursitorlaw20_67_1 : SOK Tryz.prog 67 71 1 2 #[.int .i64 0, .slice none 0 0] := SOK.mk Tryz.runUnderlying67 Tryz.sizeOf71 Tryz.zeroValue71 (by decide) (by kernel_rfl)
theorem inf_cursitorlaw20_69 : (Tryz.prog.info? 69).map (fun i => (i.zero, i.size, i.bytes)) = some (some (.agg #[.string ⟨#[]⟩, .slice none 0 0]), 2, 40) := by kernel_rfl
theorem inf_cursitorlaw20_71 : (Tryz.prog.info? 71).map (fun i => (i.zero, i.size, i.bytes)) = some (some (.agg #[.int .i64 0, .slice none 0 0]), 2, 32) := by kernel_rfl
def f_l20_Few_l3 : List Bat → Int → Option (Lp Int Int)
  | [], y35 => some (Lp.go y35)
  | x41 :: xs, y35 => (f_l11_Small x41).bind fun x49 => if x49 = 0 then some (Lp.ret 0) else (f_l20_Few_l3 xs y35)
def f_l20_Few_l2 : List ProducePart → Int → Int → Option (Lp Int (Int × Int))
  | [], y19, y20 => some (Lp.go (y19, y20))
  | x26 :: xs, y19, y20 => if (IntKind.i64.wrap (y20 + (IntKind.i64.wrap (10 + (IntKind.i64.wrap (100 * (x26.fBatches.length : Int))))))) > 2000 then some (Lp.ret 0) else ((f_l20_Few_l3 x26.fBatches y19).bind fun e => match e with | .ret r => some (Lp.ret r) | .go y52 => (f_l20_Few_l2 xs y52 (IntKind.i64.wrap (y20 + (IntKind.i64.wrap (10 + (IntKind.i64.wrap (100 * (x26.fBatches.length : Int)))))))))
def f_l20_Few_l1 : List ProduceTopic → Int → Int → Option (Lp Int (Int × Int))
  | [], y4, y5 => some (Lp.go (y4, y5))
  | x11 :: xs, y4, y5 => (f_l20_Few_l2 x11.fParts y4 (IntKind.i64.wrap (y5 + (IntKind.i64.wrap ((x11.fName.length : Int) + 10))))).bind fun e => match e with | .ret r => some (Lp.ret r) | .go (y54, y55) => (f_l20_Few_l1 xs y54 y55)
def f_l20_Few (a0 : ProduceRequest) : Option (Int) := (f_l20_Few_l1 a0.fTopics 0 (a0.fID.data.length : Int)).bind fun e => match e with | .ret r => some r | .go (y57, y58) => (if y58 > 2000 then some 0 else some 1)
set_option maxRecDepth 100000 in
set_option maxHeartbeats 4000000 in
theorem f_l20_Few_spec (a0 : ProduceRequest) (A1 : Option Addr) (c2 : Nat) (r : Int) (h : f_l20_Few a0 = some r) : SpecX Tryz.prog 6 #[.agg #[.bool a0.fID.null, .string (bsOf a0.fID.data), .int .i64 a0.fAcks, .int .i64 a0.fTimeout, .slice A1 a0.fTopics.length c2]] (RX.of (sliceRd 2 ProduceTopic_rd) [.slice A1 a0.fTopics.length c2] a0.fTopics) (EmpR) (fun v A' N => v = .int .i64 r ∧ A' = EmpR ∧ N = []) := by
  refine enterA Tryz.func6 rfl Tryz.ntmps6 rfl ?_
  intro F w hX
  unfold f_l20_Few at h
  refine T.seq (T.region rfl ?_)
  refine TL.box rfl .u rfl rfl (fun b3 => ?_)
  refine TL.run ft_cursitorlaw20_ok [1] rfl rfl ?_
  refine TL.nil (X.seq (T.seq (T.region rfl ?_)))
  refine TL.rb ft_cursitorlaw20_ok nt_cursitorlaw20_ok 0 rfl 3 rfl rfl ?_
  refine TL.q rfl .u (Ex.lenB rfl Tryz.runUnderlying9) rfl ?_
  refine TL.run ft_cursitorlaw20_ok [4] rfl rfl ?_
  refine TL.nil (X.seq (T.seq (T.seq (T.region rfl ?_))))
  refine TL.rb ft_cursitorlaw20_ok nt_cursitorlaw20_ok 0 rfl 2 rfl rfl ?_
  refine TL.q rfl .u (Ex.lenS rfl Tryz.runUnderlying24) rfl ?_
  refine TL.run ft_cursitorlaw20_ok [3] rfl rfl ?_
  refine TL.nil (X.seq (T.block ?_))
  obtain ⟨E7, hE8, hO9⟩ := Option.bind_eq_some_iff.1 h
  have hk13len := RX.len_le hX
  refine T.lp (fun m e Rs => ∃ (y4 : Int) (y5 : Int) (k6 : Nat), k6 + m = a0.fTopics.length ∧ e = [(2, .int .i64 y4), (3, .int .i64 y5), (15, .slice A1 a0.fTopics.length c2), (16, .int .i64 (a0.fTopics.length : Int)), (17, .int .i64 (k6 : Int))] ∧ Rs = [BlkR b3 26 #[.bool a0.fID.null, .string (bsOf a0.fID.data), .int .i64 a0.fAcks, .int .i64 a0.fTimeout, .slice A1 a0.fTopics.length c2], EmpR] ∧ f_l20_Few_l1 (a0.fTopics.drop k6) y4 y5 = some E7) (a0.fTopics.length) [0, 0] ⟨0, (a0.fID.data.length : Int), 0, by simp, rfl, rfl, by rw [List.drop_zero]; exact hE8⟩ (by rfl) (by rfl) ?_
  rintro m10 _ _ ⟨y4, y5, k6, hk13, rfl, rfl, hl12⟩
  clear hE8 h
  cases m10 with
  | zero =>
    have h := hl12
    clear hl12
    rw [List.drop_of_length_le (by omega), f_l20_Few_l1] at h
    have hk13ge : ¬ ((k6 : Int) < (a0.fTopics.length : Int)) := by omega
    refine T.seq (T.region rfl ?_)
    refine TL.run ft_cursitorlaw20_ok [0] rfl rfl ?_
    refine TL.nil (X.seq (T.seq ?_))
    refine T.no rfl (decide_eq_false hk13ge) ?_
    obtain rfl := Option.some.inj h
    replace h := hO9
    clear hO9
    try dsimp only at h
    refine T.exit (X.exs (X.exs (X.ex (X.seq (T.seq (T.seq (T.region rfl ?_)))))))
    refine TL.run ft_cursitorlaw20_ok [0, 1] rfl rfl ?_
    by_cases c61 : y5 > 2000
    · replace h := ifT c61 h
      refine TL.nil (X.seq ?_)
      refine T.yes rfl (decide_eq_true c61) ?_
      refine T.seq (T.region rfl ?_)
      refine TL.run ft_cursitorlaw20_ok [0] rfl rfl ?_
      obtain rfl := Option.some.inj h
      exact TL.nil (X.seq (T.ret (X.rs (X.done1 [1] Tryz.results6 (RV.tm rfl) ⟨rfl, rfl, rfl⟩ (by rfl) (.inl rfl)))))
    · replace h := ifF c61 h
      refine TL.nil (X.seq ?_)
      refine T.no rfl (decide_eq_false c61) ?_
      refine T.skip (X.seq (T.seq (T.region rfl ?_)))
      refine TL.run ft_cursitorlaw20_ok [0] rfl rfl ?_
      obtain rfl := Option.some.inj h
      exact TL.nil (X.seq (T.ret (X.done1 [1] Tryz.results6 (RV.tm rfl) ⟨rfl, rfl, rfl⟩ (by rfl) (.inl rfl))))
  | succ m10 =>
    have h := hl12
    clear hl12
    obtain ⟨x11, hxx11⟩ : ∃ x, a0.fTopics[k6]? = some x := ⟨_, List.getElem?_eq_getElem (by omega)⟩
    rw [drop_cons hxx11, f_l20_Few_l1] at h
    have hk13lt : (k6 : Int) < (a0.fTopics.length : Int) := by omega
    refine T.seq (T.region rfl ?_)
    refine TL.run ft_cursitorlaw20_ok [0] rfl rfl ?_
    refine TL.nil (X.seq (T.seq ?_))
    refine T.yes rfl (decide_eq_true hk13lt) ?_
    obtain ⟨gz14, oz14, rfl, z14cs, z14cl, z14cc, z14nf, z14r⟩ := RX.elem (by decide) hX hxx11
    obtain ⟨z14S, z14r, z14rr⟩ := z14r
    obtain ⟨A15, c16, rfl, z14s0⟩ := z14r
    have hX17 : (RX.of (sliceRd 2 ProducePart_rd) [.slice A15 x11.fParts.length c16] x11.fParts).reads w F := ⟨z14S, z14s0, z14rr⟩
    refine T.skip (X.seq (T.seq (T.block (T.seq (T.region rfl ?_)))))
    refine TL.q rfl .u (Ex.ixS (k := k6) rfl rfl rfl Tryz.runUnderlying24 Tryz.sizeOf51 (List.getElem?_eq_some_iff.1 hxx11).1) rfl ?_
    refine TL.q rfl .u (Ex.oS (us := [.string (bsOf x11.fName), .slice A15 x11.fParts.length c16]) 0 rfl Tryz.isAgg51 Tryz.sizeOf51 z14nf z14cc rfl rfl rfl) rfl ?_
    refine TL.alloc rfl .u Tryz.zeroValue51 rfl (fun b18 => ?_)
    refine TL.st0 (cs' := #[.string (bsOf x11.fName), .slice A15 x11.fParts.length c16]) rfl .u rfl rfl Tryz.sizeOf51 rfl rfl rfl rfl ?_
    refine TL.nil (X.seq (T.seq (T.region rfl ?_)))
    refine TL.rb ft_cursitorlaw20_ok nt_cursitorlaw20_ok 0 rfl 3 rfl rfl ?_
    refine TL.q rfl .u (Ex.lenB rfl Tryz.runUnderlying9) rfl ?_
    refine TL.q rfl .u (Ex.addw rfl rfl) rfl ?_
    refine TL.q rfl .u (Ex.addw rfl rfl) rfl ?_
    refine TL.run ft_cursitorlaw20_ok [6] rfl rfl ?_
    refine TL.nil (X.seq (T.seq (T.region rfl ?_)))
    refine TL.rb ft_cursitorlaw20_ok nt_cursitorlaw20_ok 0 rfl 2 rfl rfl ?_
    refine TL.q rfl .u (Ex.lenS rfl Tryz.runUnderlying49) rfl ?_
    refine TL.run ft_cursitorlaw20_ok [3] rfl rfl ?_
    refine TL.nil (X.seq (T.block ?_))
    obtain ⟨E22, hE23, hO24⟩ := Option.bind_eq_some_iff.1 h
    have hk28len := RX.len_le hX17
    refine T.lp (fun m e Rs => ∃ (y19 : Int) (y20 : Int) (k21 : Nat), k21 + m = x11.fParts.length ∧ e = [(2, .int .i64 y19), (3, .int .i64 y20), (15, .slice (some ⟨gz14, oz14, none⟩) a0.fTopics.length c2), (16, .int .i64 (a0.fTopics.length : Int)), (17, .int .i64 (k6 : Int)), (28, .slice A15 x11.fParts.length c16), (29, .int .i64 (x11.fParts.length : Int)), (30, .int .i64 (k21 : Int))] ∧ Rs = [BlkR b18 51 #[.string (bsOf x11.fName), .slice A15 x11.fParts.length c16], BlkR b3 26 #[.bool a0.fID.null, .string (bsOf a0.fID.data), .int .i64 a0.fAcks, .int .i64 a0.fTimeout, .slice (some ⟨gz14, oz14, none⟩) a0.fTopics.length c2], EmpR] ∧ f_l20_Few_l2 (x11.fParts.drop k21) y19 y20 = some E22) (x11.fParts.length) [0, 0, 0] ⟨y4, (IntKind.i64.wrap (y5 + (IntKind.i64.wrap ((x11.fName.length : Int) + 10)))), 0, by simp, rfl, rfl, by rw [List.drop_zero]; exact hE23⟩ (by rfl) (by rfl) ?_
    rintro m25 _ _ ⟨y19, y20, k21, hk28, rfl, rfl, hl27⟩
    clear hE23 h
    cases m25 with
    | zero =>
      have h := hl27
      clear hl27
      rw [List.drop_of_length_le (by omega), f_l20_Few_l2] at h
      have hk28ge : ¬ ((k21 : Int) < (x11.fParts.length : Int)) := by omega
      refine T.seq (T.region rfl ?_)
      refine TL.run ft_cursitorlaw20_ok [0] rfl rfl ?_
      refine TL.nil (X.seq (T.seq ?_))
      refine T.no rfl (decide_eq_false hk28ge) ?_
      obtain rfl := Option.some.inj h
      replace h := hO24
      clear hO24
      try dsimp only at h
      refine T.exit (X.exs (X.exs (X.ex (X.blk (X.seq (T.region rfl ?_))))))
      refine TL.q rfl .u (Ex.add rfl rfl (by omega)) rfl ?_
      refine TL.run ft_cursitorlaw20_ok [1] rfl rfl ?_
      exact TL.nil (X.back (m' := m10) [1, 1] (by omega) ⟨y19, y20, k6 + 1, by omega, rfl, rfl, h⟩ (by rfl) (by rfl))
    | succ m25 =>
      have h := hl27
      clear hl27
      obtain ⟨x26, hxx26⟩ : ∃ x, x11.fParts[k21]? = some x := ⟨_, List.getElem?_eq_getElem (by omega)⟩
      rw [drop_cons hxx26, f_l20_Few_l2] at h
      have hk28lt : (k21 : Int) < (x11.fParts.length : Int) := by omega
      refine T.seq (T.region rfl ?_)
      refine TL.run ft_cursitorlaw20_ok [0] rfl rfl ?_
      refine TL.nil (X.seq (T.seq ?_))
      refine T.yes rfl (decide_eq_true hk28lt) ?_
      obtain ⟨gz29, oz29, rfl, z29cs, z29cl, z29cc, z29nf, z29r⟩ := RX.elem (by decide) hX17 hxx26
      obtain ⟨z29S, z29r, z29rr⟩ := z29r
      obtain ⟨A30, c31, rfl, z29s0⟩ := z29r
      have hX32 : (RX.of (sliceRd 12 Bat_rd) [.slice A30 x26.fBatches.length c31] x26.fBatches).reads w F := ⟨z29S, z29s0, z29rr⟩
      refine T.skip (X.seq (T.seq (T.block (T.seq (T.region rfl ?_)))))
      refine TL.q rfl .u (Ex.ixS (k := k21) rfl rfl rfl Tryz.runUnderlying49 Tryz.sizeOf54 (List.getElem?_eq_some_iff.1 hxx26).1) rfl ?_
      refine TL.q rfl .u (Ex.oS (us := [.int .i64 x26.fIndex, .slice A30 x26.fBatches.length c31]) 0 rfl Tryz.isAgg54 Tryz.sizeOf54 z29nf z29cc rfl rfl rfl) rfl ?_
      refine TL.alloc rfl .u Tryz.zeroValue54 rfl (fun b33 => ?_)
      refine TL.st0 (cs' := #[.int .i64 x26.fIndex, .slice A30 x26.fBatches.length c31]) rfl .u rfl rfl Tryz.sizeOf54 rfl rfl rfl rfl ?_
      refine TL.nil (X.seq (T.seq (T.seq (T.region rfl ?_))))
      refine TL.rb ft_cursitorlaw20_ok nt_cursitorlaw20_ok 0 rfl 3 rfl rfl ?_
      refine TL.q rfl .u (Ex.lenS rfl Tryz.runUnderlying52) rfl ?_
      refine TL.q rfl .u (Ex.mulw rfl rfl) rfl ?_
      refine TL.q rfl .u (Ex.addw rfl rfl) rfl ?_
      refine TL.q rfl .u (Ex.addw rfl rfl) rfl ?_
      refine TL.run ft_cursitorlaw20_ok [7] rfl rfl ?_
      refine TL.nil (X.seq (T.seq (T.region rfl ?_)))
      refine TL.run ft_cursitorlaw20_ok [0, 1] rfl rfl ?_
      by_cases c34 : (IntKind.i64.wrap (y20 + (IntKind.i64.wrap (10 + (IntKind.i64.wrap (100 * (x26.fBatches.length : Int))))))) > 2000
      · replace h := ifT c34 h
        refine TL.nil (X.seq ?_)
        refine T.yes rfl (decide_eq_true c34) ?_
        refine T.seq (T.region rfl ?_)
        refine TL.run ft_cursitorlaw20_ok [0] rfl rfl ?_
        obtain rfl := Option.some.inj h
        replace h := hO24
        clear hO24
        try dsimp only at h
        obtain rfl := Option.some.inj h
        replace h := hO9
        clear hO9
        try dsimp only at h
        obtain rfl := Option.some.inj h
        exact TL.nil (X.seq (T.ret (X.rs (X.rb (X.rs (X.rs (X.rb (X.rb (X.rs (X.rs (X.rb (X.rs (X.done1 [3] Tryz.results6 (RV.tm rfl) ⟨rfl, rfl, rfl⟩ (by rfl) (.inl rfl))))))))))))))
      · replace h := ifF c34 h
        refine TL.nil (X.seq ?_)
        refine T.no rfl (decide_eq_false c34) ?_
        refine T.skip (X.seq (T.seq (T.region rfl ?_)))
        refine TL.rb ft_cursitorlaw20_ok nt_cursitorlaw20_ok 0 rfl 2 rfl rfl ?_
        refine TL.q rfl .u (Ex.lenS rfl Tryz.runUnderlying52) rfl ?_
        refine TL.run ft_cursitorlaw20_ok [3] rfl rfl ?_
        refine TL.nil (X.seq (T.block ?_))
        obtain ⟨E37, hE38, hO39⟩ := Option.bind_eq_some_iff.1 h
        have hk43len := RX.len_le hX32
        refine T.lp (fun m e Rs => ∃ (y35 : Int) (k36 : Nat), k36 + m = x26.fBatches.length ∧ e = [(2, .int .i64 y35), (3, .int .i64 (IntKind.i64.wrap (y20 + (IntKind.i64.wrap (10 + (IntKind.i64.wrap (100 * (x26.fBatches.length : Int)))))))), (15, .slice (some ⟨gz14, oz14, none⟩) a0.fTopics.length c2), (16, .int .i64 (a0.fTopics.length : Int)), (17, .int .i64 (k6 : Int)), (28, .slice (some ⟨gz29, oz29, none⟩) x11.fParts.length c16), (29, .int .i64 (x11.fParts.length : Int)), (30, .int .i64 (k21 : Int)), (44, .slice A30 x26.fBatches.length c31), (45, .int .i64 (x26.fBatches.length : Int)), (46, .int .i64 (k36 : Int))] ∧ Rs = [BlkR b33 54 #[.int .i64 x26.fIndex, .slice A30 x26.fBatches.length c31], BlkR b18 51 #[.string (bsOf x11.fName), .slice (some ⟨gz29, oz29, none⟩) x11.fParts.length c16], BlkR b3 26 #[.bool a0.fID.null, .string (bsOf a0.fID.data), .int .i64 a0.fAcks, .int .i64 a0.fTimeout, .slice (some ⟨gz14, oz14, none⟩) a0.fTopics.length c2], EmpR] ∧ f_l20_Few_l3 (x26.fBatches.drop k36) y35 = some E37) (x26.fBatches.length) [0, 0, 0, 0] ⟨y19, 0, by simp, rfl, rfl, by rw [List.drop_zero]; exact hE38⟩ (by rfl) (by rfl) ?_
        rintro m40 _ _ ⟨y35, k36, hk43, rfl, rfl, hl42⟩
        clear hE38 h
        cases m40 with
        | zero =>
          have h := hl42
          clear hl42
          rw [List.drop_of_length_le (by omega), f_l20_Few_l3] at h
          have hk43ge : ¬ ((k36 : Int) < (x26.fBatches.length : Int)) := by omega
          refine T.seq (T.region rfl ?_)
          refine TL.run ft_cursitorlaw20_ok [0] rfl rfl ?_
          refine TL.nil (X.seq (T.seq ?_))
          refine T.no rfl (decide_eq_false hk43ge) ?_
          obtain rfl := Option.some.inj h
          replace h := hO39
          clear hO39
          try dsimp only at h
          refine T.exit (X.exs (X.exs (X.ex (X.blk (X.seq (T.region rfl ?_))))))
          refine TL.q rfl .u (Ex.add rfl rfl (by omega)) rfl ?_
          refine TL.run ft_cursitorlaw20_ok [1] rfl rfl ?_
          exact TL.nil (X.back (m' := m25) [1, 1, 1] (by omega) ⟨y35, (IntKind.i64.wrap (y20 + (IntKind.i64.wrap (10 + (IntKind.i64.wrap (100 * (x26.fBatches.length : Int))))))), k21 + 1, by omega, rfl, rfl, h⟩ (by rfl) (by rfl))
        | succ m40 =>
          have h := hl42
          clear hl42
          obtain ⟨x41, hxx41⟩ : ∃ x, x26.fBatches[k36]? = some x := ⟨_, List.getElem?_eq_getElem (by omega)⟩
          rw [drop_cons hxx41, f_l20_Few_l3] at h
          have hk43lt : (k36 : Int) < (x26.fBatches.length : Int) := by omega
          refine T.seq (T.region rfl ?_)
          refine TL.run ft_cursitorlaw20_ok [0] rfl rfl ?_
          refine TL.nil (X.seq (T.seq ?_))
          refine T.yes rfl (decide_eq_true hk43lt) ?_
          obtain ⟨gz44, oz44, rfl, z44cs, z44cl, z44cc, z44nf, z44r⟩ := RX.elem (by decide) hX32 hxx41
          obtain ⟨z44S, z44r, z44rr⟩ := z44r
          obtain ⟨A45, c46, rfl, z44s0⟩ := z44r
          have hX47 : (RX.of (sliceRd 7 Rec_rd) [.slice A45 x41.fRecords.length c46] x41.fRecords).reads w F := ⟨z44S, z44s0, z44rr⟩
          refine T.skip (X.seq (T.seq (T.block (T.seq (T.region rfl ?_)))))
          refine TL.q rfl .u (Ex.ixS (k := k36) rfl rfl rfl Tryz.runUnderlying52 Tryz.sizeOf30 (List.getElem?_eq_some_iff.1 hxx41).1) rfl ?_
          refine TL.q rfl .u (Ex.oS (us := [.int .i64 x41.fBase, .int .i64 x41.fLeader, .bool x41.fAppend, .bool x41.fTxn, .bool x41.fControl, .int .i64 x41.fLast, .int .i64 x41.fFirst, .int .i64 x41.fMax, .int .i64 x41.fProducer, .int .i64 x41.fEpoch, .int .i64 x41.fSequence, .slice A45 x41.fRecords.length c46]) 0 rfl Tryz.isAgg30 Tryz.sizeOf30 z44nf z44cc rfl rfl rfl) rfl ?_
          refine TL.alloc rfl .u Tryz.zeroValue30 rfl (fun b48 => ?_)
          refine TL.st0 (cs' := #[.int .i64 x41.fBase, .int .i64 x41.fLeader, .bool x41.fAppend, .bool x41.fTxn, .bool x41.fControl, .int .i64 x41.fLast, .int .i64 x41.fFirst, .int .i64 x41.fMax, .int .i64 x41.fProducer, .int .i64 x41.fEpoch, .int .i64 x41.fSequence, .slice A45 x41.fRecords.length c46]) rfl .u rfl rfl Tryz.sizeOf30 rfl rfl rfl rfl ?_
          refine TL.nil (X.seq (T.seq (T.region rfl ?_)))
          refine TL.q rfl .u (Ex.bS (us := [.int .i64 x41.fBase, .int .i64 x41.fLeader, .bool x41.fAppend, .bool x41.fTxn, .bool x41.fControl, .int .i64 x41.fLast, .int .i64 x41.fFirst, .int .i64 x41.fMax, .int .i64 x41.fProducer, .int .i64 x41.fEpoch, .int .i64 x41.fSequence, .slice A45 x41.fRecords.length c46]) 0 rfl Tryz.isAgg30 Tryz.sizeOf30 rfl rfl rfl) rfl ?_
          obtain ⟨x49, hx50, h⟩ := Option.bind_eq_some_iff.1 h
          refine TL.ce rfl .u (.fn Tryz.call17 rfl) (f_l11_Small_spec x41 _ _ _ hx50) (fun _ hs => (SrcE.old hs hX47)) rfl ?_
          refine TL.run ft_cursitorlaw20_ok [2] rfl rfl ?_
          by_cases c51 : x49 = 0
          · replace h := ifT c51 h
            refine TL.nil (X.seq ?_)
            refine T.yes rfl (decide_eq_true c51) ?_
            refine T.seq (T.region rfl ?_)
            refine TL.run ft_cursitorlaw20_ok [0] rfl rfl ?_
            obtain rfl := Option.some.inj h
            replace h := hO39
            clear hO39
            try dsimp only at h
            obtain rfl := Option.some.inj h
            replace h := hO24
            clear hO24
            try dsimp only at h
            obtain rfl := Option.some.inj h
            replace h := hO9
            clear hO9
            try dsimp only at h
            obtain rfl := Option.some.inj h
            exact TL.nil (X.seq (T.ret (X.rb (X.rs (X.rs (X.rb (X.rb (X.rs (X.rs (X.rb (X.rb (X.rs (X.rs (X.rb (X.rs (X.done1 [4] Tryz.results6 (RV.tm rfl) ⟨rfl, rfl, rfl⟩ (by rfl) (.inl rfl)))))))))))))))))
          · replace h := ifF c51 h
            refine TL.nil (X.seq ?_)
            refine T.no rfl (decide_eq_false c51) ?_
            refine T.skip (X.blk (X.seq (T.region rfl ?_)))
            refine TL.q rfl .u (Ex.add rfl rfl (by omega)) rfl ?_
            refine TL.run ft_cursitorlaw20_ok [1] rfl rfl ?_
            exact TL.nil (X.back (m' := m40) [1, 1, 1, 1] (by omega) ⟨y35, k36 + 1, by omega, rfl, rfl, h⟩ (by rfl) (by rfl))
def f_l20_Of_l2 : List ProducePart → List R20Part → Option (List R20Part)
  | [], y24 => some y24
  | x31 :: xs, y24 => if (y24.length + 1) * 32 ≤ 140737488355328 then (f_l20_Of_l2 xs (y24 ++ [(⟨x31.fIndex, x31.fBatches⟩ : R20Part)])) else none
def f_l20_Of_l1 : List ProduceTopic → List R20Topic → Option (List R20Topic)
  | [], y7 => some y7
  | x14 :: xs, y7 => (f_l20_Of_l2 x14.fParts []).bind fun y44 => if (y7.length + 1) * 40 ≤ 140737488355328 then (f_l20_Of_l1 xs (y7 ++ [(⟨x14.fName, y44⟩ : R20Topic)])) else none
def f_l20_Of (a0 : ProduceRequest) : Option (R20Request) := (f_l20_Of_l1 a0.fTopics []).bind fun y56 => some (⟨a0.fID, a0.fAcks, a0.fTimeout, y56⟩ : R20Request)
set_option maxRecDepth 100000 in
set_option maxHeartbeats 4000000 in
theorem f_l20_Of_spec (a0 : ProduceRequest) (A1 : Option Addr) (c2 : Nat) (r : R20Request) (h : f_l20_Of a0 = some r) : SpecS Tryz.prog 9 #[.agg #[.bool a0.fID.null, .string (bsOf a0.fID.data), .int .i64 a0.fAcks, .int .i64 a0.fTimeout, .slice A1 a0.fTopics.length c2]] (RX.of (sliceRd 2 ProduceTopic_rd) [.slice A1 a0.fTopics.length c2] a0.fTopics) EmpR (fun v A' L => ∃ (A59 : Option Addr) (c60 : Nat), v = .agg #[.bool r.fID.null, .string (bsOf r.fID.data), .int .i64 r.fAcks, .int .i64 r.fTimeout, .slice A59 r.fTopics.length c60] ∧ A' = EmpR ∧ L = [(⟨_, sliceRd 2 R20Topic_rd, [.slice A59 r.fTopics.length c60], r.fTopics⟩ : RO)]) := by
  refine enterS Tryz.func9 rfl Tryz.ntmps9 rfl ?_
  intro F w S hS hSF
  have hX : (RX.of (sliceRd 2 ProduceTopic_rd) [.slice A1 a0.fTopics.length c2] a0.fTopics).reads w F := ⟨S, hS, hSF⟩
  unfold f_l20_Of at h
  refine T.seq (T.region rfl ?_)
  refine TL.box rfl .u rfl rfl (fun b3 => ?_)
  refine TL.alloc rfl .u Tryz.zeroValue40 rfl (fun b4 => ?_)
  refine TL.nil (X.seq (T.seq (T.region rfl ?_)))
  refine TL.run ft_cursitorlaw20_ok [0] rfl rfl ?_
  refine TL.q rfl .u (Ex.bS (us := [.bool a0.fID.null, .string (bsOf a0.fID.data)]) 1 rfl Tryz.isAgg23 Tryz.sizeOf23 rfl rfl rfl) rfl ?_
  refine TL.rb ft_cursitorlaw20_ok nt_cursitorlaw20_ok 1 rfl 4 rfl rfl ?_
  refine TL.q rfl .u (Ex.bld (cells := #[.bool a0.fID.null, .string (bsOf a0.fID.data), .int .i64 a0.fAcks, .int .i64 a0.fTimeout, .slice none 0 0]) bok_cursitorlaw20_40 rfl (by kernel_rfl)) rfl ?_
  refine TL.alloc rfl .u Tryz.zeroValue40 rfl (fun b5 => ?_)
  refine TL.st0 (cs' := #[.bool a0.fID.null, .string (bsOf a0.fID.data), .int .i64 a0.fAcks, .int .i64 a0.fTimeout, .slice none 0 0]) rfl .u rfl rfl Tryz.sizeOf40 rfl rfl rfl rfl ?_
  refine TL.nil (X.seq (T.seq (T.seq (T.region rfl ?_))))
  refine TL.rb ft_cursitorlaw20_ok nt_cursitorlaw20_ok 2 rfl 2 rfl rfl ?_
  refine TL.q rfl .u (Ex.lenS rfl Tryz.runUnderlying24) rfl ?_
  refine TL.run ft_cursitorlaw20_ok [3] rfl rfl ?_
  refine TL.nil (X.seq (T.block ?_))
  refine T.nilrow 69 2 (oldRd w S R20Topic_rd) ?_
  obtain ⟨E10, hE11, hO12⟩ := Option.bind_eq_some_iff.1 h
  have hk16len := RX.len_le hX
  refine T.lp (fun m e Rs => ∃ (k6 : Nat) (y7 : List R20Topic) (A8 : Option Addr) (c9 : Nat), k6 + m = a0.fTopics.length ∧ e = [(2, .pointer (some ⟨b4, 0, none⟩)), (3, .pointer (some ⟨b5, 0, none⟩)), (17, .slice A1 a0.fTopics.length c2), (18, .int .i64 (a0.fTopics.length : Int)), (19, .int .i64 (k6 : Int))] ∧ Rs = [OwnR 69 2 (oldRd w S R20Topic_rd) (.slice A8 y7.length c9) y7, BlkR b5 40 #[.bool a0.fID.null, .string (bsOf a0.fID.data), .int .i64 a0.fAcks, .int .i64 a0.fTimeout, .slice A8 y7.length c9], BlkR b4 40 #[.bool false, .string ⟨#[]⟩, .int .i64 0, .int .i64 0, .slice none 0 0], BlkR b3 26 #[.bool a0.fID.null, .string (bsOf a0.fID.data), .int .i64 a0.fAcks, .int .i64 a0.fTimeout, .slice A1 a0.fTopics.length c2], EmpR] ∧ f_l20_Of_l1 (a0.fTopics.drop k6) y7 = some E10) (a0.fTopics.length) [0, 0, 0, 0, 0] ⟨0, [], none, 0, by simp, rfl, rfl, by rw [List.drop_zero]; exact hE11⟩ (by rfl) (by rfl) ?_
  rintro m13 _ _ ⟨k6, y7, A8, c9, hk16, rfl, rfl, hl15⟩
  clear hE11 h
  cases m13 with
  | zero =>
    have h := hl15
    clear hl15
    rw [List.drop_of_length_le (by omega), f_l20_Of_l1] at h
    have hk16ge : ¬ ((k6 : Int) < (a0.fTopics.length : Int)) := by omega
    refine T.seq (T.region rfl ?_)
    refine TL.run ft_cursitorlaw20_ok [0] rfl rfl ?_
    refine TL.nil (X.seq (T.seq ?_))
    refine T.no rfl (decide_eq_false hk16ge) ?_
    obtain rfl := Option.some.inj h
    replace h := hO12
    clear hO12
    try dsimp only at h
    refine T.exit (X.exs (X.exs (X.ex (X.seq (T.seq (T.region rfl ?_))))))
    refine TL.q rfl .u (Ex.bS (us := [.bool a0.fID.null, .string (bsOf a0.fID.data), .int .i64 a0.fAcks, .int .i64 a0.fTimeout, .slice A8 y7.length c9]) 1 rfl Tryz.isAgg40 Tryz.sizeOf40 rfl rfl rfl) rfl ?_
    refine TL.st2 (cs' := #[.bool a0.fID.null, .string (bsOf a0.fID.data), .int .i64 a0.fAcks, .int .i64 a0.fTimeout, .slice A8 y7.length c9]) rfl .u rfl rfl Tryz.sizeOf40 rfl rfl rfl rfl ?_
    obtain rfl := Option.some.inj h
    refine TL.nil (X.seq (T.ret ?_))
    refine X.shutO (by decide) 0 rfl ?_
    refine X.sel [0, 0, 0, 0, 0] rfl ?_
    exact X.done1 [4, 0] Tryz.results9 (RV.cS (us := #[.bool a0.fID.null, .string (bsOf a0.fID.data), .int .i64 a0.fAcks, .int .i64 a0.fTimeout, .slice A8 y7.length c9]) 2 rfl Tryz.isAgg40 Tryz.sizeOf40 rfl rfl) ⟨_, ⟨_, _, rfl, rfl, rfl⟩, rfl⟩ (by rfl) (.inl rfl)
  | succ m13 =>
    have h := hl15
    clear hl15
    obtain ⟨x14, hxx14⟩ : ∃ x, a0.fTopics[k6]? = some x := ⟨_, List.getElem?_eq_getElem (by omega)⟩
    rw [drop_cons hxx14, f_l20_Of_l1] at h
    have hk16lt : (k6 : Int) < (a0.fTopics.length : Int) := by omega
    refine T.seq (T.region rfl ?_)
    refine TL.run ft_cursitorlaw20_ok [0] rfl rfl ?_
    refine TL.nil (X.seq (T.seq ?_))
    refine T.yes rfl (decide_eq_true hk16lt) ?_
    obtain ⟨gz17, oz17, rfl, z17cs, z17cl, z17cc, z17nf, z17r⟩ := RX.elemS (by decide) hS hSF hxx14
    obtain ⟨A18, c19, rfl, z17s0⟩ := z17r
    have hX20 : (RX.of (sliceRd 2 ProducePart_rd) [.slice A18 x14.fParts.length c19] x14.fParts).reads w F := ⟨S, z17s0, hSF⟩
    refine T.skip (X.seq (T.seq (T.block (T.seq (T.region rfl ?_)))))
    refine TL.q rfl .u (Ex.ixS (k := k6) rfl rfl rfl Tryz.runUnderlying24 Tryz.sizeOf51 (List.getElem?_eq_some_iff.1 hxx14).1) rfl ?_
    refine TL.q rfl .u (Ex.oS (us := [.string (bsOf x14.fName), .slice A18 x14.fParts.length c19]) 0 rfl Tryz.isAgg51 Tryz.sizeOf51 z17nf z17cc rfl rfl rfl) rfl ?_
    refine TL.alloc rfl .u Tryz.zeroValue51 rfl (fun b21 => ?_)
    refine TL.st0 (cs' := #[.string (bsOf x14.fName), .slice A18 x14.fParts.length c19]) rfl .u rfl rfl Tryz.sizeOf51 rfl rfl rfl rfl ?_
    refine TL.nil (X.seq (T.seq (T.region rfl ?_)))
    refine TL.rb ft_cursitorlaw20_ok nt_cursitorlaw20_ok 0 rfl 2 rfl rfl ?_
    refine TL.q rfl .u (Ex.bld (cells := #[.string (bsOf x14.fName), .slice none 0 0]) bok_cursitorlaw20_69 rfl (by kernel_rfl)) rfl ?_
    refine TL.alloc rfl .u Tryz.zeroValue69 rfl (fun b22 => ?_)
    refine TL.st0 (cs' := #[.string (bsOf x14.fName), .slice none 0 0]) rfl .u rfl rfl Tryz.sizeOf69 rfl rfl rfl rfl ?_
    refine TL.nil (X.seq (T.seq (T.seq (T.region rfl ?_))))
    refine TL.rb ft_cursitorlaw20_ok nt_cursitorlaw20_ok 1 rfl 2 rfl rfl ?_
    refine TL.q rfl .u (Ex.lenS rfl Tryz.runUnderlying49) rfl ?_
    refine TL.run ft_cursitorlaw20_ok [3] rfl rfl ?_
    refine TL.nil (X.seq (T.block ?_))
    refine T.nilrow 71 2 (oldRd w S R20Part_rd) ?_
    obtain ⟨E27, hE28, hO29⟩ := Option.bind_eq_some_iff.1 h
    have hk33len := RX.len_le hX20
    refine T.lp (fun m e Rs => ∃ (k23 : Nat) (y24 : List R20Part) (A25 : Option Addr) (c26 : Nat), k23 + m = x14.fParts.length ∧ e = [(2, .pointer (some ⟨b4, 0, none⟩)), (3, .pointer (some ⟨b5, 0, none⟩)), (6, .pointer (some ⟨b22, 0, none⟩)), (17, .slice (some ⟨gz17, oz17, none⟩) a0.fTopics.length c2), (18, .int .i64 (a0.fTopics.length : Int)), (19, .int .i64 (k6 : Int)), (27, .slice A18 x14.fParts.length c19), (28, .int .i64 (x14.fParts.length : Int)), (29, .int .i64 (k23 : Int))] ∧ Rs = [OwnR 71 2 (oldRd w S R20Part_rd) (.slice A25 y24.length c26) y24, BlkR b22 69 #[.string (bsOf x14.fName), .slice A25 y24.length c26], BlkR b21 51 #[.string (bsOf x14.fName), .slice A18 x14.fParts.length c19], OwnR 69 2 (oldRd w S R20Topic_rd) (.slice A8 y7.length c9) y7, BlkR b5 40 #[.bool a0.fID.null, .string (bsOf a0.fID.data), .int .i64 a0.fAcks, .int .i64 a0.fTimeout, .slice A8 y7.length c9], BlkR b4 40 #[.bool false, .string ⟨#[]⟩, .int .i64 0, .int .i64 0, .slice none 0 0], BlkR b3 26 #[.bool a0.fID.null, .string (bsOf a0.fID.data), .int .i64 a0.fAcks, .int .i64 a0.fTimeout, .slice (some ⟨gz17, oz17, none⟩) a0.fTopics.length c2], EmpR] ∧ f_l20_Of_l2 (x14.fParts.drop k23) y24 = some E27) (x14.fParts.length) [0, 0, 0, 0, 0, 0, 0, 0] ⟨0, [], none, 0, by simp, rfl, rfl, by rw [List.drop_zero]; exact hE28⟩ (by rfl) (by rfl) ?_
    rintro m30 _ _ ⟨k23, y24, A25, c26, hk33, rfl, rfl, hl32⟩
    clear hE28 h
    cases m30 with
    | zero =>
      have h := hl32
      clear hl32
      rw [List.drop_of_length_le (by omega), f_l20_Of_l2] at h
      have hk33ge : ¬ ((k23 : Int) < (x14.fParts.length : Int)) := by omega
      refine T.seq (T.region rfl ?_)
      refine TL.run ft_cursitorlaw20_ok [0] rfl rfl ?_
      refine TL.nil (X.seq (T.seq ?_))
      refine T.no rfl (decide_eq_false hk33ge) ?_
      obtain rfl := Option.some.inj h
      replace h := hO29
      clear hO29
      try dsimp only at h
      refine T.exit (X.exs (X.exs (X.ex (X.seq (T.region rfl ?_)))))
      refine TL.rb ft_cursitorlaw20_ok nt_cursitorlaw20_ok 4 rfl 2 rfl rfl ?_
      refine TL.q rfl .u (Ex.bS (us := [.string (bsOf x14.fName), .slice A25 y24.length c26]) 1 rfl Tryz.isAgg69 Tryz.sizeOf69 rfl rfl rfl) rfl ?_
      refine TL.lit (cells := #[.string (bsOf x14.fName), .slice A25 y24.length c26]) rfl .u sok_cursitorlaw20_38_1 rfl (by rfl) rfl (fun b51 => ?_)
      replace h := guard_some h
      obtain ⟨c52, h⟩ := h
      refine TL.app2 3 0 rfl .u (us := [.string (bsOf x14.fName), .slice A25 y24.length c26]) (u := (⟨x14.fName, y24⟩ : R20Topic)) (l := y7) (E := (oldRd w S R20Topic_rd)) Tryz.underlying38 inf_cursitorlaw20_69 rfl (by decide) rfl rfl rfl rfl rfl rfl rfl (fun w1 G1 hG W h1 h2 => ⟨_, _, rfl, (fun w G h => xold_own (by decide) w G h) w1 G1 hG W h1 h2⟩) (by have hq := c52; omega) (by have hq := c52; omega) rfl (fun A53 c54 => ?_)
      refine TL.sel [0, 0, 0, 0, 0, 0, 0] rfl ?_
      refine TL.run ft_cursitorlaw20_ok [5] rfl rfl ?_
      refine TL.st3 (cs' := #[.bool a0.fID.null, .string (bsOf a0.fID.data), .int .i64 a0.fAcks, .int .i64 a0.fTimeout, .slice A53 (y7 ++ [(⟨x14.fName, y24⟩ : R20Topic)]).length c54]) rfl .u rfl rfl Tryz.sizeOf38 rfl rfl rfl rfl ?_
      refine TL.nil (X.blk (X.seq (T.region rfl ?_)))
      refine TL.q rfl .u (Ex.add rfl rfl (by omega)) rfl ?_
      refine TL.run ft_cursitorlaw20_ok [1] rfl rfl ?_
      exact TL.nil (X.back (m' := m13) [0, 2, 2, 2, 2] (by omega) ⟨k6 + 1, (y7 ++ [(⟨x14.fName, y24⟩ : R20Topic)]), A53, c54, by omega, rfl, rfl, h⟩ (by rfl) (by rfl))
    | succ m30 =>
      have h := hl32
      clear hl32
      obtain ⟨x31, hxx31⟩ : ∃ x, x14.fParts[k23]? = some x := ⟨_, List.getElem?_eq_getElem (by omega)⟩
      rw [drop_cons hxx31, f_l20_Of_l2] at h
      have hk33lt : (k23 : Int) < (x14.fParts.length : Int) := by omega
      refine T.seq (T.region rfl ?_)
      refine TL.run ft_cursitorlaw20_ok [0] rfl rfl ?_
      refine TL.nil (X.seq (T.seq ?_))
      refine T.yes rfl (decide_eq_true hk33lt) ?_
      obtain ⟨gz34, oz34, rfl, z34cs, z34cl, z34cc, z34nf, z34r⟩ := RX.elemS (by decide) z17s0 hSF hxx31
      obtain ⟨A35, c36, rfl, z34s0⟩ := z34r
      have hX37 : (RX.of (sliceRd 12 Bat_rd) [.slice A35 x31.fBatches.length c36] x31.fBatches).reads w F := ⟨S, z34s0, hSF⟩
      refine T.skip (X.seq (T.seq (T.block (T.seq (T.region rfl ?_)))))
      refine TL.q rfl .u (Ex.ixS (k := k23) rfl rfl rfl Tryz.runUnderlying49 Tryz.sizeOf54 (List.getElem?_eq_some_iff.1 hxx31).1) rfl ?_
      refine TL.q rfl .u (Ex.oS (us := [.int .i64 x31.fIndex, .slice A35 x31.fBatches.length c36]) 0 rfl Tryz.isAgg54 Tryz.sizeOf54 z34nf z34cc rfl rfl rfl) rfl ?_
      refine TL.alloc rfl .u Tryz.zeroValue54 rfl (fun b38 => ?_)
      refine TL.st0 (cs' := #[.int .i64 x31.fIndex, .slice A35 x31.fBatches.length c36]) rfl .u rfl rfl Tryz.sizeOf54 rfl rfl rfl rfl ?_
      refine TL.nil (X.seq (T.region rfl ?_))
      refine TL.rb ft_cursitorlaw20_ok nt_cursitorlaw20_ok 2 rfl 2 rfl rfl ?_
      refine TL.q rfl .u (Ex.bS (us := [.int .i64 x31.fIndex, .slice A35 x31.fBatches.length c36]) 0 rfl Tryz.isAgg54 Tryz.sizeOf54 rfl rfl rfl) rfl ?_
      refine TL.lit (cells := #[.int .i64 x31.fIndex, .slice A35 x31.fBatches.length c36]) rfl .u sok_cursitorlaw20_67_1 rfl (by rfl) rfl (fun b39 => ?_)
      replace h := guard_some h
      obtain ⟨c40, h⟩ := h
      refine TL.app1 1 rfl .u (us := [.int .i64 x31.fIndex, .slice A35 x31.fBatches.length c36]) (u := (⟨x31.fIndex, x31.fBatches⟩ : R20Part)) (l := y24) (E := (oldRd w S R20Part_rd)) Tryz.underlying67 inf_cursitorlaw20_71 rfl (by decide) rfl rfl rfl rfl rfl rfl (fun _ _ => old_in ⟨_, _, rfl, z34s0⟩) (by have hq := c40; omega) (by have hq := c40; omega) rfl (fun A41 c42 => ?_)
      refine TL.sel [0, 0, 0, 0, 0, 0, 0, 0, 0] rfl ?_
      refine TL.run ft_cursitorlaw20_ok [5] rfl rfl ?_
      refine TL.st2 (cs' := #[.string (bsOf x14.fName), .slice A41 (y24 ++ [(⟨x31.fIndex, x31.fBatches⟩ : R20Part)]).length c42]) rfl .u rfl rfl Tryz.sizeOf67 rfl rfl rfl rfl ?_
      refine TL.nil (X.blk (X.seq (T.region rfl ?_)))
      refine TL.q rfl .u (Ex.add rfl rfl (by omega)) rfl ?_
      refine TL.run ft_cursitorlaw20_ok [1] rfl rfl ?_
      exact TL.nil (X.back (m' := m30) [1, 1, 1, 1, 1, 1, 1, 1] (by omega) ⟨k23 + 1, (y24 ++ [(⟨x31.fIndex, x31.fBatches⟩ : R20Part)]), A41, c42, by omega, rfl, rfl, h⟩ (by rfl) (by rfl))
end Go.Proofs.YtlhgogjcaegehaaGreat.Sl
namespace Go.Proofs.YtlhgogjcaegehaaGreat.Sl
open Go.RowKit
set_option linter.unusedVariables false
set_option linter.unusedSimpArgs false
def ofP (p : ProducePart) : R20Part := ⟨p.fIndex, p.fBatches⟩
def ofT (t : ProduceTopic) : R20Topic := ⟨t.fName, t.fParts.map ofP⟩
def ofQ (a : ProduceRequest) : R20Request := ⟨a.fID, a.fAcks, a.fTimeout, a.fTopics.map ofT⟩
theorem q_of_l2 : ∀ (l : List ProducePart) (acc : List R20Part), (acc.length + l.length) * 32 ≤ 140737488355328 → f_l20_Of_l2 l acc = some (acc ++ l.map ofP)
  | [], acc, _ => by rw [List.map_nil, List.append_nil]; rfl
  | x :: l, acc, h => by
    rw [List.length_cons] at h
    rw [f_l20_Of_l2, if_pos (by omega), q_of_l2 l _ (by rw [List.length_append, List.length_singleton]; omega), List.append_assoc]
    rfl
theorem q_of_l1 : ∀ (l : List ProduceTopic) (acc : List R20Topic), (acc.length + l.length) * 40 ≤ 140737488355328 → (∀ t, t ∈ l → t.fParts.length * 32 ≤ 140737488351232) → f_l20_Of_l1 l acc = some (acc ++ l.map ofT)
  | [], acc, _, _ => by rw [List.map_nil, List.append_nil]; rfl
  | x :: l, acc, h, hp => by
    have hx := hp x (.head _)
    rw [List.length_cons] at h
    rw [f_l20_Of_l1, q_of_l2 x.fParts [] (by rw [List.length_nil]; omega), Option.bind_some, if_pos (by omega), q_of_l1 l _ (by rw [List.length_append, List.length_singleton]; omega) (fun t ht => hp t (.tail _ ht)), List.append_assoc]
    rfl
def smBs (l : List Bat) : Prop := ∀ b, b ∈ l → smB b ∧ (body b).length ≤ 12000
theorem q_few_l3 (y : Int) : ∀ l : List Bat, (∀ b, b ∈ l → wf_Bat b) → f_l20_Few_l3 l y = some (.ret 0) ∨ (f_l20_Few_l3 l y = some (.go y) ∧ smBs l)
  | [], _ => .inr ⟨rfl, fun x h => nomatch h⟩
  | x :: l, h => by
    rw [f_l20_Few_l3]
    rcases small11 x (h x (.head _)) with g | ⟨g, g1, g2⟩
    · rw [g]
      exact .inl rfl
    · rw [g, Option.bind_some, if_neg (by decide)]
      rcases q_few_l3 y l (fun z hz => h z (.tail _ hz)) with k | ⟨k, k2⟩
      · exact .inl k
      · refine .inr ⟨k, fun z hz => ?_⟩
        rcases List.mem_cons.1 hz with rfl | hz
        · exact smB_small (h _ (.head _)) g1 g2
        · exact k2 z hz
def nP (n : Int) (p : ProducePart) : Int := IntKind.i64.wrap (n + IntKind.i64.wrap (10 + IntKind.i64.wrap (100 * (p.fBatches.length : Int))))
def nPs : Int → List ProducePart → Int
  | n, [] => n
  | n, p :: l => nPs (nP n p) l
def okFp : Int → List ProducePart → Prop
  | _, [] => True
  | n, p :: l => nP n p ≤ 2000 ∧ smBs p.fBatches ∧ okFp (nP n p) l
theorem q_few_l2 (y : Int) : ∀ (l : List ProducePart) (n : Int), (∀ p, p ∈ l → wf_ProducePart p) → f_l20_Few_l2 l y n = some (.ret 0) ∨ (f_l20_Few_l2 l y n = some (.go (y, nPs n l)) ∧ okFp n l)
  | [], n, _ => .inr ⟨rfl, trivial⟩
  | p :: l, n, h => by
    rw [f_l20_Few_l2]
    show (if nP n p > 2000 then _ else _) = _ ∨ (if nP n p > 2000 then _ else _) = _ ∧ _
    by_cases hc : nP n p > 2000
    · rw [if_pos hc]
      exact .inl rfl
    rw [if_neg hc]
    rcases q_few_l3 y p.fBatches (h p (.head _)).2.2 with g | ⟨g, g2⟩
    · rw [g]
      exact .inl rfl
    · rw [g, Option.bind_some]
      rcases q_few_l2 y l (nP n p) (fun q hq => h q (.tail _ hq)) with k | ⟨k, k2⟩
      · exact .inl k
      · exact .inr ⟨k, by omega, g2, k2⟩
def nT (n : Int) (t : ProduceTopic) : Int := IntKind.i64.wrap (n + IntKind.i64.wrap ((t.fName.length : Int) + 10))
def nTs : Int → List ProduceTopic → Int
  | n, [] => n
  | n, t :: l => nTs (nPs (nT n t) t.fParts) l
def okFt : Int → List ProduceTopic → Prop
  | _, [] => True
  | n, t :: l => okFp (nT n t) t.fParts ∧ okFt (nPs (nT n t) t.fParts) l
theorem q_few_l1 (y : Int) : ∀ (l : List ProduceTopic) (n : Int), (∀ t, t ∈ l → wf_ProduceTopic t) → f_l20_Few_l1 l y n = some (.ret 0) ∨ (f_l20_Few_l1 l y n = some (.go (y, nTs n l)) ∧ okFt n l)
  | [], n, _ => .inr ⟨rfl, trivial⟩
  | t :: l, n, h => by
    rw [f_l20_Few_l1]
    show ((f_l20_Few_l2 t.fParts y (nT n t)).bind _) = _ ∨ ((f_l20_Few_l2 t.fParts y (nT n t)).bind _) = _ ∧ _
    rcases q_few_l2 y t.fParts (nT n t) (h t (.head _)).2.2 with g | ⟨g, g2⟩
    · rw [g]
      exact .inl rfl
    · rw [g, Option.bind_some]
      rcases q_few_l1 y l (nPs (nT n t) t.fParts) (fun q hq => h q (.tail _ hq)) with k | ⟨k, k2⟩
      · exact .inl k
      · exact .inr ⟨k, g2, k2⟩
theorem q_few {a : ProduceRequest} (hw : wf_ProduceRequest a) : f_l20_Few a = some 0 ∨ (f_l20_Few a = some 1 ∧ okFt (a.fID.data.length : Int) a.fTopics ∧ nTs (a.fID.data.length : Int) a.fTopics ≤ 2000) := by
  unfold f_l20_Few
  rcases q_few_l1 0 a.fTopics (a.fID.data.length : Int) hw.2.2.2.2 with g | ⟨g, g2⟩
  · rw [g]
    exact .inl rfl
  · rw [g, Option.bind_some]
    dsimp only
    by_cases hc : nTs (a.fID.data.length : Int) a.fTopics > 2000
    · rw [if_pos hc]
      exact .inl rfl
    · rw [if_neg hc]
      exact .inr ⟨rfl, g2, by omega⟩
theorem okFp_mem : ∀ {l : List ProducePart} {n : Int}, okFp n l → ∀ p, p ∈ l → smBs p.fBatches
  | q :: l, n, h, p, hp => by
    rcases List.mem_cons.1 hp with rfl | hp
    · exact h.2.1
    · exact okFp_mem h.2.2 p hp
theorem okFt_mem : ∀ {l : List ProduceTopic} {n : Int}, okFt n l → ∀ t, t ∈ l → ∀ p, p ∈ t.fParts → smBs p.fBatches
  | u :: l, n, h, t, ht => by
    rcases List.mem_cons.1 ht with rfl | ht
    · exact okFp_mem h.1
    · exact okFt_mem h.2 t ht
end Go.Proofs.YtlhgogjcaegehaaGreat.Sl
namespace Go.Proofs.YtlhgogjcaegehaaGreat.Sl
open Go.RowKit
set_option linter.unusedVariables false
set_option linter.unusedSimpArgs false
set_option maxRecDepth 100000
def ft_cursitorlaw14 : FTab := [(106, 0, 0), (106, 1, 1)]
theorem ft_cursitorlaw14_ok : (ft_cursitorlaw14).OK Tryz.prog := ⟨FOK.mk Tryz.runUnderlying106 rfl Tryz.sizeOf9 rfl, FOK.mk Tryz.runUnderlying106 rfl Tryz.sizeOf104 rfl, trivial⟩
def nt_cursitorlaw14 : List Nat := [9, 104]
theorem nt_cursitorlaw14_ok : NOK Tryz.prog nt_cursitorlaw14 := ⟨Tryz.isAgg9, Tryz.isAgg104, trivial⟩
def f_l14_Few_l1 : List Top → Int → Int → Option (Lp Int (Int × Int))
  | [], y3, y4 => some (Lp.go (y3, y4))
  | x10 :: xs, y3, y4 => if -9223372036854775808 ≤ (4 * (x10.fParts.length : Int)) ∧ (4 * (x10.fParts.length : Int)) ≤ 9223372036854775807 then (if -9223372036854775808 ≤ ((x10.fName.length : Int) + (4 * (x10.fParts.length : Int))) ∧ ((x10.fName.length : Int) + (4 * (x10.fParts.length : Int))) ≤ 9223372036854775807 then (if -9223372036854775808 ≤ (((x10.fName.length : Int) + (4 * (x10.fParts.length : Int))) + 6) ∧ (((x10.fName.length : Int) + (4 * (x10.fParts.length : Int))) + 6) ≤ 9223372036854775807 then (if -9223372036854775808 ≤ (y4 + (((x10.fName.length : Int) + (4 * (x10.fParts.length : Int))) + 6)) ∧ (y4 + (((x10.fName.length : Int) + (4 * (x10.fParts.length : Int))) + 6)) ≤ 9223372036854775807 then (if (y4 + (((x10.fName.length : Int) + (4 * (x10.fParts.length : Int))) + 6)) > 1000 then some (Lp.ret 0) else (f_l14_Few_l1 xs y3 (y4 + (((x10.fName.length : Int) + (4 * (x10.fParts.length : Int))) + 6)))) else none) else none) else none) else none
def f_l14_Few (a0 : List Top) : Option (Int) := (f_l14_Few_l1 a0 0 0).bind fun e => match e with | .ret r => some r | .go (y23, y24) => some 1
set_option maxRecDepth 100000 in
set_option maxHeartbeats 4000000 in
theorem f_l14_Few_spec (a0 : List Top) (A1 : Option Addr) (c2 : Nat) (r : Int) (h : f_l14_Few a0 = some r) : SpecX Tryz.prog 18 #[.slice A1 a0.length c2] (RX.of (sliceRd 2 Top_rd) [.slice A1 a0.length c2] a0) (EmpR) (fun v A' N => v = .int .i64 r ∧ A' = EmpR ∧ N = []) := by
  refine enterA Tryz.func18 rfl Tryz.ntmps18 rfl ?_
  intro F w hX
  unfold f_l14_Few at h
  refine T.seq (T.region rfl ?_)
  refine TL.run ft_cursitorlaw14_ok [0] rfl rfl ?_
  refine TL.nil (X.seq (T.seq (T.region rfl ?_)))
  refine TL.run ft_cursitorlaw14_ok [0] rfl rfl ?_
  refine TL.nil (X.seq (T.seq (T.seq (T.region rfl ?_))))
  refine TL.run ft_cursitorlaw14_ok [0] rfl rfl ?_
  refine TL.q rfl .u (Ex.lenS rfl Tryz.runUnderlying60) rfl ?_
  refine TL.run ft_cursitorlaw14_ok [2] rfl rfl ?_
  refine TL.nil (X.seq (T.block ?_))
  obtain ⟨E6, hE7, hO8⟩ := Option.bind_eq_some_iff.1 h
  have hk12len := RX.len_le hX
  refine T.lp (fun m e Rs => ∃ (y3 : Int) (y4 : Int) (k5 : Nat), k5 + m = a0.length ∧ e = [(2, .int .i64 y3), (3, .int .i64 y4), (6, .slice A1 a0.length c2), (7, .int .i64 (a0.length : Int)), (8, .int .i64 (k5 : Int))] ∧ Rs = [EmpR] ∧ f_l14_Few_l1 (a0.drop k5) y3 y4 = some E6) (a0.length) [0] ⟨0, 0, 0, by simp, rfl, rfl, by rw [List.drop_zero]; exact hE7⟩ (by rfl) (by rfl) ?_
  rintro m9 _ _ ⟨y3, y4, k5, hk12, rfl, rfl, hl11⟩
  clear hE7 h
  cases m9 with
  | zero =>
    have h := hl11
    clear hl11
    rw [List.drop_of_length_le (by omega), f_l14_Few_l1] at h
    have hk12ge : ¬ ((k5 : Int) < (a0.length : Int)) := by omega
    refine T.seq (T.region rfl ?_)
    refine TL.run ft_cursitorlaw14_ok [0] rfl rfl ?_
    refine TL.nil (X.seq (T.seq ?_))
    refine T.no rfl (decide_eq_false hk12ge) ?_
    obtain rfl := Option.some.inj h
    replace h := hO8
    clear hO8
    try dsimp only at h
    refine T.exit (X.exs (X.exs (X.ex (X.seq (T.seq (T.region rfl ?_))))))
    refine TL.run ft_cursitorlaw14_ok [0] rfl rfl ?_
    obtain rfl := Option.some.inj h
    exact TL.nil (X.seq (T.ret (X.done1 [0] Tryz.results18 (RV.tm rfl) ⟨rfl, rfl, rfl⟩ (by rfl) (.inl rfl))))
  | succ m9 =>
    have h := hl11
    clear hl11
    obtain ⟨x10, hxx10⟩ : ∃ x, a0[k5]? = some x := ⟨_, List.getElem?_eq_getElem (by omega)⟩
    rw [drop_cons hxx10, f_l14_Few_l1] at h
    have hk12lt : (k5 : Int) < (a0.length : Int) := by omega
    refine T.seq (T.region rfl ?_)
    refine TL.run ft_cursitorlaw14_ok [0] rfl rfl ?_
    refine TL.nil (X.seq (T.seq ?_))
    refine T.yes rfl (decide_eq_true hk12lt) ?_
    obtain ⟨gz13, oz13, rfl, z13cs, z13cl, z13cc, z13nf, z13r⟩ := RX.elem (by decide) hX hxx10
    obtain ⟨z13S, z13r, z13rr⟩ := z13r
    obtain ⟨A14, c15, rfl, z13s0⟩ := z13r
    have hX16 : (RX.of (sliceRd 1 intE) [.slice A14 x10.fParts.length c15] x10.fParts).reads w F := ⟨z13S, z13s0, z13rr⟩
    refine T.skip (X.seq (T.seq (T.block (T.seq (T.region rfl ?_)))))
    refine TL.q rfl .u (Ex.ixS (k := k5) rfl rfl rfl Tryz.runUnderlying60 Tryz.sizeOf106 (List.getElem?_eq_some_iff.1 hxx10).1) rfl ?_
    refine TL.q rfl .u (Ex.oS (us := [.string (bsOf x10.fName), .slice A14 x10.fParts.length c15]) 0 rfl Tryz.isAgg106 Tryz.sizeOf106 z13nf z13cc rfl rfl rfl) rfl ?_
    refine TL.alloc rfl .u Tryz.zeroValue106 rfl (fun b17 => ?_)
    refine TL.st0 (cs' := #[.string (bsOf x10.fName), .slice A14 x10.fParts.length c15]) rfl .u rfl rfl Tryz.sizeOf106 rfl rfl rfl rfl ?_
    refine TL.nil (X.seq (T.seq (T.region rfl ?_)))
    refine TL.rb ft_cursitorlaw14_ok nt_cursitorlaw14_ok 0 rfl 3 rfl rfl ?_
    refine TL.q rfl .u (Ex.lenB rfl Tryz.runUnderlying9) rfl ?_
    refine TL.rb ft_cursitorlaw14_ok nt_cursitorlaw14_ok 0 rfl 2 rfl rfl ?_
    refine TL.q rfl .u (Ex.lenS rfl Tryz.runUnderlying104) rfl ?_
    replace h := guard_some h
    obtain ⟨c18, h⟩ := h
    refine TL.q rfl .u (Ex.mul rfl rfl c18) rfl ?_
    replace h := guard_some h
    obtain ⟨c19, h⟩ := h
    refine TL.q rfl .u (Ex.add rfl rfl c19) rfl ?_
    replace h := guard_some h
    obtain ⟨c20, h⟩ := h
    refine TL.q rfl .u (Ex.add rfl rfl c20) rfl ?_
    replace h := guard_some h
    obtain ⟨c21, h⟩ := h
    refine TL.q rfl .u (Ex.add rfl rfl c21) rfl ?_
    refine TL.run ft_cursitorlaw14_ok [11] rfl rfl ?_
    refine TL.nil (X.seq (T.seq (T.region rfl ?_)))
    refine TL.run ft_cursitorlaw14_ok [0, 1] rfl rfl ?_
    by_cases c22 : (y4 + (((x10.fName.length : Int) + (4 * (x10.fParts.length : Int))) + 6)) > 1000
    · replace h := ifT c22 h
      refine TL.nil (X.seq ?_)
      refine T.yes rfl (decide_eq_true c22) ?_
      refine T.seq (T.region rfl ?_)
      refine TL.run ft_cursitorlaw14_ok [0] rfl rfl ?_
      obtain rfl := Option.some.inj h
      replace h := hO8
      clear hO8
      try dsimp only at h
      obtain rfl := Option.some.inj h
      exact TL.nil (X.seq (T.ret (X.rb (X.rs (X.rs (X.rb (X.rs (X.done1 [1] Tryz.results18 (RV.tm rfl) ⟨rfl, rfl, rfl⟩ (by rfl) (.inl rfl)))))))))
    · replace h := ifF c22 h
      refine TL.nil (X.seq ?_)
      refine T.no rfl (decide_eq_false c22) ?_
      refine T.skip (X.blk (X.seq (T.region rfl ?_)))
      refine TL.q rfl .u (Ex.add rfl rfl (by omega)) rfl ?_
      refine TL.run ft_cursitorlaw14_ok [1] rfl rfl ?_
      exact TL.nil (X.back (m' := m9) [1] (by omega) ⟨y3, (y4 + (((x10.fName.length : Int) + (4 * (x10.fParts.length : Int))) + 6)), k5 + 1, by omega, rfl, rfl, h⟩ (by rfl) (by rfl))
end Go.Proofs.YtlhgogjcaegehaaGreat.Sl
namespace Go.Proofs.YtlhgogjcaegehaaGreat.Sl
open Go.RowKit
set_option linter.unusedVariables false
set_option linter.unusedSimpArgs false
set_option maxRecDepth 100000
def ft_value : FTab := [(106, 0, 0), (106, 1, 1), (137, 0, 0), (137, 1, 1), (137, 2, 2), (137, 3, 3), (137, 4, 4), (137, 5, 5), (137, 6, 6)]
theorem ft_value_ok : (ft_value).OK Tryz.prog := ⟨FOK.mk Tryz.runUnderlying106 rfl Tryz.sizeOf9 rfl, FOK.mk Tryz.runUnderlying106 rfl Tryz.sizeOf104 rfl, FOK.mk Tryz.runUnderlying137 rfl Tryz.sizeOf3 rfl, FOK.mk Tryz.runUnderlying137 rfl Tryz.sizeOf3 rfl, FOK.mk Tryz.runUnderlying137 rfl Tryz.sizeOf3 rfl, FOK.mk Tryz.runUnderlying137 rfl Tryz.sizeOf3 rfl, FOK.mk Tryz.runUnderlying137 rfl Tryz.sizeOf60 rfl, FOK.mk Tryz.runUnderlying137 rfl Tryz.sizeOf3 rfl, FOK.mk Tryz.runUnderlying137 rfl Tryz.sizeOf3 rfl, trivial⟩
def nt_value : List Nat := [3, 9, 60, 104]
theorem nt_value_ok : NOK Tryz.prog nt_value := ⟨Tryz.isAgg3, Tryz.isAgg9, Tryz.isAgg60, Tryz.isAgg104, trivial⟩
theorem mix_value : Tryz.prog.follows .mixedOrders = true := by kernel_rfl
theorem sok_value_134_1 : SOK Tryz.prog 134 9 1 1 #[.string ⟨#[]⟩] := SOK.mk Tryz.runUnderlying134 Tryz.sizeOf9 Tryz.zeroValue9 (by decide) (by kernel_rfl)
theorem inf_value_9 : (Tryz.prog.info? 9).map (fun i => (i.zero, i.size, i.bytes)) = some (some (.string ⟨#[]⟩), 1, 16) := by kernel_rfl
def f_value_Idle (a0 : Int) : Option (Bool) := if a0 = 0 then some true else (if a0 ≥ 4 then some true else some false)
set_option maxRecDepth 100000 in
set_option maxHeartbeats 4000000 in
theorem f_value_Idle_spec (a0 : Int) (r : Bool) (h : f_value_Idle a0 = some r) : SpecX Tryz.prog 83 #[.int .i64 a0] .triv (EmpR) (fun v A' N => v = .bool r ∧ A' = EmpR ∧ N = []) := by
  refine enterA Tryz.func83 rfl Tryz.ntmps83 rfl ?_
  intro F w hX
  unfold f_value_Idle at h
  refine T.seq (T.region rfl ?_)
  refine TL.run ft_value_ok [0] rfl rfl ?_
  refine TL.nil (X.seq (T.seq (T.region rfl ?_)))
  by_cases c1 : a0 = 0
  · replace h := ifT c1 h
    refine TL.run ft_value_ok [0, 1, 2] rfl rfl ?_
    refine TL.hv 5 rfl (decide_eq_true c1) ?_
    refine TL.rw ft_value_ok 4 rfl ?_
    obtain rfl := Option.some.inj h
    exact TL.nil (X.seq (T.ret (X.done1 [0] Tryz.results83 (RV.tm rfl) ⟨rfl, rfl, rfl⟩ (by rfl) (.inl rfl))))
  · replace h := ifF c1 h
    refine TL.run ft_value_ok [0, 1, 2] rfl rfl ?_
    refine TL.hv 5 rfl (decide_eq_false c1) ?_
    refine TL.rw ft_value_ok 4 rfl ?_
    by_cases c2 : a0 ≥ 4
    · replace h := ifT c2 h
      obtain rfl := Option.some.inj h
      exact TL.nil (X.seq (T.ret (X.done1 [0] Tryz.results83 (RV.tm (v := .bool true) (congrArg (fun b => some (Value.bool b)) (decide_eq_true c2))) ⟨rfl, rfl, rfl⟩ (by rfl) (.inl rfl))))
    · replace h := ifF c2 h
      obtain rfl := Option.some.inj h
      exact TL.nil (X.seq (T.ret (X.done1 [0] Tryz.results83 (RV.tm (v := .bool false) (congrArg (fun b => some (Value.bool b)) (decide_eq_false c2))) ⟨rfl, rfl, rfl⟩ (by rfl) (.inl rfl))))
def f_value_risingint_l1 (a0 : List Int) : Nat → Bool → Int → Option (Lp Bool (Bool × Int))
  | 0, _, _ => none
  | m8 + 1, y3, y4 => if y4 < (a0.length : Int) then (if -9223372036854775808 ≤ (y4 - 1) ∧ (y4 - 1) ≤ 9223372036854775807 then (if 0 ≤ (y4 - 1) then ((a0[(y4 - 1).toNat]?).bind fun x15 => if 0 ≤ y4 then ((a0[y4.toNat]?).bind fun x19 => if x15 ≥ x19 then some (Lp.ret false) else (if -9223372036854775808 ≤ (y4 + 1) ∧ (y4 + 1) ≤ 9223372036854775807 then (f_value_risingint_l1 a0 m8 y3 (y4 + 1)) else none)) else none) else none) else none) else (some (Lp.go (y3, y4)))
def f_value_risingint (a0 : List Int) : Option (Bool) := (f_value_risingint_l1 a0 ((((a0.length : Int)) - (1)).toNat + 1) false 1).bind fun e => match e with | .ret r => some r | .go (y24, y25) => some true
set_option maxRecDepth 100000 in
set_option maxHeartbeats 4000000 in
theorem f_value_risingint_spec (a0 : List Int) (A1 : Option Addr) (c2 : Nat) (r : Bool) (h : f_value_risingint a0 = some r) : SpecX Tryz.prog 102 #[.slice A1 a0.length c2] (RX.of (sliceRd 1 intE) [.slice A1 a0.length c2] a0) (EmpR) (fun v A' N => v = .bool r ∧ A' = EmpR ∧ N = []) := by
  refine enterA Tryz.func102 rfl Tryz.ntmps102 rfl ?_
  intro F w hX
  unfold f_value_risingint at h
  refine T.seq (T.region rfl ?_)
  refine TL.run ft_value_ok [0] rfl rfl ?_
  refine TL.nil (X.seq (T.seq (T.seq (T.region rfl ?_))))
  refine TL.run ft_value_ok [0] rfl rfl ?_
  refine TL.nil (X.seq (T.block ?_))
  obtain ⟨E5, hE6, hO7⟩ := Option.bind_eq_some_iff.1 h
  refine T.lp (fun m e Rs => ∃ (y3 : Bool) (y4 : Int), e = [(0, .slice A1 a0.length c2), (2, .bool y3), (3, .int .i64 y4)] ∧ Rs = [EmpR] ∧ f_value_risingint_l1 a0 m y3 y4 = some E5) ((((a0.length : Int)) - (1)).toNat + 1) [0] ⟨false, 1, rfl, rfl, by exact hE6⟩ (by rfl) (by rfl) ?_
  rintro m8 _ _ ⟨y3, y4, rfl, rfl, hl10⟩
  clear hE6 h
  cases m8 with
  | zero =>
    rw [f_value_risingint_l1] at hl10
    cases hl10
  | succ m8 =>
    have h := hl10
    clear hl10
    rw [f_value_risingint_l1] at h
    refine T.seq (T.seq (T.region rfl ?_))
    refine TL.run ft_value_ok [0, 1] rfl rfl ?_
    refine TL.q rfl .u (Ex.lenS rfl Tryz.runUnderlying104) rfl ?_
    refine TL.run ft_value_ok [3] rfl rfl ?_
    by_cases c12 : y4 < (a0.length : Int)
    · replace h := ifT c12 h
      refine TL.nil (X.seq ?_)
      refine T.yes rfl (decide_eq_true c12) ?_
      refine T.skip (X.seq (T.seq (T.block (T.seq (T.draw (.q 0 (.q 1 (.q 2 (.q 3 (.q 4 (.q 5 (.q 6 (.q 7 (.q 8 (.q 9 .nil)))))))))) [0] rfl mix_value (NoP.seq (NoP.blk (NoP.seq (NoP.seq (NoP.blk (NoP.seq np_post)))))) (by kernel_rfl) ?_)))))
      replace h := guard_some h
      obtain ⟨c13, h⟩ := h
      refine TD.run ft_value_ok [0, 1] rfl rfl ?_
      refine TD.q rfl .u (Ex.sub rfl rfl c13) rfl ?_
      replace h := guard_some h
      obtain ⟨c14, h⟩ := h
      obtain ⟨x15, hx16, h⟩ := Option.bind_eq_some_iff.1 h
      obtain ⟨gz17, oz17, rfl, z17cs, z17cl, z17cc, z17nf, z17r⟩ := RX.elem (by decide) hX hx16
      obtain ⟨z17S, z17r, z17rr⟩ := z17r
      obtain rfl : z17cs = [.int .i64 x15] := z17r
      refine TD.q rfl .u (Ex.ixS (k := (y4 - 1).toNat) rfl rfl ((Int.toNat_of_nonneg c14).symm) Tryz.runUnderlying104 Tryz.sizeOf3 (List.getElem?_eq_some_iff.1 hx16).1) rfl ?_
      refine TD.q rfl .u (Ex.o1 0 rfl Tryz.isAgg3 z17nf z17cc rfl rfl) rfl ?_
      replace h := guard_some h
      obtain ⟨c18, h⟩ := h
      obtain ⟨x19, hx20, h⟩ := Option.bind_eq_some_iff.1 h
      obtain ⟨z21cs, z21cl, z21cc, z21nf, z21r⟩ := RX.elem' (by decide) hX hx20
      obtain ⟨z21S, z21r, z21rr⟩ := z21r
      obtain rfl : z21cs = [.int .i64 x19] := z21r
      refine TD.run ft_value_ok [5, 6] rfl rfl ?_
      refine TD.q rfl .u (Ex.ixS (k := y4.toNat) rfl rfl ((Int.toNat_of_nonneg c18).symm) Tryz.runUnderlying104 Tryz.sizeOf3 (List.getElem?_eq_some_iff.1 hx20).1) rfl ?_
      refine TD.q rfl .u (Ex.o1 0 rfl Tryz.isAgg3 z21nf z21cc rfl rfl) rfl ?_
      refine TD.run ft_value_ok [9] rfl rfl ?_
      by_cases c22 : x15 ≥ x19
      · replace h := ifT c22 h
        refine TD.nil (X.seq ?_)
        refine T.yes rfl (decide_eq_true c22) ?_
        refine T.seq (T.region rfl ?_)
        refine TL.run ft_value_ok [0] rfl rfl ?_
        obtain rfl := Option.some.inj h
        replace h := hO7
        clear hO7
        try dsimp only at h
        obtain rfl := Option.some.inj h
        exact TL.nil (X.seq (T.ret (X.rb (X.rs (X.rs (X.rb (X.rs (X.done1 [0] Tryz.results102 (RV.tm rfl) ⟨rfl, rfl, rfl⟩ (by rfl) (.inl rfl)))))))))
      · replace h := ifF c22 h
        refine TD.nil (X.seq ?_)
        refine T.no rfl (decide_eq_false c22) ?_
        refine T.skip (X.blk (X.seq (T.region rfl ?_)))
        replace h := guard_some h
        obtain ⟨c23, h⟩ := h
        refine TL.run ft_value_ok [0] rfl rfl ?_
        refine TL.q rfl .u (Ex.add rfl rfl c23) rfl ?_
        refine TL.run ft_value_ok [2] rfl rfl ?_
        exact TL.nil (X.back (m' := m8) [0] (by omega) ⟨y3, (y4 + 1), rfl, rfl, h⟩ (by rfl) (by rfl))
    · replace h := ifF c12 h
      refine TL.nil (X.seq ?_)
      refine T.no rfl (decide_eq_false c12) ?_
      obtain rfl := Option.some.inj h
      replace h := hO7
      clear hO7
      try dsimp only at h
      refine T.exit (X.exs (X.exs (X.ex (X.seq (T.seq (T.region rfl ?_))))))
      refine TL.run ft_value_ok [0] rfl rfl ?_
      obtain rfl := Option.some.inj h
      exact TL.nil (X.seq (T.ret (X.done1 [0] Tryz.results102 (RV.tm rfl) ⟨rfl, rfl, rfl⟩ (by rfl) (.inl rfl))))
def f_value_parts_l1 : List Int → Bool → Option (Lp Bool Bool)
  | [], y3 => some (Lp.go y3)
  | x9 :: xs, y3 => if x9 < 0 then some (Lp.ret false) else ((gFits x9 4).bind fun x14 => if x14 = true then (f_value_parts_l1 xs y3) else some (Lp.ret false))
def f_value_parts (a0 : List Int) : Option (Bool) := (f_value_parts_l1 a0 false).bind fun e => match e with | .ret r => some r | .go y17 => (if (a0.length : Int) > 0 then ((f_value_risingint a0).bind fun x20 => some x20) else some false)
set_option maxRecDepth 100000 in
set_option maxHeartbeats 4000000 in
theorem f_value_parts_spec (a0 : List Int) (A1 : Option Addr) (c2 : Nat) (r : Bool) (h : f_value_parts a0 = some r) : SpecX Tryz.prog 97 #[.slice A1 a0.length c2] (RX.of (sliceRd 1 intE) [.slice A1 a0.length c2] a0) (EmpR) (fun v A' N => v = .bool r ∧ A' = EmpR ∧ N = []) := by
  refine enterA Tryz.func97 rfl Tryz.ntmps97 rfl ?_
  intro F w hX
  unfold f_value_parts at h
  refine T.seq (T.region rfl ?_)
  refine TL.run ft_value_ok [0] rfl rfl ?_
  refine TL.nil (X.seq (T.seq (T.seq (T.region rfl ?_))))
  refine TL.run ft_value_ok [0] rfl rfl ?_
  refine TL.q rfl .u (Ex.lenS rfl Tryz.runUnderlying104) rfl ?_
  refine TL.run ft_value_ok [2] rfl rfl ?_
  refine TL.nil (X.seq (T.block ?_))
  obtain ⟨E5, hE6, hO7⟩ := Option.bind_eq_some_iff.1 h
  have hk11len := RX.len_le hX
  refine T.lp (fun m e Rs => ∃ (y3 : Bool) (k4 : Nat), k4 + m = a0.length ∧ e = [(0, .slice A1 a0.length c2), (2, .bool y3), (5, .slice A1 a0.length c2), (6, .int .i64 (a0.length : Int)), (7, .int .i64 (k4 : Int))] ∧ Rs = [EmpR] ∧ f_value_parts_l1 (a0.drop k4) y3 = some E5) (a0.length) [0] ⟨false, 0, by simp, rfl, rfl, by rw [List.drop_zero]; exact hE6⟩ (by rfl) (by rfl) ?_
  rintro m8 _ _ ⟨y3, k4, hk11, rfl, rfl, hl10⟩
  clear hE6 h
  cases m8 with
  | zero =>
    have h := hl10
    clear hl10
    rw [List.drop_of_length_le (by omega), f_value_parts_l1] at h
    have hk11ge : ¬ ((k4 : Int) < (a0.length : Int)) := by omega
    refine T.seq (T.region rfl ?_)
    refine TL.run ft_value_ok [0] rfl rfl ?_
    refine TL.nil (X.seq (T.seq ?_))
    refine T.no rfl (decide_eq_false hk11ge) ?_
    obtain rfl := Option.some.inj h
    replace h := hO7
    clear hO7
    try dsimp only at h
    refine T.exit (X.exs (X.exs (X.ex (X.seq (T.seq (T.region rfl ?_))))))
    refine TL.run ft_value_ok [0] rfl rfl ?_
    refine TL.q rfl .u (Ex.lenS rfl Tryz.runUnderlying104) rfl ?_
    by_cases c22 : (a0.length : Int) > 0
    · replace h := ifT c22 h
      refine TL.run ft_value_ok [2, 3] rfl rfl ?_
      refine TL.hv 22 rfl (decide_eq_true c22) ?_
      obtain ⟨x23, hx24, h⟩ := Option.bind_eq_some_iff.1 h
      refine TL.rw ft_value_ok 1 rfl ?_
      refine TL.ce rfl (.g rfl rfl rfl) (.fn Tryz.call102 rfl) (f_value_risingint_spec a0 _ _ _ hx24) (fun _ hs => (SrcE.old hs hX)) rfl ?_
      refine TL.rw ft_value_ok 2 rfl ?_
      obtain rfl := Option.some.inj h
      exact TL.nil (X.seq (T.ret (X.done1 [0] Tryz.results97 (RV.tm rfl) ⟨rfl, rfl, rfl⟩ (by rfl) (.inl rfl))))
    · replace h := ifF c22 h
      refine TL.run ft_value_ok [2, 3] rfl rfl ?_
      refine TL.hv 22 rfl (decide_eq_false c22) ?_
      refine TL.rw ft_value_ok 4 rfl ?_
      obtain rfl := Option.some.inj h
      exact TL.nil (X.seq (T.ret (X.done1 [0] Tryz.results97 (RV.tm rfl) ⟨rfl, rfl, rfl⟩ (by rfl) (.inl rfl))))
  | succ m8 =>
    have h := hl10
    clear hl10
    obtain ⟨x9, hxx9⟩ : ∃ x, a0[k4]? = some x := ⟨_, List.getElem?_eq_getElem (by omega)⟩
    rw [drop_cons hxx9, f_value_parts_l1] at h
    have hk11lt : (k4 : Int) < (a0.length : Int) := by omega
    refine T.seq (T.region rfl ?_)
    refine TL.run ft_value_ok [0] rfl rfl ?_
    refine TL.nil (X.seq (T.seq ?_))
    refine T.yes rfl (decide_eq_true hk11lt) ?_
    obtain ⟨gz12, oz12, rfl, z12cs, z12cl, z12cc, z12nf, z12r⟩ := RX.elem (by decide) hX hxx9
    obtain ⟨z12S, z12r, z12rr⟩ := z12r
    obtain rfl : z12cs = [.int .i64 x9] := z12r
    refine T.skip (X.seq (T.seq (T.block (T.seq (T.region rfl ?_)))))
    refine TL.q rfl .u (Ex.ixS (k := k4) rfl rfl rfl Tryz.runUnderlying104 Tryz.sizeOf3 (List.getElem?_eq_some_iff.1 hxx9).1) rfl ?_
    refine TL.q rfl .u (Ex.o1 0 rfl Tryz.isAgg3 z12nf z12cc rfl rfl) rfl ?_
    refine TL.run ft_value_ok [2] rfl rfl ?_
    refine TL.nil (X.seq (T.seq (T.region rfl ?_)))
    by_cases c13 : x9 < 0
    · replace h := ifT c13 h
      refine TL.run ft_value_ok [0, 1, 2] rfl rfl ?_
      refine TL.hv 13 rfl (decide_eq_true c13) ?_
      refine TL.rw ft_value_ok 4 rfl ?_
      refine TL.nil (X.seq ?_)
      refine T.yes rfl rfl ?_
      refine T.seq (T.region rfl ?_)
      refine TL.run ft_value_ok [0] rfl rfl ?_
      obtain rfl := Option.some.inj h
      replace h := hO7
      clear hO7
      try dsimp only at h
      obtain rfl := Option.some.inj h
      exact TL.nil (X.seq (T.ret (X.rb (X.rs (X.rs (X.rb (X.rs (X.done1 [0] Tryz.results97 (RV.tm rfl) ⟨rfl, rfl, rfl⟩ (by rfl) (.inl rfl)))))))))
    · replace h := ifF c13 h
      refine TL.run ft_value_ok [0, 1, 2] rfl rfl ?_
      refine TL.hv 13 rfl (decide_eq_false c13) ?_
      obtain ⟨x14, hx15, h⟩ := Option.bind_eq_some_iff.1 h
      refine TL.rw ft_value_ok 1 rfl ?_
      refine TL.ce rfl (.g rfl rfl rfl) (.fn Tryz.call40 rfl) (SpecX.pure (fun w => gFits_spec x9 4 _ hx15 w)) (fun _ _ => RX.reads_triv _ _) rfl ?_
      refine TL.rw ft_value_ok 2 rfl ?_
      by_cases c16 : x14 = true
      · replace h := ifT c16 h
        refine TL.nil (X.seq ?_)
        refine T.no rfl (bn_f c16) ?_
        refine T.skip (X.blk (X.seq (T.region rfl ?_)))
        refine TL.q rfl .u (Ex.add rfl rfl (by omega)) rfl ?_
        refine TL.run ft_value_ok [1] rfl rfl ?_
        exact TL.nil (X.back (m' := m8) [0] (by omega) ⟨y3, k4 + 1, by omega, rfl, rfl, h⟩ (by rfl) (by rfl))
      · replace h := ifF c16 h
        replace c16 := eq_false_of_ne_true c16
        refine TL.nil (X.seq ?_)
        refine T.yes rfl (bn_t c16) ?_
        refine T.seq (T.region rfl ?_)
        refine TL.run ft_value_ok [0] rfl rfl ?_
        obtain rfl := Option.some.inj h
        replace h := hO7
        clear hO7
        try dsimp only at h
        obtain rfl := Option.some.inj h
        exact TL.nil (X.seq (T.ret (X.rb (X.rs (X.rs (X.rb (X.rs (X.done1 [0] Tryz.results97 (RV.tm rfl) ⟨rfl, rfl, rfl⟩ (by rfl) (.inl rfl)))))))))
def f_value_risingstring_l1 (a0 : List (List UInt8)) : Nat → Bool → Int → Option (Lp Bool (Bool × Int))
  | 0, _, _ => none
  | m8 + 1, y3, y4 => if y4 < (a0.length : Int) then (if -9223372036854775808 ≤ (y4 - 1) ∧ (y4 - 1) ≤ 9223372036854775807 then (if 0 ≤ (y4 - 1) then ((a0[(y4 - 1).toNat]?).bind fun x15 => if 0 ≤ y4 then ((a0[y4.toNat]?).bind fun x19 => if (Op.bytesLess x15 x19) = true then (if -9223372036854775808 ≤ (y4 + 1) ∧ (y4 + 1) ≤ 9223372036854775807 then (f_value_risingstring_l1 a0 m8 y3 (y4 + 1)) else none) else some (Lp.ret false)) else none) else none) else none) else (some (Lp.go (y3, y4)))
def f_value_risingstring (a0 : List (List UInt8)) : Option (Bool) := (f_value_risingstring_l1 a0 ((((a0.length : Int)) - (1)).toNat + 1) false 1).bind fun e => match e with | .ret r => some r | .go (y24, y25) => some true
set_option maxRecDepth 100000 in
set_option maxHeartbeats 4000000 in
theorem f_value_risingstring_spec (a0 : List (List UInt8)) (A1 : Option Addr) (c2 : Nat) (r : Bool) (h : f_value_risingstring a0 = some r) : SpecX Tryz.prog 98 #[.slice A1 a0.length c2] (RX.of (sliceRd 1 strE) [.slice A1 a0.length c2] a0) (EmpR) (fun v A' N => v = .bool r ∧ A' = EmpR ∧ N = []) := by
  refine enterA Tryz.func98 rfl Tryz.ntmps98 rfl ?_
  intro F w hX
  unfold f_value_risingstring at h
  refine T.seq (T.region rfl ?_)
  refine TL.run ft_value_ok [0] rfl rfl ?_
  refine TL.nil (X.seq (T.seq (T.seq (T.region rfl ?_))))
  refine TL.run ft_value_ok [0] rfl rfl ?_
  refine TL.nil (X.seq (T.block ?_))
  obtain ⟨E5, hE6, hO7⟩ := Option.bind_eq_some_iff.1 h
  refine T.lp (fun m e Rs => ∃ (y3 : Bool) (y4 : Int), e = [(0, .slice A1 a0.length c2), (2, .bool y3), (3, .int .i64 y4)] ∧ Rs = [EmpR] ∧ f_value_risingstring_l1 a0 m y3 y4 = some E5) ((((a0.length : Int)) - (1)).toNat + 1) [0] ⟨false, 1, rfl, rfl, by exact hE6⟩ (by rfl) (by rfl) ?_
  rintro m8 _ _ ⟨y3, y4, rfl, rfl, hl10⟩
  clear hE6 h
  cases m8 with
  | zero =>
    rw [f_value_risingstring_l1] at hl10
    cases hl10
  | succ m8 =>
    have h := hl10
    clear hl10
    rw [f_value_risingstring_l1] at h
    refine T.seq (T.seq (T.region rfl ?_))
    refine TL.run ft_value_ok [0, 1] rfl rfl ?_
    refine TL.q rfl .u (Ex.lenS rfl Tryz.runUnderlying134) rfl ?_
    refine TL.run ft_value_ok [3] rfl rfl ?_
    by_cases c12 : y4 < (a0.length : Int)
    · replace h := ifT c12 h
      refine TL.nil (X.seq ?_)
      refine T.yes rfl (decide_eq_true c12) ?_
      refine T.skip (X.seq (T.seq (T.block (T.seq (T.draw (.q 0 (.q 1 (.q 2 (.q 3 (.q 4 (.q 5 (.q 6 (.q 7 (.q 8 (.q 9 .nil)))))))))) [0] rfl mix_value (NoP.seq (NoP.blk (NoP.seq (NoP.seq (NoP.blk (NoP.seq np_post)))))) (by kernel_rfl) ?_)))))
      replace h := guard_some h
      obtain ⟨c13, h⟩ := h
      refine TD.run ft_value_ok [0, 1] rfl rfl ?_
      refine TD.q rfl .u (Ex.sub rfl rfl c13) rfl ?_
      replace h := guard_some h
      obtain ⟨c14, h⟩ := h
      obtain ⟨x15, hx16, h⟩ := Option.bind_eq_some_iff.1 h
      obtain ⟨gz17, oz17, rfl, z17cs, z17cl, z17cc, z17nf, z17r⟩ := RX.elem (by decide) hX hx16
      obtain ⟨z17S, z17r, z17rr⟩ := z17r
      obtain rfl : z17cs = [.string (bsOf x15)] := z17r
      refine TD.q rfl .u (Ex.ixS (k := (y4 - 1).toNat) rfl rfl ((Int.toNat_of_nonneg c14).symm) Tryz.runUnderlying134 Tryz.sizeOf9 (List.getElem?_eq_some_iff.1 hx16).1) rfl ?_
      refine TD.q rfl .u (Ex.o1 0 rfl Tryz.isAgg9 z17nf z17cc rfl rfl) rfl ?_
      replace h := guard_some h
      obtain ⟨c18, h⟩ := h
      obtain ⟨x19, hx20, h⟩ := Option.bind_eq_some_iff.1 h
      obtain ⟨z21cs, z21cl, z21cc, z21nf, z21r⟩ := RX.elem' (by decide) hX hx20
      obtain ⟨z21S, z21r, z21rr⟩ := z21r
      obtain rfl : z21cs = [.string (bsOf x19)] := z21r
      refine TD.run ft_value_ok [5, 6] rfl rfl ?_
      refine TD.q rfl .u (Ex.ixS (k := y4.toNat) rfl rfl ((Int.toNat_of_nonneg c18).symm) Tryz.runUnderlying134 Tryz.sizeOf9 (List.getElem?_eq_some_iff.1 hx20).1) rfl ?_
      refine TD.q rfl .u (Ex.o1 0 rfl Tryz.isAgg9 z21nf z21cc rfl rfl) rfl ?_
      refine TD.q rfl .u (Ex.sGe rfl rfl) rfl ?_
      by_cases c22 : (Op.bytesLess x15 x19) = true
      · replace h := ifT c22 h
        refine TD.nil (X.seq ?_)
        refine T.no rfl (bn_f c22) ?_
        refine T.skip (X.blk (X.seq (T.region rfl ?_)))
        replace h := guard_some h
        obtain ⟨c23, h⟩ := h
        refine TL.run ft_value_ok [0] rfl rfl ?_
        refine TL.q rfl .u (Ex.add rfl rfl c23) rfl ?_
        refine TL.run ft_value_ok [2] rfl rfl ?_
        exact TL.nil (X.back (m' := m8) [0] (by omega) ⟨y3, (y4 + 1), rfl, rfl, h⟩ (by rfl) (by rfl))
      · replace h := ifF c22 h
        replace c22 := eq_false_of_ne_true c22
        refine TD.nil (X.seq ?_)
        refine T.yes rfl (bn_t c22) ?_
        refine T.seq (T.region rfl ?_)
        refine TL.run ft_value_ok [0] rfl rfl ?_
        obtain rfl := Option.some.inj h
        replace h := hO7
        clear hO7
        try dsimp only at h
        obtain rfl := Option.some.inj h
        exact TL.nil (X.seq (T.ret (X.rb (X.rs (X.rs (X.rb (X.rs (X.done1 [0] Tryz.results98 (RV.tm rfl) ⟨rfl, rfl, rfl⟩ (by rfl) (.inl rfl)))))))))
    · replace h := ifF c12 h
      refine TL.nil (X.seq ?_)
      refine T.no rfl (decide_eq_false c12) ?_
      obtain rfl := Option.some.inj h
      replace h := hO7
      clear hO7
      try dsimp only at h
      refine T.exit (X.exs (X.exs (X.ex (X.seq (T.seq (T.region rfl ?_))))))
      refine TL.run ft_value_ok [0] rfl rfl ?_
      obtain rfl := Option.some.inj h
      exact TL.nil (X.seq (T.ret (X.done1 [0] Tryz.results98 (RV.tm rfl) ⟨rfl, rfl, rfl⟩ (by rfl) (.inl rfl))))
def f_value_topics_l1 : List Top → Bool → List (List UInt8) → Option (Lp Bool (Bool × List (List UInt8)))
  | [], y3, y4 => some (Lp.go (y3, y4))
  | x12 :: xs, y3, y4 => if x12.fName = [] then some (Lp.ret false) else (if (x12.fName.length : Int) > 32767 then some (Lp.ret false) else ((f_value_parts x12.fParts).bind fun x22 => if x22 = true then (if (y4.length + 1) * 16 ≤ 140737488355328 then (f_value_topics_l1 xs y3 (y4 ++ [x12.fName])) else none) else some (Lp.ret false)))
def f_value_topics (a0 : List Top) : Option (Bool) := (f_value_topics_l1 a0 false []).bind fun e => match e with | .ret r => some r | .go (y29, y30) => ((f_value_risingstring y30).bind fun x34 => some x34)
set_option maxRecDepth 100000 in
set_option maxHeartbeats 4000000 in
theorem f_value_topics_spec (a0 : List Top) (A1 : Option Addr) (c2 : Nat) (r : Bool) (h : f_value_topics a0 = some r) : SpecX Tryz.prog 84 #[.slice A1 a0.length c2] (RX.of (sliceRd 2 Top_rd) [.slice A1 a0.length c2] a0) (EmpR) (fun v A' N => v = .bool r ∧ A' = EmpR ∧ N = []) := by
  refine enterA Tryz.func84 rfl Tryz.ntmps84 rfl ?_
  intro F w hX
  unfold f_value_topics at h
  refine T.seq (T.region rfl ?_)
  refine TL.run ft_value_ok [0] rfl rfl ?_
  refine TL.nil (X.seq (T.seq (T.region rfl ?_)))
  refine TL.run ft_value_ok [0] rfl rfl ?_
  refine TL.nil (X.seq (T.seq (T.seq (T.region rfl ?_))))
  refine TL.run ft_value_ok [0] rfl rfl ?_
  refine TL.q rfl .u (Ex.lenS rfl Tryz.runUnderlying60) rfl ?_
  refine TL.run ft_value_ok [2] rfl rfl ?_
  refine TL.nil (X.seq (T.block ?_))
  refine T.nilrow 9 1 strE ?_
  obtain ⟨E8, hE9, hO10⟩ := Option.bind_eq_some_iff.1 h
  have hk14len := RX.len_le hX
  refine T.lp (fun m e Rs => ∃ (y3 : Bool) (y4 : List (List UInt8)) (A5 : Option Addr) (c6 : Nat) (k7 : Nat), k7 + m = a0.length ∧ e = [(2, .bool y3), (3, .slice A5 y4.length c6), (6, .slice A1 a0.length c2), (7, .int .i64 (a0.length : Int)), (8, .int .i64 (k7 : Int))] ∧ Rs = [OwnR 9 1 strE (.slice A5 y4.length c6) y4, EmpR] ∧ f_value_topics_l1 (a0.drop k7) y3 y4 = some E8) (a0.length) [0, 0] ⟨false, [], none, 0, 0, by simp, rfl, rfl, by rw [List.drop_zero]; exact hE9⟩ (by rfl) (by rfl) ?_
  rintro m11 _ _ ⟨y3, y4, A5, c6, k7, hk14, rfl, rfl, hl13⟩
  clear hE9 h
  cases m11 with
  | zero =>
    have h := hl13
    clear hl13
    rw [List.drop_of_length_le (by omega), f_value_topics_l1] at h
    have hk14ge : ¬ ((k7 : Int) < (a0.length : Int)) := by omega
    refine T.seq (T.region rfl ?_)
    refine TL.run ft_value_ok [0] rfl rfl ?_
    refine TL.nil (X.seq (T.seq ?_))
    refine T.no rfl (decide_eq_false hk14ge) ?_
    obtain rfl := Option.some.inj h
    replace h := hO10
    clear hO10
    try dsimp only at h
    refine T.exit (X.exs (X.exs (X.ex (X.seq (T.seq (T.region rfl ?_))))))
    obtain ⟨x36, hx37, h⟩ := Option.bind_eq_some_iff.1 h
    refine TL.run ft_value_ok [0] rfl rfl ?_
    refine TL.ce rfl .u (.fn Tryz.call98 rfl) (f_value_risingstring_spec y4 _ _ _ hx37) (fun _ hs => (SrcE.res 0 hs rfl (fun w G h => own_reads (by decide) w G h))) rfl ?_
    refine TL.run ft_value_ok [2] rfl rfl ?_
    obtain rfl := Option.some.inj h
    exact TL.nil (X.seq (T.ret (X.done1 [1] Tryz.results84 (RV.tm rfl) ⟨rfl, rfl, rfl⟩ (by rfl) (.inl rfl))))
  | succ m11 =>
    have h := hl13
    clear hl13
    obtain ⟨x12, hxx12⟩ : ∃ x, a0[k7]? = some x := ⟨_, List.getElem?_eq_getElem (by omega)⟩
    rw [drop_cons hxx12, f_value_topics_l1] at h
    have hk14lt : (k7 : Int) < (a0.length : Int) := by omega
    refine T.seq (T.region rfl ?_)
    refine TL.run ft_value_ok [0] rfl rfl ?_
    refine TL.nil (X.seq (T.seq ?_))
    refine T.yes rfl (decide_eq_true hk14lt) ?_
    obtain ⟨gz15, oz15, rfl, z15cs, z15cl, z15cc, z15nf, z15r⟩ := RX.elem (by decide) hX hxx12
    obtain ⟨z15S, z15r, z15rr⟩ := z15r
    obtain ⟨A16, c17, rfl, z15s0⟩ := z15r
    have hX18 : (RX.of (sliceRd 1 intE) [.slice A16 x12.fParts.length c17] x12.fParts).reads w F := ⟨z15S, z15s0, z15rr⟩
    refine T.skip (X.seq (T.seq (T.block (T.seq (T.region rfl ?_)))))
    refine TL.q rfl .u (Ex.ixS (k := k7) rfl rfl rfl Tryz.runUnderlying60 Tryz.sizeOf106 (List.getElem?_eq_some_iff.1 hxx12).1) rfl ?_
    refine TL.q rfl .u (Ex.oS (us := [.string (bsOf x12.fName), .slice A16 x12.fParts.length c17]) 0 rfl Tryz.isAgg106 Tryz.sizeOf106 z15nf z15cc rfl rfl rfl) rfl ?_
    refine TL.alloc rfl .u Tryz.zeroValue106 rfl (fun b19 => ?_)
    refine TL.st0 (cs' := #[.string (bsOf x12.fName), .slice A16 x12.fParts.length c17]) rfl .u rfl rfl Tryz.sizeOf106 rfl rfl rfl rfl ?_
    refine TL.nil (X.seq (T.seq (T.seq (T.region rfl ?_))))
    refine TL.rb ft_value_ok nt_value_ok 0 rfl 2 rfl rfl ?_
    refine TL.q rfl .u (Ex.sEq rfl (m := []) rfl) rfl ?_
    by_cases c20 : x12.fName = []
    · replace h := ifT c20 h
      refine TL.run ft_value_ok [3] rfl rfl ?_
      refine TL.hv 15 rfl (decide_eq_true c20) ?_
      refine TL.rw ft_value_ok 11 rfl ?_
      refine TL.nil (X.seq ?_)
      refine T.yes rfl rfl ?_
      refine T.seq (T.region rfl ?_)
      refine TL.run ft_value_ok [0] rfl rfl ?_
      obtain rfl := Option.some.inj h
      replace h := hO10
      clear hO10
      try dsimp only at h
      obtain rfl := Option.some.inj h
      exact TL.nil (X.seq (T.ret (X.rs (X.rb (X.rs (X.rs (X.rb (X.rs (X.done1 [2] Tryz.results84 (RV.tm rfl) ⟨rfl, rfl, rfl⟩ (by rfl) (.inl rfl))))))))))
    · replace h := ifF c20 h
      refine TL.run ft_value_ok [3] rfl rfl ?_
      refine TL.hv 15 rfl (decide_eq_false c20) ?_
      refine TL.rb ft_value_ok nt_value_ok 0 rfl 2 rfl rfl ?_
      refine TL.q rfl (.g rfl rfl rfl) (Ex.lenB rfl Tryz.runUnderlying9) rfl ?_
      by_cases c21 : (x12.fName.length : Int) > 32767
      · replace h := ifT c21 h
        refine TL.rw ft_value_ok 3 rfl ?_
        refine TL.hv 21 rfl (decide_eq_true c21) ?_
        refine TL.rw ft_value_ok 5 rfl ?_
        refine TL.nil (X.seq ?_)
        refine T.yes rfl rfl ?_
        refine T.seq (T.region rfl ?_)
        refine TL.run ft_value_ok [0] rfl rfl ?_
        obtain rfl := Option.some.inj h
        replace h := hO10
        clear hO10
        try dsimp only at h
        obtain rfl := Option.some.inj h
        exact TL.nil (X.seq (T.ret (X.rs (X.rb (X.rs (X.rs (X.rb (X.rs (X.done1 [2] Tryz.results84 (RV.tm rfl) ⟨rfl, rfl, rfl⟩ (by rfl) (.inl rfl))))))))))
      · replace h := ifF c21 h
        refine TL.rw ft_value_ok 3 rfl ?_
        refine TL.hv 21 rfl (decide_eq_false c21) ?_
        obtain ⟨x22, hx23, h⟩ := Option.bind_eq_some_iff.1 h
        refine TL.rb ft_value_ok nt_value_ok 0 rfl 2 rfl rfl ?_
        refine TL.ce rfl (.g rfl rfl rfl) (.fn Tryz.call97 rfl) (f_value_parts_spec x12.fParts _ _ _ hx23) (fun _ hs => (SrcE.old hs hX18)) rfl ?_
        refine TL.rw ft_value_ok 2 rfl ?_
        by_cases c24 : x22 = true
        · replace h := ifT c24 h
          refine TL.nil (X.seq ?_)
          refine T.no rfl (bn_f c24) ?_
          refine T.skip (X.seq (T.region rfl ?_))
          refine TL.rb ft_value_ok nt_value_ok 0 rfl 3 rfl rfl ?_
          refine TL.lit (cells := #[.string (bsOf x12.fName)]) rfl .u sok_value_134_1 rfl (by rfl) rfl (fun b25 => ?_)
          replace h := guard_some h
          obtain ⟨c26, h⟩ := h
          refine TL.app1 1 rfl .u (us := [.string (bsOf x12.fName)]) (u := x12.fName) (l := y4) (E := strE) Tryz.underlying134 inf_value_9 rfl (by decide) rfl rfl rfl rfl rfl rfl (fun _ _ => rfl) (by have hq := c26; omega) (by have hq := c26; omega) rfl (fun A27 c28 => ?_)
          refine TL.sel [0, 0, 0] rfl ?_
          refine TL.run ft_value_ok [5] rfl rfl ?_
          refine TL.nil (X.blk (X.seq (T.region rfl ?_)))
          refine TL.q rfl .u (Ex.add rfl rfl (by omega)) rfl ?_
          refine TL.run ft_value_ok [1] rfl rfl ?_
          exact TL.nil (X.back (m' := m11) [1, 1] (by omega) ⟨y3, (y4 ++ [x12.fName]), A27, c28, k7 + 1, by omega, rfl, rfl, h⟩ (by rfl) (by rfl))
        · replace h := ifF c24 h
          replace c24 := eq_false_of_ne_true c24
          refine TL.nil (X.seq ?_)
          refine T.yes rfl (bn_t c24) ?_
          refine T.seq (T.region rfl ?_)
          refine TL.run ft_value_ok [0] rfl rfl ?_
          obtain rfl := Option.some.inj h
          replace h := hO10
          clear hO10
          try dsimp only at h
          obtain rfl := Option.some.inj h
          exact TL.nil (X.seq (T.ret (X.rs (X.rb (X.rs (X.rs (X.rb (X.rs (X.done1 [2] Tryz.results84 (RV.tm rfl) ⟨rfl, rfl, rfl⟩ (by rfl) (.inl rfl))))))))))
def f_value_Check (a0 : Val) : Option (Int) := if a0.fProducer < 0 then some 11 else (if a0.fEpoch < 0 then some 11 else ((gFits a0.fEpoch 2).bind fun x6 => if x6 = true then (if a0.fTimeout < 0 then some 11 else ((gFits a0.fTimeout 4).bind fun x10 => if x10 = true then (if a0.fUpdated < 0 then some 11 else (if a0.fStarted < (-1) then some 11 else (if a0.fState < 0 then some 12 else (if a0.fState ≥ 7 then some 12 else ((f_value_Idle a0.fState).bind fun x17 => if x17 = true then (if (a0.fTopics.length : Int) = 0 then (if a0.fState = 0 then (if a0.fStarted = (-1) then ((f_value_topics a0.fTopics).bind fun x23 => if x23 = true then some 0 else some 13) else some 10) else (if a0.fStarted = (-1) then some 10 else ((f_value_topics a0.fTopics).bind fun x27 => if x27 = true then some 0 else some 13))) else some 10) else (if (a0.fTopics.length : Int) = 0 then some 10 else (if a0.fState = 0 then (if a0.fStarted = (-1) then ((f_value_topics a0.fTopics).bind fun x33 => if x33 = true then some 0 else some 13) else some 10) else (if a0.fStarted = (-1) then some 10 else ((f_value_topics a0.fTopics).bind fun x37 => if x37 = true then some 0 else some 13))))))))) else some 11)) else some 11))
set_option maxRecDepth 100000 in
set_option maxHeartbeats 4000000 in
theorem f_value_Check_spec (a0 : Val) (A1 : Option Addr) (c2 : Nat) (r : Int) (h : f_value_Check a0 = some r) : SpecX Tryz.prog 66 #[.agg #[.int .i64 a0.fProducer, .int .i64 a0.fEpoch, .int .i64 a0.fTimeout, .int .i64 a0.fState, .slice A1 a0.fTopics.length c2, .int .i64 a0.fUpdated, .int .i64 a0.fStarted]] (RX.of (sliceRd 2 Top_rd) [.slice A1 a0.fTopics.length c2] a0.fTopics) (EmpR) (fun v A' N => v = .int .i64 r ∧ A' = EmpR ∧ N = []) := by
  refine enterA Tryz.func66 rfl Tryz.ntmps66 rfl ?_
  intro F w hX
  unfold f_value_Check at h
  refine T.seq (T.region rfl ?_)
  refine TL.box rfl .u rfl rfl (fun b3 => ?_)
  refine TL.run ft_value_ok [1] rfl rfl ?_
  refine TL.nil (X.seq (T.seq (T.block (T.seq (T.region rfl ?_)))))
  by_cases c4 : a0.fProducer < 0
  · replace h := ifT c4 h
    refine TL.rb ft_value_ok nt_value_ok 0 rfl 4 rfl rfl ?_
    refine TL.hv 7 rfl (decide_eq_true c4) ?_
    refine TL.rw ft_value_ok 32 rfl ?_
    refine TL.nil (X.seq ?_)
    refine T.yes rfl rfl ?_
    refine T.seq (T.region rfl ?_)
    refine TL.run ft_value_ok [0] rfl rfl ?_
    obtain rfl := Option.some.inj h
    exact TL.nil (X.seq (T.ret (X.rb (X.rs (X.done1 [1] Tryz.results66 (RV.tm rfl) ⟨rfl, rfl, rfl⟩ (by rfl) (.inl rfl))))))
  · replace h := ifF c4 h
    refine TL.rb ft_value_ok nt_value_ok 0 rfl 4 rfl rfl ?_
    refine TL.hv 7 rfl (decide_eq_false c4) ?_
    by_cases c5 : a0.fEpoch < 0
    · replace h := ifT c5 h
      refine TL.rb ft_value_ok nt_value_ok 0 rfl 5 rfl rfl ?_
      refine TL.hv 12 rfl (decide_eq_true c5) ?_
      refine TL.rw ft_value_ok 27 rfl ?_
      refine TL.nil (X.seq ?_)
      refine T.yes rfl rfl ?_
      refine T.seq (T.region rfl ?_)
      refine TL.run ft_value_ok [0] rfl rfl ?_
      obtain rfl := Option.some.inj h
      exact TL.nil (X.seq (T.ret (X.rb (X.rs (X.done1 [1] Tryz.results66 (RV.tm rfl) ⟨rfl, rfl, rfl⟩ (by rfl) (.inl rfl))))))
    · replace h := ifF c5 h
      refine TL.rb ft_value_ok nt_value_ok 0 rfl 5 rfl rfl ?_
      refine TL.hv 12 rfl (decide_eq_false c5) ?_
      obtain ⟨x6, hx7, h⟩ := Option.bind_eq_some_iff.1 h
      refine TL.rb ft_value_ok nt_value_ok 0 rfl 2 rfl rfl ?_
      refine TL.ce rfl (.g rfl rfl rfl) (.fn Tryz.call40 rfl) (SpecX.pure (fun w => gFits_spec a0.fEpoch 2 _ hx7 w)) (fun _ _ => RX.reads_triv _ _) rfl ?_
      by_cases c8 : x6 = true
      · replace h := ifT c8 h
        refine TL.rw ft_value_ok 3 rfl ?_
        refine TL.hv 18 rfl (bn_f c8) ?_
        by_cases c9 : a0.fTimeout < 0
        · replace h := ifT c9 h
          refine TL.rb ft_value_ok nt_value_ok 0 rfl 5 rfl rfl ?_
          refine TL.hv 23 rfl (decide_eq_true c9) ?_
          refine TL.rw ft_value_ok 16 rfl ?_
          refine TL.nil (X.seq ?_)
          refine T.yes rfl rfl ?_
          refine T.seq (T.region rfl ?_)
          refine TL.run ft_value_ok [0] rfl rfl ?_
          obtain rfl := Option.some.inj h
          exact TL.nil (X.seq (T.ret (X.rb (X.rs (X.done1 [1] Tryz.results66 (RV.tm rfl) ⟨rfl, rfl, rfl⟩ (by rfl) (.inl rfl))))))
        · replace h := ifF c9 h
          refine TL.rb ft_value_ok nt_value_ok 0 rfl 5 rfl rfl ?_
          refine TL.hv 23 rfl (decide_eq_false c9) ?_
          obtain ⟨x10, hx11, h⟩ := Option.bind_eq_some_iff.1 h
          refine TL.rb ft_value_ok nt_value_ok 0 rfl 2 rfl rfl ?_
          refine TL.ce rfl (.g rfl rfl rfl) (.fn Tryz.call40 rfl) (SpecX.pure (fun w => gFits_spec a0.fTimeout 4 _ hx11 w)) (fun _ _ => RX.reads_triv _ _) rfl ?_
          by_cases c12 : x10 = true
          · replace h := ifT c12 h
            refine TL.rw ft_value_ok 3 rfl ?_
            refine TL.hv 29 rfl (bn_f c12) ?_
            by_cases c13 : a0.fUpdated < 0
            · replace h := ifT c13 h
              refine TL.rb ft_value_ok nt_value_ok 0 rfl 5 rfl rfl ?_
              refine TL.hv 34 rfl (decide_eq_true c13) ?_
              refine TL.rw ft_value_ok 5 rfl ?_
              refine TL.nil (X.seq ?_)
              refine T.yes rfl rfl ?_
              refine T.seq (T.region rfl ?_)
              refine TL.run ft_value_ok [0] rfl rfl ?_
              obtain rfl := Option.some.inj h
              exact TL.nil (X.seq (T.ret (X.rb (X.rs (X.done1 [1] Tryz.results66 (RV.tm rfl) ⟨rfl, rfl, rfl⟩ (by rfl) (.inl rfl))))))
            · replace h := ifF c13 h
              refine TL.rb ft_value_ok nt_value_ok 0 rfl 5 rfl rfl ?_
              refine TL.hv 34 rfl (decide_eq_false c13) ?_
              refine TL.rb ft_value_ok nt_value_ok 0 rfl 5 rfl rfl ?_
              by_cases c14 : a0.fStarted < (-1)
              · replace h := ifT c14 h
                refine TL.nil (X.seq ?_)
                refine T.yes rfl (decide_eq_true c14) ?_
                refine T.seq (T.region rfl ?_)
                refine TL.run ft_value_ok [0] rfl rfl ?_
                obtain rfl := Option.some.inj h
                exact TL.nil (X.seq (T.ret (X.rb (X.rs (X.done1 [1] Tryz.results66 (RV.tm rfl) ⟨rfl, rfl, rfl⟩ (by rfl) (.inl rfl))))))
              · replace h := ifF c14 h
                refine TL.nil (X.seq ?_)
                refine T.no rfl (decide_eq_false c14) ?_
                refine T.seq (T.region rfl ?_)
                by_cases c15 : a0.fState < 0
                · replace h := ifT c15 h
                  refine TL.rb ft_value_ok nt_value_ok 0 rfl 4 rfl rfl ?_
                  refine TL.hv 43 rfl (decide_eq_true c15) ?_
                  refine TL.rw ft_value_ok 5 rfl ?_
                  refine TL.nil (X.seq ?_)
                  refine T.yes rfl rfl ?_
                  refine T.seq (T.region rfl ?_)
                  refine TL.run ft_value_ok [0] rfl rfl ?_
                  obtain rfl := Option.some.inj h
                  exact TL.nil (X.seq (T.ret (X.rb (X.rs (X.done1 [1] Tryz.results66 (RV.tm rfl) ⟨rfl, rfl, rfl⟩ (by rfl) (.inl rfl))))))
                · replace h := ifF c15 h
                  refine TL.rb ft_value_ok nt_value_ok 0 rfl 4 rfl rfl ?_
                  refine TL.hv 43 rfl (decide_eq_false c15) ?_
                  refine TL.rb ft_value_ok nt_value_ok 0 rfl 5 rfl rfl ?_
                  by_cases c16 : a0.fState ≥ 7
                  · replace h := ifT c16 h
                    refine TL.nil (X.seq ?_)
                    refine T.yes rfl (decide_eq_true c16) ?_
                    refine T.seq (T.region rfl ?_)
                    refine TL.run ft_value_ok [0] rfl rfl ?_
                    obtain rfl := Option.some.inj h
                    exact TL.nil (X.seq (T.ret (X.rb (X.rs (X.done1 [1] Tryz.results66 (RV.tm rfl) ⟨rfl, rfl, rfl⟩ (by rfl) (.inl rfl))))))
                  · replace h := ifF c16 h
                    refine TL.nil (X.seq ?_)
                    refine T.no rfl (decide_eq_false c16) ?_
                    refine T.seq (T.draw (.q 0 (.q 1 (.q 3 (.q 4 (.q 5 (.q 6 (.e 2 (.q 7 (.q 8 (.q 9 (.q 10 (.q 11 (.q 12 (.q 13 (.q 14 (.q 15 (.q 16 (.q 17 .nil)))))))))))))))))) [0, 0] rfl mix_value (NoP.seq (NoP.blk (NoP.seq np_post))) (by kernel_rfl) ?_)
                    refine TD.run ft_value_ok [0] rfl rfl ?_
                    refine TD.q rfl .u (Ex.b1 0 rfl Tryz.isAgg3 rfl rfl) rfl ?_
                    refine TD.run ft_value_ok [3] rfl rfl ?_
                    refine TD.q rfl .u (Ex.b1 0 rfl Tryz.isAgg60 rfl rfl) rfl ?_
                    refine TD.q rfl .u (Ex.lenS rfl Tryz.runUnderlying60) rfl ?_
                    obtain ⟨x17, hx18, h⟩ := Option.bind_eq_some_iff.1 h
                    refine TD.run ft_value_ok [6] rfl rfl ?_
                    refine TD.ce rfl .u (.fn Tryz.call83 rfl) (f_value_Idle_spec a0.fState _ hx18) (fun _ hs => (RX.reads_triv _ _)) rfl [0, 0] (rfl) ?_
                    by_cases c19 : x17 = true
                    · replace h := ifT c19 h
                      by_cases c20 : (a0.fTopics.length : Int) = 0
                      · replace h := ifT c20 h
                        refine TD.q rfl .u (Ex.bNe rfl c19 rfl (decide_eq_true c20) Tryz.runUnderlying4) rfl ?_
                        refine TD.run ft_value_ok [8] rfl rfl ?_
                        refine TD.q rfl (.g rfl rfl rfl) (Ex.ft ft_value_ok rfl) rfl ?_
                        refine TD.q rfl (.g rfl rfl rfl) (Ex.b1 0 rfl Tryz.isAgg3 rfl rfl) rfl ?_
                        refine TD.q rfl (.g rfl rfl rfl) (Ex.ft ft_value_ok rfl) rfl ?_
                        refine TD.q rfl (.g rfl rfl rfl) (Ex.ft ft_value_ok rfl) rfl ?_
                        refine TD.q rfl (.g rfl rfl rfl) (Ex.b1 0 rfl Tryz.isAgg3 rfl rfl) rfl ?_
                        refine TD.q rfl (.g rfl rfl rfl) (Ex.ft ft_value_ok rfl) rfl ?_
                        by_cases c21 : a0.fState = 0
                        · replace h := ifT c21 h
                          by_cases c22 : a0.fStarted = (-1)
                          · replace h := ifT c22 h
                            refine TD.q rfl (.g rfl rfl rfl) (Ex.bNe rfl (decide_eq_true c21) rfl (decide_eq_true c22) Tryz.runUnderlying4) rfl ?_
                            refine TD.q rfl .u (Ex.pn rfl rfl rfl) rfl ?_
                            refine TD.run ft_value_ok [17] rfl rfl ?_
                            refine TD.nil (X.seq ?_)
                            refine T.no rfl rfl ?_
                            refine T.seq (T.region rfl ?_)
                            obtain ⟨x23, hx24, h⟩ := Option.bind_eq_some_iff.1 h
                            refine TL.rb ft_value_ok nt_value_ok 0 rfl 2 rfl rfl ?_
                            refine TL.ce rfl .u (.fn Tryz.call84 rfl) (f_value_topics_spec a0.fTopics _ _ _ hx24) (fun _ hs => (SrcE.old hs hX)) rfl ?_
                            refine TL.run ft_value_ok [3, 4] rfl rfl ?_
                            by_cases c25 : x23 = true
                            · replace h := ifT c25 h
                              refine TL.nil (X.seq ?_)
                              refine T.no rfl (bn_f c25) ?_
                              refine T.skip (X.blk (X.seq (T.seq (T.region rfl ?_))))
                              refine TL.run ft_value_ok [0] rfl rfl ?_
                              obtain rfl := Option.some.inj h
                              exact TL.nil (X.seq (T.ret (X.done1 [1] Tryz.results66 (RV.tm rfl) ⟨rfl, rfl, rfl⟩ (by rfl) (.inl rfl))))
                            · replace h := ifF c25 h
                              replace c25 := eq_false_of_ne_true c25
                              refine TL.nil (X.seq ?_)
                              refine T.yes rfl (bn_t c25) ?_
                              refine T.seq (T.region rfl ?_)
                              refine TL.run ft_value_ok [0] rfl rfl ?_
                              obtain rfl := Option.some.inj h
                              exact TL.nil (X.seq (T.ret (X.rb (X.rs (X.done1 [1] Tryz.results66 (RV.tm rfl) ⟨rfl, rfl, rfl⟩ (by rfl) (.inl rfl))))))
                          · replace h := ifF c22 h
                            refine TD.q rfl (.g rfl rfl rfl) (Ex.bNe rfl (decide_eq_true c21) rfl (decide_eq_false c22) Tryz.runUnderlying4) rfl ?_
                            refine TD.q rfl .u (Ex.pn rfl rfl rfl) rfl ?_
                            refine TD.run ft_value_ok [17] rfl rfl ?_
                            refine TD.nil (X.seq ?_)
                            refine T.yes rfl rfl ?_
                            refine T.seq (T.region rfl ?_)
                            refine TL.run ft_value_ok [0] rfl rfl ?_
                            obtain rfl := Option.some.inj h
                            exact TL.nil (X.seq (T.ret (X.rb (X.rs (X.done1 [1] Tryz.results66 (RV.tm rfl) ⟨rfl, rfl, rfl⟩ (by rfl) (.inl rfl))))))
                        · replace h := ifF c21 h
                          by_cases c26 : a0.fStarted = (-1)
                          · replace h := ifT c26 h
                            refine TD.q rfl (.g rfl rfl rfl) (Ex.bNe rfl (decide_eq_false c21) rfl (decide_eq_true c26) Tryz.runUnderlying4) rfl ?_
                            refine TD.q rfl .u (Ex.pn rfl rfl rfl) rfl ?_
                            refine TD.run ft_value_ok [17] rfl rfl ?_
                            refine TD.nil (X.seq ?_)
                            refine T.yes rfl rfl ?_
                            refine T.seq (T.region rfl ?_)
                            refine TL.run ft_value_ok [0] rfl rfl ?_
                            obtain rfl := Option.some.inj h
                            exact TL.nil (X.seq (T.ret (X.rb (X.rs (X.done1 [1] Tryz.results66 (RV.tm rfl) ⟨rfl, rfl, rfl⟩ (by rfl) (.inl rfl))))))
                          · replace h := ifF c26 h
                            refine TD.q rfl (.g rfl rfl rfl) (Ex.bNe rfl (decide_eq_false c21) rfl (decide_eq_false c26) Tryz.runUnderlying4) rfl ?_
                            refine TD.q rfl .u (Ex.pn rfl rfl rfl) rfl ?_
                            refine TD.run ft_value_ok [17] rfl rfl ?_
                            refine TD.nil (X.seq ?_)
                            refine T.no rfl rfl ?_
                            refine T.seq (T.region rfl ?_)
                            obtain ⟨x27, hx28, h⟩ := Option.bind_eq_some_iff.1 h
                            refine TL.rb ft_value_ok nt_value_ok 0 rfl 2 rfl rfl ?_
                            refine TL.ce rfl .u (.fn Tryz.call84 rfl) (f_value_topics_spec a0.fTopics _ _ _ hx28) (fun _ hs => (SrcE.old hs hX)) rfl ?_
                            refine TL.run ft_value_ok [3, 4] rfl rfl ?_
                            by_cases c29 : x27 = true
                            · replace h := ifT c29 h
                              refine TL.nil (X.seq ?_)
                              refine T.no rfl (bn_f c29) ?_
                              refine T.skip (X.blk (X.seq (T.seq (T.region rfl ?_))))
                              refine TL.run ft_value_ok [0] rfl rfl ?_
                              obtain rfl := Option.some.inj h
                              exact TL.nil (X.seq (T.ret (X.done1 [1] Tryz.results66 (RV.tm rfl) ⟨rfl, rfl, rfl⟩ (by rfl) (.inl rfl))))
                            · replace h := ifF c29 h
                              replace c29 := eq_false_of_ne_true c29
                              refine TL.nil (X.seq ?_)
                              refine T.yes rfl (bn_t c29) ?_
                              refine T.seq (T.region rfl ?_)
                              refine TL.run ft_value_ok [0] rfl rfl ?_
                              obtain rfl := Option.some.inj h
                              exact TL.nil (X.seq (T.ret (X.rb (X.rs (X.done1 [1] Tryz.results66 (RV.tm rfl) ⟨rfl, rfl, rfl⟩ (by rfl) (.inl rfl))))))
                      · replace h := ifF c20 h
                        refine TD.q rfl .u (Ex.bNe rfl c19 rfl (decide_eq_false c20) Tryz.runUnderlying4) rfl ?_
                        refine TD.run ft_value_ok [8] rfl rfl ?_
                        refine TD.no rfl (.gn rfl rfl rfl) rfl ?_
                        refine TD.no rfl (.gn rfl rfl rfl) rfl ?_
                        refine TD.no rfl (.gn rfl rfl rfl) rfl ?_
                        refine TD.no rfl (.gn rfl rfl rfl) rfl ?_
                        refine TD.no rfl (.gn rfl rfl rfl) rfl ?_
                        refine TD.no rfl (.gn rfl rfl rfl) rfl ?_
                        refine TD.no rfl (.gn rfl rfl rfl) rfl ?_
                        refine TD.q rfl .u (Ex.py rfl rfl rfl) rfl ?_
                        refine TD.run ft_value_ok [17] rfl rfl ?_
                        refine TD.nil (X.seq ?_)
                        refine T.yes rfl rfl ?_
                        refine T.seq (T.region rfl ?_)
                        refine TL.run ft_value_ok [0] rfl rfl ?_
                        obtain rfl := Option.some.inj h
                        exact TL.nil (X.seq (T.ret (X.rb (X.rs (X.done1 [1] Tryz.results66 (RV.tm rfl) ⟨rfl, rfl, rfl⟩ (by rfl) (.inl rfl))))))
                    · replace h := ifF c19 h
                      replace c19 := eq_false_of_ne_true c19
                      by_cases c30 : (a0.fTopics.length : Int) = 0
                      · replace h := ifT c30 h
                        refine TD.q rfl .u (Ex.bNe rfl c19 rfl (decide_eq_true c30) Tryz.runUnderlying4) rfl ?_
                        refine TD.run ft_value_ok [8] rfl rfl ?_
                        refine TD.no rfl (.gn rfl rfl rfl) rfl ?_
                        refine TD.no rfl (.gn rfl rfl rfl) rfl ?_
                        refine TD.no rfl (.gn rfl rfl rfl) rfl ?_
                        refine TD.no rfl (.gn rfl rfl rfl) rfl ?_
                        refine TD.no rfl (.gn rfl rfl rfl) rfl ?_
                        refine TD.no rfl (.gn rfl rfl rfl) rfl ?_
                        refine TD.no rfl (.gn rfl rfl rfl) rfl ?_
                        refine TD.q rfl .u (Ex.py rfl rfl rfl) rfl ?_
                        refine TD.run ft_value_ok [17] rfl rfl ?_
                        refine TD.nil (X.seq ?_)
                        refine T.yes rfl rfl ?_
                        refine T.seq (T.region rfl ?_)
                        refine TL.run ft_value_ok [0] rfl rfl ?_
                        obtain rfl := Option.some.inj h
                        exact TL.nil (X.seq (T.ret (X.rb (X.rs (X.done1 [1] Tryz.results66 (RV.tm rfl) ⟨rfl, rfl, rfl⟩ (by rfl) (.inl rfl))))))
                      · replace h := ifF c30 h
                        refine TD.q rfl .u (Ex.bNe rfl c19 rfl (decide_eq_false c30) Tryz.runUnderlying4) rfl ?_
                        refine TD.run ft_value_ok [8] rfl rfl ?_
                        refine TD.q rfl (.g rfl rfl rfl) (Ex.ft ft_value_ok rfl) rfl ?_
                        refine TD.q rfl (.g rfl rfl rfl) (Ex.b1 0 rfl Tryz.isAgg3 rfl rfl) rfl ?_
                        refine TD.q rfl (.g rfl rfl rfl) (Ex.ft ft_value_ok rfl) rfl ?_
                        refine TD.q rfl (.g rfl rfl rfl) (Ex.ft ft_value_ok rfl) rfl ?_
                        refine TD.q rfl (.g rfl rfl rfl) (Ex.b1 0 rfl Tryz.isAgg3 rfl rfl) rfl ?_
                        refine TD.q rfl (.g rfl rfl rfl) (Ex.ft ft_value_ok rfl) rfl ?_
                        by_cases c31 : a0.fState = 0
                        · replace h := ifT c31 h
                          by_cases c32 : a0.fStarted = (-1)
                          · replace h := ifT c32 h
                            refine TD.q rfl (.g rfl rfl rfl) (Ex.bNe rfl (decide_eq_true c31) rfl (decide_eq_true c32) Tryz.runUnderlying4) rfl ?_
                            refine TD.q rfl .u (Ex.pn rfl rfl rfl) rfl ?_
                            refine TD.run ft_value_ok [17] rfl rfl ?_
                            refine TD.nil (X.seq ?_)
                            refine T.no rfl rfl ?_
                            refine T.seq (T.region rfl ?_)
                            obtain ⟨x33, hx34, h⟩ := Option.bind_eq_some_iff.1 h
                            refine TL.rb ft_value_ok nt_value_ok 0 rfl 2 rfl rfl ?_
                            refine TL.ce rfl .u (.fn Tryz.call84 rfl) (f_value_topics_spec a0.fTopics _ _ _ hx34) (fun _ hs => (SrcE.old hs hX)) rfl ?_
                            refine TL.run ft_value_ok [3, 4] rfl rfl ?_
                            by_cases c35 : x33 = true
                            · replace h := ifT c35 h
                              refine TL.nil (X.seq ?_)
                              refine T.no rfl (bn_f c35) ?_
                              refine T.skip (X.blk (X.seq (T.seq (T.region rfl ?_))))
                              refine TL.run ft_value_ok [0] rfl rfl ?_
                              obtain rfl := Option.some.inj h
                              exact TL.nil (X.seq (T.ret (X.done1 [1] Tryz.results66 (RV.tm rfl) ⟨rfl, rfl, rfl⟩ (by rfl) (.inl rfl))))
                            · replace h := ifF c35 h
                              replace c35 := eq_false_of_ne_true c35
                              refine TL.nil (X.seq ?_)
                              refine T.yes rfl (bn_t c35) ?_
                              refine T.seq (T.region rfl ?_)
                              refine TL.run ft_value_ok [0] rfl rfl ?_
                              obtain rfl := Option.some.inj h
                              exact TL.nil (X.seq (T.ret (X.rb (X.rs (X.done1 [1] Tryz.results66 (RV.tm rfl) ⟨rfl, rfl, rfl⟩ (by rfl) (.inl rfl))))))
                          · replace h := ifF c32 h
                            refine TD.q rfl (.g rfl rfl rfl) (Ex.bNe rfl (decide_eq_true c31) rfl (decide_eq_false c32) Tryz.runUnderlying4) rfl ?_
                            refine TD.q rfl .u (Ex.pn rfl rfl rfl) rfl ?_
                            refine TD.run ft_value_ok [17] rfl rfl ?_
                            refine TD.nil (X.seq ?_)
                            refine T.yes rfl rfl ?_
                            refine T.seq (T.region rfl ?_)
                            refine TL.run ft_value_ok [0] rfl rfl ?_
                            obtain rfl := Option.some.inj h
                            exact TL.nil (X.seq (T.ret (X.rb (X.rs (X.done1 [1] Tryz.results66 (RV.tm rfl) ⟨rfl, rfl, rfl⟩ (by rfl) (.inl rfl))))))
                        · replace h := ifF c31 h
                          by_cases c36 : a0.fStarted = (-1)
                          · replace h := ifT c36 h
                            refine TD.q rfl (.g rfl rfl rfl) (Ex.bNe rfl (decide_eq_false c31) rfl (decide_eq_true c36) Tryz.runUnderlying4) rfl ?_
                            refine TD.q rfl .u (Ex.pn rfl rfl rfl) rfl ?_
                            refine TD.run ft_value_ok [17] rfl rfl ?_
                            refine TD.nil (X.seq ?_)
                            refine T.yes rfl rfl ?_
                            refine T.seq (T.region rfl ?_)
                            refine TL.run ft_value_ok [0] rfl rfl ?_
                            obtain rfl := Option.some.inj h
                            exact TL.nil (X.seq (T.ret (X.rb (X.rs (X.done1 [1] Tryz.results66 (RV.tm rfl) ⟨rfl, rfl, rfl⟩ (by rfl) (.inl rfl))))))
                          · replace h := ifF c36 h
                            refine TD.q rfl (.g rfl rfl rfl) (Ex.bNe rfl (decide_eq_false c31) rfl (decide_eq_false c36) Tryz.runUnderlying4) rfl ?_
                            refine TD.q rfl .u (Ex.pn rfl rfl rfl) rfl ?_
                            refine TD.run ft_value_ok [17] rfl rfl ?_
                            refine TD.nil (X.seq ?_)
                            refine T.no rfl rfl ?_
                            refine T.seq (T.region rfl ?_)
                            obtain ⟨x37, hx38, h⟩ := Option.bind_eq_some_iff.1 h
                            refine TL.rb ft_value_ok nt_value_ok 0 rfl 2 rfl rfl ?_
                            refine TL.ce rfl .u (.fn Tryz.call84 rfl) (f_value_topics_spec a0.fTopics _ _ _ hx38) (fun _ hs => (SrcE.old hs hX)) rfl ?_
                            refine TL.run ft_value_ok [3, 4] rfl rfl ?_
                            by_cases c39 : x37 = true
                            · replace h := ifT c39 h
                              refine TL.nil (X.seq ?_)
                              refine T.no rfl (bn_f c39) ?_
                              refine T.skip (X.blk (X.seq (T.seq (T.region rfl ?_))))
                              refine TL.run ft_value_ok [0] rfl rfl ?_
                              obtain rfl := Option.some.inj h
                              exact TL.nil (X.seq (T.ret (X.done1 [1] Tryz.results66 (RV.tm rfl) ⟨rfl, rfl, rfl⟩ (by rfl) (.inl rfl))))
                            · replace h := ifF c39 h
                              replace c39 := eq_false_of_ne_true c39
                              refine TL.nil (X.seq ?_)
                              refine T.yes rfl (bn_t c39) ?_
                              refine T.seq (T.region rfl ?_)
                              refine TL.run ft_value_ok [0] rfl rfl ?_
                              obtain rfl := Option.some.inj h
                              exact TL.nil (X.seq (T.ret (X.rb (X.rs (X.done1 [1] Tryz.results66 (RV.tm rfl) ⟨rfl, rfl, rfl⟩ (by rfl) (.inl rfl))))))
          · replace h := ifF c12 h
            replace c12 := eq_false_of_ne_true c12
            refine TL.rw ft_value_ok 3 rfl ?_
            refine TL.hv 29 rfl (bn_t c12) ?_
            refine TL.rw ft_value_ok 10 rfl ?_
            refine TL.nil (X.seq ?_)
            refine T.yes rfl rfl ?_
            refine T.seq (T.region rfl ?_)
            refine TL.run ft_value_ok [0] rfl rfl ?_
            obtain rfl := Option.some.inj h
            exact TL.nil (X.seq (T.ret (X.rb (X.rs (X.done1 [1] Tryz.results66 (RV.tm rfl) ⟨rfl, rfl, rfl⟩ (by rfl) (.inl rfl))))))
      · replace h := ifF c8 h
        replace c8 := eq_false_of_ne_true c8
        refine TL.rw ft_value_ok 3 rfl ?_
        refine TL.hv 18 rfl (bn_t c8) ?_
        refine TL.rw ft_value_ok 21 rfl ?_
        refine TL.nil (X.seq ?_)
        refine T.yes rfl rfl ?_
        refine T.seq (T.region rfl ?_)
        refine TL.run ft_value_ok [0] rfl rfl ?_
        obtain rfl := Option.some.inj h
        exact TL.nil (X.seq (T.ret (X.rb (X.rs (X.done1 [1] Tryz.results66 (RV.tm rfl) ⟨rfl, rfl, rfl⟩ (by rfl) (.inl rfl))))))
def f_value_PutTopics_l2 : List Int → (List UInt8 × Int) → Option (List UInt8 × Int)
  | [], st24 => some st24
  | x29 :: xs, st24 => (gOInt st24 x29 4).bind fun st33 => f_value_PutTopics_l2 xs st33
def f_value_PutTopics_l1 : List Top → (List UInt8 × Int) → Option (List UInt8 × Int)
  | [], st6 => some st6
  | x11 :: xs, st6 => (gPutText st6 x11.fName).bind fun st19 => (gOInt st19 (x11.fParts.length : Int) 4).bind fun st21 => (f_value_PutTopics_l2 x11.fParts st21).bind fun st36 => f_value_PutTopics_l1 xs st36
def f_value_PutTopics (st : List UInt8 × Int) (a1 : List Top) : Option (List UInt8 × Int) := (gOInt st (a1.length : Int) 4).bind fun st3 => (f_value_PutTopics_l1 a1 st3).bind fun st38 => some st38
set_option maxRecDepth 100000 in
set_option maxHeartbeats 4000000 in
theorem f_value_PutTopics_spec (g : Nat) (st : List UInt8 × Int) (a1 : List Top) (A1 : Option Addr) (c2 : Nat) (r : List UInt8 × Int) (h : f_value_PutTopics st a1 = some r) : SpecX Tryz.prog 31 #[.pointer (some ⟨g, 0, none⟩), .slice A1 a1.length c2] (RX.of (sliceRd 2 Top_rd) [.slice A1 a1.length c2] a1) (OutR g st) (fun v A' N => v = .tuple #[] ∧ A' = OutR g r ∧ N = []) := by
  refine enterA Tryz.func31 rfl Tryz.ntmps31 rfl ?_
  intro F w hX
  unfold f_value_PutTopics at h
  refine T.seq (T.region rfl ?_)
  refine TL.run ft_value_ok [0, 1] rfl rfl ?_
  refine TL.q rfl .u (Ex.lenS rfl Tryz.runUnderlying60) rfl ?_
  obtain ⟨st3, hx4, h⟩ := Option.bind_eq_some_iff.1 h
  refine TL.c0 rfl .u (.fn Tryz.call24 rfl) (gOInt_spec g st (a1.length : Int) 4 _ hx4) (fun _ hs => (Src.triv _)) rfl ?_
  refine TL.nil (X.seq (T.seq (T.region rfl ?_)))
  refine TL.run ft_value_ok [0] rfl rfl ?_
  refine TL.q rfl .u (Ex.lenS rfl Tryz.runUnderlying60) rfl ?_
  refine TL.run ft_value_ok [2] rfl rfl ?_
  refine TL.nil (X.seq (T.block ?_))
  obtain ⟨E7, hE8, hO9⟩ := Option.bind_eq_some_iff.1 h
  have hk13len := RX.len_le hX
  refine T.lp (fun m e Rs => ∃ (k5 : Nat) (st6 : List UInt8 × Int), k5 + m = a1.length ∧ e = [(0, .pointer (some ⟨g, 0, none⟩)), (12, .slice A1 a1.length c2), (13, .int .i64 (a1.length : Int)), (14, .int .i64 (k5 : Int))] ∧ Rs = [OutR g st6] ∧ f_value_PutTopics_l1 (a1.drop k5) st6 = some E7) (a1.length) [0] ⟨0, st3, by simp, rfl, rfl, by rw [List.drop_zero]; exact hE8⟩ (by rfl) (by rfl) ?_
  rintro m10 _ _ ⟨k5, st6, hk13, rfl, rfl, hl12⟩
  clear hE8 h
  cases m10 with
  | zero =>
    have h := hl12
    clear hl12
    rw [List.drop_of_length_le (by omega), f_value_PutTopics_l1] at h
    have hk13ge : ¬ ((k5 : Int) < (a1.length : Int)) := by omega
    refine T.seq (T.region rfl ?_)
    refine TL.run ft_value_ok [0] rfl rfl ?_
    refine TL.nil (X.seq (T.seq ?_))
    refine T.no rfl (decide_eq_false hk13ge) ?_
    obtain rfl := Option.some.inj h
    replace h := hO9
    clear hO9
    try dsimp only at h
    obtain rfl := Option.some.inj h
    exact T.exit (X.exs (X.exs (X.ex (X.done0 [0] Tryz.results31 ⟨rfl, rfl, rfl⟩ (by rfl) (.inr rfl)))))
  | succ m10 =>
    have h := hl12
    clear hl12
    obtain ⟨x11, hxx11⟩ : ∃ x, a1[k5]? = some x := ⟨_, List.getElem?_eq_getElem (by omega)⟩
    rw [drop_cons hxx11, f_value_PutTopics_l1] at h
    have hk13lt : (k5 : Int) < (a1.length : Int) := by omega
    refine T.seq (T.region rfl ?_)
    refine TL.run ft_value_ok [0] rfl rfl ?_
    refine TL.nil (X.seq (T.seq ?_))
    refine T.yes rfl (decide_eq_true hk13lt) ?_
    obtain ⟨gz14, oz14, rfl, z14cs, z14cl, z14cc, z14nf, z14r⟩ := RX.elem (by decide) hX hxx11
    obtain ⟨z14S, z14r, z14rr⟩ := z14r
    obtain ⟨A15, c16, rfl, z14s0⟩ := z14r
    have hX17 : (RX.of (sliceRd 1 intE) [.slice A15 x11.fParts.length c16] x11.fParts).reads w F := ⟨z14S, z14s0, z14rr⟩
    refine T.skip (X.seq (T.seq (T.block (T.seq (T.region rfl ?_)))))
    refine TL.q rfl .u (Ex.ixS (k := k5) rfl rfl rfl Tryz.runUnderlying60 Tryz.sizeOf106 (List.getElem?_eq_some_iff.1 hxx11).1) rfl ?_
    refine TL.q rfl .u (Ex.oS (us := [.string (bsOf x11.fName), .slice A15 x11.fParts.length c16]) 0 rfl Tryz.isAgg106 Tryz.sizeOf106 z14nf z14cc rfl rfl rfl) rfl ?_
    refine TL.alloc rfl .u Tryz.zeroValue106 rfl (fun b18 => ?_)
    refine TL.st0 (cs' := #[.string (bsOf x11.fName), .slice A15 x11.fParts.length c16]) rfl .u rfl rfl Tryz.sizeOf106 rfl rfl rfl rfl ?_
    refine TL.nil (X.seq (T.seq (T.region rfl ?_)))
    obtain ⟨st19, hx20, h⟩ := Option.bind_eq_some_iff.1 h
    refine TL.rb ft_value_ok nt_value_ok 0 rfl 3 rfl rfl ?_
    refine TL.c1 rfl .u (.fn Tryz.call25 rfl) (gPutText_spec g st6 x11.fName _ hx20) (fun _ hs => (Src.triv _)) rfl ?_
    refine TL.nil (X.seq (T.seq (T.region rfl ?_)))
    refine TL.rb ft_value_ok nt_value_ok 0 rfl 3 rfl rfl ?_
    refine TL.q rfl .u (Ex.lenS rfl Tryz.runUnderlying104) rfl ?_
    obtain ⟨st21, hx22, h⟩ := Option.bind_eq_some_iff.1 h
    refine TL.c1 rfl .u (.fn Tryz.call24 rfl) (gOInt_spec g st19 (x11.fParts.length : Int) 4 _ hx22) (fun _ hs => (Src.triv _)) rfl ?_
    refine TL.nil (X.seq (T.seq (T.region rfl ?_)))
    refine TL.rb ft_value_ok nt_value_ok 0 rfl 2 rfl rfl ?_
    refine TL.q rfl .u (Ex.lenS rfl Tryz.runUnderlying104) rfl ?_
    refine TL.run ft_value_ok [3] rfl rfl ?_
    refine TL.nil (X.seq (T.block ?_))
    obtain ⟨E25, hE26, hO27⟩ := Option.bind_eq_some_iff.1 h
    have hk31len := RX.len_le hX17
    refine T.lp (fun m e Rs => ∃ (k23 : Nat) (st24 : List UInt8 × Int), k23 + m = x11.fParts.length ∧ e = [(0, .pointer (some ⟨g, 0, none⟩)), (12, .slice (some ⟨gz14, oz14, none⟩) a1.length c2), (13, .int .i64 (a1.length : Int)), (14, .int .i64 (k5 : Int)), (28, .slice A15 x11.fParts.length c16), (29, .int .i64 (x11.fParts.length : Int)), (30, .int .i64 (k23 : Int))] ∧ Rs = [BlkR b18 106 #[.string (bsOf x11.fName), .slice A15 x11.fParts.length c16], OutR g st24] ∧ f_value_PutTopics_l2 (x11.fParts.drop k23) st24 = some E25) (x11.fParts.length) [0, 0] ⟨0, st21, by simp, rfl, rfl, by rw [List.drop_zero]; exact hE26⟩ (by rfl) (by rfl) ?_
    rintro m28 _ _ ⟨k23, st24, hk31, rfl, rfl, hl30⟩
    clear hE26 h
    cases m28 with
    | zero =>
      have h := hl30
      clear hl30
      rw [List.drop_of_length_le (by omega), f_value_PutTopics_l2] at h
      have hk31ge : ¬ ((k23 : Int) < (x11.fParts.length : Int)) := by omega
      refine T.seq (T.region rfl ?_)
      refine TL.run ft_value_ok [0] rfl rfl ?_
      refine TL.nil (X.seq (T.seq ?_))
      refine T.no rfl (decide_eq_false hk31ge) ?_
      obtain rfl := Option.some.inj h
      replace h := hO27
      clear hO27
      try dsimp only at h
      refine T.exit (X.exs (X.exs (X.ex (X.blk (X.seq (T.region rfl ?_))))))
      refine TL.q rfl .u (Ex.add rfl rfl (by omega)) rfl ?_
      refine TL.run ft_value_ok [1] rfl rfl ?_
      exact TL.nil (X.back (m' := m10) [1] (by omega) ⟨k5 + 1, st24, by omega, rfl, rfl, h⟩ (by rfl) (by rfl))
    | succ m28 =>
      have h := hl30
      clear hl30
      obtain ⟨x29, hxx29⟩ : ∃ x, x11.fParts[k23]? = some x := ⟨_, List.getElem?_eq_getElem (by omega)⟩
      rw [drop_cons hxx29, f_value_PutTopics_l2] at h
      have hk31lt : (k23 : Int) < (x11.fParts.length : Int) := by omega
      refine T.seq (T.region rfl ?_)
      refine TL.run ft_value_ok [0] rfl rfl ?_
      refine TL.nil (X.seq (T.seq ?_))
      refine T.yes rfl (decide_eq_true hk31lt) ?_
      obtain ⟨gz32, oz32, rfl, z32cs, z32cl, z32cc, z32nf, z32r⟩ := RX.elem (by decide) hX17 hxx29
      obtain ⟨z32S, z32r, z32rr⟩ := z32r
      obtain rfl : z32cs = [.int .i64 x29] := z32r
      refine T.skip (X.seq (T.seq (T.block (T.seq (T.region rfl ?_)))))
      refine TL.q rfl .u (Ex.ixS (k := k23) rfl rfl rfl Tryz.runUnderlying104 Tryz.sizeOf3 (List.getElem?_eq_some_iff.1 hxx29).1) rfl ?_
      refine TL.q rfl .u (Ex.o1 0 rfl Tryz.isAgg3 z32nf z32cc rfl rfl) rfl ?_
      refine TL.run ft_value_ok [2] rfl rfl ?_
      refine TL.nil (X.seq (T.region rfl ?_))
      obtain ⟨st33, hx34, h⟩ := Option.bind_eq_some_iff.1 h
      refine TL.run ft_value_ok [0, 1] rfl rfl ?_
      refine TL.c1 rfl .u (.fn Tryz.call24 rfl) (gOInt_spec g st24 x29 4 _ hx34) (fun _ hs => (Src.triv _)) rfl ?_
      refine TL.nil (X.blk (X.seq (T.region rfl ?_)))
      refine TL.q rfl .u (Ex.add rfl rfl (by omega)) rfl ?_
      refine TL.run ft_value_ok [1] rfl rfl ?_
      exact TL.nil (X.back (m' := m28) [0, 0] (by omega) ⟨k23 + 1, st33, by omega, rfl, rfl, h⟩ (by rfl) (by rfl))
end Go.Proofs.YtlhgogjcaegehaaGreat.Sl
namespace Go.Proofs.YtlhgogjcaegehaaGreat.Sl
open Go.RowKit
set_option linter.unusedVariables false
set_option linter.unusedSimpArgs false
def encT (t : Top) : List UInt8 := (be (t.fName.length : Int) 2 ++ t.fName) ++ (be (t.fParts.length : Int) 4 ++ encs (fun n => be n 4) t.fParts)
def okT (t : Top) : Prop := fits (t.fName.length : Int) 2 = true ∧ fits (t.fParts.length : Int) 4 = true ∧ ∀ n, n ∈ t.fParts → fits n 4 = true
end Go.Proofs.YtlhgogjcaegehaaGreat.Sl
namespace Go.Proofs.YtlhgogjcaegehaaGreat.Sl
open Go.RowKit
set_option linter.unusedVariables false
set_option linter.unusedSimpArgs false
theorem at_drop {α : Type} {l : List α} {k : Nat} {x : α} {t : List α} (h : l.drop k = x :: t) : l[k]? = some x ∧ l.drop (k + 1) = t ∧ l.length = k + 1 + t.length := by
  have hl := congrArg List.length h
  rw [List.length_drop, List.length_cons] at hl
  refine ⟨?_, ?_, by omega⟩
  · have := congrArg (fun z => z[0]?) h
    simpa using this
  · rw [← List.drop_drop, h]
    rfl
theorem nil_drop {α : Type} {l : List α} {k : Nat} (h : l.drop k = []) : l.length ≤ k := List.drop_eq_nil_iff.1 h
def up {α : Type} (lt : α → α → Bool) : Option α → List α → Bool
  | _, [] => true
  | none, x :: t => up lt (some x) t
  | some p, x :: t => lt p x && up lt (some x) t
def ltI (a b : Int) : Bool := decide (a < b)
theorem rint_loop (a0 : List Int) (hb : a0.length ≤ 140737488355328) : ∀ (t : List Int) (p : Int) (k fuel : Nat) (y : Bool), a0.drop k = p :: t → t.length < fuel → ∃ z, f_value_risingint_l1 a0 fuel y ((k : Int) + 1) = some (if up ltI (some p) t = true then .go (y, z) else .ret false)
  | [], p, k, fuel + 1, y, h, hf => by
    obtain ⟨h1, h2, h3⟩ := at_drop h
    refine ⟨(k : Int) + 1, ?_⟩
    rw [f_value_risingint_l1, if_neg (by simp only [List.length_nil] at h3; omega)]
    rfl
  | x :: t, p, k, fuel + 1, y, h, hf => by
    obtain ⟨h1, h2, h3⟩ := at_drop h
    obtain ⟨g1, g2, g3⟩ := at_drop h2
    rw [List.length_cons] at hf h3
    obtain ⟨z, hz⟩ := rint_loop a0 hb t x (k + 1) fuel y h2 (by omega)
    rw [f_value_risingint_l1, if_pos (by omega), if_pos (by omega), if_pos (by omega), show ((k : Int) + 1 - 1).toNat = k by omega, h1]
    rw [Option.bind_some]
    rw [if_pos (by omega), show ((k : Int) + 1).toNat = k + 1 by omega, g1]
    rw [Option.bind_some]
    by_cases hc : p < x
    · rw [if_neg (by omega), if_pos (by omega)]
      refine ⟨z, ?_⟩
      rw [show ((k : Int) + 1 + 1) = ((k + 1 : Nat) : Int) + 1 by omega, hz]
      simp only [up, ltI, hc, decide_true, Bool.true_and]
    · rw [if_pos (by omega)]
      refine ⟨0, ?_⟩
      simp only [up, ltI, hc, decide_false, Bool.false_and, Bool.false_eq_true, if_false]
theorem rint_eq (a0 : List Int) (hb : a0.length ≤ 140737488355328) : f_value_risingint a0 = some (up ltI none a0) := by
  unfold f_value_risingint
  cases a0 with
  | nil => rfl
  | cons x t =>
    obtain ⟨z, hz⟩ := rint_loop (x :: t) hb t x 0 ((((x :: t).length : Int) - 1).toNat + 1) false rfl (by simp only [List.length_cons]; omega)
    rw [show (((0 : Nat) : Int) + 1) = 1 from rfl] at hz
    rw [hz]
    simp only [up]
    cases up ltI (some x) t <;> rfl
theorem rstr_loop (a0 : List (List UInt8)) (hb : a0.length ≤ 140737488355328) : ∀ (t : List (List UInt8)) (p : List UInt8) (k fuel : Nat) (y : Bool), a0.drop k = p :: t → t.length < fuel → ∃ z, f_value_risingstring_l1 a0 fuel y ((k : Int) + 1) = some (if up Op.bytesLess (some p) t = true then .go (y, z) else .ret false)
  | [], p, k, fuel + 1, y, h, hf => by
    obtain ⟨h1, h2, h3⟩ := at_drop h
    refine ⟨(k : Int) + 1, ?_⟩
    rw [f_value_risingstring_l1, if_neg (by simp only [List.length_nil] at h3; omega)]
    rfl
  | x :: t, p, k, fuel + 1, y, h, hf => by
    obtain ⟨h1, h2, h3⟩ := at_drop h
    obtain ⟨g1, g2, g3⟩ := at_drop h2
    rw [List.length_cons] at hf h3
    obtain ⟨z, hz⟩ := rstr_loop a0 hb t x (k + 1) fuel y h2 (by omega)
    rw [f_value_risingstring_l1, if_pos (by omega), if_pos (by omega), if_pos (by omega), show ((k : Int) + 1 - 1).toNat = k by omega, h1]
    simp only [Option.bind_some]
    rw [if_pos (by omega), show ((k : Int) + 1).toNat = k + 1 by omega, g1]
    simp only [Option.bind_some]
    by_cases hc : Op.bytesLess p x = true
    · rw [if_pos hc, if_pos (by omega)]
      refine ⟨z, ?_⟩
      rw [show ((k : Int) + 1 + 1) = ((k + 1 : Nat) : Int) + 1 by omega, hz]
      simp only [up, hc, Bool.true_and]
    · rw [if_neg hc]
      refine ⟨0, ?_⟩
      simp only [up, hc, Bool.false_and, Bool.false_eq_true, if_false]
theorem rstr_eq (a0 : List (List UInt8)) (hb : a0.length ≤ 140737488355328) : f_value_risingstring a0 = some (up Op.bytesLess none a0) := by
  unfold f_value_risingstring
  cases a0 with
  | nil => rfl
  | cons x t =>
    obtain ⟨z, hz⟩ := rstr_loop (x :: t) hb t x 0 ((((x :: t).length : Int) - 1).toNat + 1) false rfl (by simp only [List.length_cons]; omega)
    rw [show (((0 : Nat) : Int) + 1) = 1 from rfl] at hz
    rw [hz]
    simp only [up]
    cases up Op.bytesLess (some x) t <;> rfl
def okn (n : Int) : Bool := decide (0 ≤ n) && decide (n ≤ 2147483647)
def okps (l : List Int) : Bool := l.all okn && up ltI none l && !l.isEmpty
def oktB (t : Top) : Bool := !t.fName.isEmpty && decide (t.fName.length ≤ 32767) && okps t.fParts
def okts (l : List Top) : Bool := l.all oktB && up Op.bytesLess none (l.map (·.fName))
theorem parts_loop (y : Bool) : ∀ l : List Int, (∀ n, n ∈ l → wI n) → f_value_parts_l1 l y = some (if l.all okn = true then .go y else .ret false)
  | [], h => rfl
  | n :: l, h => by
    have hn := h n (.head _)
    rw [f_value_parts_l1, gFits_eq _ _ hn, fits_4, List.all_cons]
    by_cases h1 : n < 0
    · have : okn n = false := by unfold okn; simp; omega
      rw [if_pos h1, this]
      rfl
    · rw [if_neg h1, Option.bind_some]
      by_cases h2 : n ≤ 2147483647
      · have : okn n = true := by unfold okn; simp; omega
        rw [if_pos (by simp; omega), parts_loop y l (fun m hm => h m (.tail _ hm)), this, Bool.true_and]
      · have : okn n = false := by unfold okn; simp; omega
        rw [if_neg (by simp; omega), this]
        rfl
theorem parts_eq (l : List Int) (hw : wL wI l) : f_value_parts l = some (okps l) := by
  unfold f_value_parts okps
  rw [parts_loop false l hw.2]
  cases hall : l.all okn with
  | false => rfl
  | true =>
    simp only [if_true, Option.bind_some, Bool.true_and]
    cases l with
    | nil => rfl
    | cons x t =>
      rw [if_pos (by simp only [List.length_cons]; omega), rint_eq _ (by have := hw.1; omega)]
      simp
theorem vtopics_loop (y : Bool) : ∀ (l : List Top) (acc : List (List UInt8)), (∀ t, t ∈ l → wf_Top t) → acc.length + l.length ≤ 1000000 → f_value_topics_l1 l y acc = some (if l.all oktB = true then .go (y, acc ++ l.map (·.fName)) else .ret false)
  | [], acc, h, hl => by simp [f_value_topics_l1]
  | t :: l, acc, h, hl => by
    have ht := h t (.head _)
    rw [List.length_cons] at hl
    rw [f_value_topics_l1, parts_eq _ ht.2, List.all_cons]
    by_cases h1 : t.fName = []
    · have : oktB t = false := by simp [oktB, h1]
      rw [if_pos h1, this]
      rfl
    · rw [if_neg h1]
      by_cases h2 : (t.fName.length : Int) > 32767
      · have : oktB t = false := by simp [oktB, show ¬ t.fName.length ≤ 32767 by omega]
        rw [if_pos h2, this]
        rfl
      · rw [if_neg h2, Option.bind_some]
        have hne : t.fName.isEmpty = false := by cases hh : t.fName with | nil => exact absurd hh h1 | cons c u => rfl
        have ho : oktB t = okps t.fParts := by simp [oktB, hne, show t.fName.length ≤ 32767 by omega]
        rw [ho]
        cases hp : okps t.fParts with
        | false => rfl
        | true =>
          rw [if_pos rfl, if_pos (by omega), vtopics_loop y l _ (fun u hu => h u (.tail _ hu)) (by rw [List.length_append]; simp only [List.length_cons, List.length_nil]; omega), Bool.true_and, List.map_cons, List.append_assoc]
          rfl
theorem vtopics_eq (l : List Top) (hw : ∀ t, t ∈ l → wf_Top t) (hl : l.length ≤ 1000000) : f_value_topics l = some (okts l) := by
  unfold f_value_topics okts
  rw [vtopics_loop false l [] hw (by simpa using hl)]
  cases hall : l.all oktB with
  | false => rfl
  | true =>
    simp only [if_true, Option.bind_some, Bool.true_and, List.nil_append]
    rw [rstr_eq _ (by rw [List.length_map]; omega)]
    rfl
theorem rise_l3 (x : Top) : ∀ (fuel : Nat) (y : Bool) (k : Nat), f_r14_Rise_l3 x fuel y k = f_r14_Rise_l2 x fuel y k
  | 0, y, k => rfl
  | fuel + 1, y, k => by
    rw [f_r14_Rise_l3, f_r14_Rise_l2]
    simp only [rise_l3 x fuel]
end Go.Proofs.YtlhgogjcaegehaaGreat.Sl
namespace Go.Proofs.YtlhgogjcaegehaaGreat.Sl
open Go.RowKit
set_option linter.unusedVariables false
set_option linter.unusedSimpArgs false
theorem less_loopL (a b : List UInt8) (ha : a.length ≤ 140737488355328) (y : Bool) : ∀ (u v : List UInt8) (k fuel : Nat), a.drop k = u → b.drop k = v → v.length < fuel → k ≤ a.length → k ≤ b.length → (∃ r, f_r14_less_l1 a b fuel y k = some (.ret r) ∧ r = Op.bytesLess u v) ∨ (∃ z, f_r14_less_l1 a b fuel y k = some (.go z) ∧ Op.bytesLess u v = decide (a.length < b.length))
  | [], v, k, fuel + 1, hu, hv, hf, h1, h2 => by
    have := nil_drop hu
    right
    refine ⟨(y, k), by rw [f_r14_less_l1, if_neg (by omega)], ?_⟩
    cases v with
    | nil =>
      have := nil_drop hv
      simp [Op.bytesLess]
      omega
    | cons c v =>
      have := (at_drop hv).2.2
      simp [Op.bytesLess]
      omega
  | c :: u, [], k, fuel + 1, hu, hv, hf, h1, h2 => by
    have g1 := nil_drop hv
    have g2 := (at_drop hu).2.2
    right
    refine ⟨(y, k), by rw [f_r14_less_l1, if_pos (by omega), if_neg (by omega)], ?_⟩
    simp [Op.bytesLess]
    omega
  | c :: u, d :: v, k, fuel + 1, hu, hv, hf, h1, h2 => by
    obtain ⟨u1, u2, u3⟩ := at_drop hu
    obtain ⟨v1, v2, v3⟩ := at_drop hv
    rw [List.length_cons] at hf
    rw [f_r14_less_l1, if_pos (by omega), if_pos (by omega), u1, v1]
    simp only [Option.bind_some]
    by_cases hc : (c.toNat : Int) = (d.toNat : Int)
    · have hcd : c = d := UInt8.toNat_inj.1 (by omega)
      rw [if_pos hc, if_pos (by omega)]
      have := less_loopL a b ha y u v (k + 1) fuel u2 v2 (by omega) (by omega) (by omega)
      have hb : Op.bytesLess (c :: u) (d :: v) = Op.bytesLess u v := by
        rw [hcd]
        simp [Op.bytesLess]
      rw [hb]
      exact this
    · rw [if_neg hc]
      left
      have hcd : c ≠ d := fun h => hc (by rw [h])
      by_cases hl : (c.toNat : Int) < (d.toNat : Int)
      · refine ⟨true, by rw [if_pos hl], ?_⟩
        have : c < d := UInt8.lt_iff_toNat_lt.2 (by omega)
        simp [Op.bytesLess, this]
      · refine ⟨false, by rw [if_neg hl], ?_⟩
        have : ¬ c < d := fun h => hl (by have := UInt8.lt_iff_toNat_lt.1 h; omega)
        simp [Op.bytesLess, this, hcd]
theorem less_eqL (a b : List UInt8) (ha : a.length ≤ 140737488355328) : f_r14_less a b = some (Op.bytesLess a b) := by
  unfold f_r14_less
  rcases less_loopL a b ha false a b 0 (((b.length : Int)).toNat + 1) rfl rfl (by omega) (Nat.zero_le _) (Nat.zero_le _) with ⟨r, h1, h2⟩ | ⟨z, h1, h2⟩
  · rw [show ((0 : Nat)) = 0 from rfl] at h1
    rw [h1, h2]
    rfl
  · rw [h1, h2]
    simp only [Option.bind_some]
    by_cases h : a.length < b.length
    · rw [if_pos (by omega)]
      simp [h]
    · rw [if_neg (by omega)]
      simp [h]
theorem rise_l2L (x : Top) (hb : x.fParts.length ≤ 140737488355328) (y : Bool) : ∀ (t : List Int) (p : Option Int) (k fuel : Nat), x.fParts.drop k = t → t.length < fuel → (k = 0 → p = none) → (0 < k → x.fParts[k - 1]? = p ∧ p ≠ none) → ∃ z, f_r14_Rise_l2 x fuel y k = some (if (t.all okn && up ltI p t) = true then .go (y, z) else .ret false)
  | [], p, k, fuel + 1, h, hf, h0, h1 => by
    have := nil_drop h
    refine ⟨k, ?_⟩
    rw [f_r14_Rise_l2, if_neg (by omega)]
    cases p <;> rfl
  | n :: t, p, k, fuel + 1, h, hf, h0, h1 => by
    obtain ⟨g1, g2, g3⟩ := at_drop h
    rw [List.length_cons] at hf
    obtain ⟨z, hz⟩ := rise_l2L x hb y t (some n) (k + 1) fuel g2 (by omega) (fun h => absurd h (by omega)) (fun _ => ⟨g1, by simp⟩)
    rw [f_r14_Rise_l2, if_pos (by omega), g1]
    simp only [Option.bind_some]
    rw [List.all_cons]
    by_cases c1 : n < 0
    · refine ⟨0, ?_⟩
      rw [if_pos c1, if_neg]
      simp only [okn, Bool.and_eq_true, decide_eq_true_eq]
      omega
    by_cases c2 : n > 2147483647
    · refine ⟨0, ?_⟩
      rw [if_neg c1, if_pos c2, if_neg]
      simp only [okn, Bool.and_eq_true, decide_eq_true_eq]
      omega
    rw [if_neg c1, if_neg c2]
    have ho : okn n = true := by simp only [okn, Bool.and_eq_true, decide_eq_true_eq]; omega
    rcases Nat.eq_zero_or_pos k with hk | hk
    · obtain rfl := h0 hk
      refine ⟨z, ?_⟩
      rw [if_neg (by omega), if_pos (by omega), hz, ho, Bool.true_and, show up ltI none (n :: t) = up ltI (some n) t from rfl]
    · obtain ⟨e1, e2⟩ := h1 hk
      rw [if_pos (by omega), if_pos (by omega), if_pos (by omega), show ((k : Int) - 1).toNat = k - 1 by omega, e1]
      cases p with
      | none => exact absurd rfl e2
      | some q =>
        simp only [Option.bind_some]
        by_cases hc : q < n
        · refine ⟨z, ?_⟩
          rw [if_neg (by omega), if_pos (by omega), hz, ho, Bool.true_and]
          simp only [up, ltI, hc, decide_true, Bool.true_and]
        · refine ⟨0, ?_⟩
          rw [if_pos (by omega), if_neg]
          simp only [up, ltI, hc, decide_false, Bool.false_and, Bool.and_false, Bool.false_eq_true, not_false_eq_true]
theorem rise_l1L (a0 : List Top) (hb : a0.length ≤ 140737488355328) (hw : ∀ t, t ∈ a0 → t.fParts.length ≤ 140737488355328 ∧ t.fName.length ≤ 140737488355328) (y : Bool) : ∀ (t : List Top) (p : Option Top) (k fuel : Nat), a0.drop k = t → t.length < fuel → (k = 0 → p = none) → (0 < k → a0[k - 1]? = p ∧ p ≠ none) → ∃ z, f_r14_Rise_l1 a0 fuel y k = some (if (t.all oktB && up Op.bytesLess (p.map (·.fName)) (t.map (·.fName))) = true then .go (y, z) else .ret false)
  | [], p, k, fuel + 1, h, hf, h0, h1 => by
    have := nil_drop h
    refine ⟨k, ?_⟩
    rw [f_r14_Rise_l1, if_neg (by omega)]
    cases p <;> rfl
  | x :: t, p, k, fuel + 1, h, hf, h0, h1 => by
    obtain ⟨g1, g2, g3⟩ := at_drop h
    have hx := hw x (List.mem_of_getElem? g1)
    rw [List.length_cons] at hf
    obtain ⟨z, hz⟩ := rise_l1L a0 hb hw y t (some x) (k + 1) fuel g2 (by omega) (fun h => absurd h (by omega)) (fun _ => ⟨g1, by simp⟩)
    rw [f_r14_Rise_l1, if_pos (by omega), g1, Option.bind_some]
    rw [List.all_cons, List.map_cons]
    by_cases c1 : (x.fName.length : Int) < 1
    · refine ⟨0, ?_⟩
      have : x.fName = [] := List.length_eq_zero_iff.1 (by omega)
      rw [if_pos c1, if_neg]
      simp [oktB, this]
    by_cases c2 : (x.fName.length : Int) > 32767
    · refine ⟨0, ?_⟩
      rw [if_neg c1, if_pos c2, if_neg]
      simp [oktB, show ¬ x.fName.length ≤ 32767 by omega]
    by_cases c3 : (x.fParts.length : Int) < 1
    · refine ⟨0, ?_⟩
      have : x.fParts = [] := List.length_eq_zero_iff.1 (by omega)
      rw [if_neg c1, if_neg c2, if_pos c3, if_neg]
      simp [oktB, okps, this]
    rw [if_neg c1, if_neg c2, if_neg c3]
    have hne : x.fName.isEmpty = false := by cases hh : x.fName with | nil => rw [hh] at c1; simp at c1 | cons c u => rfl
    have hnp : x.fParts.isEmpty = false := by cases hh : x.fParts with | nil => rw [hh] at c3; simp at c3 | cons c u => rfl
    have ho : oktB x = (x.fParts.all okn && up ltI none x.fParts) := by
      simp [oktB, okps, hne, hnp, show x.fName.length ≤ 32767 by omega]
    obtain ⟨z2, hz2⟩ := rise_l2L x hx.1 y x.fParts none 0 (((x.fParts.length : Int)).toNat + 1) rfl (by omega) (fun _ => rfl) (fun h => absurd h (by omega))
    rw [ho]
    rcases Nat.eq_zero_or_pos k with hk | hk
    · obtain rfl := h0 hk
      rw [if_neg (by omega), rise_l3, hz2]
      cases hq : (x.fParts.all okn && up ltI none x.fParts) with
      | false => exact ⟨0, by simp⟩
      | true =>
        refine ⟨z, ?_⟩
        rw [if_pos rfl, Option.bind_some, Bool.true_and]
        simp only
        rw [if_pos (by omega), hz, show (none : Option Top).map (·.fName) = none from rfl, show up Op.bytesLess none (x.fName :: t.map (·.fName)) = up Op.bytesLess (some x.fName) (t.map (·.fName)) from rfl]
        rfl
    · obtain ⟨e1, e2⟩ := h1 hk
      rw [if_pos (by omega), if_pos (by omega), if_pos (by omega), show ((k : Int) - 1).toNat = k - 1 by omega, e1]
      cases p with
      | none => exact absurd rfl e2
      | some q =>
        rw [Option.bind_some]
        rw [less_eqL _ _ (hw q (List.mem_of_getElem? e1)).2]
        rw [Option.bind_some, show (some q).map (·.fName) = some q.fName from rfl, show up Op.bytesLess (some q.fName) (x.fName :: t.map (·.fName)) = (Op.bytesLess q.fName x.fName && up Op.bytesLess (some x.fName) (t.map (·.fName))) from rfl]
        cases hc : Op.bytesLess q.fName x.fName with
        | false => exact ⟨0, by simp⟩
        | true =>
          rw [if_pos rfl, hz2]
          cases hq : (x.fParts.all okn && up ltI none x.fParts) with
          | false => exact ⟨0, by simp⟩
          | true =>
            refine ⟨z, ?_⟩
            rw [if_pos rfl, Option.bind_some, Bool.true_and]
            simp only
            rw [if_pos (by omega), hz]
            rfl
theorem rise_eqL (a0 : List Top) (hb : a0.length ≤ 140737488355328) (hw : ∀ t, t ∈ a0 → t.fParts.length ≤ 140737488355328 ∧ t.fName.length ≤ 140737488355328) : f_r14_Rise a0 = some (okts a0) := by
  unfold f_r14_Rise okts
  obtain ⟨z, hz⟩ := rise_l1L a0 hb hw false a0 none 0 (((a0.length : Int)).toNat + 1) rfl (by omega) (fun _ => rfl) (fun h => absurd h (by omega))
  rw [show (none : Option Top).map (·.fName) = none from rfl] at hz
  rw [hz]
  cases (a0.all oktB && up Op.bytesLess none (a0.map (·.fName))) <;> rfl
end Go.Proofs.YtlhgogjcaegehaaGreat.Sl
namespace Go.Proofs.YtlhgogjcaegehaaGreat.Sl
open Go.RowKit
set_option linter.unusedVariables false
set_option linter.unusedSimpArgs false
def gdP (p : ProducePart) : Prop := wI p.fIndex ∧ p.fBatches.length ≤ 140737488351232 ∧ ∀ b, b ∈ p.fBatches → bnB b
def gdT (t : ProduceTopic) : Prop := t.fName.length ≤ 140737488351232 ∧ t.fParts.length * 32 ≤ 140737488351232 ∧ ∀ p, p ∈ t.fParts → gdP p
def gdQ (r : ProduceRequest) : Prop := wI r.fTimeout ∧ r.fTopics.length * 40 ≤ 140737488351232 ∧ ∀ t, t ∈ r.fTopics → gdT t
def firstBt (nul : Bool) : List Bat → Int
  | [] => 0
  | b :: l => if chk b = 0 then (if b.fControl = true then 12 else if b.fTxn = nul then 8 else firstBt nul l) else chk b
def chkBs (v : Int) (nul : Bool) (l : List Bat) : Int := if l.length = 0 ∨ (v < 4 ∧ 1 < l.length) then 10 else firstBt nul l
theorem pb_l1 (r : ProduceRequest) (y : Int) : ∀ l : List Bat, (∀ b, b ∈ l → bnB b) → f_produce_RequestBatches_l1 r l y = some (if firstBt r.fID.null l = 0 then .go y else .ret (firstBt r.fID.null l))
  | [], _ => rfl
  | b :: l, h => by
    rw [f_produce_RequestBatches_l1, (chk_eq (h b (.head _))).1, Option.bind_some, firstBt, pb_l1 r y l (fun x hx => h x (.tail _ hx))]
    by_cases c1 : chk b = 0
    · rw [if_pos c1, if_pos c1]
      by_cases c2 : b.fControl = true
      · rw [if_pos c2, if_pos c2]; rfl
      · rw [if_neg c2, if_neg c2]
        by_cases c3 : b.fTxn = r.fID.null
        · rw [if_pos (by rw [c3]; exact beq_self_eq_true _), if_pos c3]; rfl
        · rw [if_neg (by simpa using c3), if_neg c3]
    · rw [if_neg c1, if_neg c1, if_neg c1]
theorem pbatches (r : ProduceRequest) (l : List Bat) (v : Int) (h : ∀ b, b ∈ l → bnB b) : f_produce_RequestBatches r l v = some (chkBs v r.fID.null l) := by
  unfold f_produce_RequestBatches chkBs
  by_cases c0 : l.length = 0
  · rw [if_pos (by omega), Option.bind_some, if_pos rfl, if_pos (.inl c0)]
  rw [if_neg (by omega)]
  by_cases c1 : v < 4
  · rw [if_pos c1]
    by_cases c2 : 1 < l.length
    · rw [if_pos (by omega), Option.bind_some, if_pos rfl, if_pos (.inr ⟨c1, c2⟩)]
    · rw [if_neg (by omega), Option.bind_some, if_neg (by decide), pb_l1 r 0 l h, if_neg (show ¬ (l.length = 0 ∨ (v < 4 ∧ 1 < l.length)) from fun hh => by rcases hh with hh | hh; exact c0 hh; exact c2 hh.2)]
      by_cases c3 : firstBt r.fID.null l = 0
      · rw [if_pos c3, c3]; rfl
      · rw [if_neg c3]; rfl
  · rw [if_neg c1, Option.bind_some, if_neg (by decide), pb_l1 r 0 l h, if_neg (show ¬ (l.length = 0 ∨ (v < 4 ∧ 1 < l.length)) from fun hh => by rcases hh with hh | hh; exact c0 hh; exact c1 hh.1)]
    by_cases c3 : firstBt r.fID.null l = 0
    · rw [if_pos c3, c3]; rfl
    · rw [if_neg c3]; rfl
theorem rb20_l1 (a : List Bat) (nul : Bool) (hn : a.length ≤ 140737488351232) (y : Int) : ∀ (l : List Bat) (k fuel : Nat), a.drop k = l → l.length < fuel → (∀ b, b ∈ l → bnB b) → ∃ z, f_r20_batches_l1 a (!nul) fuel y k = some (if firstBt nul l = 0 then .go (y, z) else .ret (firstBt nul l))
  | [], k, fuel + 1, h, hf, _ => by
    have := b_nil_drop h
    exact ⟨k, by rw [f_r20_batches_l1, if_neg (by omega)]; rfl⟩
  | b :: l, k, fuel + 1, h, hf, hw => by
    obtain ⟨g1, g2, g3⟩ := b_at_drop h
    rw [List.length_cons] at hf
    obtain ⟨z, hz⟩ := rb20_l1 a nul hn y l (k + 1) fuel g2 (by omega) (fun x hx => hw x (.tail _ hx))
    refine ⟨z, ?_⟩
    rw [f_r20_batches_l1, if_pos (by omega), g1, Option.bind_some, (chk_eq (hw b (.head _))).2, Option.bind_some, firstBt, if_pos (show -9223372036854775808 ≤ (k : Int) + 1 ∧ (k : Int) + 1 ≤ 9223372036854775807 by omega), hz]
    by_cases c1 : chk b = 0
    · rw [if_pos c1, if_pos c1]
      by_cases c2 : b.fControl = true
      · rw [if_pos c2, if_pos c2]; rfl
      · rw [if_neg c2, if_neg c2]
        by_cases c3 : b.fTxn = nul
        · rw [if_neg (by rw [c3]; cases nul <;> decide), if_pos c3]; rfl
        · rw [if_pos (by cases hb : b.fTxn <;> cases nul <;> simp_all), if_neg c3]
    · rw [if_neg c1, if_neg c1, if_neg c1]
theorem r20_batches (l : List Bat) (nul : Bool) (v : Int) (hv : v = 3 ∨ v = 4) (hn : l.length ≤ 140737488351232) (h : ∀ b, b ∈ l → bnB b) : f_r20_batches l (!nul) v = some (chkBs v nul l) := by
  obtain ⟨z, hz⟩ := rb20_l1 l nul hn 0 l 0 (((l.length : Int)).toNat + 1) rfl (by omega) h
  have hend : ((some (if firstBt nul l = 0 then (.go (0, z) : Lp Int (Int × Nat)) else .ret (firstBt nul l))).bind fun e => match e with | .ret r => some r | .go (y33, k34) => (some 0 : Option Int)) = some (firstBt nul l) := by
    by_cases c3 : firstBt nul l = 0
    · rw [if_pos c3, c3]; rfl
    · rw [if_neg c3]; rfl
  unfold f_r20_batches chkBs
  by_cases c0 : l.length = 0
  · rw [if_pos (by omega), Option.bind_some, if_pos rfl, if_pos (.inl c0)]
  rw [if_neg (by omega)]
  rcases hv with rfl | rfl
  · rw [if_pos rfl]
    by_cases c2 : 1 < l.length
    · rw [if_pos (by omega), Option.bind_some, if_pos rfl, if_pos (.inr ⟨by decide, c2⟩)]
    · rw [if_neg (by omega), Option.bind_some, if_neg (by decide), hz, if_neg (show ¬ (l.length = 0 ∨ ((3 : Int) < 4 ∧ 1 < l.length)) from fun hh => by rcases hh with hh | hh; exact c0 hh; exact c2 hh.2)]
      exact hend
  · rw [if_neg (by decide), Option.bind_some, if_neg (by decide), hz, if_neg (show ¬ (l.length = 0 ∨ ((4 : Int) < 4 ∧ 1 < l.length)) from fun hh => by rcases hh with hh | hh; exact c0 hh; exact absurd hh.1 (by decide))]
    exact hend
def aheadP : Option Int → Int → Bool
  | none, _ => true
  | some q, n => decide (q < n)
def rqP : Option Int → List ProducePart → Bool
  | _, [] => true
  | p, x :: l => okn x.fIndex && aheadP p x.fIndex && rqP (some x.fIndex) l
def aheadT : Option (List UInt8) → List UInt8 → Bool
  | none, _ => true
  | some q, d => Op.bytesLess q d
def okTp (p : Option (List UInt8)) (t : ProduceTopic) : Bool := !t.fName.isEmpty && decide (t.fName.length ≤ 32767) && aheadT p t.fName && rqP none t.fParts
def rqT : Option (List UInt8) → List ProduceTopic → Int
  | _, [] => 0
  | p, t :: l => if t.fParts.length = 0 then 10 else if okTp p t = true then rqT (some t.fName) l else 13
def riseQ (l : List ProduceTopic) : Int := if l.length = 0 then 10 else rqT none l
theorem rise_l3' (t : ProduceTopic) (hn : t.fParts.length ≤ 140737488351232) (y : Int) : ∀ (l : List ProducePart) (p : Option Int) (k : Nat), t.fParts.drop k = l → (∀ q, q ∈ l → wI q.fIndex) → (k = 0 → p = none) → (0 < k → ∃ u, t.fParts[k - 1]? = some u ∧ p = some u.fIndex) → f_produce_rise_l3 t l y k = some (if rqP p l = true then .go y else .ret 13)
  | [], p, k, _, _, _, _ => rfl
  | x :: l, p, k, h, hw, h0, h1 => by
    obtain ⟨g1, g2, g3⟩ := b_at_drop h
    have hx := hw x (.head _)
    have ih := rise_l3' t hn y l (some x.fIndex) (k + 1) g2 (fun q hq => hw q (.tail _ hq)) (fun h => absurd h (by omega)) (fun _ => ⟨x, g1, rfl⟩)
    rw [f_produce_rise_l3, gFits_eq _ _ hx, Option.bind_some, fits_4, rqP]
    by_cases c1 : x.fIndex < 0
    · have : okn x.fIndex = false := by unfold okn; simp; omega
      rw [if_pos c1, Option.bind_some, if_pos rfl, this]; rfl
    rw [if_neg c1]
    by_cases c2 : x.fIndex ≤ 2147483647
    rotate_left
    · have : okn x.fIndex = false := by unfold okn; simp; omega
      rw [if_neg (by simp; omega), Option.bind_some, if_pos rfl, this]; rfl
    have hok : okn x.fIndex = true := by unfold okn; simp; omega
    rw [if_pos (by simp; omega), hok]
    rcases Nat.eq_zero_or_pos k with hk | hk
    · rw [h0 hk, if_neg (by omega), Option.bind_some, if_neg (by decide), ih]; rfl
    · obtain ⟨u, u1, rfl⟩ := h1 hk
      rw [if_pos (by omega), if_pos (by omega), if_pos (by omega), show ((k : Int) - 1).toNat = k - 1 by omega, u1, Option.bind_some]
      by_cases c3 : u.fIndex < x.fIndex
      · rw [if_neg (by omega), Option.bind_some, if_neg (by decide), ih]
        rw [aheadP, decide_eq_true c3]; rfl
      · rw [if_pos (by omega), Option.bind_some, if_pos rfl]
        rw [aheadP, decide_eq_false c3]; rfl
theorem prise_l1 (a : List ProduceTopic) (y : Int) : ∀ (l : List ProduceTopic) (p : Option (List UInt8)) (k : Nat), a.drop k = l → a.length ≤ 140737488351232 → (∀ t, t ∈ l → gdT t) → (k = 0 → p = none) → (0 < k → ∃ u, a[k - 1]? = some u ∧ p = some u.fName) → f_produce_rise_l1 a l y k = some (if rqT p l = 0 then .go y else .ret (rqT p l))
  | [], p, k, _, _, _, _, _ => rfl
  | t :: l, p, k, h, hn, hw, h0, h1 => by
    obtain ⟨g1, g2, g3⟩ := b_at_drop h
    have ht := hw t (.head _)
    have ih := prise_l1 a y l (some t.fName) (k + 1) g2 hn (fun q hq => hw q (.tail _ hq)) (fun h => absurd h (by omega)) (fun _ => ⟨t, g1, rfl⟩)
    rw [f_produce_rise_l1, rqT]
    by_cases c0 : t.fParts.length = 0
    · rw [if_pos (by omega), if_pos c0]; rfl
    rw [if_neg (by omega), if_neg c0]
    have hl3 := rise_l3' t (by have := ht.2.1; omega) y t.fParts none 0 rfl (fun q hq => (ht.2.2 q hq).1) (fun _ => rfl) (fun h => absurd h (by omega))
    rw [hl3]
    have bad : ∀ {b : Bool}, okTp p t = false → b = true → ((some b).bind fun y143 => if y143 = true then some (Lp.ret 13 : Lp Int Int) else ((some (if rqP none t.fParts = true then (.go y : Lp Int Int) else .ret 13)).bind fun e => match e with | .ret r => some (Lp.ret r) | .go y237 => (f_produce_rise_l1 a l y237 (k + 1)))) = some (if (if okTp p t = true then rqT (some t.fName) l else 13) = 0 then .go y else .ret (if okTp p t = true then rqT (some t.fName) l else 13)) := by
      intro b hb hb2
      rw [hb2, Option.bind_some, if_pos rfl, hb]; rfl
    have good : ∀ {b : Bool}, (!t.fName.isEmpty && decide (t.fName.length ≤ 32767) && aheadT p t.fName) = true → b = false → ((some b).bind fun y143 => if y143 = true then some (Lp.ret 13 : Lp Int Int) else ((some (if rqP none t.fParts = true then (.go y : Lp Int Int) else .ret 13)).bind fun e => match e with | .ret r => some (Lp.ret r) | .go y237 => (f_produce_rise_l1 a l y237 (k + 1)))) = some (if (if okTp p t = true then rqT (some t.fName) l else 13) = 0 then .go y else .ret (if okTp p t = true then rqT (some t.fName) l else 13)) := by
      intro b hb hb2
      rw [hb2, Option.bind_some, if_neg (by decide), Option.bind_some]
      unfold okTp
      rw [hb, Bool.true_and]
      cases rqP none t.fParts
      · rfl
      · exact ih
    by_cases c1 : t.fName = []
    · rw [if_pos c1]
      exact bad (by unfold okTp; rw [c1]; rfl) rfl
    rw [if_neg c1]
    have hne : t.fName.isEmpty = false := by cases hh : t.fName with | nil => exact absurd hh c1 | cons c u => rfl
    by_cases c2 : (t.fName.length : Int) > 32767
    · rw [if_pos c2]
      exact bad (by unfold okTp; rw [decide_eq_false (by omega)]; simp) rfl
    rw [if_neg c2]
    rcases Nat.eq_zero_or_pos k with hk | hk
    · rw [if_neg (by omega)]
      exact good (by rw [h0 hk, hne, decide_eq_true (by omega)]; rfl) rfl
    · obtain ⟨u, u1, rfl⟩ := h1 hk
      rw [if_pos (by omega), if_pos (by omega), if_pos (by omega), show ((k : Int) - 1).toNat = k - 1 by omega, u1, Option.bind_some]
      by_cases c3 : Op.bytesLess u.fName t.fName = true
      · rw [if_pos c3]
        exact good (by rw [hne, decide_eq_true (by omega)]; exact c3) rfl
      · rw [if_neg c3]
        exact bad (by unfold okTp aheadT; simp only [c3]; simp) rfl
theorem prise_eq (l : List ProduceTopic) (hn : l.length ≤ 140737488351232) (hw : ∀ t, t ∈ l → gdT t) : f_produce_rise l = some (riseQ l) := by
  unfold f_produce_rise riseQ
  by_cases c0 : l.length = 0
  · rw [if_pos (by omega), if_pos c0]
  · rw [if_neg (by omega), if_neg c0, prise_l1 l 0 l none 0 rfl hn hw (fun _ => rfl) (fun h => absurd h (by omega))]
    by_cases c : rqT none l = 0
    · rw [if_pos c, c]; rfl
    · rw [if_neg c]; rfl
def plainT (t : ProduceTopic) : Top := ⟨t.fName, t.fParts.map (·.fIndex)⟩
theorem plain_l1 (t : ProduceTopic) (hn : t.fParts.length * 8 ≤ 140737488351232) : ∀ (l : List ProducePart) (acc : List Int) (k fuel : Nat), t.fParts.drop k = l → l.length < fuel → acc.length = k → ∃ z, f_r20_plain_l1 (ofT t) fuel k acc = some (z, acc ++ l.map (·.fIndex))
  | [], acc, k, fuel + 1, h, hf, _ => by
    have := b_nil_drop h
    exact ⟨k, by rw [f_r20_plain_l1, if_neg (by show ¬ (k : Int) < ((t.fParts.map ofP).length : Int); rw [List.length_map]; omega), List.map_nil, List.append_nil]⟩
  | x :: l, acc, k, fuel + 1, h, hf, hk => by
    obtain ⟨g1, g2, g3⟩ := b_at_drop h
    rw [List.length_cons] at hf
    obtain ⟨z, hz⟩ := plain_l1 t hn l (acc ++ [x.fIndex]) (k + 1) fuel g2 (by omega) (by rw [List.length_append, List.length_singleton, hk])
    have e1 : (ofT t).fParts[k]? = some (ofP x) := by show (t.fParts.map ofP)[k]? = _; rw [List.getElem?_map, g1]; rfl
    refine ⟨z, ?_⟩
    rw [f_r20_plain_l1, if_pos (by show (k : Int) < ((t.fParts.map ofP).length : Int); rw [List.length_map]; omega), e1, Option.bind_some, if_pos (by omega), if_pos (by omega)]
    show f_r20_plain_l1 (ofT t) fuel (k + 1) (acc ++ [x.fIndex]) = _
    rw [hz, List.append_assoc]
    rfl
theorem plain_eq (t : ProduceTopic) (hn : t.fParts.length * 8 ≤ 140737488351232) : f_r20_plain (ofT t) = some (plainT t) := by
  have e4 : (ofT t).fParts.length = t.fParts.length := List.length_map _
  obtain ⟨z, hz⟩ := plain_l1 t hn t.fParts [] 0 (((t.fParts.length : Int)).toNat + 1) rfl (by omega) rfl
  unfold f_r20_plain
  rw [e4, hz, Option.bind_some, List.nil_append]
  rfl
theorem rqP_up : ∀ (l : List ProducePart) (p : Option Int), rqP p l = ((l.map (·.fIndex)).all okn && up ltI p (l.map (·.fIndex)))
  | [], p => by cases p <;> rfl
  | x :: l, none => by
    rw [rqP, rqP_up l, List.map_cons, List.all_cons, up, aheadP]
    cases okn x.fIndex <;> cases (l.map (·.fIndex)).all okn <;> rfl
  | x :: l, some q => by
    rw [rqP, rqP_up l, List.map_cons, List.all_cons, up, aheadP, ltI]
    cases okn x.fIndex <;> cases (l.map (·.fIndex)).all okn <;> cases decide (q < x.fIndex) <;> rfl
def lastN : Option (List UInt8) → List (List UInt8) → Option (List UInt8)
  | p, [] => p
  | _, x :: l => lastN (some x) l
theorem up_snoc : ∀ (l : List (List UInt8)) (p : Option (List UInt8)) (x : List UInt8), up Op.bytesLess p (l ++ [x]) = (up Op.bytesLess p l && aheadT (lastN p l) x)
  | [], none, x => rfl
  | [], some q, x => by show (Op.bytesLess q x && true) = (true && Op.bytesLess q x); rw [Bool.and_true, Bool.true_and]
  | y :: l, none, x => by
    show up Op.bytesLess (some y) (l ++ [x]) = _
    rw [up_snoc l (some y) x]; rfl
  | y :: l, some q, x => by
    show (Op.bytesLess q y && up Op.bytesLess (some y) (l ++ [x])) = _
    rw [up_snoc l (some y) x, ← Bool.and_assoc]; rfl
theorem lastN_snoc : ∀ (l : List (List UInt8)) (p : Option (List UInt8)) (x : List UInt8), lastN p (l ++ [x]) = some x
  | [], p, x => rfl
  | y :: l, p, x => lastN_snoc l (some y) x
theorem okts_snoc (l : List Top) (t : ProduceTopic) (h : okts l = true) (hp : t.fParts.length ≠ 0) : okts (l ++ [plainT t]) = okTp (lastN none (l.map (·.fName))) t := by
  have h2 : l.all oktB = true ∧ up Op.bytesLess none (l.map (·.fName)) = true := by simpa [okts] using h
  have h3 : (t.fParts.map (·.fIndex)).isEmpty = false := by cases hh : t.fParts with | nil => exact absurd (by rw [hh]; rfl) hp | cons c u => rfl
  unfold okts okTp
  rw [List.all_append, h2.1, List.map_append, List.map_singleton, up_snoc, h2.2, rqP_up]
  simp only [List.all_cons, List.all_nil, Bool.and_true, Bool.true_and, oktB, okps]
  show (!t.fName.isEmpty && decide (t.fName.length ≤ 32767) && ((t.fParts.map (·.fIndex)).all okn && up ltI none (t.fParts.map (·.fIndex)) && !(t.fParts.map (·.fIndex)).isEmpty) && aheadT (lastN none (l.map (·.fName))) t.fName) = _
  rw [h3]
  cases t.fName.isEmpty <;> cases decide (t.fName.length ≤ 32767) <;> cases aheadT (lastN none (l.map (·.fName))) t.fName <;> cases (t.fParts.map (·.fIndex)).all okn <;> cases up ltI none (t.fParts.map (·.fIndex)) <;> rfl
theorem r20rise_l1 (a : List ProduceTopic) (hn : a.length * 40 ≤ 140737488351232) (y : Int) : ∀ (l : List ProduceTopic) (acc : List Top) (k fuel : Nat), a.drop k = l → l.length < fuel → acc.length = k → (∀ t, t ∈ l → gdT t) → (∀ t, t ∈ acc → t.fParts.length ≤ 140737488355328 ∧ t.fName.length ≤ 140737488355328) → okts acc = true → ∃ z, f_r20_rise_l1 (a.map ofT) fuel y acc k = some (if rqT (lastN none (acc.map (·.fName))) l = 0 then .go (y, z) else .ret (rqT (lastN none (acc.map (·.fName))) l))
  | [], acc, k, fuel + 1, h, hf, _, _, _, _ => by
    have := b_nil_drop h
    exact ⟨(acc, k), by rw [f_r20_rise_l1, if_neg (by rw [List.length_map]; omega)]; rfl⟩
  | t :: l, acc, k, fuel + 1, h, hf, hk, hw, ha, ho => by
    obtain ⟨g1, g2, g3⟩ := b_at_drop h
    obtain ⟨t1, t2, t3⟩ := hw t (.head _)
    rw [List.length_cons] at hf
    have e1 : (a.map ofT)[k]? = some (ofT t) := by rw [List.getElem?_map, g1]; rfl
    have e4 : (ofT t).fParts.length = t.fParts.length := List.length_map _
    rw [f_r20_rise_l1, if_pos (by rw [List.length_map]; omega), e1, Option.bind_some, e4, rqT]
    by_cases c0 : t.fParts.length = 0
    · rw [if_pos (by omega), if_pos c0]
      exact ⟨(acc, k), rfl⟩
    have ha2 : ∀ u, u ∈ acc ++ [plainT t] → u.fParts.length ≤ 140737488355328 ∧ u.fName.length ≤ 140737488355328 := fun u hu => by
      rcases List.mem_append.1 hu with hu | hu
      · exact ha u hu
      · rw [List.mem_singleton.1 hu]
        refine ⟨?_, by show t.fName.length ≤ _; omega⟩
        show (t.fParts.map _).length ≤ _
        rw [List.length_map]; omega
    rw [if_neg (by omega), if_neg c0, plain_eq t (by omega), Option.bind_some, if_pos (by omega), rise_eqL _ (by rw [List.length_append, List.length_singleton]; omega) ha2, Option.bind_some, okts_snoc acc t ho c0]
    by_cases c1 : okTp (lastN none (acc.map (·.fName))) t = true
    · obtain ⟨z, hz⟩ := r20rise_l1 a hn y l (acc ++ [plainT t]) (k + 1) fuel g2 (by omega) (by rw [List.length_append, List.length_singleton, hk]) (fun u hu => hw u (.tail _ hu)) ha2 (by rw [okts_snoc acc t ho c0]; exact c1)
      have e5 : lastN none ((acc ++ [plainT t]).map (·.fName)) = some t.fName := by rw [List.map_append, List.map_singleton, lastN_snoc]; rfl
      rw [e5] at hz
      exact ⟨z, by rw [if_pos c1, if_pos c1, if_pos (by omega), hz]⟩
    · exact ⟨(acc, k), by rw [if_neg c1, if_neg c1]; rfl⟩
theorem r20rise_eq (l : List ProduceTopic) (hn : l.length * 40 ≤ 140737488351232) (hw : ∀ t, t ∈ l → gdT t) : f_r20_rise (l.map ofT) = some (riseQ l) := by
  unfold f_r20_rise riseQ
  rw [List.length_map]
  by_cases c0 : l.length = 0
  · rw [if_pos (by omega), if_pos c0]
  · obtain ⟨z, hz⟩ := r20rise_l1 l hn 0 l [] 0 (((l.length : Int)).toNat + 1) rfl (by omega) rfl hw (fun t h => nomatch h) rfl
    rw [if_neg (by omega), if_neg c0, hz]
    show ((some (if rqT none l = 0 then _ else _)).bind _) = _
    by_cases c : rqT none l = 0
    · rw [if_pos c, c]; rfl
    · rw [if_neg c]; rfl
def firstPs (v : Int) (nul : Bool) : List ProducePart → Int
  | [] => 0
  | p :: l => if chkBs v nul p.fBatches = 0 then firstPs v nul l else chkBs v nul p.fBatches
def firstTs (v : Int) (nul : Bool) : List ProduceTopic → Int
  | [] => 0
  | t :: l => if firstPs v nul t.fParts = 0 then firstTs v nul l else firstPs v nul t.fParts
def idOk (r : ProduceRequest) : Prop := bright r.fID = true ∧ (r.fID.null = true ∨ kright r.fID.data = true)
def numQ (r : ProduceRequest) : Prop := -1 ≤ r.fAcks ∧ r.fAcks ≤ 1 ∧ 0 ≤ r.fTimeout ∧ r.fTimeout ≤ 2147483647
instance (r : ProduceRequest) : Decidable (idOk r) := by unfold idOk; infer_instance
instance (r : ProduceRequest) : Decidable (numQ r) := by unfold numQ; infer_instance
def chkQ (v : Int) (r : ProduceRequest) : Int := if idOk r then (if numQ r then (if riseQ r.fTopics = 0 then firstTs v r.fID.null r.fTopics else riseQ r.fTopics) else 11) else 4
theorem pc_l2 (r : ProduceRequest) (v y : Int) : ∀ l : List ProducePart, (∀ p, p ∈ l → gdP p) → f_produce_RequestCheck_l2 r v l y = some (if firstPs v r.fID.null l = 0 then .go y else .ret (firstPs v r.fID.null l))
  | [], _ => rfl
  | p :: l, h => by
    rw [f_produce_RequestCheck_l2, pbatches r p.fBatches v (h p (.head _)).2.2, Option.bind_some, firstPs, pc_l2 r v y l (fun q hq => h q (.tail _ hq))]
    by_cases c : chkBs v r.fID.null p.fBatches = 0
    · rw [if_pos c, if_pos c]
    · rw [if_neg c, if_neg c, if_neg c]
theorem pc_l1 (r : ProduceRequest) (v y : Int) : ∀ l : List ProduceTopic, (∀ t, t ∈ l → gdT t) → f_produce_RequestCheck_l1 r v l y = some (if firstTs v r.fID.null l = 0 then .go y else .ret (firstTs v r.fID.null l))
  | [], _ => rfl
  | t :: l, h => by
    rw [f_produce_RequestCheck_l1, pc_l2 r v y t.fParts (h t (.head _)).2.2, Option.bind_some, firstTs]
    by_cases c : firstPs v r.fID.null t.fParts = 0
    · rw [if_pos c, if_pos c]
      dsimp only
      rw [pc_l1 r v y l (fun q hq => h q (.tail _ hq))]
    · rw [if_neg c, if_neg c, if_neg c]
theorem pcheck (r : ProduceRequest) (v : Int) (h : gdQ r) : f_produce_RequestCheck r v = some (chkQ v r) := by
  unfold f_produce_RequestCheck chkQ
  have h1 : (((gRight r.fID).bind fun x12 => if x12 = true then (if r.fID.null = true then some false else ((gKRight r.fID.data).bind fun x16 => if x16 = true then some false else some true)) else some true) : Option Bool) = some (decide (¬ idOk r)) := by
    rw [gRight_eq, Option.bind_some, gKRight_eq]
    by_cases c1 : bright r.fID = true
    · rw [if_pos c1]
      by_cases c2 : r.fID.null = true
      · rw [if_pos c2]; exact congrArg some (Eq.symm (decide_eq_false (fun hh => hh ⟨c1, .inl c2⟩)))
      · rw [if_neg c2, Option.bind_some]
        by_cases c3 : kright r.fID.data = true
        · rw [if_pos c3]; exact congrArg some (Eq.symm (decide_eq_false (fun hh => hh ⟨c1, .inr c3⟩)))
        · rw [if_neg c3]; exact congrArg some (Eq.symm (decide_eq_true (fun hh => hh.2.elim c2 c3)))
    · rw [if_neg c1]; exact congrArg some (Eq.symm (decide_eq_true (fun hh => c1 hh.1)))
  have h2 : ((if r.fAcks < (-1) then some true else (if r.fAcks > 1 then some true else (if r.fTimeout < 0 then some true else ((gFits r.fTimeout 4).bind fun x30 => if x30 = true then some false else some true)))) : Option Bool) = some (decide (¬ numQ r)) := by
    rw [gFits_eq _ _ h.1, Option.bind_some, fits_4]
    unfold numQ
    by_cases c1 : r.fAcks < -1
    · rw [if_pos c1, decide_eq_true (by omega)]
    rw [if_neg c1]
    by_cases c2 : r.fAcks > 1
    · rw [if_pos c2, decide_eq_true (by omega)]
    rw [if_neg c2]
    by_cases c3 : r.fTimeout < 0
    · rw [if_pos c3, decide_eq_true (by omega)]
    rw [if_neg c3]
    by_cases c4 : r.fTimeout ≤ 2147483647
    · rw [if_pos (decide_eq_true (by omega)), decide_eq_false (by omega)]
    · rw [if_neg (by rw [decide_eq_true_eq]; omega), decide_eq_true (by omega)]
  rw [h1, Option.bind_some]
  by_cases c1 : idOk r
  rotate_left
  · rw [decide_eq_true c1, if_pos rfl, if_neg c1]
  rw [decide_eq_false (fun hh => hh c1), if_neg (by decide), if_pos c1, h2, Option.bind_some]
  by_cases c2 : numQ r
  rotate_left
  · rw [decide_eq_true c2, if_pos rfl, if_neg c2]
  rw [decide_eq_false (fun hh => hh c2), if_neg (by decide), if_pos c2, prise_eq _ (by have := h.2.1; omega) h.2.2, Option.bind_some]
  by_cases c3 : riseQ r.fTopics = 0
  · rw [if_pos c3, if_pos c3, pc_l1 r v 0 _ h.2.2]
    by_cases c4 : firstTs v r.fID.null r.fTopics = 0
    · rw [if_pos c4, c4]; rfl
    · rw [if_neg c4]; rfl
  · rw [if_neg c3, if_neg c3]
theorem rc_l2 (r : ProduceRequest) (v : Int) (hv : v = 3 ∨ v = 4) (t : ProduceTopic) (j : Nat) (hj : r.fTopics[j]? = some t) (hn : t.fParts.length ≤ 140737488351232) (y : Int) : ∀ (l : List ProducePart) (k fuel : Nat), t.fParts.drop k = l → l.length < fuel → (∀ p, p ∈ l → gdP p) → ∃ z, f_r20_Check_l2 (ofQ r) v j fuel y k = some (if firstPs v r.fID.null l = 0 then .go (y, z) else .ret (firstPs v r.fID.null l))
  | [], k, fuel + 1, h, hf, _ => by
    have := b_nil_drop h
    have e1 : (ofQ r).fTopics[j]? = some (ofT t) := by show (r.fTopics.map ofT)[j]? = _; rw [List.getElem?_map, hj]; rfl
    exact ⟨k, by rw [f_r20_Check_l2, e1, Option.bind_some, if_neg (by show ¬ (k : Int) < ((t.fParts.map ofP).length : Int); rw [List.length_map]; omega)]; rfl⟩
  | p :: l, k, fuel + 1, h, hf, hw => by
    obtain ⟨g1, g2, g3⟩ := b_at_drop h
    obtain ⟨p1, p2, p3⟩ := hw p (.head _)
    rw [List.length_cons] at hf
    obtain ⟨z, hz⟩ := rc_l2 r v hv t j hj hn y l (k + 1) fuel g2 (by omega) (fun x hx => hw x (.tail _ hx))
    have e1 : (ofQ r).fTopics[j]? = some (ofT t) := by show (r.fTopics.map ofT)[j]? = _; rw [List.getElem?_map, hj]; rfl
    have e2 : (ofT t).fParts[k]? = some (ofP p) := by show (t.fParts.map ofP)[k]? = _; rw [List.getElem?_map, g1]; rfl
    have R5 : -9223372036854775808 ≤ (k : Int) + 1 ∧ (k : Int) + 1 ≤ 9223372036854775807 := by omega
    have hb := fun nul => r20_batches p.fBatches nul v hv p2 p3
    refine ⟨z, ?_⟩
    rw [f_r20_Check_l2, e1, Option.bind_some, if_pos (by show (k : Int) < ((t.fParts.map ofP).length : Int); rw [List.length_map]; omega), e2, Option.bind_some, firstPs]
    show (if r.fID.null = true then ((f_r20_batches p.fBatches false v).bind _) else ((f_r20_batches p.fBatches true v).bind _)) = _
    by_cases c : r.fID.null = true
    · have h1 := hb true
      rw [Bool.not_true] at h1
      rw [if_pos c, h1, Option.bind_some, if_pos R5, hz, c]
      by_cases c2 : chkBs v true p.fBatches = 0
      · rw [if_pos c2, if_pos c2]
      · rw [if_neg c2, if_neg c2, if_neg c2]
    · have h1 := hb false
      rw [Bool.not_false] at h1
      have c' : r.fID.null = false := by simpa using c
      rw [if_neg c, h1, Option.bind_some, if_pos R5, hz, c']
      by_cases c2 : chkBs v false p.fBatches = 0
      · rw [if_pos c2, if_pos c2]
      · rw [if_neg c2, if_neg c2, if_neg c2]
theorem rc_l1 (r : ProduceRequest) (v : Int) (hv : v = 3 ∨ v = 4) (hn : r.fTopics.length ≤ 140737488351232) (y : Int) : ∀ (l : List ProduceTopic) (k fuel : Nat), r.fTopics.drop k = l → l.length < fuel → (∀ t, t ∈ l → gdT t) → ∃ z, f_r20_Check_l1 (ofQ r) v fuel y k = some (if firstTs v r.fID.null l = 0 then .go (y, z) else .ret (firstTs v r.fID.null l))
  | [], k, fuel + 1, h, hf, _ => by
    have := b_nil_drop h
    exact ⟨k, by rw [f_r20_Check_l1, if_neg (by show ¬ (k : Int) < ((r.fTopics.map ofT).length : Int); rw [List.length_map]; omega)]; rfl⟩
  | t :: l, k, fuel + 1, h, hf, hw => by
    obtain ⟨g1, g2, g3⟩ := b_at_drop h
    obtain ⟨t1, t2, t3⟩ := hw t (.head _)
    rw [List.length_cons] at hf
    obtain ⟨z, hz⟩ := rc_l1 r v hv hn y l (k + 1) fuel g2 (by omega) (fun x hx => hw x (.tail _ hx))
    obtain ⟨z2, hz2⟩ := rc_l2 r v hv t k g1 (by omega) y t.fParts 0 (t.fParts.length + 1) rfl (by omega) t3
    have e1 : (ofQ r).fTopics[k]? = some (ofT t) := by show (r.fTopics.map ofT)[k]? = _; rw [List.getElem?_map, g1]; rfl
    have e3 : (((ofQ r).fTopics[k]?).map (fun x37 => ((x37.fParts.length : Int)).toNat + 1)).getD 0 = t.fParts.length + 1 := by
      rw [e1]
      show (((t.fParts.map ofP).length : Int)).toNat + 1 = _
      rw [List.length_map]; omega
    refine ⟨z, ?_⟩
    rw [f_r20_Check_l1, if_pos (by show (k : Int) < ((r.fTopics.map ofT).length : Int); rw [List.length_map]; omega), e3, hz2, Option.bind_some, firstTs]
    by_cases c : firstPs v r.fID.null t.fParts = 0
    · rw [if_pos c, if_pos c]
      dsimp only
      rw [if_pos (show -9223372036854775808 ≤ (k : Int) + 1 ∧ (k : Int) + 1 ≤ 9223372036854775807 by omega), hz]
    · rw [if_neg c, if_neg c, if_neg c]
theorem kright_iff (d : List UInt8) : kright d = true ↔ d ≠ [] ∧ d.length ≤ 32767 := by
  unfold kright
  cases d with
  | nil => simp
  | cons c d => simp; omega
theorem bright_iff (n : Bool) (d : List UInt8) (b : Bl) (h1 : b.null = n) (h2 : b.data = d) : bright b = true ↔ (n = true → d = []) := by
  unfold bright
  rw [h1, h2]
  cases n <;> cases d <;> simp
theorem r20check (r : ProduceRequest) (v : Int) (hv : v = 3 ∨ v = 4) (h : gdQ r) : f_r20_Check (ofQ r) v = some (chkQ v r) := by
  have e4 : (ofQ r).fTopics.length = r.fTopics.length := List.length_map _
  unfold f_r20_Check chkQ
  rw [e4]
  have h1 : ((if r.fID.null = true then (if r.fID.data = [] then some false else some true) else (if (r.fID.data.length : Int) < 1 then some true else (if (r.fID.data.length : Int) > 32767 then some true else some false))) : Option Bool) = some (decide (¬ idOk r)) := by
    have hk := kright_iff r.fID.data
    have hb := bright_iff r.fID.null r.fID.data r.fID rfl rfl
    by_cases c2 : r.fID.null = true
    · rw [if_pos c2]
      by_cases c3 : r.fID.data = []
      · rw [if_pos c3]
        exact congrArg some (Eq.symm (decide_eq_false (fun hh => hh ⟨hb.2 (fun _ => c3), .inl c2⟩)))
      · rw [if_neg c3]
        exact congrArg some (Eq.symm (decide_eq_true (fun hh => c3 (hb.1 hh.1 c2))))
    · rw [if_neg c2]
      by_cases c3 : r.fID.data = []
      · rw [if_pos (by rw [c3]; decide)]
        exact congrArg some (Eq.symm (decide_eq_true (fun hh => hh.2.elim c2 (fun h => (hk.1 h).1 c3))))
      · have hl : 0 < r.fID.data.length := List.length_pos_iff.2 c3
        rw [if_neg (by omega)]
        by_cases c4 : (r.fID.data.length : Int) > 32767
        · rw [if_pos c4]
          exact congrArg some (Eq.symm (decide_eq_true (fun hh => hh.2.elim c2 (fun h => by have := (hk.1 h).2; omega))))
        · rw [if_neg c4]
          exact congrArg some (Eq.symm (decide_eq_false (fun hh => hh ⟨hb.2 (fun h => absurd h c2), .inr (hk.2 ⟨c3, by omega⟩)⟩)))
  have h2 : ((if r.fAcks < (-1) then some true else (if r.fAcks > 1 then some true else (if r.fTimeout < 0 then some true else (if r.fTimeout > 2147483647 then some true else some false)))) : Option Bool) = some (decide (¬ numQ r)) := by
    unfold numQ
    by_cases c1 : r.fAcks < -1
    · rw [if_pos c1, decide_eq_true (by omega)]
    rw [if_neg c1]
    by_cases c2 : r.fAcks > 1
    · rw [if_pos c2, decide_eq_true (by omega)]
    rw [if_neg c2]
    by_cases c3 : r.fTimeout < 0
    · rw [if_pos c3, decide_eq_true (by omega)]
    rw [if_neg c3]
    by_cases c4 : r.fTimeout > 2147483647
    · rw [if_pos c4, decide_eq_true (by omega)]
    · rw [if_neg c4, decide_eq_false (by omega)]
  show ((if r.fID.null = true then (if r.fID.data = [] then some false else some true) else (if (r.fID.data.length : Int) < 1 then some true else (if (r.fID.data.length : Int) > 32767 then some true else some false))).bind fun y7 => if y7 = true then some 4 else ((if r.fAcks < (-1) then some true else (if r.fAcks > 1 then some true else (if r.fTimeout < 0 then some true else (if r.fTimeout > 2147483647 then some true else some false)))).bind fun y17 => if y17 = true then some 11 else ((f_r20_rise (r.fTopics.map ofT)).bind fun x24 => if x24 = 0 then ((f_r20_Check_l1 (ofQ r) v (((r.fTopics.length : Int)).toNat + 1) 0 0).bind fun e => match e with | .ret r => some r | .go (y72, k73) => some 0) else some x24))) = _
  rw [h1, Option.bind_some]
  by_cases c1 : idOk r
  rotate_left
  · rw [decide_eq_true c1, if_pos rfl, if_neg c1]
  rw [decide_eq_false (fun hh => hh c1), if_neg (by decide), if_pos c1, h2, Option.bind_some]
  by_cases c2 : numQ r
  rotate_left
  · rw [decide_eq_true c2, if_pos rfl, if_neg c2]
  rw [decide_eq_false (fun hh => hh c2), if_neg (by decide), if_pos c2, r20rise_eq _ h.2.1 h.2.2, Option.bind_some]
  by_cases c3 : riseQ r.fTopics = 0
  · obtain ⟨z, hz⟩ := rc_l1 r v hv (by have := h.2.1; omega) 0 r.fTopics 0 (((r.fTopics.length : Int)).toNat + 1) rfl (by omega) h.2.2
    rw [if_pos c3, if_pos c3, hz]
    by_cases c4 : firstTs v r.fID.null r.fTopics = 0
    · rw [if_pos c4, c4]; rfl
    · rw [if_neg c4]; rfl
  · rw [if_neg c3, if_neg c3]
end Go.Proofs.YtlhgogjcaegehaaGreat.Sl
namespace Go.Proofs.YtlhgogjcaegehaaGreat.Sl
open Go.RowKit
set_option linter.unusedVariables false
set_option linter.unusedSimpArgs false
def encQp (p : ProducePart) : List UInt8 := be p.fIndex 4 ++ (be ((encs encBt p.fBatches).length : Int) 4 ++ encs encBt p.fBatches)
def okQp (p : ProducePart) : Prop := fits p.fIndex 4 = true ∧ fits ((encs encBt p.fBatches).length : Int) 4 = true ∧ ∀ b, b ∈ p.fBatches → okB b
def encQt (t : ProduceTopic) : List UInt8 := (be (t.fName.length : Int) 2 ++ t.fName) ++ (be (t.fParts.length : Int) 4 ++ encs encQp t.fParts)
def okQt (t : ProduceTopic) : Prop := fits (t.fName.length : Int) 2 = true ∧ fits (t.fParts.length : Int) 4 = true ∧ ∀ p, p ∈ t.fParts → okQp p
def encQ (r : ProduceRequest) : List UInt8 := (be (blen r.fID) 2 ++ r.fID.data) ++ (be r.fAcks 2 ++ (be r.fTimeout 4 ++ (be (r.fTopics.length : Int) 4 ++ encs encQt r.fTopics)))
def okQ (v : Int) (r : ProduceRequest) : Prop := (fits (blen r.fID) 2 = true ∧ bright r.fID = true) ∧ fits r.fAcks 2 = true ∧ fits r.fTimeout 4 = true ∧ (fits (r.fTopics.length : Int) 4 = true ∧ ∀ t, t ∈ r.fTopics → okQt t) ∧ chkQ v r = 0
end Go.Proofs.YtlhgogjcaegehaaGreat.Sl
namespace Go.Proofs.YtlhgogjcaegehaaGreat.Sl
open Go.RowKit
set_option linter.unusedVariables false
set_option linter.unusedSimpArgs false
def smBl (l : List Bat) : Prop := ∀ b, b ∈ l → smB b ∧ chk b = 0
theorem q_of_gd {r : ProduceRequest} (h : gdQ r) : f_l20_Of r = some (ofQ r) := by
  have h1 := h.2.1
  unfold f_l20_Of
  rw [q_of_l1 r.fTopics [] (by rw [List.length_nil]; omega) (fun t ht => (h.2.2 t ht).2.1), Option.bind_some, List.nil_append]
  rfl
end Go.Proofs.YtlhgogjcaegehaaGreat.Sl
namespace Go.Proofs.YtlhgogjcaegehaaGreat.Sl
open Go.RowKit
set_option linter.unusedVariables false
set_option linter.unusedSimpArgs false
theorem chkBs_zero {v : Int} {nul : Bool} {l : List Bat} (h : chkBs v nul l = 0) : ∀ b, b ∈ l → chk b = 0 ∧ b.fControl = false ∧ b.fTxn ≠ nul := by
  have h2 : firstBt nul l = 0 := by
    unfold chkBs at h
    split at h
    · exact absurd h (by decide)
    · exact h
  clear h
  induction l with
  | nil => exact fun b h => nomatch h
  | cons c l ih =>
    rw [firstBt] at h2
    by_cases c1 : chk c = 0
    rotate_left
    · rw [if_neg c1] at h2; exact absurd h2 c1
    rw [if_pos c1] at h2
    by_cases c2 : c.fControl = true
    · rw [if_pos c2] at h2; exact absurd h2 (by decide)
    rw [if_neg c2] at h2
    by_cases c3 : c.fTxn = nul
    · rw [if_pos c3] at h2; exact absurd h2 (by decide)
    rw [if_neg c3] at h2
    intro b hb
    rcases List.mem_cons.1 hb with rfl | hb
    · exact ⟨c1, by simpa using c2, c3⟩
    · exact ih h2 b hb
theorem firstPs_zero {v : Int} {nul : Bool} : ∀ {l : List ProducePart}, firstPs v nul l = 0 → ∀ p, p ∈ l → chkBs v nul p.fBatches = 0
  | c :: l, h, p, hp => by
    rw [firstPs] at h
    by_cases c1 : chkBs v nul c.fBatches = 0
    rotate_left
    · rw [if_neg c1] at h; exact absurd h c1
    rw [if_pos c1] at h
    rcases List.mem_cons.1 hp with rfl | hp
    · exact c1
    · exact firstPs_zero h p hp
theorem firstTs_zero {v : Int} {nul : Bool} : ∀ {l : List ProduceTopic}, firstTs v nul l = 0 → ∀ t, t ∈ l → firstPs v nul t.fParts = 0
  | c :: l, h, t, ht => by
    rw [firstTs] at h
    by_cases c1 : firstPs v nul c.fParts = 0
    rotate_left
    · rw [if_neg c1] at h; exact absurd h c1
    rw [if_pos c1] at h
    rcases List.mem_cons.1 ht with rfl | ht
    · exact c1
    · exact firstTs_zero h t ht
theorem chkQ_zero {v : Int} {r : ProduceRequest} (h : chkQ v r = 0) : idOk r ∧ numQ r ∧ riseQ r.fTopics = 0 ∧ firstTs v r.fID.null r.fTopics = 0 := by
  unfold chkQ at h
  by_cases c1 : idOk r
  rotate_left
  · rw [if_neg c1] at h; exact absurd h (by decide)
  rw [if_pos c1] at h
  by_cases c2 : numQ r
  rotate_left
  · rw [if_neg c2] at h; exact absurd h (by decide)
  rw [if_pos c2] at h
  by_cases c3 : riseQ r.fTopics = 0
  rotate_left
  · rw [if_neg c3] at h; exact absurd h c3
  rw [if_pos c3] at h
  exact ⟨c1, c2, c3, h⟩
end Go.Proofs.YtlhgogjcaegehaaGreat.Sl
namespace Go.Proofs.YtlhgogjcaegehaaGreat.Sl
open Go.RowKit
set_option linter.unusedVariables false
set_option linter.unusedSimpArgs false
def firstB : Int → List Bat → Int
  | w, [] => w
  | w, x :: l => firstB (if w = 0 then chk x else w) l
theorem firstB_ne {w : Int} (h : w ≠ 0) : ∀ l : List Bat, firstB w l = w
  | [] => rfl
  | x :: l => by rw [firstB, if_neg h, firstB_ne h l]
theorem firstB_of : ∀ {l : List Bat}, (∀ x, x ∈ l → chk x = 0) → firstB 0 l = 0
  | [], _ => rfl
  | y :: l, h => by rw [firstB, if_pos rfl, h y (.head _), firstB_of (fun x hx => h x (.tail _ hx))]
theorem all_l1 (y4 : List UInt8) (y5 : Int) : ∀ (l : List Bat) (t : List UInt8), (∀ x, x ∈ l → smB x) → t.length + 1000000 * l.length ≤ 1000000000 →
    f_batch_All_l1 l y4 y5 t = some (if firstB 0 l = 0 then .go (y4, y5, t ++ encs encBt l) else .ret ([], firstB 0 l))
  | [], t, _, _ => by rw [encs, List.append_nil]; rfl
  | x :: l, t, h, hl => by
    have hx := h x (.head _)
    rw [List.length_cons] at hl
    rw [f_batch_All_l1, benc hx, Option.bind_some, firstB, if_pos rfl]
    by_cases hc : chk x = 0
    · have he := encBt_len (okB_of hx hc)
      have hx2 := hx.2.2
      rw [if_pos hc]
      dsimp only
      rw [if_pos rfl, gBWrite_eq _ _ (by omega), Option.bind_some, all_l1 y4 y5 l _ (fun y hy => h y (.tail _ hy)) (by rw [List.length_append]; omega), hc, encs, List.append_assoc]
    · rw [if_neg hc, firstB_ne hc]
      dsimp only
      rw [if_neg hc, if_neg hc]
theorem all_eq {l : List Bat} (h : ∀ x, x ∈ l → smB x) (hl : l.length ≤ 1000) : f_batch_All l = some (if firstB 0 l = 0 then (encs encBt l, 0) else ([], firstB 0 l)) := by
  unfold f_batch_All
  rw [all_l1 [] 0 l [] h (by rw [List.length_nil]; omega), Option.bind_some]
  by_cases hc : firstB 0 l = 0
  · rw [if_pos hc, if_pos hc]
    dsimp only
    rw [gBStr_eq, Option.bind_some, List.nil_append]
  · rw [if_neg hc, if_neg hc]
end Go.Proofs.YtlhgogjcaegehaaGreat.Sl
namespace Go.Proofs.YtlhgogjcaegehaaGreat.Sl
open Go.RowKit
set_option linter.unusedVariables false
set_option linter.unusedSimpArgs false
theorem q_putText {t d : List UInt8} (hf : d.length ≤ 32767) (ht : t.length ≤ 1000000000) : gPutText (t, 0) d = some (t ++ (be (d.length : Int) 2 ++ d), 0) := by
  rw [gPutText_eq _ _ (by simp only; omega)]
  have := gPutFixed_z (t := t) (b := ⟨false, d⟩) (k := 2) (fits_small (.inl rfl) (show -32768 ≤ (d.length : Int) by omega) (show (d.length : Int) ≤ 32767 by omega)) rfl (by simp only; omega)
  rw [gPutFixed_eq _ _ _ ⟨by decide, by simp only; omega⟩] at this
  exact this
theorem qw_l2 : ∀ (l : List ProducePart) (t : List UInt8), (∀ p, p ∈ l → okQp p ∧ p.fBatches.length ≤ 1000 ∧ smBl p.fBatches) → t.length + (encs encQp l).length ≤ 1000000 → f_produce_RequestWrite_l2 l (t, 0) = some (t ++ encs encQp l, 0)
  | [], t, h, hl => by rw [f_produce_RequestWrite_l2, encs, List.append_nil]
  | p :: l, t, h, hl => by
    obtain ⟨h1, h2, h3⟩ := h p (.head _)
    rw [encs, List.length_append] at hl
    have hpl := hl
    simp only [encQp, List.length_append, be_length] at hpl
    rw [f_produce_RequestWrite_l2, all_eq (fun x hx => (h3 x hx).1) h2, if_pos (firstB_of (fun x hx => (h3 x hx).2)), Option.bind_some]
    dsimp only
    rw [if_pos rfl, Option.bind_some, gOInt_z h1.1 (by omega), Option.bind_some, gOf_eq, Option.bind_some, gPutFixed_z (b := ⟨false, encs encBt p.fBatches⟩) h1.2.1 rfl (by simp only [List.length_append, be_length]; show _ + (4 : Int).toNat + _ ≤ _; omega), Option.bind_some]
    have e4 : (t ++ be p.fIndex (4 : Int).toNat) ++ (be (blen (⟨false, encs encBt p.fBatches⟩ : Bl)) (4 : Int).toNat ++ (⟨false, encs encBt p.fBatches⟩ : Bl).data) = t ++ encQp p := by rw [List.append_assoc]; rfl
    rw [e4, qw_l2 l _ (fun x hx => h x (.tail _ hx)) (by rw [List.length_append]; omega), encs, List.append_assoc]
theorem qw_l1 : ∀ (l : List ProduceTopic) (t : List UInt8), (∀ x, x ∈ l → x.fName.length ≤ 32767 ∧ okQt x ∧ ∀ p, p ∈ x.fParts → p.fBatches.length ≤ 1000 ∧ smBl p.fBatches) → t.length + (encs encQt l).length ≤ 1000000 → f_produce_RequestWrite_l1 l (t, 0) = some (t ++ encs encQt l, 0)
  | [], t, h, hl => by rw [f_produce_RequestWrite_l1, encs, List.append_nil]
  | x :: l, t, h, hl => by
    obtain ⟨h0, h1, h2⟩ := h x (.head _)
    rw [encs, List.length_append] at hl
    have hpl := hl
    simp only [encQt, List.length_append, be_length] at hpl
    rw [f_produce_RequestWrite_l1, q_putText h0 (by omega), Option.bind_some, gOInt_z h1.2.1 (by simp only [List.length_append, be_length]; omega), Option.bind_some]
    rw [qw_l2 x.fParts _ (fun p hp => ⟨h1.2.2 p hp, h2 p hp⟩) (by simp only [List.length_append, be_length]; show _ + (2 + _) + (4 : Int).toNat + _ ≤ _; omega), Option.bind_some, Option.bind_some]
    have e4 : (t ++ (be (x.fName.length : Int) 2 ++ x.fName)) ++ be (x.fParts.length : Int) (4 : Int).toNat ++ encs encQp x.fParts = t ++ encQt x := by simp only [encQt, List.append_assoc]; rfl
    rw [e4, qw_l1 l _ (fun y hy => h y (.tail _ hy)) (by rw [List.length_append]; omega), encs, List.append_assoc]
def wPs : List ProducePart → Nat
  | [] => 0
  | p :: l => (10 + 100 * p.fBatches.length) + wPs l
def wTq : List ProduceTopic → Nat
  | [] => 0
  | t :: l => (t.fName.length + 10 + wPs t.fParts) + wTq l
theorem i64_id {n : Int} (h : -9223372036854775808 ≤ n ∧ n ≤ 9223372036854775807) : IntKind.i64.wrap n = n := by
  rw [IntKind.wrap_i64]
  omega
theorem nP_eq {n : Int} {p : ProducePart} (hn : 0 ≤ n ∧ n ≤ 100000) (hp : p.fBatches.length ≤ 140737488351232) : nP n p = n + ((10 + 100 * p.fBatches.length : Nat) : Int) := by
  unfold nP
  rw [i64_id (n := 100 * (p.fBatches.length : Int)) (by omega), i64_id (n := 10 + 100 * (p.fBatches.length : Int)) (by omega), i64_id (by omega)]
  omega
theorem nPs_eq : ∀ (l : List ProducePart) (n : Int), 0 ≤ n ∧ n ≤ 100000 → (∀ p, p ∈ l → p.fBatches.length ≤ 140737488351232) → okFp n l → nPs n l = n + (wPs l : Int) ∧ (l ≠ [] → nPs n l ≤ 2000)
  | [], n, _, _, _ => ⟨by simp [nPs, wPs], fun h => absurd rfl h⟩
  | p :: l, n, hn, hp, ho => by
    obtain ⟨o1, o2, o3⟩ := ho
    have e := nP_eq hn (hp p (.head _))
    obtain ⟨h1, h2⟩ := nPs_eq l (nP n p) ⟨by omega, by omega⟩ (fun q hq => hp q (.tail _ hq)) o3
    refine ⟨by rw [nPs, h1, e, wPs]; omega, fun _ => ?_⟩
    rw [nPs]
    cases l with
    | nil => exact o1
    | cons q l => exact h2 (by simp)
theorem nTs_eq : ∀ (l : List ProduceTopic) (n : Int), 0 ≤ n ∧ n ≤ 40000 → (∀ t, t ∈ l → t.fParts ≠ [] ∧ t.fName.length ≤ 32767 ∧ ∀ p, p ∈ t.fParts → p.fBatches.length ≤ 140737488351232) → okFt n l → nTs n l = n + (wTq l : Int)
  | [], n, _, _, _ => by simp [nTs, wTq]
  | t :: l, n, hn, ht, ho => by
    obtain ⟨o1, o2⟩ := ho
    obtain ⟨t1, t2, t3⟩ := ht t (.head _)
    have e : nT n t = n + ((t.fName.length + 10 : Nat) : Int) := by
      unfold nT
      rw [i64_id (n := (t.fName.length : Int) + 10) (by omega), i64_id (by omega)]
      omega
    obtain ⟨h1, h2⟩ := nPs_eq t.fParts (nT n t) ⟨by omega, by omega⟩ t3 o1
    have h2 := h2 t1
    have h3 := nTs_eq l (nPs (nT n t) t.fParts) ⟨by omega, by omega⟩ (fun u hu => ht u (.tail _ hu)) o2
    rw [nTs, h3, h1, e, wTq]
    omega
theorem rqT_zero : ∀ {l : List ProduceTopic} {p : Option (List UInt8)}, rqT p l = 0 → ∀ t, t ∈ l → t.fParts ≠ [] ∧ t.fName.length ≤ 32767 ∧ rqP none t.fParts = true
  | c :: l, p, h, t, ht => by
    rw [rqT] at h
    by_cases c0 : c.fParts.length = 0
    · rw [if_pos c0] at h; exact absurd h (by decide)
    rw [if_neg c0] at h
    by_cases c1 : okTp p c = true
    rotate_left
    · rw [if_neg c1] at h; exact absurd h (by decide)
    rw [if_pos c1] at h
    rcases List.mem_cons.1 ht with rfl | ht
    · unfold okTp at c1
      simp only [Bool.and_eq_true, decide_eq_true_eq] at c1
      exact ⟨fun e => c0 (by rw [e]; rfl), c1.1.1.2, c1.2⟩
    · exact rqT_zero h t ht
theorem rqP_true : ∀ {l : List ProducePart} {q : Option Int}, rqP q l = true → ∀ p, p ∈ l → 0 ≤ p.fIndex ∧ p.fIndex ≤ 2147483647
  | c :: l, q, h, p, hp => by
    rw [rqP] at h
    simp only [Bool.and_eq_true, okn, decide_eq_true_eq] at h
    rcases List.mem_cons.1 hp with rfl | hp
    · exact h.1.1
    · exact rqP_true h.2 p hp
theorem mem_wPs : ∀ {l : List ProducePart} {p : ProducePart}, p ∈ l → 10 + 100 * p.fBatches.length ≤ wPs l
  | c :: l, p, h => by
    rw [wPs]
    rcases List.mem_cons.1 h with rfl | h
    · omega
    · have := mem_wPs h; omega
theorem mem_wTq : ∀ {l : List ProduceTopic} {t : ProduceTopic}, t ∈ l → t.fName.length + 10 + wPs t.fParts ≤ wTq l
  | c :: l, t, h => by
    rw [wTq]
    rcases List.mem_cons.1 h with rfl | h
    · omega
    · have := mem_wTq h; omega
theorem len_wPs : ∀ l : List ProducePart, 10 * l.length ≤ wPs l
  | [] => Nat.le_refl _
  | c :: l => by have := len_wPs l; rw [wPs, List.length_cons]; omega
theorem len_wTq : ∀ l : List ProduceTopic, 10 * l.length ≤ wTq l
  | [] => Nat.le_refl _
  | c :: l => by have := len_wTq l; rw [wTq, List.length_cons]; omega
def smQb (p : ProducePart) : Prop := ∀ b, b ∈ p.fBatches → okB b ∧ (body b).length ≤ 12000
theorem encQp_le {p : ProducePart} (h : smQb p) : (encQp p).length ≤ 121 * (10 + 100 * p.fBatches.length) := by
  have h1 := encs_le encBt 12061 p.fBatches (fun x hx => by have := h x hx; rw [encBt_len this.1]; omega)
  simp only [encQp, List.length_append, be_length]
  omega
theorem encQps_le : ∀ l : List ProducePart, (∀ p, p ∈ l → smQb p) → (encs encQp l).length ≤ 121 * wPs l
  | [], _ => Nat.le_refl _
  | p :: l, h => by
    have h1 := encQp_le (h p (.head _))
    have h2 := encQps_le l (fun q hq => h q (.tail _ hq))
    rw [encs, List.length_append, wPs]
    omega
theorem encQts_le : ∀ l : List ProduceTopic, (∀ t, t ∈ l → ∀ p, p ∈ t.fParts → smQb p) → (encs encQt l).length ≤ 121 * wTq l
  | [], _ => Nat.le_refl _
  | t :: l, h => by
    have h1 := encQps_le t.fParts (h t (.head _))
    have h2 := encQts_le l (fun q hq => h q (.tail _ hq))
    rw [encs, List.length_append, wTq]
    simp only [encQt, List.length_append, be_length]
    omega
theorem id_len {r : ProduceRequest} (h : idOk r) : r.fID.data.length ≤ 32767 ∧ (r.fID.null = true → r.fID.data = []) := by
  have h1 := (bright_iff r.fID.null r.fID.data r.fID rfl rfl).1 h.1
  refine ⟨?_, h1⟩
  rcases h.2 with h2 | h2
  · rw [h1 h2]; decide
  · exact ((kright_iff r.fID.data).1 h2).2
theorem gdQ_of {a : ProduceRequest} (hw : wf_ProduceRequest a) (ho : okFt (a.fID.data.length : Int) a.fTopics) : gdQ a :=
  ⟨hw.2.2.1, hw.2.2.2.1, fun t ht => ⟨(hw.2.2.2.2 t ht).1, (hw.2.2.2.2 t ht).2.1, fun p hp => ⟨((hw.2.2.2.2 t ht).2.2 p hp).1, ((hw.2.2.2.2 t ht).2.2 p hp).2.1, fun b hb => (okFt_mem ho t ht p hp b hb).1.1⟩⟩⟩
theorem okQ_of {v : Int} {a : ProduceRequest} (hw : wf_ProduceRequest a) (ho : okFt (a.fID.data.length : Int) a.fTopics) (hn : nTs (a.fID.data.length : Int) a.fTopics ≤ 2000) (hc : chkQ v a = 0) :
    okQ v a ∧ (encQ a).length ≤ 300000 ∧ ∀ t, t ∈ a.fTopics → t.fName.length ≤ 32767 ∧ t.fParts.length ≤ 1000 ∧ ∀ p, p ∈ t.fParts → p.fBatches.length ≤ 1000 ∧ smBl p.fBatches := by
  obtain ⟨k1, k2, k3, k4⟩ := chkQ_zero hc
  obtain ⟨i1, i2⟩ := id_len k1
  have hr : rqT none a.fTopics = 0 := by
    unfold riseQ at k3
    split at k3
    · exact absurd k3 (by decide)
    · exact k3
  have hp : ∀ t, t ∈ a.fTopics → ∀ p, p ∈ t.fParts → p.fBatches.length ≤ 140737488351232 := fun t ht p hp => ((hw.2.2.2.2 t ht).2.2 p hp).2.1
  have e := nTs_eq a.fTopics (a.fID.data.length : Int) ⟨by omega, by omega⟩ (fun t ht => ⟨(rqT_zero hr t ht).1, (rqT_zero hr t ht).2.1, hp t ht⟩) ho
  have hb : ∀ t, t ∈ a.fTopics → ∀ p, p ∈ t.fParts → ∀ b, b ∈ p.fBatches → smB b ∧ (body b).length ≤ 12000 ∧ chk b = 0 := fun t ht p hp b hb =>
    ⟨(okFt_mem ho t ht p hp b hb).1, (okFt_mem ho t ht p hp b hb).2, (chkBs_zero (firstPs_zero (firstTs_zero k4 t ht) p hp) b hb).1⟩
  have hsm : ∀ t, t ∈ a.fTopics → ∀ p, p ∈ t.fParts → smQb p := fun t ht p hp b hb' => ⟨okB_of (hb t ht p hp b hb').1 (hb t ht p hp b hb').2.2, (hb t ht p hp b hb').2.1⟩
  have hl := encQts_le a.fTopics hsm
  have hl2 := len_wTq a.fTopics
  have big : ∀ t, t ∈ a.fTopics → t.fName.length ≤ 32767 ∧ t.fParts.length ≤ 1000 ∧ ∀ p, p ∈ t.fParts → p.fBatches.length ≤ 1000 ∧ smBl p.fBatches := fun t ht => by
    have m1 := mem_wTq ht
    have m2 := len_wPs t.fParts
    refine ⟨(rqT_zero hr t ht).2.1, by omega, fun p hp => ?_⟩
    have m3 := mem_wPs hp
    exact ⟨by omega, fun b hb' => ⟨(hb t ht p hp b hb').1, (hb t ht p hp b hb').2.2⟩⟩
  refine ⟨⟨⟨?_, k1.1⟩, fits_small (.inl rfl) (by have := k2.1; omega) (by have := k2.2.1; omega), ?_, ⟨fits_small (.inr (.inl rfl)) (by omega) (by omega), fun t ht => ?_⟩, hc⟩, ?_, big⟩
  · unfold blen
    split
    · decide
    · exact fits_small (.inl rfl) (by omega) (by omega)
  · have := k2.2.2
    show fits a.fTimeout 4 = true
    rw [fits_4]
    exact decide_eq_true (by omega)
  · have m0 := mem_wTq ht
    have m1 := big t ht
    refine ⟨fits_small (.inl rfl) (by omega) (by omega), fits_small (.inr (.inl rfl)) (by omega) (by omega), fun p hp => ?_⟩
    have m2 := rqP_true (rqT_zero hr t ht).2.2 p hp
    have m3 := encQp_le (hsm t ht p hp)
    have m4 := mem_wPs hp
    have m5 : (encs encBt p.fBatches).length ≤ (encQp p).length := by simp only [encQp, List.length_append]; omega
    refine ⟨?_, ?_, fun b hb' => (hsm t ht p hp b hb').1⟩
    · show fits p.fIndex 4 = true
      rw [fits_4]
      exact decide_eq_true (by omega)
    · show fits _ 4 = true
      rw [fits_4]
      exact decide_eq_true (by omega)
  · simp only [encQ, List.length_append, be_length]
    omega
theorem q_write {v : Int} {a : ProduceRequest} (hg : gdQ a) (h : okQ v a) (hl : (encQ a).length ≤ 300000) (hb : ∀ t, t ∈ a.fTopics → t.fName.length ≤ 32767 ∧ t.fParts.length ≤ 1000 ∧ ∀ p, p ∈ t.fParts → p.fBatches.length ≤ 1000 ∧ smBl p.fBatches) : f_produce_RequestWrite ([], 0) a v = some (encQ a, 0) := by
  obtain ⟨h1, h2, h3, h4, h5⟩ := h
  have hl' := hl
  simp only [encQ, List.length_append, be_length] at hl'
  unfold f_produce_RequestWrite
  rw [pcheck a v hg, Option.bind_some, if_pos h5, gPutFixed_z h1.1 h1.2 (by rw [List.length_nil]; omega), Option.bind_some, List.nil_append, gOInt_z h2 (by simp only [List.length_append, be_length]; show 2 + _ ≤ _; omega), Option.bind_some, gOInt_z h3 (by simp only [List.length_append, be_length]; show 2 + _ + 2 ≤ _; omega), Option.bind_some, gOInt_z h4.1 (by simp only [List.length_append, be_length]; show 2 + _ + 2 + 4 ≤ _; omega), Option.bind_some]
  rw [qw_l1 a.fTopics _ (fun t ht => ⟨(hb t ht).1, h4.2 t ht, (hb t ht).2.2⟩) (by simp only [List.length_append, be_length]; show 2 + _ + 2 + 4 + 4 + _ ≤ _; omega), Option.bind_some]
  simp only [encQ, List.append_assoc]
  rfl
end Go.Proofs.YtlhgogjcaegehaaGreat.Sl
