/- Printed by g2.py: package cursitorref06. -/
import Derived.Test.YtdlpmcbglmgpiaaGb
import Derived.Test.YtdlpmcbglmgpiaaNg
namespace Go.Proofs.Ytdlpmcbglmgpiaa.Sl
open Go.RowKit
set_option linter.unusedVariables false
set_option linter.unusedSimpArgs false
set_option maxRecDepth 100000
def ft_cursitorref06 : FTab := [(26, 0, 0), (26, 1, 1), (58, 0, 0), (58, 1, 1), (134, 0, 0), (134, 1, 2), (134, 2, 3)]
theorem ft_cursitorref06_ok : (ft_cursitorref06).OK Try.prog := ⟨FOK.mk Try.runUnderlying26 rfl Try.sizeOf4 rfl, FOK.mk Try.runUnderlying26 rfl Try.sizeOf9 rfl, FOK.mk Try.runUnderlying58 rfl Try.sizeOf9 rfl, FOK.mk Try.runUnderlying58 rfl Try.sizeOf26 rfl, FOK.mk Try.runUnderlying134 rfl Try.sizeOf26 rfl, FOK.mk Try.runUnderlying134 rfl Try.sizeOf3 rfl, FOK.mk Try.runUnderlying134 rfl Try.sizeOf3 rfl, trivial⟩
theorem mix_cursitorref06 : Try.prog.follows .mixedOrders = true := by kernel_rfl
theorem flat_cursitorref06_58 : Flat Try.prog 3 58 [.string, .bool, .string] true := (Flat.struct Try.isAgg58 Try.sizeOf58 rfl Try.underlying58 Try.stoodInHeld58 ⟨by decide, rfl, [.string], [.bool, .string], false, rfl, ((Flat.one_ Try.isAgg9 Try.sizeOf9 Try.underlying9).mono (by decide)), ⟨by decide, rfl, [.bool, .string], [], true, rfl, (Flat.struct Try.isAgg26 Try.sizeOf26 rfl Try.underlying26 Try.stoodInHeld26 ⟨by decide, rfl, [.bool], [.string], false, rfl, (Flat.one_ Try.isAgg4 Try.sizeOf4 Try.underlying4), ⟨by decide, rfl, [.string], [], false, rfl, (Flat.one_ Try.isAgg9 Try.sizeOf9 Try.underlying9), rfl⟩⟩), rfl⟩⟩)
theorem bok_cursitorref06_26 : BOK Try.prog 26 #[.bool false, .string ⟨#[]⟩] [(0, 1), (1, 1)] := BOK.mk Try.zeroValue26 Try.runUnderlying26 (by intro w; simp)
theorem bok_cursitorref06_58 : BOK Try.prog 58 #[.string ⟨#[]⟩, .bool false, .string ⟨#[]⟩] [(0, 1), (1, 2)] := BOK.mk Try.zeroValue58 Try.runUnderlying58 (by intro w; simp)
theorem sok_cursitorref06_48_0 : SOK Try.prog 48 58 0 3 #[] := SOK.mk0 Try.runUnderlying48 Try.sizeOf58
theorem sok_cursitorref06_48_1 : SOK Try.prog 48 58 1 3 #[.string ⟨#[]⟩, .bool false, .string ⟨#[]⟩] := SOK.mk Try.runUnderlying48 Try.sizeOf58 Try.zeroValue58 (by decide) (by kernel_rfl)
theorem inf_cursitorref06_58 : (Try.prog.info? 58).map (fun i => (i.zero, i.size, i.bytes)) = some (some (.agg #[.string ⟨#[]⟩, .bool false, .string ⟨#[]⟩]), 3, 40) := by kernel_rfl
def f_r06_Right_l1 (a0 : List Hd) : Nat → Bool → Nat → Option (Lp Bool (Bool × Nat))
  | 0, _, _ => none
  | m8 + 1, y3, k4 => if (k4 : Int) < (a0.length : Int) then ((a0[k4]?).bind fun x13 => if x13.fValue.null = true then (if x13.fValue.data = [] then (if -9223372036854775808 ≤ ((k4 : Int) + 1) ∧ ((k4 : Int) + 1) ≤ 9223372036854775807 then (f_r06_Right_l1 a0 m8 y3 (k4 + 1)) else none) else some (Lp.ret false)) else (if -9223372036854775808 ≤ ((k4 : Int) + 1) ∧ ((k4 : Int) + 1) ≤ 9223372036854775807 then (f_r06_Right_l1 a0 m8 y3 (k4 + 1)) else none)) else (some (Lp.go (y3, k4)))
def f_r06_Right (a0 : List Hd) : Option (Bool) := (f_r06_Right_l1 a0 (((a0.length : Int)).toNat + 1) false 0).bind fun e => match e with | .ret r => some r | .go (y20, k21) => some true
set_option maxRecDepth 100000 in
set_option maxHeartbeats 4000000 in
theorem f_r06_Right_spec (a0 : List Hd) (A1 : Option Addr) (c2 : Nat) (r : Bool) (h : f_r06_Right a0 = some r) : SpecX Try.prog 30 #[.slice A1 a0.length c2] (RX.of (sliceRd 3 Hd_rd) [.slice A1 a0.length c2] a0) (EmpR) (fun v A' N => v = .bool r ∧ A' = EmpR ∧ N = []) := by
  refine enterA Try.func30 rfl Try.ntmps30 rfl ?_
  intro F w hX
  unfold f_r06_Right at h
  refine T.seq (T.region rfl ?_)
  refine TL.run ft_cursitorref06_ok [0] rfl rfl ?_
  refine TL.nil (X.seq (T.seq (T.seq (T.region rfl ?_))))
  refine TL.run ft_cursitorref06_ok [0] rfl rfl ?_
  refine TL.nil (X.seq (T.block ?_))
  obtain ⟨E5, hE6, hO7⟩ := Option.bind_eq_some_iff.1 h
  refine T.lp (fun m e Rs => ∃ (y3 : Bool) (k4 : Nat), e = [(0, .slice A1 a0.length c2), (2, .bool y3), (3, .int .i64 (k4 : Int))] ∧ Rs = [EmpR] ∧ f_r06_Right_l1 a0 m y3 k4 = some E5) (((a0.length : Int)).toNat + 1) [0] ⟨false, 0, rfl, rfl, by exact hE6⟩ (by rfl) (by rfl) ?_
  rintro m8 _ _ ⟨y3, k4, rfl, rfl, hl10⟩
  clear hE6 h
  cases m8 with
  | zero =>
    rw [f_r06_Right_l1] at hl10
    cases hl10
  | succ m8 =>
    have h := hl10
    clear hl10
    rw [f_r06_Right_l1] at h
    refine T.seq (T.seq (T.region rfl ?_))
    refine TL.run ft_cursitorref06_ok [0, 1] rfl rfl ?_
    refine TL.q rfl .u (Ex.lenS rfl Try.runUnderlying48) rfl ?_
    refine TL.run ft_cursitorref06_ok [3] rfl rfl ?_
    by_cases c12 : (k4 : Int) < (a0.length : Int)
    · replace h := ifT c12 h
      refine TL.nil (X.seq ?_)
      refine T.yes rfl (decide_eq_true c12) ?_
      refine T.skip (X.seq (T.seq (T.block (T.seq (T.region rfl ?_)))))
      obtain ⟨x13, hx14, h⟩ := Option.bind_eq_some_iff.1 h
      obtain ⟨gz15, oz15, rfl, z15cs, z15cl, z15cc, z15nf, z15r⟩ := RX.elem (by decide) hX hx14
      obtain ⟨z15S, z15r, z15rr⟩ := z15r
      obtain rfl : z15cs = [.string (bsOf x13.fKey), .bool x13.fValue.null, .string (bsOf x13.fValue.data)] := z15r
      refine TL.run ft_cursitorref06_ok [0, 1] rfl rfl ?_
      refine TL.q rfl .u (Ex.ixS (k := k4) rfl rfl rfl Try.runUnderlying48 Try.sizeOf58 (List.getElem?_eq_some_iff.1 hx14).1) rfl ?_
      refine TL.run ft_cursitorref06_ok [3, 4] rfl rfl ?_
      refine TL.q rfl .u (Ex.o1 1 rfl Try.isAgg4 z15nf z15cc rfl rfl) rfl ?_
      by_cases c16 : x13.fValue.null = true
      · replace h := ifT c16 h
        refine TL.run ft_cursitorref06_ok [6] rfl rfl ?_
        refine TL.q rfl (.g rfl rfl c16) (Ex.ft ft_cursitorref06_ok rfl) rfl ?_
        refine TL.q rfl (.g rfl rfl c16) (Ex.ft ft_cursitorref06_ok rfl) rfl ?_
        refine TL.q rfl (.g rfl rfl c16) (Ex.ixS (k := k4) rfl rfl rfl Try.runUnderlying48 Try.sizeOf58 (List.getElem?_eq_some_iff.1 hx14).1) rfl ?_
        refine TL.q rfl (.g rfl rfl c16) (Ex.ft ft_cursitorref06_ok rfl) rfl ?_
        refine TL.q rfl (.g rfl rfl c16) (Ex.ft ft_cursitorref06_ok rfl) rfl ?_
        refine TL.q rfl (.g rfl rfl c16) (Ex.o1 2 rfl Try.isAgg9 z15nf z15cc rfl rfl) rfl ?_
        refine TL.q rfl (.g rfl rfl c16) (Ex.sNe rfl (m := []) rfl) rfl ?_
        refine TL.q rfl .u (Ex.py rfl c16 rfl) rfl ?_
        by_cases c17 : x13.fValue.data = []
        · replace h := ifT c17 h
          refine TL.nil (X.seq ?_)
          refine T.no rfl (bn_f (decide_eq_true c17)) ?_
          refine T.skip (X.blk (X.seq (T.region rfl ?_)))
          replace h := guard_some h
          obtain ⟨c18, h⟩ := h
          refine TL.run ft_cursitorref06_ok [0] rfl rfl ?_
          refine TL.q rfl .u (Ex.add rfl rfl c18) rfl ?_
          refine TL.run ft_cursitorref06_ok [2] rfl rfl ?_
          exact TL.nil (X.back (m' := m8) [0] (by omega) ⟨y3, k4 + 1, rfl, rfl, h⟩ (by rfl) (by rfl))
        · replace h := ifF c17 h
          refine TL.nil (X.seq ?_)
          refine T.yes rfl (bn_t (decide_eq_false c17)) ?_
          refine T.seq (T.region rfl ?_)
          refine TL.run ft_cursitorref06_ok [0] rfl rfl ?_
          obtain rfl := Option.some.inj h
          replace h := hO7
          clear hO7
          try dsimp only at h
          obtain rfl := Option.some.inj h
          exact TL.nil (X.seq (T.ret (X.rb (X.rs (X.rs (X.rb (X.rs (X.done1 [0] Try.results30 (RV.tm rfl) ⟨rfl, rfl, rfl⟩ (by rfl) (.inl rfl)))))))))
      · replace h := ifF c16 h
        replace c16 := eq_false_of_ne_true c16
        refine TL.run ft_cursitorref06_ok [6] rfl rfl ?_
        refine TL.no rfl (.gn rfl rfl c16) rfl ?_
        refine TL.no rfl (.gn rfl rfl c16) rfl ?_
        refine TL.no rfl (.gn rfl rfl c16) rfl ?_
        refine TL.no rfl (.gn rfl rfl c16) rfl ?_
        refine TL.no rfl (.gn rfl rfl c16) rfl ?_
        refine TL.no rfl (.gn rfl rfl c16) rfl ?_
        refine TL.no rfl (.gn rfl rfl c16) rfl ?_
        refine TL.q rfl .u (Ex.pn rfl c16 rfl) rfl ?_
        refine TL.nil (X.seq ?_)
        refine T.no rfl rfl ?_
        refine T.skip (X.blk (X.seq (T.region rfl ?_)))
        replace h := guard_some h
        obtain ⟨c19, h⟩ := h
        refine TL.run ft_cursitorref06_ok [0] rfl rfl ?_
        refine TL.q rfl .u (Ex.add rfl rfl c19) rfl ?_
        refine TL.run ft_cursitorref06_ok [2] rfl rfl ?_
        exact TL.nil (X.back (m' := m8) [0] (by omega) ⟨y3, k4 + 1, rfl, rfl, h⟩ (by rfl) (by rfl))
    · replace h := ifF c12 h
      refine TL.nil (X.seq ?_)
      refine T.no rfl (decide_eq_false c12) ?_
      obtain rfl := Option.some.inj h
      replace h := hO7
      clear hO7
      try dsimp only at h
      refine T.exit (X.exs (X.exs (X.ex (X.seq (T.seq (T.region rfl ?_))))))
      refine TL.run ft_cursitorref06_ok [0] rfl rfl ?_
      obtain rfl := Option.some.inj h
      exact TL.nil (X.seq (T.ret (X.done1 [0] Try.results30 (RV.tm rfl) ⟨rfl, rfl, rfl⟩ (by rfl) (.inl rfl))))
def f_r06_Int (a0 : Int) : Option (List UInt8) := (gRFold a0).bind fun x1 => (gRPut x1).bind fun x3 => some x3
set_option maxRecDepth 100000 in
set_option maxHeartbeats 4000000 in
theorem f_r06_Int_spec (a0 : Int) (r : List UInt8) (h : f_r06_Int a0 = some r) : SpecX Try.prog 90 #[.int .i64 a0] .triv (EmpR) (fun v A' N => v = .string (bsOf r) ∧ A' = EmpR ∧ N = []) := by
  refine enterA Try.func90 rfl Try.ntmps90 rfl ?_
  intro F w hX
  unfold f_r06_Int at h
  refine T.seq (T.region rfl ?_)
  refine TL.run ft_cursitorref06_ok [0] rfl rfl ?_
  refine TL.nil (X.seq (T.seq (T.region rfl ?_)))
  obtain ⟨x1, hx2, h⟩ := Option.bind_eq_some_iff.1 h
  refine TL.run ft_cursitorref06_ok [0] rfl rfl ?_
  refine TL.ce rfl .u (.fn Try.call132 rfl) (SpecX.pure (fun w => gRFold_spec a0 _ hx2 w)) (fun _ _ => RX.reads_triv _ _) rfl ?_
  obtain ⟨x3, hx4, h⟩ := Option.bind_eq_some_iff.1 h
  refine TL.ce rfl .u (.fn Try.call131 rfl) (gRPut_spec x1 _ hx4) (fun _ hs => (RX.reads_triv _ _)) rfl ?_
  refine TL.run ft_cursitorref06_ok [3] rfl rfl ?_
  obtain rfl := Option.some.inj h
  exact TL.nil (X.seq (T.ret (X.done1 [0] Try.results90 (RV.tm rfl) ⟨rfl, rfl, rfl⟩ (by rfl) (.inl rfl))))
def f_r06_Write_l1 (a0 : List Hd) : Nat → List UInt8 → Nat → Option (List UInt8 × Nat)
  | 0, _, _ => none
  | m10 + 1, y5, k6 => if (k6 : Int) < (a0.length : Int) then ((a0[k6]?).bind fun x15 => (gRBVaried (⟨false, x15.fKey⟩ : Bl)).bind fun x18 => if y5.length + x18.length ≤ 9223372036854775807 then ((gRBVaried x15.fValue).bind fun x21 => if (y5 ++ x18).length + x21.length ≤ 9223372036854775807 then (if -9223372036854775808 ≤ ((k6 : Int) + 1) ∧ ((k6 : Int) + 1) ≤ 9223372036854775807 then (f_r06_Write_l1 a0 m10 ((y5 ++ x18) ++ x21) (k6 + 1)) else none) else none) else none) else some (y5, k6)
def f_r06_Write (a0 : List Hd) : Option (List UInt8) := (f_r06_Int (a0.length : Int)).bind fun x3 => (f_r06_Write_l1 a0 (((a0.length : Int)).toNat + 1) x3 0).bind fun (y25, k26) => some y25
set_option maxRecDepth 100000 in
set_option maxHeartbeats 4000000 in
theorem f_r06_Write_spec (a0 : List Hd) (A1 : Option Addr) (c2 : Nat) (r : List UInt8) (h : f_r06_Write a0 = some r) : SpecX Try.prog 31 #[.slice A1 a0.length c2] (RX.of (sliceRd 3 Hd_rd) [.slice A1 a0.length c2] a0) (EmpR) (fun v A' N => v = .string (bsOf r) ∧ A' = EmpR ∧ N = []) := by
  refine enterA Try.func31 rfl Try.ntmps31 rfl ?_
  intro F w hX
  unfold f_r06_Write at h
  refine T.seq (T.region rfl ?_)
  refine TL.run ft_cursitorref06_ok [0] rfl rfl ?_
  refine TL.nil (X.seq (T.seq (T.region rfl ?_)))
  refine TL.run ft_cursitorref06_ok [0] rfl rfl ?_
  refine TL.q rfl .u (Ex.lenS rfl Try.runUnderlying48) rfl ?_
  obtain ⟨x3, hx4, h⟩ := Option.bind_eq_some_iff.1 h
  refine TL.ce rfl .u (.fn Try.call90 rfl) (f_r06_Int_spec (a0.length : Int) _ hx4) (fun _ hs => (RX.reads_triv _ _)) rfl ?_
  refine TL.run ft_cursitorref06_ok [3] rfl rfl ?_
  refine TL.nil (X.seq (T.seq (T.seq (T.region rfl ?_))))
  refine TL.run ft_cursitorref06_ok [0] rfl rfl ?_
  refine TL.nil (X.seq (T.block ?_))
  obtain ⟨E7, hE8, hO9⟩ := Option.bind_eq_some_iff.1 h
  refine T.lp (fun m e Rs => ∃ (y5 : List UInt8) (k6 : Nat), e = [(0, .slice A1 a0.length c2), (2, .string ⟨#[]⟩), (3, .string (bsOf y5)), (4, .int .i64 (k6 : Int))] ∧ Rs = [EmpR] ∧ f_r06_Write_l1 a0 m y5 k6 = some E7) (((a0.length : Int)).toNat + 1) [0] ⟨x3, 0, rfl, rfl, by exact hE8⟩ (by rfl) (by rfl) ?_
  rintro m10 _ _ ⟨y5, k6, rfl, rfl, hl12⟩
  clear hE8 h
  cases m10 with
  | zero =>
    rw [f_r06_Write_l1] at hl12
    cases hl12
  | succ m10 =>
    have h := hl12
    clear hl12
    rw [f_r06_Write_l1] at h
    refine T.seq (T.seq (T.region rfl ?_))
    refine TL.run ft_cursitorref06_ok [0, 1] rfl rfl ?_
    refine TL.q rfl .u (Ex.lenS rfl Try.runUnderlying48) rfl ?_
    refine TL.run ft_cursitorref06_ok [3] rfl rfl ?_
    by_cases c14 : (k6 : Int) < (a0.length : Int)
    · replace h := ifT c14 h
      refine TL.nil (X.seq ?_)
      refine T.yes rfl (decide_eq_true c14) ?_
      refine T.skip (X.seq (T.seq (T.block (T.draw (.q 0 (.q 1 (.q 2 (.q 3 (.q 4 (.q 5 (.q 6 (.q 9 (.q 10 (.q 11 (.q 12 (.q 13 (.e 7 (.q 8 (.e 14 (.q 15 (.q 16 .nil))))))))))))))))) [0] rfl mix_cursitorref06 (NoP.blk (NoP.seq (NoP.seq (NoP.blk (NoP.seq np_post))))) (by kernel_rfl) ?_))))
      obtain ⟨x15, hx16, h⟩ := Option.bind_eq_some_iff.1 h
      obtain ⟨gz17, oz17, rfl, z17cs, z17cl, z17cc, z17nf, z17r⟩ := RX.elem (by decide) hX hx16
      obtain ⟨z17S, z17r, z17rr⟩ := z17r
      obtain rfl : z17cs = [.string (bsOf x15.fKey), .bool x15.fValue.null, .string (bsOf x15.fValue.data)] := z17r
      refine TD.run ft_cursitorref06_ok [0, 1, 2] rfl rfl ?_
      refine TD.q rfl .u (Ex.ixS (k := k6) rfl rfl rfl Try.runUnderlying48 Try.sizeOf58 (List.getElem?_eq_some_iff.1 hx16).1) rfl ?_
      refine TD.run ft_cursitorref06_ok [4] rfl rfl ?_
      refine TD.q rfl .u (Ex.o1 0 rfl Try.isAgg9 z17nf z17cc rfl rfl) rfl ?_
      refine TD.q rfl .u (Ex.bld (cells := #[.bool false, .string (bsOf x15.fKey)]) bok_cursitorref06_26 rfl (by rfl)) rfl ?_
      refine TD.run ft_cursitorref06_ok [9, 10] rfl rfl ?_
      refine TD.q rfl .u (Ex.ixS (k := k6) rfl rfl rfl Try.runUnderlying48 Try.sizeOf58 (List.getElem?_eq_some_iff.1 hx16).1) rfl ?_
      refine TD.run ft_cursitorref06_ok [12] rfl rfl ?_
      refine TD.q rfl .u (Ex.oS (us := [.bool x15.fValue.null, .string (bsOf x15.fValue.data)]) 1 rfl Try.isAgg26 Try.sizeOf26 z17nf z17cc rfl rfl rfl) rfl ?_
      obtain ⟨x18, hx19, h⟩ := Option.bind_eq_some_iff.1 h
      refine TD.ce rfl .u (.fn Try.call91 rfl) (gRBVaried_spec (⟨false, x15.fKey⟩ : Bl) _ hx19) (fun _ hs => (RX.reads_triv _ _)) rfl [0] (rfl) ?_
      replace h := guard_some h
      obtain ⟨c20, h⟩ := h
      refine TD.q rfl .u (Ex.sAdd rfl rfl c20) rfl ?_
      obtain ⟨x21, hx22, h⟩ := Option.bind_eq_some_iff.1 h
      refine TD.ce rfl .u (.fn Try.call91 rfl) (gRBVaried_spec x15.fValue _ hx22) (fun _ hs => (RX.reads_triv _ _)) rfl [0] (rfl) ?_
      replace h := guard_some h
      obtain ⟨c23, h⟩ := h
      refine TD.q rfl .u (Ex.sAdd rfl rfl c23) rfl ?_
      refine TD.run ft_cursitorref06_ok [16] rfl rfl ?_
      refine TD.nil (X.blk (X.seq (T.region rfl ?_)))
      replace h := guard_some h
      obtain ⟨c24, h⟩ := h
      refine TL.run ft_cursitorref06_ok [0] rfl rfl ?_
      refine TL.q rfl .u (Ex.add rfl rfl c24) rfl ?_
      refine TL.run ft_cursitorref06_ok [2] rfl rfl ?_
      exact TL.nil (X.back (m' := m10) [0] (by omega) ⟨((y5 ++ x18) ++ x21), k6 + 1, rfl, rfl, h⟩ (by rfl) (by rfl))
    · replace h := ifF c14 h
      refine TL.nil (X.seq ?_)
      refine T.no rfl (decide_eq_false c14) ?_
      obtain rfl := Option.some.inj h
      replace h := hO9
      clear hO9
      try dsimp only at h
      refine T.exit (X.exs (X.exs (X.ex (X.seq (T.seq (T.region rfl ?_))))))
      refine TL.run ft_cursitorref06_ok [0, 1] rfl rfl ?_
      obtain rfl := Option.some.inj h
      exact TL.nil (X.seq (T.ret (X.done1 [0] Try.results31 (RV.tm rfl) ⟨rfl, rfl, rfl⟩ (by rfl) (.inl rfl))))
def f_r06_Same_l1 (a0 : List Hd) (a1 : List Hd) : Nat → Bool → Nat → Option (Lp Bool (Bool × Nat))
  | 0, _, _ => none
  | m11 + 1, y6, k7 => if (k7 : Int) < (a0.length : Int) then ((a0[k7]?).bind fun x16 => (a1[k7]?).bind fun x19 => if x16.fKey = x19.fKey then (if x16.fValue.null = x19.fValue.null then (if x16.fValue.data = x19.fValue.data then (if -9223372036854775808 ≤ ((k7 : Int) + 1) ∧ ((k7 : Int) + 1) ≤ 9223372036854775807 then (f_r06_Same_l1 a0 a1 m11 y6 (k7 + 1)) else none) else some (Lp.ret false)) else some (Lp.ret false)) else some (Lp.ret false)) else (some (Lp.go (y6, k7)))
def f_r06_Same (a0 : List Hd) (a1 : List Hd) : Option (Bool) := if (a0.length : Int) = (a1.length : Int) then ((f_r06_Same_l1 a0 a1 (((a0.length : Int)).toNat + 1) false 0).bind fun e => match e with | .ret r => some r | .go (y26, k27) => some true) else some false
set_option maxRecDepth 100000 in
set_option maxHeartbeats 4000000 in
theorem f_r06_Same_spec (a0 : List Hd) (A1 : Option Addr) (c2 : Nat) (a1 : List Hd) (A3 : Option Addr) (c4 : Nat) (r : Bool) (h : f_r06_Same a0 a1 = some r) : SpecX Try.prog 32 #[.slice A1 a0.length c2, .slice A3 a1.length c4] (RX.and (RX.of (sliceRd 3 Hd_rd) [.slice A1 a0.length c2] a0) (RX.of (sliceRd 3 Hd_rd) [.slice A3 a1.length c4] a1)) (EmpR) (fun v A' N => v = .bool r ∧ A' = EmpR ∧ N = []) := by
  refine enterA Try.func32 rfl Try.ntmps32 rfl ?_
  intro F w hX
  unfold f_r06_Same at h
  refine T.seq (T.region rfl ?_)
  refine TL.run ft_cursitorref06_ok [0] rfl rfl ?_
  refine TL.nil (X.seq (T.seq (T.seq (T.region rfl ?_))))
  refine TL.run ft_cursitorref06_ok [0] rfl rfl ?_
  refine TL.q rfl .u (Ex.lenS rfl Try.runUnderlying48) rfl ?_
  refine TL.run ft_cursitorref06_ok [2] rfl rfl ?_
  refine TL.q rfl .u (Ex.lenS rfl Try.runUnderlying48) rfl ?_
  refine TL.run ft_cursitorref06_ok [4] rfl rfl ?_
  by_cases c5 : (a0.length : Int) = (a1.length : Int)
  · replace h := ifT c5 h
    refine TL.nil (X.seq ?_)
    refine T.no rfl (bn_f (decide_eq_true c5)) ?_
    refine T.skip (X.seq (T.seq (T.seq (T.region rfl ?_))))
    refine TL.run ft_cursitorref06_ok [0] rfl rfl ?_
    refine TL.nil (X.seq (T.block ?_))
    obtain ⟨E8, hE9, hO10⟩ := Option.bind_eq_some_iff.1 h
    refine T.lp (fun m e Rs => ∃ (y6 : Bool) (k7 : Nat), e = [(0, .slice A1 a0.length c2), (1, .slice A3 a1.length c4), (4, .bool y6), (5, .int .i64 (k7 : Int))] ∧ Rs = [EmpR] ∧ f_r06_Same_l1 a0 a1 m y6 k7 = some E8) (((a0.length : Int)).toNat + 1) [0] ⟨false, 0, rfl, rfl, by exact hE9⟩ (by rfl) (by rfl) ?_
    rintro m11 _ _ ⟨y6, k7, rfl, rfl, hl13⟩
    clear hE9 h
    cases m11 with
    | zero =>
      rw [f_r06_Same_l1] at hl13
      cases hl13
    | succ m11 =>
      have h := hl13
      clear hl13
      rw [f_r06_Same_l1] at h
      refine T.seq (T.seq (T.region rfl ?_))
      refine TL.run ft_cursitorref06_ok [0, 1] rfl rfl ?_
      refine TL.q rfl .u (Ex.lenS rfl Try.runUnderlying48) rfl ?_
      refine TL.run ft_cursitorref06_ok [3] rfl rfl ?_
      by_cases c15 : (k7 : Int) < (a0.length : Int)
      · replace h := ifT c15 h
        refine TL.nil (X.seq ?_)
        refine T.yes rfl (decide_eq_true c15) ?_
        refine T.skip (X.seq (T.seq (T.block (T.seq (T.draw (.q 0 (.q 1 (.q 2 (.q 3 (.q 4 (.q 5 (.q 6 (.q 7 (.q 8 .nil))))))))) [0] rfl mix_cursitorref06 (NoP.seq (NoP.blk (NoP.seq (NoP.seq (NoP.blk (NoP.seq np_post)))))) (by kernel_rfl) ?_)))))
        obtain ⟨x16, hx17, h⟩ := Option.bind_eq_some_iff.1 h
        obtain ⟨gz18, oz18, rfl, z18cs, z18cl, z18cc, z18nf, z18r⟩ := RX.elem (by decide) (RX.reads_left hX) hx17
        obtain ⟨z18S, z18r, z18rr⟩ := z18r
        obtain rfl : z18cs = [.string (bsOf x16.fKey), .bool x16.fValue.null, .string (bsOf x16.fValue.data)] := z18r
        refine TD.run ft_cursitorref06_ok [0, 1] rfl rfl ?_
        refine TD.q rfl .u (Ex.ixS (k := k7) rfl rfl rfl Try.runUnderlying48 Try.sizeOf58 (List.getElem?_eq_some_iff.1 hx17).1) rfl ?_
        refine TD.q rfl .u (Ex.oS (us := [.string (bsOf x16.fKey), .bool x16.fValue.null, .string (bsOf x16.fValue.data)]) 0 rfl Try.isAgg58 Try.sizeOf58 z18nf z18cc rfl rfl rfl) rfl ?_
        obtain ⟨x19, hx20, h⟩ := Option.bind_eq_some_iff.1 h
        obtain ⟨gz21, oz21, rfl, z21cs, z21cl, z21cc, z21nf, z21r⟩ := RX.elem (by decide) (RX.reads_right hX) hx20
        obtain ⟨z21S, z21r, z21rr⟩ := z21r
        obtain rfl : z21cs = [.string (bsOf x19.fKey), .bool x19.fValue.null, .string (bsOf x19.fValue.data)] := z21r
        refine TD.run ft_cursitorref06_ok [4, 5] rfl rfl ?_
        refine TD.q rfl .u (Ex.ixS (k := k7) rfl rfl rfl Try.runUnderlying48 Try.sizeOf58 (List.getElem?_eq_some_iff.1 hx20).1) rfl ?_
        refine TD.q rfl .u (Ex.oS (us := [.string (bsOf x19.fKey), .bool x19.fValue.null, .string (bsOf x19.fValue.data)]) 0 rfl Try.isAgg58 Try.sizeOf58 z21nf z21cc rfl rfl rfl) rfl ?_
        by_cases c22 : x16.fKey = x19.fKey
        · replace h := ifT c22 h
          by_cases c23 : x16.fValue.null = x19.fValue.null
          · replace h := ifT c23 h
            by_cases c24 : x16.fValue.data = x19.fValue.data
            · replace h := ifT c24 h
              refine TD.q rfl .u (Ex.aNe (us := [.string (bsOf x16.fKey), .bool x16.fValue.null, .string (bsOf x16.fValue.data)]) (vs := [.string (bsOf x19.fKey), .bool x19.fValue.null, .string (bsOf x19.fValue.data)]) flat_cursitorref06_58 rfl Try.eqGuardType58 rfl rfl rfl rfl (eqL_t (eqV_s (l := x16.fKey) (m := x19.fKey) c22) (eqL_t (eqV_b c23) (eqL_t (eqV_s (l := x16.fValue.data) (m := x19.fValue.data) c24) rfl)))) rfl ?_
              refine TD.nil (X.seq ?_)
              refine T.no rfl rfl ?_
              refine T.skip (X.blk (X.seq (T.region rfl ?_)))
              replace h := guard_some h
              obtain ⟨c25, h⟩ := h
              refine TL.run ft_cursitorref06_ok [0] rfl rfl ?_
              refine TL.q rfl .u (Ex.add rfl rfl c25) rfl ?_
              refine TL.run ft_cursitorref06_ok [2] rfl rfl ?_
              exact TL.nil (X.back (m' := m11) [0] (by omega) ⟨y6, k7 + 1, rfl, rfl, h⟩ (by rfl) (by rfl))
            · replace h := ifF c24 h
              refine TD.q rfl .u (Ex.aNe (us := [.string (bsOf x16.fKey), .bool x16.fValue.null, .string (bsOf x16.fValue.data)]) (vs := [.string (bsOf x19.fKey), .bool x19.fValue.null, .string (bsOf x19.fValue.data)]) flat_cursitorref06_58 rfl Try.eqGuardType58 rfl rfl rfl rfl (eqL_t (eqV_s (l := x16.fKey) (m := x19.fKey) c22) (eqL_t (eqV_b c23) (eqL_f (eqV_sn (l := x16.fValue.data) (m := x19.fValue.data) c24))))) rfl ?_
              refine TD.nil (X.seq ?_)
              refine T.yes rfl rfl ?_
              refine T.seq (T.region rfl ?_)
              refine TL.run ft_cursitorref06_ok [0] rfl rfl ?_
              obtain rfl := Option.some.inj h
              replace h := hO10
              clear hO10
              try dsimp only at h
              obtain rfl := Option.some.inj h
              exact TL.nil (X.seq (T.ret (X.rb (X.rs (X.rs (X.rb (X.rs (X.done1 [0] Try.results32 (RV.tm rfl) ⟨rfl, rfl, rfl⟩ (by rfl) (.inl rfl)))))))))
          · replace h := ifF c23 h
            refine TD.q rfl .u (Ex.aNe (us := [.string (bsOf x16.fKey), .bool x16.fValue.null, .string (bsOf x16.fValue.data)]) (vs := [.string (bsOf x19.fKey), .bool x19.fValue.null, .string (bsOf x19.fValue.data)]) flat_cursitorref06_58 rfl Try.eqGuardType58 rfl rfl rfl rfl (eqL_t (eqV_s (l := x16.fKey) (m := x19.fKey) c22) (eqL_f (eqV_bn c23)))) rfl ?_
            refine TD.nil (X.seq ?_)
            refine T.yes rfl rfl ?_
            refine T.seq (T.region rfl ?_)
            refine TL.run ft_cursitorref06_ok [0] rfl rfl ?_
            obtain rfl := Option.some.inj h
            replace h := hO10
            clear hO10
            try dsimp only at h
            obtain rfl := Option.some.inj h
            exact TL.nil (X.seq (T.ret (X.rb (X.rs (X.rs (X.rb (X.rs (X.done1 [0] Try.results32 (RV.tm rfl) ⟨rfl, rfl, rfl⟩ (by rfl) (.inl rfl)))))))))
        · replace h := ifF c22 h
          refine TD.q rfl .u (Ex.aNe (us := [.string (bsOf x16.fKey), .bool x16.fValue.null, .string (bsOf x16.fValue.data)]) (vs := [.string (bsOf x19.fKey), .bool x19.fValue.null, .string (bsOf x19.fValue.data)]) flat_cursitorref06_58 rfl Try.eqGuardType58 rfl rfl rfl rfl (eqL_f (eqV_sn (l := x16.fKey) (m := x19.fKey) c22))) rfl ?_
          refine TD.nil (X.seq ?_)
          refine T.yes rfl rfl ?_
          refine T.seq (T.region rfl ?_)
          refine TL.run ft_cursitorref06_ok [0] rfl rfl ?_
          obtain rfl := Option.some.inj h
          replace h := hO10
          clear hO10
          try dsimp only at h
          obtain rfl := Option.some.inj h
          exact TL.nil (X.seq (T.ret (X.rb (X.rs (X.rs (X.rb (X.rs (X.done1 [0] Try.results32 (RV.tm rfl) ⟨rfl, rfl, rfl⟩ (by rfl) (.inl rfl)))))))))
      · replace h := ifF c15 h
        refine TL.nil (X.seq ?_)
        refine T.no rfl (decide_eq_false c15) ?_
        obtain rfl := Option.some.inj h
        replace h := hO10
        clear hO10
        try dsimp only at h
        refine T.exit (X.exs (X.exs (X.ex (X.seq (T.seq (T.region rfl ?_))))))
        refine TL.run ft_cursitorref06_ok [0] rfl rfl ?_
        obtain rfl := Option.some.inj h
        exact TL.nil (X.seq (T.ret (X.done1 [0] Try.results32 (RV.tm rfl) ⟨rfl, rfl, rfl⟩ (by rfl) (.inl rfl))))
  · replace h := ifF c5 h
    refine TL.nil (X.seq ?_)
    refine T.yes rfl (bn_t (decide_eq_false c5)) ?_
    refine T.seq (T.region rfl ?_)
    refine TL.run ft_cursitorref06_ok [0] rfl rfl ?_
    obtain rfl := Option.some.inj h
    exact TL.nil (X.seq (T.ret (X.rs (X.done1 [0] Try.results32 (RV.tm rfl) ⟨rfl, rfl, rfl⟩ (by rfl) (.inl rfl)))))
def f_r06_Read_l1 (a0 : List UInt8) (x6 : Int) : Nat → List Hd → Int → Int → Int → List Hd → Nat → Option (Lp (List Hd × Int × Int) (List Hd × Int × Int × Int × List Hd × Nat))
  | 0, _, _, _, _, _, _ => none
  | m26 + 1, y13, y16, y17, y18, y19, k22 => if (k22 : Int) < x6 then (if 0 ≤ y18 ∧ y18.toNat ≤ a0.length then ((gRRVaried (a0.drop y18.toNat)).bind fun x32 => if x32.err = 0 then (if x32.blob.null = true then (some (Lp.ret ([], 0, 4))) else (if -9223372036854775808 ≤ (y18 + x32.many) ∧ (y18 + x32.many) ≤ 9223372036854775807 then (if 0 ≤ (y18 + x32.many) ∧ (y18 + x32.many).toNat ≤ a0.length then ((gRRVaried (a0.drop ((y18 + x32.many).toNat))).bind fun x39 => if x39.err = 0 then (if (y19.length + 1) * 40 ≤ 140737488355328 then (if -9223372036854775808 ≤ (y18 + x32.many) ∧ (y18 + x32.many) ≤ 9223372036854775807 then (if -9223372036854775808 ≤ ((y18 + x32.many) + x39.many) ∧ ((y18 + x32.many) + x39.many) ≤ 9223372036854775807 then (if -9223372036854775808 ≤ ((k22 : Int) + 1) ∧ ((k22 : Int) + 1) ≤ 9223372036854775807 then (f_r06_Read_l1 a0 x6 m26 y13 y16 y17 ((y18 + x32.many) + x39.many) (y19 ++ [(⟨x32.blob.data, x39.blob⟩ : Hd)]) (k22 + 1)) else none) else none) else none) else none) else (some (Lp.ret ([], 0, x39.err)))) else none) else none)) else (some (Lp.ret ([], 0, x32.err)))) else none) else (some (Lp.go (y13, y16, y17, y18, y19, k22)))
def f_r06_Read (a0 : List UInt8) : Option (List Hd × Int × Int) := (gRGet a0 32).bind fun (x1, x2, x3) => if x3 = 0 then ((gRBack x1).bind fun x6 => if x6 < 0 then some ([], 0, 4) else (if -9223372036854775808 ≤ ((a0.length : Int) - x2) ∧ ((a0.length : Int) - x2) ≤ 9223372036854775807 then (if 0 ≤ ((a0.length : Int) - x2) ∧ ((a0.length : Int) - x2) ≤ 9223372036854775807 then (if x6 > (((a0.length : Int) - x2) / 2) then some ([], 0, 1) else ((f_r06_Read_l1 a0 x6 ((x6).toNat + 1) [] 0 0 x2 ([] : List Hd) 0).bind fun e => match e with | .ret r => some r | .go (y50, y53, y54, y55, y56, k59) => some (y56, y55, 0))) else none) else none)) else some ([], 0, x3)
set_option maxRecDepth 100000 in
set_option maxHeartbeats 4000000 in
theorem f_r06_Read_spec (a0 : List UInt8) (r : List Hd × Int × Int) (h : f_r06_Read a0 = some r) : SpecX Try.prog 34 #[.string (bsOf a0)] .triv (EmpR) (fun v A' N => ∃ (A60 : Option Addr) (c61 : Nat), v = .tuple #[.slice A60 r.1.length c61, .int .i64 r.2.1, .int .i64 r.2.2] ∧ A' = EmpR ∧ N = [RdR (sliceRd 3 Hd_rd) [.slice A60 r.1.length c61] r.1]) := by
  refine enterA Try.func34 rfl Try.ntmps34 rfl ?_
  intro F w hX
  unfold f_r06_Read at h
  refine T.seq (T.region rfl ?_)
  refine TL.run ft_cursitorref06_ok [0, 1, 2] rfl rfl ?_
  refine TL.nil (X.seq (T.seq (T.region rfl ?_)))
  obtain ⟨⟨x1, x2, x3⟩, hx4, h⟩ := Option.bind_eq_some_iff.1 h
  try dsimp only at h
  refine TL.run ft_cursitorref06_ok [0] rfl rfl ?_
  refine TL.ce rfl .u (.fn Try.call95 rfl) (SpecX.pure (fun w => gRGet_spec a0 32 _ hx4 w)) (fun _ _ => RX.reads_triv _ _) rfl ?_
  refine TL.run ft_cursitorref06_ok [2, 3, 4, 5, 6, 7, 8] rfl rfl ?_
  refine TL.nil (X.seq (T.seq (T.seq (T.region rfl ?_))))
  refine TL.run ft_cursitorref06_ok [0, 1] rfl rfl ?_
  by_cases c5 : x3 = 0
  · replace h := ifT c5 h
    refine TL.nil (X.seq ?_)
    refine T.no rfl (bn_f (decide_eq_true c5)) ?_
    refine T.skip (X.seq (T.seq (T.region rfl ?_)))
    obtain ⟨x6, hx7, h⟩ := Option.bind_eq_some_iff.1 h
    refine TL.run ft_cursitorref06_ok [0] rfl rfl ?_
    refine TL.ce rfl .u (.fn Try.call96 rfl) (SpecX.pure (fun w => gRBack_spec x1 _ hx7 w)) (fun _ _ => RX.reads_triv _ _) rfl ?_
    refine TL.run ft_cursitorref06_ok [2] rfl rfl ?_
    refine TL.nil (X.seq (T.seq (T.seq (T.region rfl ?_))))
    refine TL.run ft_cursitorref06_ok [0, 1] rfl rfl ?_
    by_cases c8 : x6 < 0
    · replace h := ifT c8 h
      refine TL.nil (X.seq ?_)
      refine T.yes rfl (decide_eq_true c8) ?_
      refine T.seq (T.region rfl ?_)
      refine TL.run ft_cursitorref06_ok [0, 1, 2] rfl rfl ?_
      obtain rfl := Option.some.inj h
      refine TL.nil (X.seq (T.ret (X.rs ?_)))
      refine X.nilrd 3 Hd_rd ?_
      exact X.done3 [1, 0] Try.results34 (RV.tm rfl) (RV.tm rfl) (RV.tm rfl) ⟨_, _, rfl, rfl, rfl⟩ (by rfl) (.inl rfl)
    · replace h := ifF c8 h
      refine TL.nil (X.seq ?_)
      refine T.no rfl (decide_eq_false c8) ?_
      refine T.skip (X.seq (T.seq (T.seq (T.region rfl ?_))))
      refine TL.run ft_cursitorref06_ok [0, 1] rfl rfl ?_
      refine TL.q rfl .u (Ex.lenB rfl Try.runUnderlying9) rfl ?_
      replace h := guard_some h
      obtain ⟨c9, h⟩ := h
      refine TL.run ft_cursitorref06_ok [3] rfl rfl ?_
      refine TL.q rfl .u (Ex.sub rfl rfl c9) rfl ?_
      replace h := guard_some h
      obtain ⟨c10, h⟩ := h
      refine TL.q rfl .u (Ex.quo rfl rfl (by omega) c10) rfl ?_
      refine TL.run ft_cursitorref06_ok [6] rfl rfl ?_
      by_cases c11 : x6 > (((a0.length : Int) - x2) / 2)
      · replace h := ifT c11 h
        refine TL.nil (X.seq ?_)
        refine T.yes rfl (decide_eq_true c11) ?_
        refine T.seq (T.region rfl ?_)
        refine TL.run ft_cursitorref06_ok [0, 1, 2] rfl rfl ?_
        obtain rfl := Option.some.inj h
        refine TL.nil (X.seq (T.ret (X.rs ?_)))
        refine X.nilrd 3 Hd_rd ?_
        exact X.done3 [1, 0] Try.results34 (RV.tm rfl) (RV.tm rfl) (RV.tm rfl) ⟨_, _, rfl, rfl, rfl⟩ (by rfl) (.inl rfl)
      · replace h := ifF c11 h
        refine TL.nil (X.seq ?_)
        refine T.no rfl (decide_eq_false c11) ?_
        refine T.skip (X.seq (T.seq (T.region rfl ?_)))
        refine TL.lit (cells := #[]) rfl .u sok_cursitorref06_48_0 rfl (by rfl) rfl (fun b12 => ?_)
        refine TL.rowOf (us := []) (xs := ([] : List Hd)) (E := Hd_rd) (z := 3) rfl (Nat.le_of_ble_eq_true rfl) (fun _ => rfl) ?_
        refine TL.run ft_cursitorref06_ok [1] rfl rfl ?_
        refine TL.nil (X.seq (T.seq (T.seq (T.region rfl ?_))))
        refine TL.run ft_cursitorref06_ok [0] rfl rfl ?_
        refine TL.nil (X.seq (T.block ?_))
        refine T.nilrow 58 3 Hd_rd ?_
        obtain ⟨E23, hE24, hO25⟩ := Option.bind_eq_some_iff.1 h
        refine T.lp (fun m e Rs => ∃ (y13 : List Hd) (A14 : Option Addr) (c15 : Nat) (y16 : Int) (y17 : Int) (y18 : Int) (y19 : List Hd) (A20 : Option Addr) (c21 : Nat) (k22 : Nat), e = [(0, .string (bsOf a0)), (2, .slice A14 y13.length c15), (3, .int .i64 y16), (4, .int .i64 y17), (6, .int .i64 y18), (8, .int .i64 x6), (9, .slice A20 y19.length c21), (10, .int .i64 (k22 : Int))] ∧ Rs = [OwnR 58 3 Hd_rd (.slice A14 y13.length c15) y13, OwnR 58 3 Hd_rd (.slice A20 y19.length c21) y19, EmpR] ∧ f_r06_Read_l1 a0 x6 m y13 y16 y17 y18 y19 k22 = some E23) ((x6).toNat + 1) [0, 0, 0] ⟨[], none, 0, 0, 0, x2, ([] : List Hd), (some ⟨b12, 0, none⟩), 0, 0, rfl, rfl, by exact hE24⟩ (by rfl) (by rfl) ?_
        rintro m26 _ _ ⟨y13, A14, c15, y16, y17, y18, y19, A20, c21, k22, rfl, rfl, hl28⟩
        clear hE24 h
        cases m26 with
        | zero =>
          rw [f_r06_Read_l1] at hl28
          cases hl28
        | succ m26 =>
          have h := hl28
          clear hl28
          rw [f_r06_Read_l1] at h
          refine T.seq (T.seq (T.region rfl ?_))
          refine TL.run ft_cursitorref06_ok [0, 1, 2] rfl rfl ?_
          by_cases c30 : (k22 : Int) < x6
          · replace h := ifT c30 h
            refine TL.nil (X.seq ?_)
            refine T.yes rfl (decide_eq_true c30) ?_
            refine T.skip (X.seq (T.seq (T.block (T.seq (T.region rfl ?_)))))
            replace h := guard_some h
            obtain ⟨c31, h⟩ := h
            refine TL.run ft_cursitorref06_ok [0, 1] rfl rfl ?_
            refine TL.q rfl .u (Ex.sSl (p := y18.toNat) (q := a0.length) (m := (a0.drop y18.toNat)) rfl Try.runUnderlying9 (.some rfl ((Int.toNat_of_nonneg c31.1).symm)) .none (by omega) (sl_drop _ _)) rfl ?_
            obtain ⟨x32, hx33, h⟩ := Option.bind_eq_some_iff.1 h
            refine TL.ce rfl .u (.fn Try.call97 rfl) (gRRVaried_spec (a0.drop y18.toNat) _ hx33) (fun _ hs => (RX.reads_triv _ _)) rfl ?_
            refine TL.alloc rfl .u Try.zeroValue134 rfl (fun b34 => ?_)
            refine TL.st0 (cs' := #[.bool x32.blob.null, .string (bsOf x32.blob.data), .int .i64 x32.many, .int .i64 x32.err]) rfl .u rfl rfl Try.sizeOf134 rfl rfl rfl rfl ?_
            refine TL.nil (X.seq (T.seq (T.seq (T.region rfl ?_))))
            refine TL.run ft_cursitorref06_ok [0] rfl rfl ?_
            refine TL.q rfl .u (Ex.b1 0 rfl Try.isAgg3 rfl rfl) rfl ?_
            refine TL.run ft_cursitorref06_ok [2] rfl rfl ?_
            by_cases c35 : x32.err = 0
            · replace h := ifT c35 h
              refine TL.nil (X.seq ?_)
              refine T.no rfl (bn_f (decide_eq_true c35)) ?_
              refine T.skip (X.seq (T.seq (T.seq (T.region rfl ?_))))
              refine TL.run ft_cursitorref06_ok [0, 1] rfl rfl ?_
              refine TL.q rfl .u (Ex.b1 0 rfl Try.isAgg4 rfl rfl) rfl ?_
              by_cases c36 : x32.blob.null = true
              · replace h := ifT c36 h
                refine TL.nil (X.seq ?_)
                refine T.yes rfl c36 ?_
                refine T.seq (T.region rfl ?_)
                refine TL.run ft_cursitorref06_ok [0, 1, 2] rfl rfl ?_
                obtain rfl := Option.some.inj h
                replace h := hO25
                clear hO25
                try dsimp only at h
                obtain rfl := Option.some.inj h
                refine TL.nil (X.seq (T.ret (X.rs (X.rb (X.rs (X.rs (X.rb (X.rs ?_))))))))
                refine X.nilrd 3 Hd_rd ?_
                exact X.done3 [4, 0] Try.results34 (RV.tm rfl) (RV.tm rfl) (RV.tm rfl) ⟨_, _, rfl, rfl, rfl⟩ (by rfl) (.inl rfl)
              · replace h := ifF c36 h
                replace c36 := eq_false_of_ne_true c36
                refine TL.nil (X.seq ?_)
                refine T.no rfl c36 ?_
                refine T.skip (X.seq (T.seq (T.region rfl ?_)))
                refine TL.run ft_cursitorref06_ok [0, 1, 2] rfl rfl ?_
                refine TL.q rfl .u (Ex.b1 0 rfl Try.isAgg3 rfl rfl) rfl ?_
                replace h := guard_some h
                obtain ⟨c37, h⟩ := h
                refine TL.q rfl .u (Ex.add rfl rfl c37) rfl ?_
                replace h := guard_some h
                obtain ⟨c38, h⟩ := h
                refine TL.q rfl .u (Ex.sSl (p := (y18 + x32.many).toNat) (q := a0.length) (m := (a0.drop ((y18 + x32.many).toNat))) rfl Try.runUnderlying9 (.some rfl ((Int.toNat_of_nonneg c38.1).symm)) .none (by omega) (sl_drop _ _)) rfl ?_
                obtain ⟨x39, hx40, h⟩ := Option.bind_eq_some_iff.1 h
                refine TL.ce rfl .u (.fn Try.call97 rfl) (gRRVaried_spec (a0.drop ((y18 + x32.many).toNat)) _ hx40) (fun _ hs => (RX.reads_triv _ _)) rfl ?_
                refine TL.alloc rfl .u Try.zeroValue134 rfl (fun b41 => ?_)
                refine TL.st0 (cs' := #[.bool x39.blob.null, .string (bsOf x39.blob.data), .int .i64 x39.many, .int .i64 x39.err]) rfl .u rfl rfl Try.sizeOf134 rfl rfl rfl rfl ?_
                refine TL.nil (X.seq (T.seq (T.seq (T.region rfl ?_))))
                refine TL.run ft_cursitorref06_ok [0] rfl rfl ?_
                refine TL.q rfl .u (Ex.b1 0 rfl Try.isAgg3 rfl rfl) rfl ?_
                refine TL.run ft_cursitorref06_ok [2] rfl rfl ?_
                by_cases c42 : x39.err = 0
                · replace h := ifT c42 h
                  refine TL.nil (X.seq ?_)
                  refine T.no rfl (bn_f (decide_eq_true c42)) ?_
                  refine T.skip (X.seq (T.seq (T.region rfl ?_)))
                  refine TL.run ft_cursitorref06_ok [0, 1, 2] rfl rfl ?_
                  refine TL.q rfl .u (Ex.b1 1 rfl Try.isAgg9 rfl rfl) rfl ?_
                  refine TL.run ft_cursitorref06_ok [4] rfl rfl ?_
                  refine TL.q rfl .u (Ex.bS (us := [.bool x39.blob.null, .string (bsOf x39.blob.data)]) 0 rfl Try.isAgg26 Try.sizeOf26 rfl rfl rfl) rfl ?_
                  refine TL.q rfl .u (Ex.bld (cells := #[.string (bsOf x32.blob.data), .bool x39.blob.null, .string (bsOf x39.blob.data)]) bok_cursitorref06_58 rfl (by rfl)) rfl ?_
                  refine TL.lit (cells := #[.string (bsOf x32.blob.data), .bool x39.blob.null, .string (bsOf x39.blob.data)]) rfl .u sok_cursitorref06_48_1 rfl (by rfl) rfl (fun b43 => ?_)
                  replace h := guard_some h
                  obtain ⟨c44, h⟩ := h
                  refine TL.app1 3 rfl .u (us := [.string (bsOf x32.blob.data), .bool x39.blob.null, .string (bsOf x39.blob.data)]) (u := (⟨x32.blob.data, x39.blob⟩ : Hd)) (l := y19) (E := Hd_rd) Try.underlying48 inf_cursitorref06_58 rfl (by decide) rfl rfl rfl rfl rfl rfl (fun _ _ => rfl) (by have hq := c44; omega) (by have hq := c44; omega) rfl (fun A45 c46 => ?_)
                  refine TL.sel [0, 0, 0, 0, 0] rfl ?_
                  refine TL.run ft_cursitorref06_ok [9] rfl rfl ?_
                  refine TL.nil (X.seq (T.region rfl ?_))
                  refine TL.run ft_cursitorref06_ok [0, 1] rfl rfl ?_
                  refine TL.q rfl .u (Ex.b1 1 rfl Try.isAgg3 rfl rfl) rfl ?_
                  replace h := guard_some h
                  obtain ⟨c47, h⟩ := h
                  refine TL.q rfl .u (Ex.add rfl rfl c47) rfl ?_
                  refine TL.run ft_cursitorref06_ok [4] rfl rfl ?_
                  refine TL.q rfl .u (Ex.b1 0 rfl Try.isAgg3 rfl rfl) rfl ?_
                  replace h := guard_some h
                  obtain ⟨c48, h⟩ := h
                  refine TL.q rfl .u (Ex.add rfl rfl c48) rfl ?_
                  refine TL.run ft_cursitorref06_ok [7] rfl rfl ?_
                  refine TL.nil (X.blk (X.seq (T.region rfl ?_)))
                  replace h := guard_some h
                  obtain ⟨c49, h⟩ := h
                  refine TL.run ft_cursitorref06_ok [0] rfl rfl ?_
                  refine TL.q rfl .u (Ex.add rfl rfl c49) rfl ?_
                  refine TL.run ft_cursitorref06_ok [2] rfl rfl ?_
                  exact TL.nil (X.back (m' := m26) [2, 2, 2] (by omega) ⟨y13, A14, c15, y16, y17, ((y18 + x32.many) + x39.many), (y19 ++ [(⟨x32.blob.data, x39.blob⟩ : Hd)]), A45, c46, k22 + 1, rfl, rfl, h⟩ (by rfl) (by rfl))
                · replace h := ifF c42 h
                  refine TL.nil (X.seq ?_)
                  refine T.yes rfl (bn_t (decide_eq_false c42)) ?_
                  refine T.seq (T.draw (.q 0 (.q 1 (.q 2 (.q 3 (.q 4 .nil))))) [0, 0, 0, 0, 0] rfl mix_cursitorref06 (NoP.seq (NoP.seq (NoP.blk (NoP.seq (NoP.seq (NoP.blk (NoP.seq np_post))))))) (by kernel_rfl) ?_)
                  refine TD.run ft_cursitorref06_ok [0] rfl rfl ?_
                  refine TD.q rfl .u (Ex.b1 0 rfl Try.isAgg3 rfl rfl) rfl ?_
                  refine TD.run ft_cursitorref06_ok [2, 3, 4] rfl rfl ?_
                  obtain rfl := Option.some.inj h
                  replace h := hO25
                  clear hO25
                  try dsimp only at h
                  obtain rfl := Option.some.inj h
                  refine TD.nil (X.seq (T.ret (X.rs (X.rb (X.rs (X.rs (X.rb (X.rs ?_))))))))
                  refine X.nilrd 3 Hd_rd ?_
                  exact X.done3 [5, 0] Try.results34 (RV.tm rfl) (RV.tm rfl) (RV.tm rfl) ⟨_, _, rfl, rfl, rfl⟩ (by rfl) (.inl rfl)
            · replace h := ifF c35 h
              refine TL.nil (X.seq ?_)
              refine T.yes rfl (bn_t (decide_eq_false c35)) ?_
              refine T.seq (T.draw (.q 0 (.q 1 (.q 2 (.q 3 (.q 4 .nil))))) [0, 0, 0, 0] rfl mix_cursitorref06 (NoP.seq (NoP.seq (NoP.blk (NoP.seq (NoP.seq (NoP.blk (NoP.seq np_post))))))) (by kernel_rfl) ?_)
              refine TD.run ft_cursitorref06_ok [0] rfl rfl ?_
              refine TD.q rfl .u (Ex.b1 0 rfl Try.isAgg3 rfl rfl) rfl ?_
              refine TD.run ft_cursitorref06_ok [2, 3, 4] rfl rfl ?_
              obtain rfl := Option.some.inj h
              replace h := hO25
              clear hO25
              try dsimp only at h
              obtain rfl := Option.some.inj h
              refine TD.nil (X.seq (T.ret (X.rs (X.rb (X.rs (X.rs (X.rb (X.rs ?_))))))))
              refine X.nilrd 3 Hd_rd ?_
              exact X.done3 [4, 0] Try.results34 (RV.tm rfl) (RV.tm rfl) (RV.tm rfl) ⟨_, _, rfl, rfl, rfl⟩ (by rfl) (.inl rfl)
          · replace h := ifF c30 h
            refine TL.nil (X.seq ?_)
            refine T.no rfl (decide_eq_false c30) ?_
            obtain rfl := Option.some.inj h
            replace h := hO25
            clear hO25
            try dsimp only at h
            refine T.exit (X.exs (X.exs (X.ex (X.seq (T.seq (T.region rfl ?_))))))
            refine TL.run ft_cursitorref06_ok [0, 1, 2, 3, 4] rfl rfl ?_
            obtain rfl := Option.some.inj h
            refine TL.nil (X.seq (T.ret ?_))
            refine X.shut (by decide) 1 rfl ?_
            refine X.sel [0, 0, 0] rfl ?_
            exact X.done3 [2, 1] Try.results34 (RV.tm rfl) (RV.tm rfl) (RV.tm rfl) ⟨_, _, rfl, rfl, rfl⟩ (by rfl) (.inl rfl)
  · replace h := ifF c5 h
    refine TL.nil (X.seq ?_)
    refine T.yes rfl (bn_t (decide_eq_false c5)) ?_
    refine T.seq (T.region rfl ?_)
    refine TL.run ft_cursitorref06_ok [0, 1, 2, 3] rfl rfl ?_
    obtain rfl := Option.some.inj h
    refine TL.nil (X.seq (T.ret (X.rs ?_)))
    refine X.nilrd 3 Hd_rd ?_
    exact X.done3 [1, 0] Try.results34 (RV.tm rfl) (RV.tm rfl) (RV.tm rfl) ⟨_, _, rfl, rfl, rfl⟩ (by rfl) (.inl rfl)
end Go.Proofs.Ytdlpmcbglmgpiaa.Sl
