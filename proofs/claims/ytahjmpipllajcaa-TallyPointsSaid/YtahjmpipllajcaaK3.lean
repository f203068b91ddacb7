/- tallyPoints_holds: part 3. -/
import Derived.Test.YtahjmpipllajcaaK2
namespace Go.Proofs.Ytahjmpipllajcaa.Sl
open Go.RowKit
set_option linter.unusedVariables false
set_option linter.unusedSimpArgs false
set_option maxRecDepth 100000
def ft_cursitorref07 : FTab := [(80, 0, 0), (80, 1, 1), (83, 0, 0), (83, 1, 1), (83, 2, 2), (83, 3, 4), (83, 4, 6)]
theorem ft_cursitorref07_ok : (ft_cursitorref07).OK Try.prog := ⟨FOK.mk Try.runUnderlying80 rfl Try.sizeOf4 rfl, FOK.mk Try.runUnderlying80 rfl Try.sizeOf9 rfl, FOK.mk Try.runUnderlying83 rfl Try.sizeOf3 rfl, FOK.mk Try.runUnderlying83 rfl Try.sizeOf3 rfl, FOK.mk Try.runUnderlying83 rfl Try.sizeOf80 rfl, FOK.mk Try.runUnderlying83 rfl Try.sizeOf80 rfl, FOK.mk Try.runUnderlying83 rfl Try.sizeOf81 rfl, trivial⟩
theorem mix_cursitorref07 : Try.prog.follows .mixedOrders = true := by kernel_rfl
theorem sok_cursitorref07_33_1 : SOK Try.prog 33 5 1 1 #[.int .u8 0] := SOK.mk Try.runUnderlying33 Try.sizeOf5 Try.zeroValue5 (by decide) (by kernel_rfl)
def f_r07_odd (a0 : Bl) : Option (Bool) := if a0.null = true then (if a0.data = [] then some false else some true) else some false
set_option maxRecDepth 100000 in
set_option maxHeartbeats 4000000 in
theorem f_r07_odd_spec (a0 : Bl) (r : Bool) (h : f_r07_odd a0 = some r) : SpecX Try.prog 61 #[.agg #[.bool a0.null, .string (bsOf a0.data)]] .triv (EmpR) (fun v A' N => v = .bool r ∧ A' = EmpR ∧ N = []) := by
  refine enterA Try.func61 rfl Try.ntmps61 rfl ?_
  intro F w hX
  unfold f_r07_odd at h
  refine T.seq (T.region rfl ?_)
  refine TL.box rfl .u rfl rfl (fun b1 => ?_)
  refine TL.run ft_cursitorref07_ok [1] rfl rfl ?_
  refine TL.nil (X.seq (T.seq (T.region rfl ?_)))
  refine TL.run ft_cursitorref07_ok [0] rfl rfl ?_
  refine TL.q rfl .u (Ex.b1 0 rfl Try.isAgg4 rfl rfl) rfl ?_
  by_cases c2 : a0.null = true
  · replace h := ifT c2 h
    refine TL.run ft_cursitorref07_ok [2] rfl rfl ?_
    refine TL.q rfl (.g rfl rfl c2) (Ex.ft ft_cursitorref07_ok rfl) rfl ?_
    refine TL.q rfl (.g rfl rfl c2) (Ex.b1 0 rfl Try.isAgg9 rfl rfl) rfl ?_
    refine TL.q rfl (.g rfl rfl c2) (Ex.sNe rfl (m := []) rfl) rfl ?_
    refine TL.q rfl .u (Ex.py rfl c2 rfl) rfl ?_
    refine TL.run ft_cursitorref07_ok [7] rfl rfl ?_
    by_cases c3 : a0.data = []
    · replace h := ifT c3 h
      obtain rfl := Option.some.inj h
      exact TL.nil (X.seq (T.ret (X.done1 [1] Try.results61 (RV.tm (v := .bool false) (congrArg (fun b => some (Value.bool b)) (bn_f (decide_eq_true c3)))) ⟨rfl, rfl, rfl⟩ (by rfl) (.inl rfl))))
    · replace h := ifF c3 h
      obtain rfl := Option.some.inj h
      exact TL.nil (X.seq (T.ret (X.done1 [1] Try.results61 (RV.tm (v := .bool true) (congrArg (fun b => some (Value.bool b)) (bn_t (decide_eq_false c3)))) ⟨rfl, rfl, rfl⟩ (by rfl) (.inl rfl))))
  · replace h := ifF c2 h
    replace c2 := eq_false_of_ne_true c2
    refine TL.run ft_cursitorref07_ok [2] rfl rfl ?_
    refine TL.no rfl (.gn rfl rfl c2) rfl ?_
    refine TL.no rfl (.gn rfl rfl c2) rfl ?_
    refine TL.no rfl (.gn rfl rfl c2) rfl ?_
    refine TL.q rfl .u (Ex.pn rfl c2 rfl) rfl ?_
    refine TL.run ft_cursitorref07_ok [7] rfl rfl ?_
    obtain rfl := Option.some.inj h
    exact TL.nil (X.seq (T.ret (X.done1 [1] Try.results61 (RV.tm rfl) ⟨rfl, rfl, rfl⟩ (by rfl) (.inl rfl))))
def f_r07_Right (a0 : Rec) : Option (Int) := if a0.fOffset < 0 then some 11 else (if a0.fOffset > 2147483647 then some 11 else ((f_r07_odd a0.fKey).bind fun x6 => if x6 = true then some 4 else ((f_r07_odd a0.fValue).bind fun x9 => if x9 = true then some 4 else ((f_r06_Right a0.fHeaders).bind fun x12 => if x12 = true then some 0 else some 4))))
set_option maxRecDepth 100000 in
set_option maxHeartbeats 4000000 in
theorem f_r07_Right_spec (a0 : Rec) (A1 : Option Addr) (c2 : Nat) (r : Int) (h : f_r07_Right a0 = some r) : SpecX Try.prog 36 #[.agg #[.int .i64 a0.fTime, .int .i64 a0.fOffset, .bool a0.fKey.null, .string (bsOf a0.fKey.data), .bool a0.fValue.null, .string (bsOf a0.fValue.data), .slice A1 a0.fHeaders.length c2]] (RX.of (sliceRd 3 Hd_rd) [.slice A1 a0.fHeaders.length c2] a0.fHeaders) (EmpR) (fun v A' N => v = .int .i64 r ∧ A' = EmpR ∧ N = []) := by
  refine enterA Try.func36 rfl Try.ntmps36 rfl ?_
  intro F w hX
  unfold f_r07_Right at h
  refine T.seq (T.region rfl ?_)
  refine TL.box rfl .u rfl rfl (fun b3 => ?_)
  refine TL.run ft_cursitorref07_ok [1] rfl rfl ?_
  refine TL.nil (X.seq (T.seq (T.seq (T.region rfl ?_))))
  refine TL.run ft_cursitorref07_ok [0] rfl rfl ?_
  refine TL.q rfl .u (Ex.b1 0 rfl Try.isAgg3 rfl rfl) rfl ?_
  by_cases c4 : a0.fOffset < 0
  · replace h := ifT c4 h
    refine TL.run ft_cursitorref07_ok [2, 3] rfl rfl ?_
    refine TL.no rfl (.gn rfl rfl (decide_eq_true c4)) rfl ?_
    refine TL.no rfl (.gn rfl rfl (decide_eq_true c4)) rfl ?_
    refine TL.no rfl (.gn rfl rfl (decide_eq_true c4)) rfl ?_
    refine TL.q rfl .u (Ex.py rfl (decide_eq_true c4) rfl) rfl ?_
    refine TL.nil (X.seq ?_)
    refine T.yes rfl rfl ?_
    refine T.seq (T.region rfl ?_)
    refine TL.run ft_cursitorref07_ok [0] rfl rfl ?_
    obtain rfl := Option.some.inj h
    exact TL.nil (X.seq (T.ret (X.rs (X.done1 [1] Try.results36 (RV.tm rfl) ⟨rfl, rfl, rfl⟩ (by rfl) (.inl rfl)))))
  · replace h := ifF c4 h
    refine TL.run ft_cursitorref07_ok [2, 3] rfl rfl ?_
    refine TL.q rfl (.g rfl rfl (decide_eq_false c4)) (Ex.ft ft_cursitorref07_ok rfl) rfl ?_
    refine TL.q rfl (.g rfl rfl (decide_eq_false c4)) (Ex.b1 0 rfl Try.isAgg3 rfl rfl) rfl ?_
    refine TL.q rfl (.g rfl rfl (decide_eq_false c4)) (Ex.ft ft_cursitorref07_ok rfl) rfl ?_
    refine TL.q rfl .u (Ex.pn rfl (decide_eq_false c4) rfl) rfl ?_
    by_cases c5 : a0.fOffset > 2147483647
    · replace h := ifT c5 h
      refine TL.nil (X.seq ?_)
      refine T.yes rfl (decide_eq_true c5) ?_
      refine T.seq (T.region rfl ?_)
      refine TL.run ft_cursitorref07_ok [0] rfl rfl ?_
      obtain rfl := Option.some.inj h
      exact TL.nil (X.seq (T.ret (X.rs (X.done1 [1] Try.results36 (RV.tm rfl) ⟨rfl, rfl, rfl⟩ (by rfl) (.inl rfl)))))
    · replace h := ifF c5 h
      refine TL.nil (X.seq ?_)
      refine T.no rfl (decide_eq_false c5) ?_
      refine T.skip (X.seq (T.seq (T.seq (T.region rfl ?_))))
      refine TL.run ft_cursitorref07_ok [0] rfl rfl ?_
      refine TL.q rfl .u (Ex.bS (us := [.bool a0.fKey.null, .string (bsOf a0.fKey.data)]) 0 rfl Try.isAgg80 Try.sizeOf80 rfl rfl rfl) rfl ?_
      obtain ⟨x6, hx7, h⟩ := Option.bind_eq_some_iff.1 h
      refine TL.ce rfl .u (.fn Try.call61 rfl) (f_r07_odd_spec a0.fKey _ hx7) (fun _ hs => (RX.reads_triv _ _)) rfl ?_
      by_cases c8 : x6 = true
      · replace h := ifT c8 h
        refine TL.run ft_cursitorref07_ok [3] rfl rfl ?_
        refine TL.no rfl (.gn rfl rfl c8) rfl ?_
        refine TL.no rfl (.gn rfl rfl c8) rfl ?_
        refine TL.no rfl (.gn rfl rfl c8) rfl ?_
        refine TL.q rfl .u (Ex.py rfl c8 rfl) rfl ?_
        refine TL.run ft_cursitorref07_ok [8] rfl rfl ?_
        refine TL.no rfl (.gn rfl rfl rfl) rfl ?_
        refine TL.no rfl (.gn rfl rfl rfl) rfl ?_
        refine TL.no rfl (.gn rfl rfl rfl) rfl ?_
        refine TL.no rfl (.gn rfl rfl rfl) rfl ?_
        refine TL.q rfl .u (Ex.py rfl rfl rfl) rfl ?_
        refine TL.nil (X.seq ?_)
        refine T.yes rfl rfl ?_
        refine T.seq (T.region rfl ?_)
        refine TL.run ft_cursitorref07_ok [0] rfl rfl ?_
        obtain rfl := Option.some.inj h
        exact TL.nil (X.seq (T.ret (X.rs (X.done1 [1] Try.results36 (RV.tm rfl) ⟨rfl, rfl, rfl⟩ (by rfl) (.inl rfl)))))
      · replace h := ifF c8 h
        replace c8 := eq_false_of_ne_true c8
        refine TL.run ft_cursitorref07_ok [3] rfl rfl ?_
        refine TL.q rfl (.g rfl rfl c8) (Ex.ft ft_cursitorref07_ok rfl) rfl ?_
        refine TL.q rfl (.g rfl rfl c8) (Ex.bS (us := [.bool a0.fValue.null, .string (bsOf a0.fValue.data)]) 0 rfl Try.isAgg80 Try.sizeOf80 rfl rfl rfl) rfl ?_
        obtain ⟨x9, hx10, h⟩ := Option.bind_eq_some_iff.1 h
        refine TL.ce rfl (.g rfl rfl c8) (.fn Try.call61 rfl) (f_r07_odd_spec a0.fValue _ hx10) (fun _ hs => (RX.reads_triv _ _)) rfl ?_
        refine TL.q rfl .u (Ex.pn rfl c8 rfl) rfl ?_
        by_cases c11 : x9 = true
        · replace h := ifT c11 h
          refine TL.run ft_cursitorref07_ok [8] rfl rfl ?_
          refine TL.no rfl (.gn rfl rfl c11) rfl ?_
          refine TL.no rfl (.gn rfl rfl c11) rfl ?_
          refine TL.no rfl (.gn rfl rfl c11) rfl ?_
          refine TL.no rfl (.gn rfl rfl c11) rfl ?_
          refine TL.q rfl .u (Ex.py rfl c11 rfl) rfl ?_
          refine TL.nil (X.seq ?_)
          refine T.yes rfl rfl ?_
          refine T.seq (T.region rfl ?_)
          refine TL.run ft_cursitorref07_ok [0] rfl rfl ?_
          obtain rfl := Option.some.inj h
          exact TL.nil (X.seq (T.ret (X.rs (X.done1 [1] Try.results36 (RV.tm rfl) ⟨rfl, rfl, rfl⟩ (by rfl) (.inl rfl)))))
        · replace h := ifF c11 h
          replace c11 := eq_false_of_ne_true c11
          refine TL.run ft_cursitorref07_ok [8] rfl rfl ?_
          refine TL.q rfl (.g rfl rfl c11) (Ex.ft ft_cursitorref07_ok rfl) rfl ?_
          refine TL.q rfl (.g rfl rfl c11) (Ex.b1 0 rfl Try.isAgg81 rfl rfl) rfl ?_
          obtain ⟨x12, hx13, h⟩ := Option.bind_eq_some_iff.1 h
          refine TL.ce rfl (.g rfl rfl c11) (.fn Try.call62 rfl) (f_r06_Right_spec a0.fHeaders _ _ _ hx13) (fun _ hs => (SrcE.old hs hX)) rfl ?_
          refine TL.q rfl (.g rfl rfl c11) (Ex.ft ft_cursitorref07_ok rfl) rfl ?_
          refine TL.q rfl .u (Ex.pn rfl c11 rfl) rfl ?_
          by_cases c14 : x12 = true
          · replace h := ifT c14 h
            refine TL.nil (X.seq ?_)
            refine T.no rfl (bn_f c14) ?_
            refine T.skip (X.seq (T.seq (T.region rfl ?_)))
            refine TL.run ft_cursitorref07_ok [0] rfl rfl ?_
            obtain rfl := Option.some.inj h
            exact TL.nil (X.seq (T.ret (X.done1 [1] Try.results36 (RV.tm rfl) ⟨rfl, rfl, rfl⟩ (by rfl) (.inl rfl))))
          · replace h := ifF c14 h
            replace c14 := eq_false_of_ne_true c14
            refine TL.nil (X.seq ?_)
            refine T.yes rfl (bn_t c14) ?_
            refine T.seq (T.region rfl ?_)
            refine TL.run ft_cursitorref07_ok [0] rfl rfl ?_
            obtain rfl := Option.some.inj h
            exact TL.nil (X.seq (T.ret (X.rs (X.done1 [1] Try.results36 (RV.tm rfl) ⟨rfl, rfl, rfl⟩ (by rfl) (.inl rfl)))))
def f_r07_Write (a0 : Rec) : Option (List UInt8) := (f_r06_Int a0.fTime).bind fun x5 => if (toBs [0]).length + x5.length ≤ 9223372036854775807 then ((f_r06_Int a0.fOffset).bind fun x8 => if ((toBs [0]) ++ x5).length + x8.length ≤ 9223372036854775807 then ((gRBVaried a0.fKey).bind fun x11 => if (((toBs [0]) ++ x5) ++ x8).length + x11.length ≤ 9223372036854775807 then ((gRBVaried a0.fValue).bind fun x14 => if ((((toBs [0]) ++ x5) ++ x8) ++ x11).length + x14.length ≤ 9223372036854775807 then ((f_r06_Write a0.fHeaders).bind fun x17 => if (((((toBs [0]) ++ x5) ++ x8) ++ x11) ++ x14).length + x17.length ≤ 9223372036854775807 then ((f_r06_Int (((((((toBs [0]) ++ x5) ++ x8) ++ x11) ++ x14) ++ x17).length : Int)).bind fun x20 => if x20.length + ((((((toBs [0]) ++ x5) ++ x8) ++ x11) ++ x14) ++ x17).length ≤ 9223372036854775807 then (some (x20 ++ ((((((toBs [0]) ++ x5) ++ x8) ++ x11) ++ x14) ++ x17))) else none) else none) else none) else none) else none) else none
set_option maxRecDepth 100000 in
set_option maxHeartbeats 4000000 in
theorem f_r07_Write_spec (a0 : Rec) (A1 : Option Addr) (c2 : Nat) (r : List UInt8) (h : f_r07_Write a0 = some r) : SpecX Try.prog 39 #[.agg #[.int .i64 a0.fTime, .int .i64 a0.fOffset, .bool a0.fKey.null, .string (bsOf a0.fKey.data), .bool a0.fValue.null, .string (bsOf a0.fValue.data), .slice A1 a0.fHeaders.length c2]] (RX.of (sliceRd 3 Hd_rd) [.slice A1 a0.fHeaders.length c2] a0.fHeaders) (EmpR) (fun v A' N => v = .string (bsOf r) ∧ A' = EmpR ∧ N = []) := by
  refine enterA Try.func39 rfl Try.ntmps39 rfl ?_
  intro F w hX
  unfold f_r07_Write at h
  refine T.seq (T.region rfl ?_)
  refine TL.box rfl .u rfl rfl (fun b3 => ?_)
  refine TL.run ft_cursitorref07_ok [1] rfl rfl ?_
  obtain ⟨x5, hx6, h⟩ := Option.bind_eq_some_iff.1 h
  replace h := guard_some h
  obtain ⟨c7, h⟩ := h
  obtain ⟨x8, hx9, h⟩ := Option.bind_eq_some_iff.1 h
  replace h := guard_some h
  obtain ⟨c10, h⟩ := h
  obtain ⟨x11, hx12, h⟩ := Option.bind_eq_some_iff.1 h
  replace h := guard_some h
  obtain ⟨c13, h⟩ := h
  obtain ⟨x14, hx15, h⟩ := Option.bind_eq_some_iff.1 h
  replace h := guard_some h
  obtain ⟨c16, h⟩ := h
  obtain ⟨x17, hx18, h⟩ := Option.bind_eq_some_iff.1 h
  replace h := guard_some h
  obtain ⟨c19, h⟩ := h
  refine TL.nil (X.seq (T.seq ?_))
  refine T.join (fun e Rs => ∃ (b4 : Nat), e = [(0, .agg #[.int .i64 a0.fTime, .int .i64 a0.fOffset, .bool a0.fKey.null, .string (bsOf a0.fKey.data), .bool a0.fValue.null, .string (bsOf a0.fValue.data), .slice A1 a0.fHeaders.length c2]), (2, .string ⟨#[]⟩), (3, .string (bsOf ((((((toBs [0]) ++ x5) ++ x8) ++ x11) ++ x14) ++ x17)))] ∧ Rs = [BlkR b4 5 #[.int .u8 0], BlkR b3 83 #[.int .i64 a0.fTime, .int .i64 a0.fOffset, .bool a0.fKey.null, .string (bsOf a0.fKey.data), .bool a0.fValue.null, .string (bsOf a0.fValue.data), .slice A1 a0.fHeaders.length c2], EmpR]) ?_ ?_
  · refine T.draw (.q 2 (.q 3 (.q 6 (.q 7 (.q 10 (.q 11 (.q 14 (.q 15 (.q 18 (.q 19 (.br 0 (.q 1 (.e 4 (.q 5 (.e 8 (.q 9 (.e 12 (.q 13 (.e 16 (.q 17 (.e 20 (.q 21 (.q 22 .nil)))))))))))) (.e 4 (.br 0 (.q 1 (.q 5 (.e 8 (.q 9 (.e 12 (.q 13 (.e 16 (.q 17 (.e 20 (.q 21 (.q 22 .nil))))))))))) (.e 8 (.br 0 (.q 1 (.q 5 (.q 9 (.e 12 (.q 13 (.e 16 (.q 17 (.e 20 (.q 21 (.q 22 .nil)))))))))) (.e 12 (.br 0 (.q 1 (.q 5 (.q 9 (.q 13 (.e 16 (.q 17 (.e 20 (.q 21 (.q 22 .nil))))))))) (.e 16 (.br 0 (.q 1 (.q 5 (.q 9 (.q 13 (.q 17 (.e 20 (.q 21 (.q 22 .nil)))))))) (.e 20 (.e 0 (.q 1 (.q 5 (.q 9 (.q 13 (.q 17 (.q 21 (.q 22 .nil)))))))))))))))))))))))))))) [0, 0] rfl mix_cursitorref07 np_jq (by kernel_rfl) ?_
    refine TD.run ft_cursitorref07_ok [2] rfl rfl ?_
    refine TD.q rfl .u (Ex.b1 0 rfl Try.isAgg3 rfl rfl) rfl ?_
    refine TD.run ft_cursitorref07_ok [6] rfl rfl ?_
    refine TD.q rfl .u (Ex.b1 0 rfl Try.isAgg3 rfl rfl) rfl ?_
    refine TD.run ft_cursitorref07_ok [10] rfl rfl ?_
    refine TD.q rfl .u (Ex.bS (us := [.bool a0.fKey.null, .string (bsOf a0.fKey.data)]) 0 rfl Try.isAgg80 Try.sizeOf80 rfl rfl rfl) rfl ?_
    refine TD.run ft_cursitorref07_ok [14] rfl rfl ?_
    refine TD.q rfl .u (Ex.bS (us := [.bool a0.fValue.null, .string (bsOf a0.fValue.data)]) 0 rfl Try.isAgg80 Try.sizeOf80 rfl rfl rfl) rfl ?_
    refine TD.run ft_cursitorref07_ok [18] rfl rfl ?_
    refine TD.q rfl .u (Ex.b1 0 rfl Try.isAgg81 rfl rfl) rfl ?_
    refine TD.br ?_ ?_
    · refine TD.litK (cells := #[.int .u8 0]) rfl .u sok_cursitorref07_33_1 rfl (by rfl) rfl [0, 0, 0] (fun _ => rfl) (fun b4 => ?_)
      refine TD.q rfl .u (Ex.blkStr (xs := [0]) 0 rfl rfl rfl rfl Try.runUnderlying33 Try.runUnderlying9 Try.runUnderlying5) rfl ?_
      refine TD.ce rfl .u (.fn Try.call66 rfl) (f_r06_Int_spec a0.fTime _ hx6) (fun _ hs => (RX.reads_triv _ _)) rfl [0, 0, 0] (rfl) ?_
      refine TD.q rfl .u (Ex.sAdd rfl rfl c7) rfl ?_
      refine TD.ce rfl .u (.fn Try.call66 rfl) (f_r06_Int_spec a0.fOffset _ hx9) (fun _ hs => (RX.reads_triv _ _)) rfl [0, 0, 0] (rfl) ?_
      refine TD.q rfl .u (Ex.sAdd rfl rfl c10) rfl ?_
      refine TD.ce rfl .u (.fn Try.call67 rfl) (gRBVaried_spec a0.fKey _ hx12) (fun _ hs => (RX.reads_triv _ _)) rfl [0, 0, 0] (rfl) ?_
      refine TD.q rfl .u (Ex.sAdd rfl rfl c13) rfl ?_
      refine TD.ce rfl .u (.fn Try.call67 rfl) (gRBVaried_spec a0.fValue _ hx15) (fun _ hs => (RX.reads_triv _ _)) rfl [0, 0, 0] (rfl) ?_
      refine TD.q rfl .u (Ex.sAdd rfl rfl c16) rfl ?_
      refine TD.ce rfl .u (.fn Try.call68 rfl) (f_r06_Write_spec a0.fHeaders _ _ _ hx18) (fun _ hs => (SrcE.old hs hX)) rfl [0, 0, 0] (rfl) ?_
      refine TD.q rfl .u (Ex.sAdd rfl rfl c19) rfl ?_
      refine TD.run ft_cursitorref07_ok [22] rfl rfl ?_
      exact TD.nil (X.jn [0, 0, 0] ⟨b4, rfl, rfl⟩ (by rfl) (by rfl))
    · refine TD.ce rfl .u (.fn Try.call66 rfl) (f_r06_Int_spec a0.fTime _ hx6) (fun _ hs => (RX.reads_triv _ _)) rfl [0, 0] (rfl) ?_
      refine TD.br ?_ ?_
      · refine TD.litK (cells := #[.int .u8 0]) rfl .u sok_cursitorref07_33_1 rfl (by rfl) rfl [0, 0, 0] (fun _ => rfl) (fun b4 => ?_)
        refine TD.q rfl .u (Ex.blkStr (xs := [0]) 0 rfl rfl rfl rfl Try.runUnderlying33 Try.runUnderlying9 Try.runUnderlying5) rfl ?_
        refine TD.q rfl .u (Ex.sAdd rfl rfl c7) rfl ?_
        refine TD.ce rfl .u (.fn Try.call66 rfl) (f_r06_Int_spec a0.fOffset _ hx9) (fun _ hs => (RX.reads_triv _ _)) rfl [0, 0, 0] (rfl) ?_
        refine TD.q rfl .u (Ex.sAdd rfl rfl c10) rfl ?_
        refine TD.ce rfl .u (.fn Try.call67 rfl) (gRBVaried_spec a0.fKey _ hx12) (fun _ hs => (RX.reads_triv _ _)) rfl [0, 0, 0] (rfl) ?_
        refine TD.q rfl .u (Ex.sAdd rfl rfl c13) rfl ?_
        refine TD.ce rfl .u (.fn Try.call67 rfl) (gRBVaried_spec a0.fValue _ hx15) (fun _ hs => (RX.reads_triv _ _)) rfl [0, 0, 0] (rfl) ?_
        refine TD.q rfl .u (Ex.sAdd rfl rfl c16) rfl ?_
        refine TD.ce rfl .u (.fn Try.call68 rfl) (f_r06_Write_spec a0.fHeaders _ _ _ hx18) (fun _ hs => (SrcE.old hs hX)) rfl [0, 0, 0] (rfl) ?_
        refine TD.q rfl .u (Ex.sAdd rfl rfl c19) rfl ?_
        refine TD.run ft_cursitorref07_ok [22] rfl rfl ?_
        exact TD.nil (X.jn [0, 0, 0] ⟨b4, rfl, rfl⟩ (by rfl) (by rfl))
      · refine TD.ce rfl .u (.fn Try.call66 rfl) (f_r06_Int_spec a0.fOffset _ hx9) (fun _ hs => (RX.reads_triv _ _)) rfl [0, 0] (rfl) ?_
        refine TD.br ?_ ?_
        · refine TD.litK (cells := #[.int .u8 0]) rfl .u sok_cursitorref07_33_1 rfl (by rfl) rfl [0, 0, 0] (fun _ => rfl) (fun b4 => ?_)
          refine TD.q rfl .u (Ex.blkStr (xs := [0]) 0 rfl rfl rfl rfl Try.runUnderlying33 Try.runUnderlying9 Try.runUnderlying5) rfl ?_
          refine TD.q rfl .u (Ex.sAdd rfl rfl c7) rfl ?_
          refine TD.q rfl .u (Ex.sAdd rfl rfl c10) rfl ?_
          refine TD.ce rfl .u (.fn Try.call67 rfl) (gRBVaried_spec a0.fKey _ hx12) (fun _ hs => (RX.reads_triv _ _)) rfl [0, 0, 0] (rfl) ?_
          refine TD.q rfl .u (Ex.sAdd rfl rfl c13) rfl ?_
          refine TD.ce rfl .u (.fn Try.call67 rfl) (gRBVaried_spec a0.fValue _ hx15) (fun _ hs => (RX.reads_triv _ _)) rfl [0, 0, 0] (rfl) ?_
          refine TD.q rfl .u (Ex.sAdd rfl rfl c16) rfl ?_
          refine TD.ce rfl .u (.fn Try.call68 rfl) (f_r06_Write_spec a0.fHeaders _ _ _ hx18) (fun _ hs => (SrcE.old hs hX)) rfl [0, 0, 0] (rfl) ?_
          refine TD.q rfl .u (Ex.sAdd rfl rfl c19) rfl ?_
          refine TD.run ft_cursitorref07_ok [22] rfl rfl ?_
          exact TD.nil (X.jn [0, 0, 0] ⟨b4, rfl, rfl⟩ (by rfl) (by rfl))
        · refine TD.ce rfl .u (.fn Try.call67 rfl) (gRBVaried_spec a0.fKey _ hx12) (fun _ hs => (RX.reads_triv _ _)) rfl [0, 0] (rfl) ?_
          refine TD.br ?_ ?_
          · refine TD.litK (cells := #[.int .u8 0]) rfl .u sok_cursitorref07_33_1 rfl (by rfl) rfl [0, 0, 0] (fun _ => rfl) (fun b4 => ?_)
            refine TD.q rfl .u (Ex.blkStr (xs := [0]) 0 rfl rfl rfl rfl Try.runUnderlying33 Try.runUnderlying9 Try.runUnderlying5) rfl ?_
            refine TD.q rfl .u (Ex.sAdd rfl rfl c7) rfl ?_
            refine TD.q rfl .u (Ex.sAdd rfl rfl c10) rfl ?_
            refine TD.q rfl .u (Ex.sAdd rfl rfl c13) rfl ?_
            refine TD.ce rfl .u (.fn Try.call67 rfl) (gRBVaried_spec a0.fValue _ hx15) (fun _ hs => (RX.reads_triv _ _)) rfl [0, 0, 0] (rfl) ?_
            refine TD.q rfl .u (Ex.sAdd rfl rfl c16) rfl ?_
            refine TD.ce rfl .u (.fn Try.call68 rfl) (f_r06_Write_spec a0.fHeaders _ _ _ hx18) (fun _ hs => (SrcE.old hs hX)) rfl [0, 0, 0] (rfl) ?_
            refine TD.q rfl .u (Ex.sAdd rfl rfl c19) rfl ?_
            refine TD.run ft_cursitorref07_ok [22] rfl rfl ?_
            exact TD.nil (X.jn [0, 0, 0] ⟨b4, rfl, rfl⟩ (by rfl) (by rfl))
          · refine TD.ce rfl .u (.fn Try.call67 rfl) (gRBVaried_spec a0.fValue _ hx15) (fun _ hs => (RX.reads_triv _ _)) rfl [0, 0] (rfl) ?_
            refine TD.br ?_ ?_
            · refine TD.litK (cells := #[.int .u8 0]) rfl .u sok_cursitorref07_33_1 rfl (by rfl) rfl [0, 0, 0] (fun _ => rfl) (fun b4 => ?_)
              refine TD.q rfl .u (Ex.blkStr (xs := [0]) 0 rfl rfl rfl rfl Try.runUnderlying33 Try.runUnderlying9 Try.runUnderlying5) rfl ?_
              refine TD.q rfl .u (Ex.sAdd rfl rfl c7) rfl ?_
              refine TD.q rfl .u (Ex.sAdd rfl rfl c10) rfl ?_
              refine TD.q rfl .u (Ex.sAdd rfl rfl c13) rfl ?_
              refine TD.q rfl .u (Ex.sAdd rfl rfl c16) rfl ?_
              refine TD.ce rfl .u (.fn Try.call68 rfl) (f_r06_Write_spec a0.fHeaders _ _ _ hx18) (fun _ hs => (SrcE.old hs hX)) rfl [0, 0, 0] (rfl) ?_
              refine TD.q rfl .u (Ex.sAdd rfl rfl c19) rfl ?_
              refine TD.run ft_cursitorref07_ok [22] rfl rfl ?_
              exact TD.nil (X.jn [0, 0, 0] ⟨b4, rfl, rfl⟩ (by rfl) (by rfl))
            · refine TD.ce rfl .u (.fn Try.call68 rfl) (f_r06_Write_spec a0.fHeaders _ _ _ hx18) (fun _ hs => (SrcE.old hs hX)) rfl [0, 0] (rfl) ?_
              refine TD.litK (cells := #[.int .u8 0]) rfl .u sok_cursitorref07_33_1 rfl (by rfl) rfl [0, 0, 0] (fun _ => rfl) (fun b4 => ?_)
              refine TD.q rfl .u (Ex.blkStr (xs := [0]) 0 rfl rfl rfl rfl Try.runUnderlying33 Try.runUnderlying9 Try.runUnderlying5) rfl ?_
              refine TD.q rfl .u (Ex.sAdd rfl rfl c7) rfl ?_
              refine TD.q rfl .u (Ex.sAdd rfl rfl c10) rfl ?_
              refine TD.q rfl .u (Ex.sAdd rfl rfl c13) rfl ?_
              refine TD.q rfl .u (Ex.sAdd rfl rfl c16) rfl ?_
              refine TD.q rfl .u (Ex.sAdd rfl rfl c19) rfl ?_
              refine TD.run ft_cursitorref07_ok [22] rfl rfl ?_
              exact TD.nil (X.jn [0, 0, 0] ⟨b4, rfl, rfl⟩ (by rfl) (by rfl))
  · rintro _ _ ⟨b4, rfl, rfl⟩
    refine X.seq (T.seq (T.region rfl ?_))
    refine TL.run ft_cursitorref07_ok [0] rfl rfl ?_
    refine TL.q rfl .u (Ex.lenB rfl Try.runUnderlying9) rfl ?_
    obtain ⟨x20, hx21, h⟩ := Option.bind_eq_some_iff.1 h
    refine TL.ce rfl .u (.fn Try.call66 rfl) (f_r06_Int_spec (((((((toBs [0]) ++ x5) ++ x8) ++ x11) ++ x14) ++ x17).length : Int) _ hx21) (fun _ hs => (RX.reads_triv _ _)) rfl ?_
    replace h := guard_some h
    obtain ⟨c22, h⟩ := h
    refine TL.run ft_cursitorref07_ok [3] rfl rfl ?_
    refine TL.q rfl .u (Ex.sAdd rfl rfl c22) rfl ?_
    refine TL.run ft_cursitorref07_ok [5] rfl rfl ?_
    obtain rfl := Option.some.inj h
    exact TL.nil (X.seq (T.ret (X.done1 [2] Try.results39 (RV.tm rfl) ⟨rfl, rfl, rfl⟩ (by rfl) (.inl rfl))))
end Go.Proofs.Ytahjmpipllajcaa.Sl
namespace Go.Proofs.Ytahjmpipllajcaa.Sl
open Go.RowKit
set_option linter.unusedVariables false
set_option linter.unusedSimpArgs false
set_option maxRecDepth 100000
def ft_cursitorref08 : FTab := [(80, 0, 0), (80, 1, 1), (83, 1, 1), (83, 2, 2), (83, 3, 4), (83, 4, 6)]
theorem ft_cursitorref08_ok : (ft_cursitorref08).OK Try.prog := ⟨FOK.mk Try.runUnderlying80 rfl Try.sizeOf4 rfl, FOK.mk Try.runUnderlying80 rfl Try.sizeOf9 rfl, FOK.mk Try.runUnderlying83 rfl Try.sizeOf3 rfl, FOK.mk Try.runUnderlying83 rfl Try.sizeOf80 rfl, FOK.mk Try.runUnderlying83 rfl Try.sizeOf80 rfl, FOK.mk Try.runUnderlying83 rfl Try.sizeOf81 rfl, trivial⟩
def f_r08_ReadKey (a0 : List UInt8) : Option (Int × Int) := if (a0.length : Int) < 2 then some (0, 1) else (if 2 ≤ a0.length then ((gRInt (a0.take 2)).bind fun x3 => if x3 = 0 then (if (a0.length : Int) < 4 then some (0, 1) else (if 4 ≤ a0.length then ((gRInt ((a0.drop 2).take 2)).bind fun x8 => if x8 = 0 then (if (a0.length : Int) > 4 then some (0, 2) else some (x8, 0)) else (if x8 = 1 then (if (a0.length : Int) > 4 then some (0, 2) else some (x8, 0)) else some (0, 12))) else none)) else some (0, 7)) else none)
set_option maxRecDepth 100000 in
set_option maxHeartbeats 4000000 in
theorem f_r08_ReadKey_spec (a0 : List UInt8) (r : Int × Int) (h : f_r08_ReadKey a0 = some r) : SpecX Try.prog 63 #[.string (bsOf a0)] .triv (EmpR) (fun v A' N => v = .tuple #[.int .i64 r.1, .int .i64 r.2] ∧ A' = EmpR ∧ N = []) := by
  refine enterA Try.func63 rfl Try.ntmps63 rfl ?_
  intro F w hX
  unfold f_r08_ReadKey at h
  refine T.seq (T.region rfl ?_)
  refine TL.run ft_cursitorref08_ok [0, 1] rfl rfl ?_
  refine TL.nil (X.seq (T.seq (T.seq (T.region rfl ?_))))
  refine TL.run ft_cursitorref08_ok [0] rfl rfl ?_
  refine TL.q rfl .u (Ex.lenB rfl Try.runUnderlying9) rfl ?_
  refine TL.run ft_cursitorref08_ok [2] rfl rfl ?_
  by_cases c1 : (a0.length : Int) < 2
  · replace h := ifT c1 h
    refine TL.nil (X.seq ?_)
    refine T.yes rfl (decide_eq_true c1) ?_
    refine T.seq (T.region rfl ?_)
    refine TL.run ft_cursitorref08_ok [0, 1] rfl rfl ?_
    obtain rfl := Option.some.inj h
    exact TL.nil (X.seq (T.ret (X.rs (X.done2 [0] Try.results63 (RV.tm rfl) (RV.tm rfl) ⟨rfl, rfl, rfl⟩ (by rfl) (.inl rfl)))))
  · replace h := ifF c1 h
    refine TL.nil (X.seq ?_)
    refine T.no rfl (decide_eq_false c1) ?_
    refine T.skip (X.seq (T.seq (T.seq (T.region rfl ?_))))
    replace h := guard_some h
    obtain ⟨c2, h⟩ := h
    refine TL.run ft_cursitorref08_ok [0] rfl rfl ?_
    replace c2 : 2 ≤ a0.length := c2
    refine TL.q rfl .u (Ex.sSl (p := 0) (q := 2) (m := (a0.take 2)) rfl Try.runUnderlying9 .none (.some rfl rfl) (by first | omega | (dsimp only; omega)) (by simp)) rfl ?_
    obtain ⟨x3, hx4, h⟩ := Option.bind_eq_some_iff.1 h
    refine TL.ce rfl .u (.fn Try.call89 rfl) (SpecX.pure (fun w => gRInt_spec (a0.take 2) _ hx4 w)) (fun _ _ => RX.reads_triv _ _) rfl ?_
    refine TL.run ft_cursitorref08_ok [3] rfl rfl ?_
    by_cases c5 : x3 = 0
    · replace h := ifT c5 h
      refine TL.nil (X.seq ?_)
      refine T.no rfl (bn_f (decide_eq_true c5)) ?_
      refine T.skip (X.seq (T.seq (T.seq (T.region rfl ?_))))
      refine TL.run ft_cursitorref08_ok [0] rfl rfl ?_
      refine TL.q rfl .u (Ex.lenB rfl Try.runUnderlying9) rfl ?_
      refine TL.run ft_cursitorref08_ok [2] rfl rfl ?_
      by_cases c6 : (a0.length : Int) < 4
      · replace h := ifT c6 h
        refine TL.nil (X.seq ?_)
        refine T.yes rfl (decide_eq_true c6) ?_
        refine T.seq (T.region rfl ?_)
        refine TL.run ft_cursitorref08_ok [0, 1] rfl rfl ?_
        obtain rfl := Option.some.inj h
        exact TL.nil (X.seq (T.ret (X.rs (X.done2 [0] Try.results63 (RV.tm rfl) (RV.tm rfl) ⟨rfl, rfl, rfl⟩ (by rfl) (.inl rfl)))))
      · replace h := ifF c6 h
        refine TL.nil (X.seq ?_)
        refine T.no rfl (decide_eq_false c6) ?_
        refine T.skip (X.seq (T.seq (T.region rfl ?_)))
        replace h := guard_some h
        obtain ⟨c7, h⟩ := h
        refine TL.run ft_cursitorref08_ok [0] rfl rfl ?_
        replace c7 : 4 ≤ a0.length := c7
        refine TL.q rfl .u (Ex.sSl (p := 2) (q := 4) (m := ((a0.drop 2).take 2)) rfl Try.runUnderlying9 (.some rfl rfl) (.some rfl rfl) (by first | omega | (dsimp only; omega)) rfl) rfl ?_
        obtain ⟨x8, hx9, h⟩ := Option.bind_eq_some_iff.1 h
        refine TL.ce rfl .u (.fn Try.call89 rfl) (SpecX.pure (fun w => gRInt_spec ((a0.drop 2).take 2) _ hx9 w)) (fun _ _ => RX.reads_triv _ _) rfl ?_
        refine TL.run ft_cursitorref08_ok [3] rfl rfl ?_
        refine TL.nil (X.seq (T.seq (T.seq (T.region rfl ?_))))
        by_cases c10 : x8 = 0
        · replace h := ifT c10 h
          refine TL.run ft_cursitorref08_ok [0, 1, 2] rfl rfl ?_
          refine TL.no rfl (.gn rfl rfl (bn_f (decide_eq_true c10))) rfl ?_
          refine TL.no rfl (.gn rfl rfl (bn_f (decide_eq_true c10))) rfl ?_
          refine TL.q rfl .u (Ex.pn rfl (bn_f (decide_eq_true c10)) rfl) rfl ?_
          refine TL.nil (X.seq ?_)
          refine T.no rfl rfl ?_
          refine T.skip (X.seq (T.seq (T.seq (T.region rfl ?_))))
          refine TL.run ft_cursitorref08_ok [0] rfl rfl ?_
          refine TL.q rfl .u (Ex.lenB rfl Try.runUnderlying9) rfl ?_
          refine TL.run ft_cursitorref08_ok [2] rfl rfl ?_
          by_cases c11 : (a0.length : Int) > 4
          · replace h := ifT c11 h
            refine TL.nil (X.seq ?_)
            refine T.yes rfl (decide_eq_true c11) ?_
            refine T.seq (T.region rfl ?_)
            refine TL.run ft_cursitorref08_ok [0, 1] rfl rfl ?_
            obtain rfl := Option.some.inj h
            exact TL.nil (X.seq (T.ret (X.rs (X.done2 [0] Try.results63 (RV.tm rfl) (RV.tm rfl) ⟨rfl, rfl, rfl⟩ (by rfl) (.inl rfl)))))
          · replace h := ifF c11 h
            refine TL.nil (X.seq ?_)
            refine T.no rfl (decide_eq_false c11) ?_
            refine T.skip (X.seq (T.seq (T.region rfl ?_)))
            refine TL.run ft_cursitorref08_ok [0, 1, 2] rfl rfl ?_
            obtain rfl := Option.some.inj h
            exact TL.nil (X.seq (T.ret (X.done2 [0] Try.results63 (RV.tm rfl) (RV.tm rfl) ⟨rfl, rfl, rfl⟩ (by rfl) (.inl rfl))))
        · replace h := ifF c10 h
          refine TL.run ft_cursitorref08_ok [0, 1, 2] rfl rfl ?_
          refine TL.q rfl (.g rfl rfl (bn_t (decide_eq_false c10))) (Ex.ft ft_cursitorref08_ok rfl) rfl ?_
          refine TL.q rfl (.g rfl rfl (bn_t (decide_eq_false c10))) (Ex.ft ft_cursitorref08_ok rfl) rfl ?_
          refine TL.q rfl .u (Ex.py rfl (bn_t (decide_eq_false c10)) rfl) rfl ?_
          by_cases c12 : x8 = 1
          · replace h := ifT c12 h
            refine TL.nil (X.seq ?_)
            refine T.no rfl (bn_f (decide_eq_true c12)) ?_
            refine T.skip (X.seq (T.seq (T.seq (T.region rfl ?_))))
            refine TL.run ft_cursitorref08_ok [0] rfl rfl ?_
            refine TL.q rfl .u (Ex.lenB rfl Try.runUnderlying9) rfl ?_
            refine TL.run ft_cursitorref08_ok [2] rfl rfl ?_
            by_cases c13 : (a0.length : Int) > 4
            · replace h := ifT c13 h
              refine TL.nil (X.seq ?_)
              refine T.yes rfl (decide_eq_true c13) ?_
              refine T.seq (T.region rfl ?_)
              refine TL.run ft_cursitorref08_ok [0, 1] rfl rfl ?_
              obtain rfl := Option.some.inj h
              exact TL.nil (X.seq (T.ret (X.rs (X.done2 [0] Try.results63 (RV.tm rfl) (RV.tm rfl) ⟨rfl, rfl, rfl⟩ (by rfl) (.inl rfl)))))
            · replace h := ifF c13 h
              refine TL.nil (X.seq ?_)
              refine T.no rfl (decide_eq_false c13) ?_
              refine T.skip (X.seq (T.seq (T.region rfl ?_)))
              refine TL.run ft_cursitorref08_ok [0, 1, 2] rfl rfl ?_
              obtain rfl := Option.some.inj h
              exact TL.nil (X.seq (T.ret (X.done2 [0] Try.results63 (RV.tm rfl) (RV.tm rfl) ⟨rfl, rfl, rfl⟩ (by rfl) (.inl rfl))))
          · replace h := ifF c12 h
            refine TL.nil (X.seq ?_)
            refine T.yes rfl (bn_t (decide_eq_false c12)) ?_
            refine T.seq (T.region rfl ?_)
            refine TL.run ft_cursitorref08_ok [0, 1] rfl rfl ?_
            obtain rfl := Option.some.inj h
            exact TL.nil (X.seq (T.ret (X.rs (X.done2 [0] Try.results63 (RV.tm rfl) (RV.tm rfl) ⟨rfl, rfl, rfl⟩ (by rfl) (.inl rfl)))))
    · replace h := ifF c5 h
      refine TL.nil (X.seq ?_)
      refine T.yes rfl (bn_t (decide_eq_false c5)) ?_
      refine T.seq (T.region rfl ?_)
      refine TL.run ft_cursitorref08_ok [0, 1] rfl rfl ?_
      obtain rfl := Option.some.inj h
      exact TL.nil (X.seq (T.ret (X.rs (X.done2 [0] Try.results63 (RV.tm rfl) (RV.tm rfl) ⟨rfl, rfl, rfl⟩ (by rfl) (.inl rfl)))))
def f_r08_ReadValue (a0 : List UInt8) : Option (Int × Int) := if (a0.length : Int) < 2 then some (0, 1) else (if 2 ≤ a0.length then ((gRInt (a0.take 2)).bind fun x3 => if x3 = 0 then (if (a0.length : Int) < 6 then some (0, 1) else (if 6 ≤ a0.length then ((gRInt ((a0.drop 2).take 4)).bind fun x8 => if x8 < 0 then some (0, 11) else (if (a0.length : Int) > 6 then some (0, 2) else some (x8, 0))) else none)) else some (0, 7)) else none)
set_option maxRecDepth 100000 in
set_option maxHeartbeats 4000000 in
theorem f_r08_ReadValue_spec (a0 : List UInt8) (r : Int × Int) (h : f_r08_ReadValue a0 = some r) : SpecX Try.prog 64 #[.string (bsOf a0)] .triv (EmpR) (fun v A' N => v = .tuple #[.int .i64 r.1, .int .i64 r.2] ∧ A' = EmpR ∧ N = []) := by
  refine enterA Try.func64 rfl Try.ntmps64 rfl ?_
  intro F w hX
  unfold f_r08_ReadValue at h
  refine T.seq (T.region rfl ?_)
  refine TL.run ft_cursitorref08_ok [0, 1] rfl rfl ?_
  refine TL.nil (X.seq (T.seq (T.seq (T.region rfl ?_))))
  refine TL.run ft_cursitorref08_ok [0] rfl rfl ?_
  refine TL.q rfl .u (Ex.lenB rfl Try.runUnderlying9) rfl ?_
  refine TL.run ft_cursitorref08_ok [2] rfl rfl ?_
  by_cases c1 : (a0.length : Int) < 2
  · replace h := ifT c1 h
    refine TL.nil (X.seq ?_)
    refine T.yes rfl (decide_eq_true c1) ?_
    refine T.seq (T.region rfl ?_)
    refine TL.run ft_cursitorref08_ok [0, 1] rfl rfl ?_
    obtain rfl := Option.some.inj h
    exact TL.nil (X.seq (T.ret (X.rs (X.done2 [0] Try.results64 (RV.tm rfl) (RV.tm rfl) ⟨rfl, rfl, rfl⟩ (by rfl) (.inl rfl)))))
  · replace h := ifF c1 h
    refine TL.nil (X.seq ?_)
    refine T.no rfl (decide_eq_false c1) ?_
    refine T.skip (X.seq (T.seq (T.seq (T.region rfl ?_))))
    replace h := guard_some h
    obtain ⟨c2, h⟩ := h
    refine TL.run ft_cursitorref08_ok [0] rfl rfl ?_
    replace c2 : 2 ≤ a0.length := c2
    refine TL.q rfl .u (Ex.sSl (p := 0) (q := 2) (m := (a0.take 2)) rfl Try.runUnderlying9 .none (.some rfl rfl) (by first | omega | (dsimp only; omega)) (by simp)) rfl ?_
    obtain ⟨x3, hx4, h⟩ := Option.bind_eq_some_iff.1 h
    refine TL.ce rfl .u (.fn Try.call89 rfl) (SpecX.pure (fun w => gRInt_spec (a0.take 2) _ hx4 w)) (fun _ _ => RX.reads_triv _ _) rfl ?_
    refine TL.run ft_cursitorref08_ok [3] rfl rfl ?_
    by_cases c5 : x3 = 0
    · replace h := ifT c5 h
      refine TL.nil (X.seq ?_)
      refine T.no rfl (bn_f (decide_eq_true c5)) ?_
      refine T.skip (X.seq (T.seq (T.seq (T.region rfl ?_))))
      refine TL.run ft_cursitorref08_ok [0] rfl rfl ?_
      refine TL.q rfl .u (Ex.lenB rfl Try.runUnderlying9) rfl ?_
      refine TL.run ft_cursitorref08_ok [2] rfl rfl ?_
      by_cases c6 : (a0.length : Int) < 6
      · replace h := ifT c6 h
        refine TL.nil (X.seq ?_)
        refine T.yes rfl (decide_eq_true c6) ?_
        refine T.seq (T.region rfl ?_)
        refine TL.run ft_cursitorref08_ok [0, 1] rfl rfl ?_
        obtain rfl := Option.some.inj h
        exact TL.nil (X.seq (T.ret (X.rs (X.done2 [0] Try.results64 (RV.tm rfl) (RV.tm rfl) ⟨rfl, rfl, rfl⟩ (by rfl) (.inl rfl)))))
      · replace h := ifF c6 h
        refine TL.nil (X.seq ?_)
        refine T.no rfl (decide_eq_false c6) ?_
        refine T.skip (X.seq (T.seq (T.region rfl ?_)))
        replace h := guard_some h
        obtain ⟨c7, h⟩ := h
        refine TL.run ft_cursitorref08_ok [0] rfl rfl ?_
        replace c7 : 6 ≤ a0.length := c7
        refine TL.q rfl .u (Ex.sSl (p := 2) (q := 6) (m := ((a0.drop 2).take 4)) rfl Try.runUnderlying9 (.some rfl rfl) (.some rfl rfl) (by first | omega | (dsimp only; omega)) rfl) rfl ?_
        obtain ⟨x8, hx9, h⟩ := Option.bind_eq_some_iff.1 h
        refine TL.ce rfl .u (.fn Try.call89 rfl) (SpecX.pure (fun w => gRInt_spec ((a0.drop 2).take 4) _ hx9 w)) (fun _ _ => RX.reads_triv _ _) rfl ?_
        refine TL.run ft_cursitorref08_ok [3] rfl rfl ?_
        refine TL.nil (X.seq (T.seq (T.seq (T.region rfl ?_))))
        refine TL.run ft_cursitorref08_ok [0, 1] rfl rfl ?_
        by_cases c10 : x8 < 0
        · replace h := ifT c10 h
          refine TL.nil (X.seq ?_)
          refine T.yes rfl (decide_eq_true c10) ?_
          refine T.seq (T.region rfl ?_)
          refine TL.run ft_cursitorref08_ok [0, 1] rfl rfl ?_
          obtain rfl := Option.some.inj h
          exact TL.nil (X.seq (T.ret (X.rs (X.done2 [0] Try.results64 (RV.tm rfl) (RV.tm rfl) ⟨rfl, rfl, rfl⟩ (by rfl) (.inl rfl)))))
        · replace h := ifF c10 h
          refine TL.nil (X.seq ?_)
          refine T.no rfl (decide_eq_false c10) ?_
          refine T.skip (X.seq (T.seq (T.seq (T.region rfl ?_))))
          refine TL.run ft_cursitorref08_ok [0] rfl rfl ?_
          refine TL.q rfl .u (Ex.lenB rfl Try.runUnderlying9) rfl ?_
          refine TL.run ft_cursitorref08_ok [2] rfl rfl ?_
          by_cases c11 : (a0.length : Int) > 6
          · replace h := ifT c11 h
            refine TL.nil (X.seq ?_)
            refine T.yes rfl (decide_eq_true c11) ?_
            refine T.seq (T.region rfl ?_)
            refine TL.run ft_cursitorref08_ok [0, 1] rfl rfl ?_
            obtain rfl := Option.some.inj h
            exact TL.nil (X.seq (T.ret (X.rs (X.done2 [0] Try.results64 (RV.tm rfl) (RV.tm rfl) ⟨rfl, rfl, rfl⟩ (by rfl) (.inl rfl)))))
          · replace h := ifF c11 h
            refine TL.nil (X.seq ?_)
            refine T.no rfl (decide_eq_false c11) ?_
            refine T.skip (X.seq (T.seq (T.region rfl ?_)))
            refine TL.run ft_cursitorref08_ok [0, 1, 2] rfl rfl ?_
            obtain rfl := Option.some.inj h
            exact TL.nil (X.seq (T.ret (X.done2 [0] Try.results64 (RV.tm rfl) (RV.tm rfl) ⟨rfl, rfl, rfl⟩ (by rfl) (.inl rfl))))
    · replace h := ifF c5 h
      refine TL.nil (X.seq ?_)
      refine T.yes rfl (bn_t (decide_eq_false c5)) ?_
      refine T.seq (T.region rfl ?_)
      refine TL.run ft_cursitorref08_ok [0, 1] rfl rfl ?_
      obtain rfl := Option.some.inj h
      exact TL.nil (X.seq (T.ret (X.rs (X.done2 [0] Try.results64 (RV.tm rfl) (RV.tm rfl) ⟨rfl, rfl, rfl⟩ (by rfl) (.inl rfl)))))
def f_r08_Read (a0 : Rec) : Option (Int × Int × Int) := if a0.fKey.null = true then some (0, 0, 12) else (if a0.fValue.null = true then some (0, 0, 12) else (if (a0.fHeaders.length : Int) > 0 then some (0, 0, 12) else (if a0.fOffset = 0 then ((f_r08_ReadKey a0.fKey.data).bind fun (x8, x9) => if x9 = 0 then ((f_r08_ReadValue a0.fValue.data).bind fun (x12, x13) => if x13 = 0 then some (x8, x12, 0) else some (0, 0, x13)) else some (0, 0, x9)) else some (0, 0, 12))))
set_option maxRecDepth 100000 in
set_option maxHeartbeats 4000000 in
theorem f_r08_Read_spec (a0 : Rec) (A1 : Option Addr) (c2 : Nat) (r : Int × Int × Int) (h : f_r08_Read a0 = some r) : SpecX Try.prog 37 #[.agg #[.int .i64 a0.fTime, .int .i64 a0.fOffset, .bool a0.fKey.null, .string (bsOf a0.fKey.data), .bool a0.fValue.null, .string (bsOf a0.fValue.data), .slice A1 a0.fHeaders.length c2]] (RX.of (sliceRd 3 Hd_rd) [.slice A1 a0.fHeaders.length c2] a0.fHeaders) (EmpR) (fun v A' N => v = .tuple #[.int .i64 r.1, .int .i64 r.2.1, .int .i64 r.2.2] ∧ A' = EmpR ∧ N = []) := by
  refine enterA Try.func37 rfl Try.ntmps37 rfl ?_
  intro F w hX
  unfold f_r08_Read at h
  refine T.seq (T.region rfl ?_)
  refine TL.box rfl .u rfl rfl (fun b3 => ?_)
  refine TL.run ft_cursitorref08_ok [1, 2, 3] rfl rfl ?_
  refine TL.nil (X.seq (T.seq (T.seq (T.region rfl ?_))))
  refine TL.run ft_cursitorref08_ok [0, 1] rfl rfl ?_
  refine TL.q rfl .u (Ex.b1 0 rfl Try.isAgg4 rfl rfl) rfl ?_
  by_cases c4 : a0.fKey.null = true
  · replace h := ifT c4 h
    refine TL.run ft_cursitorref08_ok [3] rfl rfl ?_
    refine TL.no rfl (.gn rfl rfl c4) rfl ?_
    refine TL.no rfl (.gn rfl rfl c4) rfl ?_
    refine TL.no rfl (.gn rfl rfl c4) rfl ?_
    refine TL.q rfl .u (Ex.py rfl c4 rfl) rfl ?_
    refine TL.run ft_cursitorref08_ok [8] rfl rfl ?_
    refine TL.no rfl (.gn rfl rfl rfl) rfl ?_
    refine TL.no rfl (.gn rfl rfl rfl) rfl ?_
    refine TL.no rfl (.gn rfl rfl rfl) rfl ?_
    refine TL.no rfl (.gn rfl rfl rfl) rfl ?_
    refine TL.q rfl .u (Ex.py rfl rfl rfl) rfl ?_
    refine TL.run ft_cursitorref08_ok [14] rfl rfl ?_
    refine TL.no rfl (.gn rfl rfl rfl) rfl ?_
    refine TL.no rfl (.gn rfl rfl rfl) rfl ?_
    refine TL.no rfl (.gn rfl rfl rfl) rfl ?_
    refine TL.q rfl .u (Ex.py rfl rfl rfl) rfl ?_
    refine TL.nil (X.seq ?_)
    refine T.yes rfl rfl ?_
    refine T.seq (T.region rfl ?_)
    refine TL.run ft_cursitorref08_ok [0, 1, 2] rfl rfl ?_
    obtain rfl := Option.some.inj h
    exact TL.nil (X.seq (T.ret (X.rs (X.done3 [1] Try.results37 (RV.tm rfl) (RV.tm rfl) (RV.tm rfl) ⟨rfl, rfl, rfl⟩ (by rfl) (.inl rfl)))))
  · replace h := ifF c4 h
    replace c4 := eq_false_of_ne_true c4
    refine TL.run ft_cursitorref08_ok [3] rfl rfl ?_
    refine TL.q rfl (.g rfl rfl c4) (Ex.ft ft_cursitorref08_ok rfl) rfl ?_
    refine TL.q rfl (.g rfl rfl c4) (Ex.ft ft_cursitorref08_ok rfl) rfl ?_
    refine TL.q rfl (.g rfl rfl c4) (Ex.b1 0 rfl Try.isAgg4 rfl rfl) rfl ?_
    refine TL.q rfl .u (Ex.pn rfl c4 rfl) rfl ?_
    by_cases c5 : a0.fValue.null = true
    · replace h := ifT c5 h
      refine TL.run ft_cursitorref08_ok [8] rfl rfl ?_
      refine TL.no rfl (.gn rfl rfl c5) rfl ?_
      refine TL.no rfl (.gn rfl rfl c5) rfl ?_
      refine TL.no rfl (.gn rfl rfl c5) rfl ?_
      refine TL.no rfl (.gn rfl rfl c5) rfl ?_
      refine TL.q rfl .u (Ex.py rfl c5 rfl) rfl ?_
      refine TL.run ft_cursitorref08_ok [14] rfl rfl ?_
      refine TL.no rfl (.gn rfl rfl rfl) rfl ?_
      refine TL.no rfl (.gn rfl rfl rfl) rfl ?_
      refine TL.no rfl (.gn rfl rfl rfl) rfl ?_
      refine TL.q rfl .u (Ex.py rfl rfl rfl) rfl ?_
      refine TL.nil (X.seq ?_)
      refine T.yes rfl rfl ?_
      refine T.seq (T.region rfl ?_)
      refine TL.run ft_cursitorref08_ok [0, 1, 2] rfl rfl ?_
      obtain rfl := Option.some.inj h
      exact TL.nil (X.seq (T.ret (X.rs (X.done3 [1] Try.results37 (RV.tm rfl) (RV.tm rfl) (RV.tm rfl) ⟨rfl, rfl, rfl⟩ (by rfl) (.inl rfl)))))
    · replace h := ifF c5 h
      replace c5 := eq_false_of_ne_true c5
      refine TL.run ft_cursitorref08_ok [8] rfl rfl ?_
      refine TL.q rfl (.g rfl rfl c5) (Ex.ft ft_cursitorref08_ok rfl) rfl ?_
      refine TL.q rfl (.g rfl rfl c5) (Ex.b1 0 rfl Try.isAgg81 rfl rfl) rfl ?_
      refine TL.q rfl (.g rfl rfl c5) (Ex.lenS rfl Try.runUnderlying81) rfl ?_
      refine TL.q rfl (.g rfl rfl c5) (Ex.ft ft_cursitorref08_ok rfl) rfl ?_
      refine TL.q rfl .u (Ex.pn rfl c5 rfl) rfl ?_
      by_cases c6 : (a0.fHeaders.length : Int) > 0
      · replace h := ifT c6 h
        refine TL.run ft_cursitorref08_ok [14] rfl rfl ?_
        refine TL.no rfl (.gn rfl rfl (decide_eq_true c6)) rfl ?_
        refine TL.no rfl (.gn rfl rfl (decide_eq_true c6)) rfl ?_
        refine TL.no rfl (.gn rfl rfl (decide_eq_true c6)) rfl ?_
        refine TL.q rfl .u (Ex.py rfl (decide_eq_true c6) rfl) rfl ?_
        refine TL.nil (X.seq ?_)
        refine T.yes rfl rfl ?_
        refine T.seq (T.region rfl ?_)
        refine TL.run ft_cursitorref08_ok [0, 1, 2] rfl rfl ?_
        obtain rfl := Option.some.inj h
        exact TL.nil (X.seq (T.ret (X.rs (X.done3 [1] Try.results37 (RV.tm rfl) (RV.tm rfl) (RV.tm rfl) ⟨rfl, rfl, rfl⟩ (by rfl) (.inl rfl)))))
      · replace h := ifF c6 h
        refine TL.run ft_cursitorref08_ok [14] rfl rfl ?_
        refine TL.q rfl (.g rfl rfl (decide_eq_false c6)) (Ex.ft ft_cursitorref08_ok rfl) rfl ?_
        refine TL.q rfl (.g rfl rfl (decide_eq_false c6)) (Ex.b1 0 rfl Try.isAgg3 rfl rfl) rfl ?_
        refine TL.q rfl (.g rfl rfl (decide_eq_false c6)) (Ex.ft ft_cursitorref08_ok rfl) rfl ?_
        refine TL.q rfl .u (Ex.pn rfl (decide_eq_false c6) rfl) rfl ?_
        by_cases c7 : a0.fOffset = 0
        · replace h := ifT c7 h
          refine TL.nil (X.seq ?_)
          refine T.no rfl (bn_f (decide_eq_true c7)) ?_
          refine T.skip (X.seq (T.seq (T.region rfl ?_)))
          refine TL.run ft_cursitorref08_ok [0, 1] rfl rfl ?_
          refine TL.q rfl .u (Ex.b1 0 rfl Try.isAgg9 rfl rfl) rfl ?_
          obtain ⟨⟨x8, x9⟩, hx10, h⟩ := Option.bind_eq_some_iff.1 h
          try dsimp only at h
          refine TL.ce rfl .u (.fn Try.call63 rfl) (f_r08_ReadKey_spec a0.fKey.data _ hx10) (fun _ hs => (RX.reads_triv _ _)) rfl ?_
          refine TL.run ft_cursitorref08_ok [4, 5, 6, 7, 8] rfl rfl ?_
          refine TL.nil (X.seq (T.seq (T.seq (T.region rfl ?_))))
          refine TL.run ft_cursitorref08_ok [0, 1] rfl rfl ?_
          by_cases c11 : x9 = 0
          · replace h := ifT c11 h
            refine TL.nil (X.seq ?_)
            refine T.no rfl (bn_f (decide_eq_true c11)) ?_
            refine T.skip (X.seq (T.seq (T.region rfl ?_)))
            refine TL.run ft_cursitorref08_ok [0, 1] rfl rfl ?_
            refine TL.q rfl .u (Ex.b1 0 rfl Try.isAgg9 rfl rfl) rfl ?_
            obtain ⟨⟨x12, x13⟩, hx14, h⟩ := Option.bind_eq_some_iff.1 h
            try dsimp only at h
            refine TL.ce rfl .u (.fn Try.call64 rfl) (f_r08_ReadValue_spec a0.fValue.data _ hx14) (fun _ hs => (RX.reads_triv _ _)) rfl ?_
            refine TL.run ft_cursitorref08_ok [4, 5, 6, 7, 8] rfl rfl ?_
            refine TL.nil (X.seq (T.seq (T.seq (T.region rfl ?_))))
            refine TL.run ft_cursitorref08_ok [0, 1] rfl rfl ?_
            by_cases c15 : x13 = 0
            · replace h := ifT c15 h
              refine TL.nil (X.seq ?_)
              refine T.no rfl (bn_f (decide_eq_true c15)) ?_
              refine T.skip (X.seq (T.seq (T.region rfl ?_)))
              refine TL.run ft_cursitorref08_ok [0, 1, 2, 3, 4] rfl rfl ?_
              obtain rfl := Option.some.inj h
              exact TL.nil (X.seq (T.ret (X.done3 [1] Try.results37 (RV.tm rfl) (RV.tm rfl) (RV.tm rfl) ⟨rfl, rfl, rfl⟩ (by rfl) (.inl rfl))))
            · replace h := ifF c15 h
              refine TL.nil (X.seq ?_)
              refine T.yes rfl (bn_t (decide_eq_false c15)) ?_
              refine T.seq (T.region rfl ?_)
              refine TL.run ft_cursitorref08_ok [0, 1, 2, 3] rfl rfl ?_
              obtain rfl := Option.some.inj h
              exact TL.nil (X.seq (T.ret (X.rs (X.done3 [1] Try.results37 (RV.tm rfl) (RV.tm rfl) (RV.tm rfl) ⟨rfl, rfl, rfl⟩ (by rfl) (.inl rfl)))))
          · replace h := ifF c11 h
            refine TL.nil (X.seq ?_)
            refine T.yes rfl (bn_t (decide_eq_false c11)) ?_
            refine T.seq (T.region rfl ?_)
            refine TL.run ft_cursitorref08_ok [0, 1, 2, 3] rfl rfl ?_
            obtain rfl := Option.some.inj h
            exact TL.nil (X.seq (T.ret (X.rs (X.done3 [1] Try.results37 (RV.tm rfl) (RV.tm rfl) (RV.tm rfl) ⟨rfl, rfl, rfl⟩ (by rfl) (.inl rfl)))))
        · replace h := ifF c7 h
          refine TL.nil (X.seq ?_)
          refine T.yes rfl (bn_t (decide_eq_false c7)) ?_
          refine T.seq (T.region rfl ?_)
          refine TL.run ft_cursitorref08_ok [0, 1, 2] rfl rfl ?_
          obtain rfl := Option.some.inj h
          exact TL.nil (X.seq (T.ret (X.rs (X.done3 [1] Try.results37 (RV.tm rfl) (RV.tm rfl) (RV.tm rfl) ⟨rfl, rfl, rfl⟩ (by rfl) (.inl rfl)))))
end Go.Proofs.Ytahjmpipllajcaa.Sl
namespace Go.Proofs.Ytahjmpipllajcaa.Sl
open Go.RowKit
set_option linter.unusedVariables false
set_option linter.unusedSimpArgs false
set_option maxRecDepth 100000
def ft_cursitorref10 : FTab := []
theorem ft_cursitorref10_ok : (ft_cursitorref10).OK Try.prog := trivial
theorem sok_cursitorref10_44_12 : SOK Try.prog 44 3 12 1 #[.int .i64 0, .int .i64 0, .int .i64 0, .int .i64 0, .int .i64 0, .int .i64 0, .int .i64 0, .int .i64 0, .int .i64 0, .int .i64 0, .int .i64 0, .int .i64 0] := SOK.mk Try.runUnderlying44 Try.sizeOf3 Try.zeroValue3 (by decide) (by kernel_rfl)
def f_r10_Bytes_l1 (a0 : List Int) : Nat → List UInt8 → Bool → List UInt8 → Nat → Option (Lp (List UInt8 × Bool) (List UInt8 × Bool × List UInt8 × Nat))
  | 0, _, _, _, _ => none
  | m11 + 1, y4, y5, y6, k7 => if (k7 : Int) < 12 then ((a0[k7]?).bind fun x16 => if (k7 : Int) = 3 then ((if x16 < 0 then some true else (if x16 > 4294967295 then some true else some false)).bind fun y21 => if y21 = true then (some (Lp.ret ([], false))) else ((if x16 > 2147483647 then (if -9223372036854775808 ≤ (x16 - 4294967296) ∧ (x16 - 4294967296) ≤ 9223372036854775807 then some (x16 - 4294967296) else none) else some x16).bind fun y28 => (gRBytes 2 1).bind fun x32 => if y6.length + x32.length ≤ 9223372036854775807 then (([8, 4, 4, 4, 2, 4, 8, 8, 8, 2, 4, 4][k7]?).bind fun x35 => (gRFits y28 x35).bind fun x38 => if x38 = true then ((gRBytes y28 x35).bind fun x41 => if (y6 ++ x32).length + x41.length ≤ 9223372036854775807 then (if -9223372036854775808 ≤ ((k7 : Int) + 1) ∧ ((k7 : Int) + 1) ≤ 9223372036854775807 then (f_r10_Bytes_l1 a0 m11 y4 y5 ((y6 ++ x32) ++ x41) (k7 + 1)) else none) else none) else (some (Lp.ret ([], false)))) else none)) else (([8, 4, 4, 4, 2, 4, 8, 8, 8, 2, 4, 4][k7]?).bind fun x45 => (gRFits x16 x45).bind fun x48 => if x48 = true then ((gRBytes x16 x45).bind fun x51 => if y6.length + x51.length ≤ 9223372036854775807 then (if -9223372036854775808 ≤ ((k7 : Int) + 1) ∧ ((k7 : Int) + 1) ≤ 9223372036854775807 then (f_r10_Bytes_l1 a0 m11 y4 y5 (y6 ++ x51) (k7 + 1)) else none) else none) else (some (Lp.ret ([], false))))) else (some (Lp.go (y4, y5, y6, k7)))
def f_r10_Bytes (a0 : List Int) : Option (List UInt8 × Bool) := (f_r10_Bytes_l1 a0 ((12 : Int).toNat + 1) [] false [] 0).bind fun e => match e with | .ret r => some r | .go (y55, y56, y57, k58) => some (y57, true)
set_option maxRecDepth 100000 in
set_option maxHeartbeats 4000000 in
theorem f_r10_Bytes_spec (a0 : List Int) (A1 : Option Addr) (c2 : Nat) (r : List UInt8 × Bool) (h : f_r10_Bytes a0 = some r) : SpecX Try.prog 40 #[.slice A1 a0.length c2] (RX.of (sliceRd 1 intE) [.slice A1 a0.length c2] a0) (EmpR) (fun v A' N => v = .tuple #[.string (bsOf r.1), .bool r.2] ∧ A' = EmpR ∧ N = []) := by
  refine enterA Try.func40 rfl Try.ntmps40 rfl ?_
  intro F w hX
  unfold f_r10_Bytes at h
  refine T.seq (T.region rfl ?_)
  refine TL.run ft_cursitorref10_ok [0, 1] rfl rfl ?_
  refine TL.nil (X.seq (T.seq (T.region rfl ?_)))
  refine TL.lit (cells := #[.int .i64 8, .int .i64 4, .int .i64 4, .int .i64 4, .int .i64 2, .int .i64 4, .int .i64 8, .int .i64 8, .int .i64 8, .int .i64 2, .int .i64 4, .int .i64 4]) rfl .u sok_cursitorref10_44_12 rfl (by kernel_rfl) rfl (fun b3 => ?_)
  refine TL.rowOf (us := [.int .i64 8, .int .i64 4, .int .i64 4, .int .i64 4, .int .i64 2, .int .i64 4, .int .i64 8, .int .i64 8, .int .i64 8, .int .i64 2, .int .i64 4, .int .i64 4]) (xs := [8, 4, 4, 4, 2, 4, 8, 8, 8, 2, 4, 4]) (E := intE) (z := 1) rfl (Nat.le_of_ble_eq_true rfl) (fun _ => ⟨rfl, rfl, ⟨rfl, rfl, ⟨rfl, rfl, ⟨rfl, rfl, ⟨rfl, rfl, ⟨rfl, rfl, ⟨rfl, rfl, ⟨rfl, rfl, ⟨rfl, rfl, ⟨rfl, rfl, ⟨rfl, rfl, ⟨rfl, rfl, rfl⟩⟩⟩⟩⟩⟩⟩⟩⟩⟩⟩⟩) ?_
  refine TL.run ft_cursitorref10_ok [1] rfl rfl ?_
  refine TL.nil (X.seq (T.seq (T.region rfl ?_)))
  refine TL.run ft_cursitorref10_ok [0] rfl rfl ?_
  refine TL.nil (X.seq (T.seq (T.seq (T.region rfl ?_))))
  refine TL.run ft_cursitorref10_ok [0] rfl rfl ?_
  refine TL.nil (X.seq (T.block ?_))
  obtain ⟨E8, hE9, hO10⟩ := Option.bind_eq_some_iff.1 h
  refine T.lp (fun m e Rs => ∃ (y4 : List UInt8) (y5 : Bool) (y6 : List UInt8) (k7 : Nat), e = [(0, .slice A1 a0.length c2), (2, .string (bsOf y4)), (3, .bool y5), (4, .slice (some ⟨b3, 0, none⟩) 12 12), (5, .string (bsOf y6)), (6, .int .i64 (k7 : Int))] ∧ Rs = [OwnR 3 1 intE (.slice (some ⟨b3, 0, none⟩) 12 12) [8, 4, 4, 4, 2, 4, 8, 8, 8, 2, 4, 4], EmpR] ∧ f_r10_Bytes_l1 a0 m y4 y5 y6 k7 = some E8) ((12 : Int).toNat + 1) [0, 0] ⟨[], false, [], 0, rfl, rfl, by exact hE9⟩ (by rfl) (by rfl) ?_
  rintro m11 _ _ ⟨y4, y5, y6, k7, rfl, rfl, hl13⟩
  clear hE9 h
  cases m11 with
  | zero =>
    rw [f_r10_Bytes_l1] at hl13
    cases hl13
  | succ m11 =>
    have h := hl13
    clear hl13
    rw [f_r10_Bytes_l1] at h
    refine T.seq (T.seq (T.region rfl ?_))
    refine TL.run ft_cursitorref10_ok [0, 1] rfl rfl ?_
    by_cases c15 : (k7 : Int) < 12
    · replace h := ifT c15 h
      refine TL.nil (X.seq ?_)
      refine T.yes rfl (decide_eq_true c15) ?_
      refine T.skip (X.seq (T.seq (T.block (T.seq (T.region rfl ?_)))))
      obtain ⟨x16, hx17, h⟩ := Option.bind_eq_some_iff.1 h
      obtain ⟨gz18, oz18, rfl, z18cs, z18cl, z18cc, z18nf, z18r⟩ := RX.elem (by decide) hX hx17
      obtain ⟨z18S, z18r, z18rr⟩ := z18r
      obtain rfl : z18cs = [.int .i64 x16] := z18r
      refine TL.run ft_cursitorref10_ok [0, 1] rfl rfl ?_
      refine TL.q rfl .u (Ex.ixS (k := k7) rfl rfl rfl Try.runUnderlying44 Try.sizeOf3 (List.getElem?_eq_some_iff.1 hx17).1) rfl ?_
      refine TL.q rfl .u (Ex.o1 0 rfl Try.isAgg3 z18nf z18cc rfl rfl) rfl ?_
      refine TL.run ft_cursitorref10_ok [4] rfl rfl ?_
      refine TL.nil (X.seq (T.seq (T.seq (T.region rfl ?_))))
      refine TL.run ft_cursitorref10_ok [0, 1] rfl rfl ?_
      by_cases c19 : (k7 : Int) = 3
      · replace h := ifT c19 h
        refine TL.nil (X.seq ?_)
        refine T.yes rfl (decide_eq_true c19) ?_
        refine T.seq (T.seq ?_)
        obtain ⟨y21, h, hk22⟩ := Option.bind_eq_some_iff.1 h
        refine T.jq (fun e Rs => e = [(0, .slice (some ⟨gz18, oz18, none⟩) a0.length c2), (2, .string (bsOf y4)), (3, .bool y5), (4, .slice (some ⟨b3, 0, none⟩) 12 12), (5, .string (bsOf y6)), (6, .int .i64 (k7 : Int)), (7, .int .i64 x16), (24, .bool y21)] ∧ Rs = [OwnR 3 1 intE (.slice (some ⟨b3, 0, none⟩) 12 12) [8, 4, 4, 4, 2, 4, 8, 8, 8, 2, 4, 4], EmpR]) ?_ ?_
        · clear hk22
          refine T.region rfl ?_
          by_cases c23 : x16 < 0
          · replace h := ifT c23 h
            refine TL.run ft_cursitorref10_ok [0, 1, 2] rfl rfl ?_
            refine TL.no rfl (.gn rfl rfl (decide_eq_true c23)) rfl ?_
            refine TL.no rfl (.gn rfl rfl (decide_eq_true c23)) rfl ?_
            refine TL.q rfl .u (Ex.py rfl (decide_eq_true c23) rfl) rfl ?_
            cases h
            exact TL.nil (X.jq [0, 0] ⟨rfl, rfl⟩ (by rfl) (by rfl))
          · replace h := ifF c23 h
            refine TL.run ft_cursitorref10_ok [0, 1, 2] rfl rfl ?_
            refine TL.q rfl (.g rfl rfl (decide_eq_false c23)) (Ex.ft ft_cursitorref10_ok rfl) rfl ?_
            refine TL.q rfl (.g rfl rfl (decide_eq_false c23)) (Ex.ft ft_cursitorref10_ok rfl) rfl ?_
            refine TL.q rfl .u (Ex.pn rfl (decide_eq_false c23) rfl) rfl ?_
            by_cases c24 : x16 > 4294967295
            · replace h := ifT c24 h
              cases h
              exact TL.nil (X.as (d := 24) (v' := .bool true) rfl (congrArg Value.bool (decide_eq_true c24)) (X.jq [0, 0] ⟨rfl, rfl⟩ (by rfl) (by rfl)))
            · replace h := ifF c24 h
              cases h
              exact TL.nil (X.as (d := 24) (v' := .bool false) rfl (congrArg Value.bool (decide_eq_false c24)) (X.jq [0, 0] ⟨rfl, rfl⟩ (by rfl) (by rfl)))
        · rintro _ _ ⟨rfl, rfl⟩
          clear h
          have h := hk22
          clear hk22
          try dsimp only at h
          by_cases c25 : y21 = true
          · replace h := ifT c25 h
            refine X.seq ?_
            refine T.yes rfl c25 ?_
            refine T.seq (T.region rfl ?_)
            refine TL.run ft_cursitorref10_ok [0, 1] rfl rfl ?_
            obtain rfl := Option.some.inj h
            replace h := hO10
            clear hO10
            try dsimp only at h
            obtain rfl := Option.some.inj h
            exact TL.nil (X.seq (T.ret (X.rs (X.rs (X.rb (X.rs (X.rs (X.rb (X.rs (X.done2 [1] Try.results40 (RV.tm rfl) (RV.tm rfl) ⟨rfl, rfl, rfl⟩ (by rfl) (.inl rfl)))))))))))
          · replace h := ifF c25 h
            replace c25 := eq_false_of_ne_true c25
            refine X.seq ?_
            refine T.no rfl c25 ?_
            refine T.skip (X.seq (T.seq (T.seq (T.region rfl ?_))))
            refine TL.run ft_cursitorref10_ok [0, 1] rfl rfl ?_
            refine TL.nil (X.seq ?_)
            obtain ⟨y28, h, hk29⟩ := Option.bind_eq_some_iff.1 h
            refine T.jq (fun e Rs => e = [(0, .slice (some ⟨gz18, oz18, none⟩) a0.length c2), (2, .string (bsOf y4)), (3, .bool y5), (4, .slice (some ⟨b3, 0, none⟩) 12 12), (5, .string (bsOf y6)), (6, .int .i64 (k7 : Int)), (7, .int .i64 y28)] ∧ Rs = [OwnR 3 1 intE (.slice (some ⟨b3, 0, none⟩) 12 12) [8, 4, 4, 4, 2, 4, 8, 8, 8, 2, 4, 4], EmpR]) ?_ ?_
            · clear hk29
              by_cases c30 : x16 > 2147483647
              · replace h := ifT c30 h
                refine T.yes rfl (decide_eq_true c30) ?_
                refine T.region rfl ?_
                replace h := guard_some h
                obtain ⟨c31, h⟩ := h
                refine TL.run ft_cursitorref10_ok [0] rfl rfl ?_
                refine TL.q rfl .u (Ex.sub rfl rfl c31) rfl ?_
                refine TL.run ft_cursitorref10_ok [2] rfl rfl ?_
                cases h
                exact TL.nil (X.jq [0, 0] ⟨rfl, rfl⟩ (by rfl) (by rfl))
              · replace h := ifF c30 h
                refine T.no rfl (decide_eq_false c30) ?_
                cases h
                exact T.skip (X.jq [0, 0] ⟨rfl, rfl⟩ (by rfl) (by rfl))
            · rintro _ _ ⟨rfl, rfl⟩
              clear h
              have h := hk29
              clear hk29
              try dsimp only at h
              refine X.seq (T.region rfl ?_)
              obtain ⟨x32, hx33, h⟩ := Option.bind_eq_some_iff.1 h
              refine TL.run ft_cursitorref10_ok [0] rfl rfl ?_
              refine TL.ce rfl .u (.fn Try.call69 rfl) (gRBytes_spec 2 1 _ hx33) (fun _ hs => (RX.reads_triv _ _)) rfl ?_
              replace h := guard_some h
              obtain ⟨c34, h⟩ := h
              refine TL.q rfl .u (Ex.sAdd rfl rfl c34) rfl ?_
              refine TL.run ft_cursitorref10_ok [3] rfl rfl ?_
              refine TL.nil (X.seq (T.seq (T.seq (T.region rfl ?_))))
              obtain ⟨x35, hx36, h⟩ := Option.bind_eq_some_iff.1 h
              refine TL.run ft_cursitorref10_ok [0, 1, 2] rfl rfl ?_
              refine TL.foc (E := intE) (k := k7) 0 rfl (fun w G h => own_reads (by decide) w G h) (by decide) hx36 ?_
              rintro gg oo z37cs hA z37cl ⟨_, _, z37r⟩
              cases hA
              obtain rfl : z37cs = [.int .i64 x35] := z37r
              clear z37cl
              refine TL.sel [0, 0] rfl ?_
              refine TL.q rfl .u (Ex.ixS (k := k7) rfl rfl rfl Try.runUnderlying44 Try.sizeOf3 (List.getElem?_eq_some_iff.1 hx36).1) rfl ?_
              refine TL.q rfl .u (Ex.k1 (cs := [.int .i64 x35]) 0 0 rfl Try.isAgg3 rfl (fun _ _ h => h.2.2.1) rfl) rfl ?_
              obtain ⟨x38, hx39, h⟩ := Option.bind_eq_some_iff.1 h
              refine TL.ce rfl .u (.fn Try.call70 rfl) (gRFits_spec y28 x35 _ hx39) (fun _ hs => (RX.reads_triv _ _)) rfl ?_
              refine TL.run ft_cursitorref10_ok [6] rfl rfl ?_
              by_cases c40 : x38 = true
              · replace h := ifT c40 h
                refine TL.nil (X.seq ?_)
                refine T.no rfl (bn_f c40) ?_
                refine T.skip (X.seq (T.region rfl ?_))
                refine TL.run ft_cursitorref10_ok [0, 1, 2, 3] rfl rfl ?_
                refine TL.q rfl .u (Ex.ixS (k := k7) rfl rfl rfl Try.runUnderlying44 Try.sizeOf3 (List.getElem?_eq_some_iff.1 hx36).1) rfl ?_
                refine TL.q rfl .u (Ex.k1 (cs := [.int .i64 x35]) 0 0 rfl Try.isAgg3 rfl (fun _ _ h => h.2.2.1) rfl) rfl ?_
                obtain ⟨x41, hx42, h⟩ := Option.bind_eq_some_iff.1 h
                refine TL.ce rfl .u (.fn Try.call69 rfl) (gRBytes_spec y28 x35 _ hx42) (fun _ hs => (RX.reads_triv _ _)) rfl ?_
                replace h := guard_some h
                obtain ⟨c43, h⟩ := h
                refine TL.q rfl .u (Ex.sAdd rfl rfl c43) rfl ?_
                refine TL.run ft_cursitorref10_ok [8] rfl rfl ?_
                refine TL.nil (X.blk (X.seq (T.region rfl ?_)))
                replace h := guard_some h
                obtain ⟨c44, h⟩ := h
                refine TL.run ft_cursitorref10_ok [0] rfl rfl ?_
                refine TL.q rfl .u (Ex.add rfl rfl c44) rfl ?_
                refine TL.run ft_cursitorref10_ok [2] rfl rfl ?_
                refine TL.nil ?_
                refine X.unf 0 rfl ?_
                refine X.sel [0, 0] rfl ?_
                exact X.back (m' := m11) [0, 0] (by omega) ⟨y4, y5, ((y6 ++ x32) ++ x41), k7 + 1, rfl, rfl, h⟩ (by rfl) (by rfl)
              · replace h := ifF c40 h
                replace c40 := eq_false_of_ne_true c40
                refine TL.nil (X.seq ?_)
                refine T.yes rfl (bn_t c40) ?_
                refine T.seq (T.region rfl ?_)
                refine TL.run ft_cursitorref10_ok [0, 1] rfl rfl ?_
                obtain rfl := Option.some.inj h
                replace h := hO10
                clear hO10
                try dsimp only at h
                obtain rfl := Option.some.inj h
                exact TL.nil (X.seq (T.ret (X.rs (X.rb (X.rs (X.rs (X.rb (X.rs (X.done2 [1] Try.results40 (RV.tm rfl) (RV.tm rfl) ⟨rfl, rfl, rfl⟩ (by rfl) (.inl rfl))))))))))
      · replace h := ifF c19 h
        refine TL.nil (X.seq ?_)
        refine T.no rfl (decide_eq_false c19) ?_
        refine T.skip (X.seq (T.seq (T.seq (T.region rfl ?_))))
        obtain ⟨x45, hx46, h⟩ := Option.bind_eq_some_iff.1 h
        refine TL.run ft_cursitorref10_ok [0, 1, 2] rfl rfl ?_
        refine TL.foc (E := intE) (k := k7) 0 rfl (fun w G h => own_reads (by decide) w G h) (by decide) hx46 ?_
        rintro gg oo z47cs hA z47cl ⟨_, _, z47r⟩
        cases hA
        obtain rfl : z47cs = [.int .i64 x45] := z47r
        clear z47cl
        refine TL.sel [0, 0] rfl ?_
        refine TL.q rfl .u (Ex.ixS (k := k7) rfl rfl rfl Try.runUnderlying44 Try.sizeOf3 (List.getElem?_eq_some_iff.1 hx46).1) rfl ?_
        refine TL.q rfl .u (Ex.k1 (cs := [.int .i64 x45]) 0 0 rfl Try.isAgg3 rfl (fun _ _ h => h.2.2.1) rfl) rfl ?_
        obtain ⟨x48, hx49, h⟩ := Option.bind_eq_some_iff.1 h
        refine TL.ce rfl .u (.fn Try.call70 rfl) (gRFits_spec x16 x45 _ hx49) (fun _ hs => (RX.reads_triv _ _)) rfl ?_
        refine TL.run ft_cursitorref10_ok [6] rfl rfl ?_
        by_cases c50 : x48 = true
        · replace h := ifT c50 h
          refine TL.nil (X.seq ?_)
          refine T.no rfl (bn_f c50) ?_
          refine T.skip (X.seq (T.region rfl ?_))
          refine TL.run ft_cursitorref10_ok [0, 1, 2, 3] rfl rfl ?_
          refine TL.q rfl .u (Ex.ixS (k := k7) rfl rfl rfl Try.runUnderlying44 Try.sizeOf3 (List.getElem?_eq_some_iff.1 hx46).1) rfl ?_
          refine TL.q rfl .u (Ex.k1 (cs := [.int .i64 x45]) 0 0 rfl Try.isAgg3 rfl (fun _ _ h => h.2.2.1) rfl) rfl ?_
          obtain ⟨x51, hx52, h⟩ := Option.bind_eq_some_iff.1 h
          refine TL.ce rfl .u (.fn Try.call69 rfl) (gRBytes_spec x16 x45 _ hx52) (fun _ hs => (RX.reads_triv _ _)) rfl ?_
          replace h := guard_some h
          obtain ⟨c53, h⟩ := h
          refine TL.q rfl .u (Ex.sAdd rfl rfl c53) rfl ?_
          refine TL.run ft_cursitorref10_ok [8] rfl rfl ?_
          refine TL.nil (X.blk (X.seq (T.region rfl ?_)))
          replace h := guard_some h
          obtain ⟨c54, h⟩ := h
          refine TL.run ft_cursitorref10_ok [0] rfl rfl ?_
          refine TL.q rfl .u (Ex.add rfl rfl c54) rfl ?_
          refine TL.run ft_cursitorref10_ok [2] rfl rfl ?_
          refine TL.nil ?_
          refine X.unf 0 rfl ?_
          refine X.sel [0, 0] rfl ?_
          exact X.back (m' := m11) [0, 0] (by omega) ⟨y4, y5, (y6 ++ x51), k7 + 1, rfl, rfl, h⟩ (by rfl) (by rfl)
        · replace h := ifF c50 h
          replace c50 := eq_false_of_ne_true c50
          refine TL.nil (X.seq ?_)
          refine T.yes rfl (bn_t c50) ?_
          refine T.seq (T.region rfl ?_)
          refine TL.run ft_cursitorref10_ok [0, 1] rfl rfl ?_
          obtain rfl := Option.some.inj h
          replace h := hO10
          clear hO10
          try dsimp only at h
          obtain rfl := Option.some.inj h
          exact TL.nil (X.seq (T.ret (X.rs (X.rb (X.rs (X.rs (X.rb (X.rs (X.done2 [1] Try.results40 (RV.tm rfl) (RV.tm rfl) ⟨rfl, rfl, rfl⟩ (by rfl) (.inl rfl))))))))))
    · replace h := ifF c15 h
      refine TL.nil (X.seq ?_)
      refine T.no rfl (decide_eq_false c15) ?_
      obtain rfl := Option.some.inj h
      replace h := hO10
      clear hO10
      try dsimp only at h
      refine T.exit (X.exs (X.exs (X.ex (X.seq (T.seq (T.region rfl ?_))))))
      refine TL.run ft_cursitorref10_ok [0, 1, 2] rfl rfl ?_
      obtain rfl := Option.some.inj h
      exact TL.nil (X.seq (T.ret (X.done2 [1] Try.results40 (RV.tm rfl) (RV.tm rfl) ⟨rfl, rfl, rfl⟩ (by rfl) (.inl rfl))))
end Go.Proofs.Ytahjmpipllajcaa.Sl
namespace Go.Proofs.Ytahjmpipllajcaa.Sl
open Go.RowKit
set_option linter.unusedVariables false
set_option linter.unusedSimpArgs false
set_option maxRecDepth 100000
def ft_cursitorref11 : FTab := [(36, 0, 0), (36, 1, 1), (36, 2, 2), (36, 3, 3), (36, 4, 4), (36, 5, 5), (36, 6, 6), (36, 7, 7), (36, 8, 8), (36, 9, 9), (36, 10, 10), (36, 11, 11), (83, 0, 0), (83, 1, 1)]
theorem ft_cursitorref11_ok : (ft_cursitorref11).OK Try.prog := ⟨FOK.mk Try.runUnderlying36 rfl Try.sizeOf3 rfl, FOK.mk Try.runUnderlying36 rfl Try.sizeOf3 rfl, FOK.mk Try.runUnderlying36 rfl Try.sizeOf4 rfl, FOK.mk Try.runUnderlying36 rfl Try.sizeOf4 rfl, FOK.mk Try.runUnderlying36 rfl Try.sizeOf4 rfl, FOK.mk Try.runUnderlying36 rfl Try.sizeOf3 rfl, FOK.mk Try.runUnderlying36 rfl Try.sizeOf3 rfl, FOK.mk Try.runUnderlying36 rfl Try.sizeOf3 rfl, FOK.mk Try.runUnderlying36 rfl Try.sizeOf3 rfl, FOK.mk Try.runUnderlying36 rfl Try.sizeOf3 rfl, FOK.mk Try.runUnderlying36 rfl Try.sizeOf3 rfl, FOK.mk Try.runUnderlying36 rfl Try.sizeOf34 rfl, FOK.mk Try.runUnderlying83 rfl Try.sizeOf3 rfl, FOK.mk Try.runUnderlying83 rfl Try.sizeOf3 rfl, trivial⟩
theorem mix_cursitorref11 : Try.prog.follows .mixedOrders = true := by kernel_rfl
theorem sok_cursitorref11_44_12 : SOK Try.prog 44 3 12 1 #[.int .i64 0, .int .i64 0, .int .i64 0, .int .i64 0, .int .i64 0, .int .i64 0, .int .i64 0, .int .i64 0, .int .i64 0, .int .i64 0, .int .i64 0, .int .i64 0] := SOK.mk Try.runUnderlying44 Try.sizeOf3 Try.zeroValue3 (by decide) (by kernel_rfl)
def f_r11_int32s (a0 : Int) (a1 : Int) : Option (Bool) := if a0 ≥ a1 then (if a0 ≤ 2147483647 then some true else some false) else some false
set_option maxRecDepth 100000 in
set_option maxHeartbeats 4000000 in
theorem f_r11_int32s_spec (a0 : Int) (a1 : Int) (r : Bool) (h : f_r11_int32s a0 a1 = some r) : SpecX Try.prog 34 #[.int .i64 a0, .int .i64 a1] .triv (EmpR) (fun v A' N => v = .bool r ∧ A' = EmpR ∧ N = []) := by
  refine enterA Try.func34 rfl Try.ntmps34 rfl ?_
  intro F w hX
  unfold f_r11_int32s at h
  refine T.seq (T.region rfl ?_)
  refine TL.run ft_cursitorref11_ok [0] rfl rfl ?_
  refine TL.nil (X.seq (T.seq (T.region rfl ?_)))
  by_cases c1 : a0 ≥ a1
  · replace h := ifT c1 h
    refine TL.run ft_cursitorref11_ok [0, 1, 2, 3] rfl rfl ?_
    refine TL.q rfl (.g rfl rfl (decide_eq_true c1)) (Ex.ft ft_cursitorref11_ok rfl) rfl ?_
    refine TL.q rfl (.g rfl rfl (decide_eq_true c1)) (Ex.ft ft_cursitorref11_ok rfl) rfl ?_
    refine TL.q rfl .u (Ex.py rfl (decide_eq_true c1) rfl) rfl ?_
    refine TL.run ft_cursitorref11_ok [7] rfl rfl ?_
    by_cases c2 : a0 ≤ 2147483647
    · replace h := ifT c2 h
      obtain rfl := Option.some.inj h
      exact TL.nil (X.seq (T.ret (X.done1 [0] Try.results34 (RV.tm (v := .bool true) (congrArg (fun b => some (Value.bool b)) (decide_eq_true c2))) ⟨rfl, rfl, rfl⟩ (by rfl) (.inl rfl))))
    · replace h := ifF c2 h
      obtain rfl := Option.some.inj h
      exact TL.nil (X.seq (T.ret (X.done1 [0] Try.results34 (RV.tm (v := .bool false) (congrArg (fun b => some (Value.bool b)) (decide_eq_false c2))) ⟨rfl, rfl, rfl⟩ (by rfl) (.inl rfl))))
  · replace h := ifF c1 h
    refine TL.run ft_cursitorref11_ok [0, 1, 2, 3] rfl rfl ?_
    refine TL.no rfl (.gn rfl rfl (decide_eq_false c1)) rfl ?_
    refine TL.no rfl (.gn rfl rfl (decide_eq_false c1)) rfl ?_
    refine TL.q rfl .u (Ex.pn rfl (decide_eq_false c1) rfl) rfl ?_
    refine TL.run ft_cursitorref11_ok [7] rfl rfl ?_
    obtain rfl := Option.some.inj h
    exact TL.nil (X.seq (T.ret (X.done1 [0] Try.results34 (RV.tm rfl) ⟨rfl, rfl, rfl⟩ (by rfl) (.inl rfl))))
def f_r11_producer (a0 : Bat) : Option (Bool) := if a0.fProducer = (-1) then (if a0.fEpoch = (-1) then (if a0.fSequence = (-1) then (if a0.fTxn = true then some false else some true) else some false) else some false) else (if a0.fProducer < 0 then some false else (if a0.fEpoch < 0 then some false else (if a0.fEpoch > 32767 then some false else (if a0.fControl = true then (if a0.fSequence = (-1) then some true else some false) else ((f_r11_int32s a0.fSequence 0).bind fun x13 => some x13)))))
set_option maxRecDepth 100000 in
set_option maxHeartbeats 4000000 in
theorem f_r11_producer_spec (a0 : Bat) (A1 : Option Addr) (c2 : Nat) (r : Bool) (h : f_r11_producer a0 = some r) : SpecX Try.prog 35 #[.agg #[.int .i64 a0.fBase, .int .i64 a0.fLeader, .bool a0.fAppend, .bool a0.fTxn, .bool a0.fControl, .int .i64 a0.fLast, .int .i64 a0.fFirst, .int .i64 a0.fMax, .int .i64 a0.fProducer, .int .i64 a0.fEpoch, .int .i64 a0.fSequence, .slice A1 a0.fRecords.length c2]] (RX.of (sliceRd 7 Rec_rd) [.slice A1 a0.fRecords.length c2] a0.fRecords) (EmpR) (fun v A' N => v = .bool r ∧ A' = EmpR ∧ N = []) := by
  refine enterA Try.func35 rfl Try.ntmps35 rfl ?_
  intro F w hX
  unfold f_r11_producer at h
  refine T.seq (T.region rfl ?_)
  refine TL.box rfl .u rfl rfl (fun b3 => ?_)
  refine TL.run ft_cursitorref11_ok [1] rfl rfl ?_
  refine TL.nil (X.seq (T.seq (T.seq (T.region rfl ?_))))
  refine TL.run ft_cursitorref11_ok [0] rfl rfl ?_
  refine TL.q rfl .u (Ex.b1 0 rfl Try.isAgg3 rfl rfl) rfl ?_
  refine TL.run ft_cursitorref11_ok [2] rfl rfl ?_
  by_cases c4 : a0.fProducer = (-1)
  · replace h := ifT c4 h
    refine TL.nil (X.seq ?_)
    refine T.yes rfl (decide_eq_true c4) ?_
    refine T.seq (T.region rfl ?_)
    refine TL.run ft_cursitorref11_ok [0] rfl rfl ?_
    refine TL.q rfl .u (Ex.b1 0 rfl Try.isAgg3 rfl rfl) rfl ?_
    by_cases c5 : a0.fEpoch = (-1)
    · replace h := ifT c5 h
      refine TL.run ft_cursitorref11_ok [2, 3] rfl rfl ?_
      refine TL.q rfl (.g rfl rfl (decide_eq_true c5)) (Ex.ft ft_cursitorref11_ok rfl) rfl ?_
      refine TL.q rfl (.g rfl rfl (decide_eq_true c5)) (Ex.b1 0 rfl Try.isAgg3 rfl rfl) rfl ?_
      refine TL.q rfl (.g rfl rfl (decide_eq_true c5)) (Ex.ft ft_cursitorref11_ok rfl) rfl ?_
      refine TL.q rfl .u (Ex.py rfl (decide_eq_true c5) rfl) rfl ?_
      by_cases c6 : a0.fSequence = (-1)
      · replace h := ifT c6 h
        refine TL.run ft_cursitorref11_ok [8] rfl rfl ?_
        refine TL.q rfl (.g rfl rfl (decide_eq_true c6)) (Ex.ft ft_cursitorref11_ok rfl) rfl ?_
        refine TL.q rfl (.g rfl rfl (decide_eq_true c6)) (Ex.b1 0 rfl Try.isAgg4 rfl rfl) rfl ?_
        refine TL.q rfl (.g rfl rfl (decide_eq_true c6)) (Ex.ft ft_cursitorref11_ok rfl) rfl ?_
        refine TL.q rfl .u (Ex.py rfl (decide_eq_true c6) rfl) rfl ?_
        refine TL.run ft_cursitorref11_ok [13] rfl rfl ?_
        by_cases c7 : a0.fTxn = true
        · replace h := ifT c7 h
          obtain rfl := Option.some.inj h
          exact TL.nil (X.seq (T.ret (X.rs (X.done1 [1] Try.results35 (RV.tm (v := .bool false) (congrArg (fun b => some (Value.bool b)) (bn_f c7))) ⟨rfl, rfl, rfl⟩ (by rfl) (.inl rfl)))))
        · replace h := ifF c7 h
          replace c7 := eq_false_of_ne_true c7
          obtain rfl := Option.some.inj h
          exact TL.nil (X.seq (T.ret (X.rs (X.done1 [1] Try.results35 (RV.tm (v := .bool true) (congrArg (fun b => some (Value.bool b)) (bn_t c7))) ⟨rfl, rfl, rfl⟩ (by rfl) (.inl rfl)))))
      · replace h := ifF c6 h
        refine TL.run ft_cursitorref11_ok [8] rfl rfl ?_
        refine TL.no rfl (.gn rfl rfl (decide_eq_false c6)) rfl ?_
        refine TL.no rfl (.gn rfl rfl (decide_eq_false c6)) rfl ?_
        refine TL.no rfl (.gn rfl rfl (decide_eq_false c6)) rfl ?_
        refine TL.q rfl .u (Ex.pn rfl (decide_eq_false c6) rfl) rfl ?_
        refine TL.run ft_cursitorref11_ok [13] rfl rfl ?_
        obtain rfl := Option.some.inj h
        exact TL.nil (X.seq (T.ret (X.rs (X.done1 [1] Try.results35 (RV.tm rfl) ⟨rfl, rfl, rfl⟩ (by rfl) (.inl rfl)))))
    · replace h := ifF c5 h
      refine TL.run ft_cursitorref11_ok [2, 3] rfl rfl ?_
      refine TL.no rfl (.gn rfl rfl (decide_eq_false c5)) rfl ?_
      refine TL.no rfl (.gn rfl rfl (decide_eq_false c5)) rfl ?_
      refine TL.no rfl (.gn rfl rfl (decide_eq_false c5)) rfl ?_
      refine TL.q rfl .u (Ex.pn rfl (decide_eq_false c5) rfl) rfl ?_
      refine TL.run ft_cursitorref11_ok [8] rfl rfl ?_
      refine TL.no rfl (.gn rfl rfl rfl) rfl ?_
      refine TL.no rfl (.gn rfl rfl rfl) rfl ?_
      refine TL.no rfl (.gn rfl rfl rfl) rfl ?_
      refine TL.q rfl .u (Ex.pn rfl rfl rfl) rfl ?_
      refine TL.run ft_cursitorref11_ok [13] rfl rfl ?_
      obtain rfl := Option.some.inj h
      exact TL.nil (X.seq (T.ret (X.rs (X.done1 [1] Try.results35 (RV.tm rfl) ⟨rfl, rfl, rfl⟩ (by rfl) (.inl rfl)))))
  · replace h := ifF c4 h
    refine TL.nil (X.seq ?_)
    refine T.no rfl (decide_eq_false c4) ?_
    refine T.skip (X.seq (T.seq (T.seq (T.region rfl ?_))))
    refine TL.run ft_cursitorref11_ok [0] rfl rfl ?_
    refine TL.q rfl .u (Ex.b1 0 rfl Try.isAgg3 rfl rfl) rfl ?_
    by_cases c8 : a0.fProducer < 0
    · replace h := ifT c8 h
      refine TL.run ft_cursitorref11_ok [2, 3] rfl rfl ?_
      refine TL.no rfl (.gn rfl rfl (decide_eq_true c8)) rfl ?_
      refine TL.no rfl (.gn rfl rfl (decide_eq_true c8)) rfl ?_
      refine TL.no rfl (.gn rfl rfl (decide_eq_true c8)) rfl ?_
      refine TL.q rfl .u (Ex.py rfl (decide_eq_true c8) rfl) rfl ?_
      refine TL.run ft_cursitorref11_ok [8] rfl rfl ?_
      refine TL.no rfl (.gn rfl rfl rfl) rfl ?_
      refine TL.no rfl (.gn rfl rfl rfl) rfl ?_
      refine TL.no rfl (.gn rfl rfl rfl) rfl ?_
      refine TL.q rfl .u (Ex.py rfl rfl rfl) rfl ?_
      refine TL.nil (X.seq ?_)
      refine T.yes rfl rfl ?_
      refine T.seq (T.region rfl ?_)
      refine TL.run ft_cursitorref11_ok [0] rfl rfl ?_
      obtain rfl := Option.some.inj h
      exact TL.nil (X.seq (T.ret (X.rs (X.done1 [1] Try.results35 (RV.tm rfl) ⟨rfl, rfl, rfl⟩ (by rfl) (.inl rfl)))))
    · replace h := ifF c8 h
      refine TL.run ft_cursitorref11_ok [2, 3] rfl rfl ?_
      refine TL.q rfl (.g rfl rfl (decide_eq_false c8)) (Ex.ft ft_cursitorref11_ok rfl) rfl ?_
      refine TL.q rfl (.g rfl rfl (decide_eq_false c8)) (Ex.b1 0 rfl Try.isAgg3 rfl rfl) rfl ?_
      refine TL.q rfl (.g rfl rfl (decide_eq_false c8)) (Ex.ft ft_cursitorref11_ok rfl) rfl ?_
      refine TL.q rfl .u (Ex.pn rfl (decide_eq_false c8) rfl) rfl ?_
      by_cases c9 : a0.fEpoch < 0
      · replace h := ifT c9 h
        refine TL.run ft_cursitorref11_ok [8] rfl rfl ?_
        refine TL.no rfl (.gn rfl rfl (decide_eq_true c9)) rfl ?_
        refine TL.no rfl (.gn rfl rfl (decide_eq_true c9)) rfl ?_
        refine TL.no rfl (.gn rfl rfl (decide_eq_true c9)) rfl ?_
        refine TL.q rfl .u (Ex.py rfl (decide_eq_true c9) rfl) rfl ?_
        refine TL.nil (X.seq ?_)
        refine T.yes rfl rfl ?_
        refine T.seq (T.region rfl ?_)
        refine TL.run ft_cursitorref11_ok [0] rfl rfl ?_
        obtain rfl := Option.some.inj h
        exact TL.nil (X.seq (T.ret (X.rs (X.done1 [1] Try.results35 (RV.tm rfl) ⟨rfl, rfl, rfl⟩ (by rfl) (.inl rfl)))))
      · replace h := ifF c9 h
        refine TL.run ft_cursitorref11_ok [8] rfl rfl ?_
        refine TL.q rfl (.g rfl rfl (decide_eq_false c9)) (Ex.ft ft_cursitorref11_ok rfl) rfl ?_
        refine TL.q rfl (.g rfl rfl (decide_eq_false c9)) (Ex.b1 0 rfl Try.isAgg3 rfl rfl) rfl ?_
        refine TL.q rfl (.g rfl rfl (decide_eq_false c9)) (Ex.ft ft_cursitorref11_ok rfl) rfl ?_
        refine TL.q rfl .u (Ex.pn rfl (decide_eq_false c9) rfl) rfl ?_
        by_cases c10 : a0.fEpoch > 32767
        · replace h := ifT c10 h
          refine TL.nil (X.seq ?_)
          refine T.yes rfl (decide_eq_true c10) ?_
          refine T.seq (T.region rfl ?_)
          refine TL.run ft_cursitorref11_ok [0] rfl rfl ?_
          obtain rfl := Option.some.inj h
          exact TL.nil (X.seq (T.ret (X.rs (X.done1 [1] Try.results35 (RV.tm rfl) ⟨rfl, rfl, rfl⟩ (by rfl) (.inl rfl)))))
        · replace h := ifF c10 h
          refine TL.nil (X.seq ?_)
          refine T.no rfl (decide_eq_false c10) ?_
          refine T.skip (X.seq (T.seq (T.seq (T.region rfl ?_))))
          refine TL.run ft_cursitorref11_ok [0] rfl rfl ?_
          refine TL.q rfl .u (Ex.b1 0 rfl Try.isAgg4 rfl rfl) rfl ?_
          by_cases c11 : a0.fControl = true
          · replace h := ifT c11 h
            refine TL.nil (X.seq ?_)
            refine T.yes rfl c11 ?_
            refine T.seq (T.region rfl ?_)
            refine TL.run ft_cursitorref11_ok [0] rfl rfl ?_
            refine TL.q rfl .u (Ex.b1 0 rfl Try.isAgg3 rfl rfl) rfl ?_
            refine TL.run ft_cursitorref11_ok [2, 3] rfl rfl ?_
            by_cases c12 : a0.fSequence = (-1)
            · replace h := ifT c12 h
              obtain rfl := Option.some.inj h
              exact TL.nil (X.seq (T.ret (X.rs (X.done1 [1] Try.results35 (RV.tm (v := .bool true) (congrArg (fun b => some (Value.bool b)) (decide_eq_true c12))) ⟨rfl, rfl, rfl⟩ (by rfl) (.inl rfl)))))
            · replace h := ifF c12 h
              obtain rfl := Option.some.inj h
              exact TL.nil (X.seq (T.ret (X.rs (X.done1 [1] Try.results35 (RV.tm (v := .bool false) (congrArg (fun b => some (Value.bool b)) (decide_eq_false c12))) ⟨rfl, rfl, rfl⟩ (by rfl) (.inl rfl)))))
          · replace h := ifF c11 h
            replace c11 := eq_false_of_ne_true c11
            refine TL.nil (X.seq ?_)
            refine T.no rfl c11 ?_
            refine T.skip (X.seq (T.seq (T.region rfl ?_)))
            refine TL.run ft_cursitorref11_ok [0] rfl rfl ?_
            refine TL.q rfl .u (Ex.b1 0 rfl Try.isAgg3 rfl rfl) rfl ?_
            obtain ⟨x13, hx14, h⟩ := Option.bind_eq_some_iff.1 h
            refine TL.ce rfl .u (.fn Try.call34 rfl) (f_r11_int32s_spec a0.fSequence 0 _ hx14) (fun _ hs => (RX.reads_triv _ _)) rfl ?_
            refine TL.run ft_cursitorref11_ok [3] rfl rfl ?_
            obtain rfl := Option.some.inj h
            exact TL.nil (X.seq (T.ret (X.done1 [1] Try.results35 (RV.tm rfl) ⟨rfl, rfl, rfl⟩ (by rfl) (.inl rfl))))
def f_r11_times_l1 (a0 : Bat) : Nat → Int → Int → Nat → Option (Lp Int (Int × Int × Nat))
  | 0, _, _, _ => none
  | m10 + 1, y4, y5, k6 => if (k6 : Int) < (a0.fRecords.length : Int) then ((a0.fRecords[k6]?).bind fun x15 => if -9223372036854775808 ≤ (9223372036854775807 - a0.fFirst) ∧ (9223372036854775807 - a0.fFirst) ≤ 9223372036854775807 then (if x15.fTime > (9223372036854775807 - a0.fFirst) then (some (Lp.ret (-1))) else (if -9223372036854775808 ≤ (-a0.fFirst) ∧ (-a0.fFirst) ≤ 9223372036854775807 then (if x15.fTime < (-a0.fFirst) then (some (Lp.ret (-1))) else (if -9223372036854775808 ≤ (a0.fFirst + x15.fTime) ∧ (a0.fFirst + x15.fTime) ≤ 9223372036854775807 then (if (a0.fFirst + x15.fTime) > y5 then (if -9223372036854775808 ≤ (a0.fFirst + x15.fTime) ∧ (a0.fFirst + x15.fTime) ≤ 9223372036854775807 then (if -9223372036854775808 ≤ ((k6 : Int) + 1) ∧ ((k6 : Int) + 1) ≤ 9223372036854775807 then (f_r11_times_l1 a0 m10 y4 (a0.fFirst + x15.fTime) (k6 + 1)) else none) else none) else (if -9223372036854775808 ≤ ((k6 : Int) + 1) ∧ ((k6 : Int) + 1) ≤ 9223372036854775807 then (f_r11_times_l1 a0 m10 y4 y5 (k6 + 1)) else none)) else none)) else none)) else none) else (some (Lp.go (y4, y5, k6)))
def f_r11_times (a0 : Bat) : Option (Int) := (f_r11_times_l1 a0 (((a0.fRecords.length : Int)).toNat + 1) 0 a0.fFirst 0).bind fun e => match e with | .ret r => some r | .go (y30, y31, k32) => some y31
set_option maxRecDepth 100000 in
set_option maxHeartbeats 4000000 in
theorem f_r11_times_spec (a0 : Bat) (A1 : Option Addr) (c2 : Nat) (r : Int) (h : f_r11_times a0 = some r) : SpecX Try.prog 65 #[.agg #[.int .i64 a0.fBase, .int .i64 a0.fLeader, .bool a0.fAppend, .bool a0.fTxn, .bool a0.fControl, .int .i64 a0.fLast, .int .i64 a0.fFirst, .int .i64 a0.fMax, .int .i64 a0.fProducer, .int .i64 a0.fEpoch, .int .i64 a0.fSequence, .slice A1 a0.fRecords.length c2]] (RX.of (sliceRd 7 Rec_rd) [.slice A1 a0.fRecords.length c2] a0.fRecords) (EmpR) (fun v A' N => v = .int .i64 r ∧ A' = EmpR ∧ N = []) := by
  refine enterA Try.func65 rfl Try.ntmps65 rfl ?_
  intro F w hX
  unfold f_r11_times at h
  refine T.seq (T.region rfl ?_)
  refine TL.box rfl .u rfl rfl (fun b3 => ?_)
  refine TL.run ft_cursitorref11_ok [1] rfl rfl ?_
  refine TL.nil (X.seq (T.seq (T.region rfl ?_)))
  refine TL.run ft_cursitorref11_ok [0] rfl rfl ?_
  refine TL.q rfl .u (Ex.b1 0 rfl Try.isAgg3 rfl rfl) rfl ?_
  refine TL.run ft_cursitorref11_ok [2] rfl rfl ?_
  refine TL.nil (X.seq (T.seq (T.seq (T.region rfl ?_))))
  refine TL.run ft_cursitorref11_ok [0] rfl rfl ?_
  refine TL.nil (X.seq (T.block ?_))
  obtain ⟨E7, hE8, hO9⟩ := Option.bind_eq_some_iff.1 h
  refine T.lp (fun m e Rs => ∃ (y4 : Int) (y5 : Int) (k6 : Nat), e = [(1, .pointer (some ⟨b3, 0, none⟩)), (2, .int .i64 y4), (3, .int .i64 y5), (4, .int .i64 (k6 : Int))] ∧ Rs = [BlkR b3 36 #[.int .i64 a0.fBase, .int .i64 a0.fLeader, .bool a0.fAppend, .bool a0.fTxn, .bool a0.fControl, .int .i64 a0.fLast, .int .i64 a0.fFirst, .int .i64 a0.fMax, .int .i64 a0.fProducer, .int .i64 a0.fEpoch, .int .i64 a0.fSequence, .slice A1 a0.fRecords.length c2], EmpR] ∧ f_r11_times_l1 a0 m y4 y5 k6 = some E7) (((a0.fRecords.length : Int)).toNat + 1) [0, 0] ⟨0, a0.fFirst, 0, rfl, rfl, by exact hE8⟩ (by rfl) (by rfl) ?_
  rintro m10 _ _ ⟨y4, y5, k6, rfl, rfl, hl12⟩
  clear hE8 h
  cases m10 with
  | zero =>
    rw [f_r11_times_l1] at hl12
    cases hl12
  | succ m10 =>
    have h := hl12
    clear hl12
    rw [f_r11_times_l1] at h
    refine T.seq (T.seq (T.region rfl ?_))
    refine TL.run ft_cursitorref11_ok [0, 1] rfl rfl ?_
    refine TL.q rfl .u (Ex.b1 0 rfl Try.isAgg34 rfl rfl) rfl ?_
    refine TL.q rfl .u (Ex.lenS rfl Try.runUnderlying34) rfl ?_
    refine TL.run ft_cursitorref11_ok [4] rfl rfl ?_
    by_cases c14 : (k6 : Int) < (a0.fRecords.length : Int)
    · replace h := ifT c14 h
      refine TL.nil (X.seq ?_)
      refine T.yes rfl (decide_eq_true c14) ?_
      refine T.skip (X.seq (T.seq (T.block (T.seq (T.region rfl ?_)))))
      refine TL.run ft_cursitorref11_ok [0] rfl rfl ?_
      refine TL.q rfl .u (Ex.b1 0 rfl Try.isAgg34 rfl rfl) rfl ?_
      obtain ⟨x15, hx16, h⟩ := Option.bind_eq_some_iff.1 h
      obtain ⟨gz17, oz17, rfl, z17cs, z17cl, z17cc, z17nf, z17r⟩ := RX.elem (by decide) hX hx16
      obtain ⟨z17S, z17r, z17rr⟩ := z17r
      obtain ⟨A18, c19, rfl, z17s0⟩ := z17r
      have hX20 : (RX.of (sliceRd 3 Hd_rd) [.slice A18 x15.fHeaders.length c19] x15.fHeaders).reads w F := ⟨z17S, z17s0, z17rr⟩
      refine TL.run ft_cursitorref11_ok [2] rfl rfl ?_
      refine TL.q rfl .u (Ex.ixS (k := k6) rfl rfl rfl Try.runUnderlying34 Try.sizeOf83 (List.getElem?_eq_some_iff.1 hx16).1) rfl ?_
      refine TL.run ft_cursitorref11_ok [4] rfl rfl ?_
      refine TL.q rfl .u (Ex.o1 0 rfl Try.isAgg3 z17nf z17cc rfl rfl) rfl ?_
      refine TL.run ft_cursitorref11_ok [6] rfl rfl ?_
      refine TL.nil (X.seq (T.seq (T.seq (T.region rfl ?_))))
      refine TL.run ft_cursitorref11_ok [0, 1] rfl rfl ?_
      refine TL.q rfl .u (Ex.b1 0 rfl Try.isAgg3 rfl rfl) rfl ?_
      replace h := guard_some h
      obtain ⟨c21, h⟩ := h
      refine TL.q rfl .u (Ex.sub rfl rfl c21) rfl ?_
      by_cases c22 : x15.fTime > (9223372036854775807 - a0.fFirst)
      · replace h := ifT c22 h
        refine TL.run ft_cursitorref11_ok [4, 5] rfl rfl ?_
        refine TL.no rfl (.gn rfl rfl (decide_eq_true c22)) rfl ?_
        refine TL.no rfl (.gn rfl rfl (decide_eq_true c22)) rfl ?_
        refine TL.no rfl (.gn rfl rfl (decide_eq_true c22)) rfl ?_
        refine TL.no rfl (.gn rfl rfl (decide_eq_true c22)) rfl ?_
        refine TL.no rfl (.gn rfl rfl (decide_eq_true c22)) rfl ?_
        refine TL.q rfl .u (Ex.py rfl (decide_eq_true c22) rfl) rfl ?_
        refine TL.nil (X.seq ?_)
        refine T.yes rfl rfl ?_
        refine T.seq (T.region rfl ?_)
        refine TL.run ft_cursitorref11_ok [0] rfl rfl ?_
        obtain rfl := Option.some.inj h
        replace h := hO9
        clear hO9
        try dsimp only at h
        obtain rfl := Option.some.inj h
        exact TL.nil (X.seq (T.ret (X.rs (X.rb (X.rs (X.rs (X.rb (X.rs (X.done1 [1] Try.results65 (RV.tm rfl) ⟨rfl, rfl, rfl⟩ (by rfl) (.inl rfl))))))))))
      · replace h := ifF c22 h
        refine TL.run ft_cursitorref11_ok [4, 5] rfl rfl ?_
        refine TL.q rfl (.g rfl rfl (decide_eq_false c22)) (Ex.ft ft_cursitorref11_ok rfl) rfl ?_
        refine TL.q rfl (.g rfl rfl (decide_eq_false c22)) (Ex.ft ft_cursitorref11_ok rfl) rfl ?_
        refine TL.q rfl (.g rfl rfl (decide_eq_false c22)) (Ex.b1 0 rfl Try.isAgg3 rfl rfl) rfl ?_
        replace h := guard_some h
        obtain ⟨c23, h⟩ := h
        refine TL.q rfl (.g rfl rfl (decide_eq_false c22)) (Ex.neg rfl c23) rfl ?_
        refine TL.q rfl (.g rfl rfl (decide_eq_false c22)) (Ex.ft ft_cursitorref11_ok rfl) rfl ?_
        refine TL.q rfl .u (Ex.pn rfl (decide_eq_false c22) rfl) rfl ?_
        by_cases c24 : x15.fTime < (-a0.fFirst)
        · replace h := ifT c24 h
          refine TL.nil (X.seq ?_)
          refine T.yes rfl (decide_eq_true c24) ?_
          refine T.seq (T.region rfl ?_)
          refine TL.run ft_cursitorref11_ok [0] rfl rfl ?_
          obtain rfl := Option.some.inj h
          replace h := hO9
          clear hO9
          try dsimp only at h
          obtain rfl := Option.some.inj h
          exact TL.nil (X.seq (T.ret (X.rs (X.rb (X.rs (X.rs (X.rb (X.rs (X.done1 [1] Try.results65 (RV.tm rfl) ⟨rfl, rfl, rfl⟩ (by rfl) (.inl rfl))))))))))
        · replace h := ifF c24 h
          refine TL.nil (X.seq ?_)
          refine T.no rfl (decide_eq_false c24) ?_
          refine T.skip (X.seq (T.seq (T.region rfl ?_)))
          refine TL.run ft_cursitorref11_ok [0] rfl rfl ?_
          refine TL.q rfl .u (Ex.b1 0 rfl Try.isAgg3 rfl rfl) rfl ?_
          replace h := guard_some h
          obtain ⟨c25, h⟩ := h
          refine TL.run ft_cursitorref11_ok [2] rfl rfl ?_
          refine TL.q rfl .u (Ex.add rfl rfl c25) rfl ?_
          refine TL.run ft_cursitorref11_ok [4, 5] rfl rfl ?_
          by_cases c26 : (a0.fFirst + x15.fTime) > y5
          · replace h := ifT c26 h
            refine TL.nil (X.seq ?_)
            refine T.yes rfl (decide_eq_true c26) ?_
            refine T.region rfl ?_
            refine TL.run ft_cursitorref11_ok [0] rfl rfl ?_
            refine TL.q rfl .u (Ex.b1 0 rfl Try.isAgg3 rfl rfl) rfl ?_
            replace h := guard_some h
            obtain ⟨c27, h⟩ := h
            refine TL.run ft_cursitorref11_ok [2] rfl rfl ?_
            refine TL.q rfl .u (Ex.add rfl rfl c27) rfl ?_
            refine TL.run ft_cursitorref11_ok [4] rfl rfl ?_
            refine TL.nil (X.blk (X.seq (T.region rfl ?_)))
            replace h := guard_some h
            obtain ⟨c28, h⟩ := h
            refine TL.run ft_cursitorref11_ok [0] rfl rfl ?_
            refine TL.q rfl .u (Ex.add rfl rfl c28) rfl ?_
            refine TL.run ft_cursitorref11_ok [2] rfl rfl ?_
            exact TL.nil (X.back (m' := m10) [0, 0] (by omega) ⟨y4, (a0.fFirst + x15.fTime), k6 + 1, rfl, rfl, h⟩ (by rfl) (by rfl))
          · replace h := ifF c26 h
            refine TL.nil (X.seq ?_)
            refine T.no rfl (decide_eq_false c26) ?_
            refine T.skip (X.blk (X.seq (T.region rfl ?_)))
            replace h := guard_some h
            obtain ⟨c29, h⟩ := h
            refine TL.run ft_cursitorref11_ok [0] rfl rfl ?_
            refine TL.q rfl .u (Ex.add rfl rfl c29) rfl ?_
            refine TL.run ft_cursitorref11_ok [2] rfl rfl ?_
            exact TL.nil (X.back (m' := m10) [0, 0] (by omega) ⟨y4, y5, k6 + 1, rfl, rfl, h⟩ (by rfl) (by rfl))
    · replace h := ifF c14 h
      refine TL.nil (X.seq ?_)
      refine T.no rfl (decide_eq_false c14) ?_
      obtain rfl := Option.some.inj h
      replace h := hO9
      clear hO9
      try dsimp only at h
      refine T.exit (X.exs (X.exs (X.ex (X.seq (T.seq (T.region rfl ?_))))))
      refine TL.run ft_cursitorref11_ok [0, 1] rfl rfl ?_
      obtain rfl := Option.some.inj h
      exact TL.nil (X.seq (T.ret (X.done1 [1] Try.results65 (RV.tm rfl) ⟨rfl, rfl, rfl⟩ (by rfl) (.inl rfl))))
def f_r11_orders_l1 (a0 : Bat) : Nat → Int → Nat → Option (Lp Int (Int × Nat))
  | 0, _, _ => none
  | m9 + 1, y4, k5 => if (k5 : Int) < (a0.fRecords.length : Int) then ((a0.fRecords[k5]?).bind fun x14 => if x14.fOffset > a0.fLast then some (Lp.ret 13) else (if (k5 : Int) > 0 then (if -9223372036854775808 ≤ ((k5 : Int) - 1) ∧ ((k5 : Int) - 1) ≤ 9223372036854775807 then (if 0 ≤ ((k5 : Int) - 1) then ((a0.fRecords[((k5 : Int) - 1).toNat]?).bind fun x24 => if x14.fOffset ≤ x24.fOffset then some (Lp.ret 13) else (if x14.fOffset < 0 then some (Lp.ret 13) else (if -9223372036854775808 ≤ (9223372036854775807 - a0.fFirst) ∧ (9223372036854775807 - a0.fFirst) ≤ 9223372036854775807 then (if x14.fTime > (9223372036854775807 - a0.fFirst) then some (Lp.ret 11) else (if -9223372036854775808 ≤ (-a0.fFirst) ∧ (-a0.fFirst) ≤ 9223372036854775807 then (if x14.fTime < (-a0.fFirst) then some (Lp.ret 11) else (if -9223372036854775808 ≤ ((k5 : Int) + 1) ∧ ((k5 : Int) + 1) ≤ 9223372036854775807 then (f_r11_orders_l1 a0 m9 y4 (k5 + 1)) else none)) else none)) else none))) else none) else none) else (if x14.fOffset < 0 then some (Lp.ret 13) else (if -9223372036854775808 ≤ (9223372036854775807 - a0.fFirst) ∧ (9223372036854775807 - a0.fFirst) ≤ 9223372036854775807 then (if x14.fTime > (9223372036854775807 - a0.fFirst) then some (Lp.ret 11) else (if -9223372036854775808 ≤ (-a0.fFirst) ∧ (-a0.fFirst) ≤ 9223372036854775807 then (if x14.fTime < (-a0.fFirst) then some (Lp.ret 11) else (if -9223372036854775808 ≤ ((k5 : Int) + 1) ∧ ((k5 : Int) + 1) ≤ 9223372036854775807 then (f_r11_orders_l1 a0 m9 y4 (k5 + 1)) else none)) else none)) else none)))) else (some (Lp.go (y4, k5)))
def f_r11_orders (a0 : Bat) : Option (Int) := (f_r11_orders_l1 a0 (((a0.fRecords.length : Int)).toNat + 1) 0 0).bind fun e => match e with | .ret r => some r | .go (y47, k48) => (if a0.fAppend = true then some 0 else ((f_r11_times a0).bind fun x50 => if x50 = a0.fMax then some 0 else some 11))
set_option maxRecDepth 100000 in
set_option maxHeartbeats 4000000 in
theorem f_r11_orders_spec (a0 : Bat) (A1 : Option Addr) (c2 : Nat) (r : Int) (h : f_r11_orders a0 = some r) : SpecX Try.prog 38 #[.agg #[.int .i64 a0.fBase, .int .i64 a0.fLeader, .bool a0.fAppend, .bool a0.fTxn, .bool a0.fControl, .int .i64 a0.fLast, .int .i64 a0.fFirst, .int .i64 a0.fMax, .int .i64 a0.fProducer, .int .i64 a0.fEpoch, .int .i64 a0.fSequence, .slice A1 a0.fRecords.length c2]] (RX.of (sliceRd 7 Rec_rd) [.slice A1 a0.fRecords.length c2] a0.fRecords) (EmpR) (fun v A' N => v = .int .i64 r ∧ A' = EmpR ∧ N = []) := by
  refine enterA Try.func38 rfl Try.ntmps38 rfl ?_
  intro F w hX
  unfold f_r11_orders at h
  refine T.seq (T.region rfl ?_)
  refine TL.box rfl .u rfl rfl (fun b3 => ?_)
  refine TL.run ft_cursitorref11_ok [1] rfl rfl ?_
  refine TL.nil (X.seq (T.seq (T.seq (T.region rfl ?_))))
  refine TL.run ft_cursitorref11_ok [0] rfl rfl ?_
  refine TL.nil (X.seq (T.block ?_))
  obtain ⟨E6, hE7, hO8⟩ := Option.bind_eq_some_iff.1 h
  refine T.lp (fun m e Rs => ∃ (y4 : Int) (k5 : Nat), e = [(1, .pointer (some ⟨b3, 0, none⟩)), (2, .int .i64 y4), (3, .int .i64 (k5 : Int))] ∧ Rs = [BlkR b3 36 #[.int .i64 a0.fBase, .int .i64 a0.fLeader, .bool a0.fAppend, .bool a0.fTxn, .bool a0.fControl, .int .i64 a0.fLast, .int .i64 a0.fFirst, .int .i64 a0.fMax, .int .i64 a0.fProducer, .int .i64 a0.fEpoch, .int .i64 a0.fSequence, .slice A1 a0.fRecords.length c2], EmpR] ∧ f_r11_orders_l1 a0 m y4 k5 = some E6) (((a0.fRecords.length : Int)).toNat + 1) [0, 0] ⟨0, 0, rfl, rfl, by exact hE7⟩ (by rfl) (by rfl) ?_
  rintro m9 _ _ ⟨y4, k5, rfl, rfl, hl11⟩
  clear hE7 h
  cases m9 with
  | zero =>
    rw [f_r11_orders_l1] at hl11
    cases hl11
  | succ m9 =>
    have h := hl11
    clear hl11
    rw [f_r11_orders_l1] at h
    refine T.seq (T.seq (T.region rfl ?_))
    refine TL.run ft_cursitorref11_ok [0, 1] rfl rfl ?_
    refine TL.q rfl .u (Ex.b1 0 rfl Try.isAgg34 rfl rfl) rfl ?_
    refine TL.q rfl .u (Ex.lenS rfl Try.runUnderlying34) rfl ?_
    refine TL.run ft_cursitorref11_ok [4] rfl rfl ?_
    by_cases c13 : (k5 : Int) < (a0.fRecords.length : Int)
    · replace h := ifT c13 h
      refine TL.nil (X.seq ?_)
      refine T.yes rfl (decide_eq_true c13) ?_
      refine T.skip (X.seq (T.seq (T.block (T.seq (T.region rfl ?_)))))
      refine TL.run ft_cursitorref11_ok [0] rfl rfl ?_
      refine TL.q rfl .u (Ex.b1 0 rfl Try.isAgg34 rfl rfl) rfl ?_
      obtain ⟨x14, hx15, h⟩ := Option.bind_eq_some_iff.1 h
      obtain ⟨gz16, oz16, rfl, z16cs, z16cl, z16cc, z16nf, z16r⟩ := RX.elem (by decide) hX hx15
      obtain ⟨z16S, z16r, z16rr⟩ := z16r
      obtain ⟨A17, c18, rfl, z16s0⟩ := z16r
      have hX19 : (RX.of (sliceRd 3 Hd_rd) [.slice A17 x14.fHeaders.length c18] x14.fHeaders).reads w F := ⟨z16S, z16s0, z16rr⟩
      refine TL.run ft_cursitorref11_ok [2] rfl rfl ?_
      refine TL.q rfl .u (Ex.ixS (k := k5) rfl rfl rfl Try.runUnderlying34 Try.sizeOf83 (List.getElem?_eq_some_iff.1 hx15).1) rfl ?_
      refine TL.run ft_cursitorref11_ok [4] rfl rfl ?_
      refine TL.q rfl .u (Ex.o1 1 rfl Try.isAgg3 z16nf z16cc rfl rfl) rfl ?_
      refine TL.run ft_cursitorref11_ok [6] rfl rfl ?_
      refine TL.nil (X.seq (T.seq (T.seq (T.region rfl ?_))))
      refine TL.run ft_cursitorref11_ok [0, 1] rfl rfl ?_
      refine TL.q rfl .u (Ex.b1 0 rfl Try.isAgg3 rfl rfl) rfl ?_
      by_cases c20 : x14.fOffset > a0.fLast
      · replace h := ifT c20 h
        refine TL.run ft_cursitorref11_ok [3, 4] rfl rfl ?_
        refine TL.no rfl (.gn rfl rfl (decide_eq_true c20)) rfl ?_
        refine TL.no rfl (.gn rfl rfl (decide_eq_true c20)) rfl ?_
        refine TL.no rfl (.gn rfl rfl (decide_eq_true c20)) rfl ?_
        refine TL.no rfl (.gu rfl rfl) rfl ?_
        refine TL.no rfl (.gu rfl rfl) rfl ?_
        refine TL.no rfl (.gu rfl rfl) rfl ?_
        refine TL.no rfl (.gu rfl rfl) rfl ?_
        refine TL.no rfl (.gu rfl rfl) rfl ?_
        refine TL.no rfl (.gu rfl rfl) rfl ?_
        refine TL.no rfl (.gu rfl rfl) rfl ?_
        refine TL.no rfl (.gu rfl rfl) rfl ?_
        refine TL.no rfl (.gu rfl rfl) rfl ?_
        refine TL.no rfl (.gn rfl rfl (decide_eq_true c20)) rfl ?_
        refine TL.q rfl .u (Ex.py rfl (decide_eq_true c20) rfl) rfl ?_
        refine TL.run ft_cursitorref11_ok [19] rfl rfl ?_
        refine TL.no rfl (.gn rfl rfl rfl) rfl ?_
        refine TL.no rfl (.gn rfl rfl rfl) rfl ?_
        refine TL.q rfl .u (Ex.py rfl rfl rfl) rfl ?_
        refine TL.nil (X.seq ?_)
        refine T.yes rfl rfl ?_
        refine T.seq (T.region rfl ?_)
        refine TL.run ft_cursitorref11_ok [0] rfl rfl ?_
        obtain rfl := Option.some.inj h
        replace h := hO8
        clear hO8
        try dsimp only at h
        obtain rfl := Option.some.inj h
        exact TL.nil (X.seq (T.ret (X.rs (X.rb (X.rs (X.rs (X.rb (X.rs (X.done1 [1] Try.results38 (RV.tm rfl) ⟨rfl, rfl, rfl⟩ (by rfl) (.inl rfl))))))))))
      · replace h := ifF c20 h
        refine TL.run ft_cursitorref11_ok [3, 4] rfl rfl ?_
        refine TL.q rfl (.g rfl rfl (decide_eq_false c20)) (Ex.ft ft_cursitorref11_ok rfl) rfl ?_
        refine TL.q rfl (.g rfl rfl (decide_eq_false c20)) (Ex.ft ft_cursitorref11_ok rfl) rfl ?_
        refine TL.q rfl (.g rfl rfl (decide_eq_false c20)) (Ex.ft ft_cursitorref11_ok rfl) rfl ?_
        by_cases c21 : (k5 : Int) > 0
        · replace h := ifT c21 h
          refine TL.q rfl (.g rfl rfl (decide_eq_true c21)) (Ex.ft ft_cursitorref11_ok rfl) rfl ?_
          refine TL.q rfl (.g rfl rfl (decide_eq_true c21)) (Ex.ft ft_cursitorref11_ok rfl) rfl ?_
          refine TL.q rfl (.g rfl rfl (decide_eq_true c21)) (Ex.b1 0 rfl Try.isAgg34 rfl rfl) rfl ?_
          refine TL.q rfl (.g rfl rfl (decide_eq_true c21)) (Ex.ft ft_cursitorref11_ok rfl) rfl ?_
          replace h := guard_some h
          obtain ⟨c22, h⟩ := h
          refine TL.q rfl (.g rfl rfl (decide_eq_true c21)) (Ex.sub rfl rfl c22) rfl ?_
          replace h := guard_some h
          obtain ⟨c23, h⟩ := h
          obtain ⟨x24, hx25, h⟩ := Option.bind_eq_some_iff.1 h
          obtain ⟨z26cs, z26cl, z26cc, z26nf, z26r⟩ := RX.elem' (by decide) hX hx25
          obtain ⟨z26S, z26r, z26rr⟩ := z26r
          obtain ⟨A27, c28, rfl, z26s0⟩ := z26r
          have hX29 : (RX.of (sliceRd 3 Hd_rd) [.slice A27 x24.fHeaders.length c28] x24.fHeaders).reads w F := ⟨z26S, z26s0, z26rr⟩
          refine TL.q rfl (.g rfl rfl (decide_eq_true c21)) (Ex.ixS (k := ((k5 : Int) - 1).toNat) rfl rfl ((Int.toNat_of_nonneg c23).symm) Try.runUnderlying34 Try.sizeOf83 (List.getElem?_eq_some_iff.1 hx25).1) rfl ?_
          refine TL.q rfl (.g rfl rfl (decide_eq_true c21)) (Ex.ft ft_cursitorref11_ok rfl) rfl ?_
          refine TL.q rfl (.g rfl rfl (decide_eq_true c21)) (Ex.o1 1 rfl Try.isAgg3 z26nf z26cc rfl rfl) rfl ?_
          refine TL.q rfl (.g rfl rfl (decide_eq_true c21)) (Ex.ft ft_cursitorref11_ok rfl) rfl ?_
          refine TL.q rfl (.g rfl rfl (decide_eq_false c20)) (Ex.py rfl (decide_eq_true c21) rfl) rfl ?_
          refine TL.q rfl .u (Ex.pn rfl (decide_eq_false c20) rfl) rfl ?_
          by_cases c30 : x14.fOffset ≤ x24.fOffset
          · replace h := ifT c30 h
            refine TL.run ft_cursitorref11_ok [19] rfl rfl ?_
            refine TL.no rfl (.gn rfl rfl (decide_eq_true c30)) rfl ?_
            refine TL.no rfl (.gn rfl rfl (decide_eq_true c30)) rfl ?_
            refine TL.q rfl .u (Ex.py rfl (decide_eq_true c30) rfl) rfl ?_
            refine TL.nil (X.seq ?_)
            refine T.yes rfl rfl ?_
            refine T.seq (T.region rfl ?_)
            refine TL.run ft_cursitorref11_ok [0] rfl rfl ?_
            obtain rfl := Option.some.inj h
            replace h := hO8
            clear hO8
            try dsimp only at h
            obtain rfl := Option.some.inj h
            exact TL.nil (X.seq (T.ret (X.rs (X.rb (X.rs (X.rs (X.rb (X.rs (X.done1 [1] Try.results38 (RV.tm rfl) ⟨rfl, rfl, rfl⟩ (by rfl) (.inl rfl))))))))))
          · replace h := ifF c30 h
            refine TL.run ft_cursitorref11_ok [19] rfl rfl ?_
            refine TL.q rfl (.g rfl rfl (decide_eq_false c30)) (Ex.ft ft_cursitorref11_ok rfl) rfl ?_
            refine TL.q rfl (.g rfl rfl (decide_eq_false c30)) (Ex.ft ft_cursitorref11_ok rfl) rfl ?_
            refine TL.q rfl .u (Ex.pn rfl (decide_eq_false c30) rfl) rfl ?_
            by_cases c31 : x14.fOffset < 0
            · replace h := ifT c31 h
              refine TL.nil (X.seq ?_)
              refine T.yes rfl (decide_eq_true c31) ?_
              refine T.seq (T.region rfl ?_)
              refine TL.run ft_cursitorref11_ok [0] rfl rfl ?_
              obtain rfl := Option.some.inj h
              replace h := hO8
              clear hO8
              try dsimp only at h
              obtain rfl := Option.some.inj h
              exact TL.nil (X.seq (T.ret (X.rs (X.rb (X.rs (X.rs (X.rb (X.rs (X.done1 [1] Try.results38 (RV.tm rfl) ⟨rfl, rfl, rfl⟩ (by rfl) (.inl rfl))))))))))
            · replace h := ifF c31 h
              refine TL.nil (X.seq ?_)
              refine T.no rfl (decide_eq_false c31) ?_
              refine T.skip (X.seq (T.seq (T.region rfl ?_)))
              refine TL.run ft_cursitorref11_ok [0] rfl rfl ?_
              refine TL.q rfl .u (Ex.b1 0 rfl Try.isAgg34 rfl rfl) rfl ?_
              refine TL.run ft_cursitorref11_ok [2] rfl rfl ?_
              refine TL.q rfl .u (Ex.ixS (k := k5) rfl rfl rfl Try.runUnderlying34 Try.sizeOf83 (List.getElem?_eq_some_iff.1 hx15).1) rfl ?_
              refine TL.run ft_cursitorref11_ok [4] rfl rfl ?_
              refine TL.q rfl .u (Ex.o1 0 rfl Try.isAgg3 z16nf z16cc rfl rfl) rfl ?_
              refine TL.run ft_cursitorref11_ok [6] rfl rfl ?_
              refine TL.nil (X.seq (T.seq (T.region rfl ?_)))
              refine TL.run ft_cursitorref11_ok [0, 1] rfl rfl ?_
              refine TL.q rfl .u (Ex.b1 0 rfl Try.isAgg3 rfl rfl) rfl ?_
              replace h := guard_some h
              obtain ⟨c32, h⟩ := h
              refine TL.q rfl .u (Ex.sub rfl rfl c32) rfl ?_
              by_cases c33 : x14.fTime > (9223372036854775807 - a0.fFirst)
              · replace h := ifT c33 h
                refine TL.run ft_cursitorref11_ok [4, 5] rfl rfl ?_
                refine TL.no rfl (.gn rfl rfl (decide_eq_true c33)) rfl ?_
                refine TL.no rfl (.gn rfl rfl (decide_eq_true c33)) rfl ?_
                refine TL.no rfl (.gn rfl rfl (decide_eq_true c33)) rfl ?_
                refine TL.no rfl (.gn rfl rfl (decide_eq_true c33)) rfl ?_
                refine TL.no rfl (.gn rfl rfl (decide_eq_true c33)) rfl ?_
                refine TL.q rfl .u (Ex.py rfl (decide_eq_true c33) rfl) rfl ?_
                refine TL.nil (X.seq ?_)
                refine T.yes rfl rfl ?_
                refine T.seq (T.region rfl ?_)
                refine TL.run ft_cursitorref11_ok [0] rfl rfl ?_
                obtain rfl := Option.some.inj h
                replace h := hO8
                clear hO8
                try dsimp only at h
                obtain rfl := Option.some.inj h
                exact TL.nil (X.seq (T.ret (X.rb (X.rs (X.rs (X.rb (X.rs (X.done1 [1] Try.results38 (RV.tm rfl) ⟨rfl, rfl, rfl⟩ (by rfl) (.inl rfl)))))))))
              · replace h := ifF c33 h
                refine TL.run ft_cursitorref11_ok [4, 5] rfl rfl ?_
                refine TL.q rfl (.g rfl rfl (decide_eq_false c33)) (Ex.ft ft_cursitorref11_ok rfl) rfl ?_
                refine TL.q rfl (.g rfl rfl (decide_eq_false c33)) (Ex.ft ft_cursitorref11_ok rfl) rfl ?_
                refine TL.q rfl (.g rfl rfl (decide_eq_false c33)) (Ex.b1 0 rfl Try.isAgg3 rfl rfl) rfl ?_
                replace h := guard_some h
                obtain ⟨c34, h⟩ := h
                refine TL.q rfl (.g rfl rfl (decide_eq_false c33)) (Ex.neg rfl c34) rfl ?_
                refine TL.q rfl (.g rfl rfl (decide_eq_false c33)) (Ex.ft ft_cursitorref11_ok rfl) rfl ?_
                refine TL.q rfl .u (Ex.pn rfl (decide_eq_false c33) rfl) rfl ?_
                by_cases c35 : x14.fTime < (-a0.fFirst)
                · replace h := ifT c35 h
                  refine TL.nil (X.seq ?_)
                  refine T.yes rfl (decide_eq_true c35) ?_
                  refine T.seq (T.region rfl ?_)
                  refine TL.run ft_cursitorref11_ok [0] rfl rfl ?_
                  obtain rfl := Option.some.inj h
                  replace h := hO8
                  clear hO8
                  try dsimp only at h
                  obtain rfl := Option.some.inj h
                  exact TL.nil (X.seq (T.ret (X.rb (X.rs (X.rs (X.rb (X.rs (X.done1 [1] Try.results38 (RV.tm rfl) ⟨rfl, rfl, rfl⟩ (by rfl) (.inl rfl)))))))))
                · replace h := ifF c35 h
                  refine TL.nil (X.seq ?_)
                  refine T.no rfl (decide_eq_false c35) ?_
                  refine T.skip (X.blk (X.seq (T.region rfl ?_)))
                  replace h := guard_some h
                  obtain ⟨c36, h⟩ := h
                  refine TL.run ft_cursitorref11_ok [0] rfl rfl ?_
                  refine TL.q rfl .u (Ex.add rfl rfl c36) rfl ?_
                  refine TL.run ft_cursitorref11_ok [2] rfl rfl ?_
                  exact TL.nil (X.back (m' := m9) [0, 0] (by omega) ⟨y4, k5 + 1, rfl, rfl, h⟩ (by rfl) (by rfl))
        · replace h := ifF c21 h
          refine TL.no rfl (.gn rfl rfl (decide_eq_false c21)) rfl ?_
          refine TL.no rfl (.gn rfl rfl (decide_eq_false c21)) rfl ?_
          refine TL.no rfl (.gn rfl rfl (decide_eq_false c21)) rfl ?_
          refine TL.no rfl (.gn rfl rfl (decide_eq_false c21)) rfl ?_
          refine TL.no rfl (.gn rfl rfl (decide_eq_false c21)) rfl ?_
          refine TL.no rfl (.gn rfl rfl (decide_eq_false c21)) rfl ?_
          refine TL.no rfl (.gn rfl rfl (decide_eq_false c21)) rfl ?_
          refine TL.no rfl (.gn rfl rfl (decide_eq_false c21)) rfl ?_
          refine TL.no rfl (.gn rfl rfl (decide_eq_false c21)) rfl ?_
          refine TL.q rfl (.g rfl rfl (decide_eq_false c20)) (Ex.pn rfl (decide_eq_false c21) rfl) rfl ?_
          refine TL.q rfl .u (Ex.pn rfl (decide_eq_false c20) rfl) rfl ?_
          refine TL.run ft_cursitorref11_ok [19] rfl rfl ?_
          refine TL.q rfl (.g rfl rfl rfl) (Ex.ft ft_cursitorref11_ok rfl) rfl ?_
          refine TL.q rfl (.g rfl rfl rfl) (Ex.ft ft_cursitorref11_ok rfl) rfl ?_
          refine TL.q rfl .u (Ex.pn rfl rfl rfl) rfl ?_
          by_cases c37 : x14.fOffset < 0
          · replace h := ifT c37 h
            refine TL.nil (X.seq ?_)
            refine T.yes rfl (decide_eq_true c37) ?_
            refine T.seq (T.region rfl ?_)
            refine TL.run ft_cursitorref11_ok [0] rfl rfl ?_
            obtain rfl := Option.some.inj h
            replace h := hO8
            clear hO8
            try dsimp only at h
            obtain rfl := Option.some.inj h
            exact TL.nil (X.seq (T.ret (X.rs (X.rb (X.rs (X.rs (X.rb (X.rs (X.done1 [1] Try.results38 (RV.tm rfl) ⟨rfl, rfl, rfl⟩ (by rfl) (.inl rfl))))))))))
          · replace h := ifF c37 h
            refine TL.nil (X.seq ?_)
            refine T.no rfl (decide_eq_false c37) ?_
            refine T.skip (X.seq (T.seq (T.region rfl ?_)))
            refine TL.run ft_cursitorref11_ok [0] rfl rfl ?_
            refine TL.q rfl .u (Ex.b1 0 rfl Try.isAgg34 rfl rfl) rfl ?_
            refine TL.run ft_cursitorref11_ok [2] rfl rfl ?_
            refine TL.q rfl .u (Ex.ixS (k := k5) rfl rfl rfl Try.runUnderlying34 Try.sizeOf83 (List.getElem?_eq_some_iff.1 hx15).1) rfl ?_
            refine TL.run ft_cursitorref11_ok [4] rfl rfl ?_
            refine TL.q rfl .u (Ex.o1 0 rfl Try.isAgg3 z16nf z16cc rfl rfl) rfl ?_
            refine TL.run ft_cursitorref11_ok [6] rfl rfl ?_
            refine TL.nil (X.seq (T.seq (T.region rfl ?_)))
            refine TL.run ft_cursitorref11_ok [0, 1] rfl rfl ?_
            refine TL.q rfl .u (Ex.b1 0 rfl Try.isAgg3 rfl rfl) rfl ?_
            replace h := guard_some h
            obtain ⟨c38, h⟩ := h
            refine TL.q rfl .u (Ex.sub rfl rfl c38) rfl ?_
            by_cases c39 : x14.fTime > (9223372036854775807 - a0.fFirst)
            · replace h := ifT c39 h
              refine TL.run ft_cursitorref11_ok [4, 5] rfl rfl ?_
              refine TL.no rfl (.gn rfl rfl (decide_eq_true c39)) rfl ?_
              refine TL.no rfl (.gn rfl rfl (decide_eq_true c39)) rfl ?_
              refine TL.no rfl (.gn rfl rfl (decide_eq_true c39)) rfl ?_
              refine TL.no rfl (.gn rfl rfl (decide_eq_true c39)) rfl ?_
              refine TL.no rfl (.gn rfl rfl (decide_eq_true c39)) rfl ?_
              refine TL.q rfl .u (Ex.py rfl (decide_eq_true c39) rfl) rfl ?_
              refine TL.nil (X.seq ?_)
              refine T.yes rfl rfl ?_
              refine T.seq (T.region rfl ?_)
              refine TL.run ft_cursitorref11_ok [0] rfl rfl ?_
              obtain rfl := Option.some.inj h
              replace h := hO8
              clear hO8
              try dsimp only at h
              obtain rfl := Option.some.inj h
              exact TL.nil (X.seq (T.ret (X.rb (X.rs (X.rs (X.rb (X.rs (X.done1 [1] Try.results38 (RV.tm rfl) ⟨rfl, rfl, rfl⟩ (by rfl) (.inl rfl)))))))))
            · replace h := ifF c39 h
              refine TL.run ft_cursitorref11_ok [4, 5] rfl rfl ?_
              refine TL.q rfl (.g rfl rfl (decide_eq_false c39)) (Ex.ft ft_cursitorref11_ok rfl) rfl ?_
              refine TL.q rfl (.g rfl rfl (decide_eq_false c39)) (Ex.ft ft_cursitorref11_ok rfl) rfl ?_
              refine TL.q rfl (.g rfl rfl (decide_eq_false c39)) (Ex.b1 0 rfl Try.isAgg3 rfl rfl) rfl ?_
              replace h := guard_some h
              obtain ⟨c40, h⟩ := h
              refine TL.q rfl (.g rfl rfl (decide_eq_false c39)) (Ex.neg rfl c40) rfl ?_
              refine TL.q rfl (.g rfl rfl (decide_eq_false c39)) (Ex.ft ft_cursitorref11_ok rfl) rfl ?_
              refine TL.q rfl .u (Ex.pn rfl (decide_eq_false c39) rfl) rfl ?_
              by_cases c41 : x14.fTime < (-a0.fFirst)
              · replace h := ifT c41 h
                refine TL.nil (X.seq ?_)
                refine T.yes rfl (decide_eq_true c41) ?_
                refine T.seq (T.region rfl ?_)
                refine TL.run ft_cursitorref11_ok [0] rfl rfl ?_
                obtain rfl := Option.some.inj h
                replace h := hO8
                clear hO8
                try dsimp only at h
                obtain rfl := Option.some.inj h
                exact TL.nil (X.seq (T.ret (X.rb (X.rs (X.rs (X.rb (X.rs (X.done1 [1] Try.results38 (RV.tm rfl) ⟨rfl, rfl, rfl⟩ (by rfl) (.inl rfl)))))))))
              · replace h := ifF c41 h
                refine TL.nil (X.seq ?_)
                refine T.no rfl (decide_eq_false c41) ?_
                refine T.skip (X.blk (X.seq (T.region rfl ?_)))
                replace h := guard_some h
                obtain ⟨c42, h⟩ := h
                refine TL.run ft_cursitorref11_ok [0] rfl rfl ?_
                refine TL.q rfl .u (Ex.add rfl rfl c42) rfl ?_
                refine TL.run ft_cursitorref11_ok [2] rfl rfl ?_
                exact TL.nil (X.back (m' := m9) [0, 0] (by omega) ⟨y4, k5 + 1, rfl, rfl, h⟩ (by rfl) (by rfl))
    · replace h := ifF c13 h
      refine TL.nil (X.seq ?_)
      refine T.no rfl (decide_eq_false c13) ?_
      obtain rfl := Option.some.inj h
      replace h := hO8
      clear hO8
      try dsimp only at h
      refine T.exit (X.exs (X.exs (X.ex (X.seq (T.seq (T.seq (T.draw (.q 0 (.q 1 (.q 2 (.q 3 (.q 4 (.q 6 (.q 7 (.e 5 (.q 8 (.q 9 .nil)))))))))) [0, 0] rfl mix_cursitorref11 (NoP.seq (NoP.seq np_post)) (by kernel_rfl) ?_)))))))
      refine TD.run ft_cursitorref11_ok [0] rfl rfl ?_
      refine TD.q rfl .u (Ex.b1 0 rfl Try.isAgg4 rfl rfl) rfl ?_
      by_cases c43 : a0.fAppend = true
      · replace h := ifT c43 h
        refine TD.run ft_cursitorref11_ok [2, 3] rfl rfl ?_
        refine TD.no rfl (.gn rfl rfl (bn_f c43)) rfl ?_
        refine TD.no rfl (.gn rfl rfl (bn_f c43)) rfl ?_
        refine TD.no rfl (.gn rfl rfl (bn_f c43)) rfl ?_
        refine TD.noe rfl (.gn rfl rfl (bn_f c43)) rfl [0, 0] rfl ?_
        refine TD.no rfl (.gn rfl rfl (bn_f c43)) rfl ?_
        refine TD.q rfl .u (Ex.pn rfl (bn_f c43) rfl) rfl ?_
        refine TD.nil (X.seq ?_)
        refine T.no rfl rfl ?_
        refine T.skip (X.seq (T.seq (T.region rfl ?_)))
        refine TL.run ft_cursitorref11_ok [0] rfl rfl ?_
        obtain rfl := Option.some.inj h
        exact TL.nil (X.seq (T.ret (X.done1 [1] Try.results38 (RV.tm rfl) ⟨rfl, rfl, rfl⟩ (by rfl) (.inl rfl))))
      · replace h := ifF c43 h
        replace c43 := eq_false_of_ne_true c43
        refine TD.run ft_cursitorref11_ok [2, 3] rfl rfl ?_
        refine TD.q rfl (.g rfl rfl (bn_t c43)) (Ex.bS (us := [.int .i64 a0.fBase, .int .i64 a0.fLeader, .bool a0.fAppend, .bool a0.fTxn, .bool a0.fControl, .int .i64 a0.fLast, .int .i64 a0.fFirst, .int .i64 a0.fMax, .int .i64 a0.fProducer, .int .i64 a0.fEpoch, .int .i64 a0.fSequence, .slice A1 a0.fRecords.length c2]) 0 rfl Try.isAgg36 Try.sizeOf36 rfl rfl rfl) rfl ?_
        refine TD.q rfl (.g rfl rfl (bn_t c43)) (Ex.ft ft_cursitorref11_ok rfl) rfl ?_
        refine TD.q rfl (.g rfl rfl (bn_t c43)) (Ex.b1 0 rfl Try.isAgg3 rfl rfl) rfl ?_
        obtain ⟨x44, hx45, h⟩ := Option.bind_eq_some_iff.1 h
        refine TD.ce rfl (.g rfl rfl (bn_t c43)) (.fn Try.call65 rfl) (f_r11_times_spec a0 _ _ _ hx45) (fun _ hs => (SrcE.old hs hX)) rfl [0, 0] (rfl) ?_
        refine TD.q rfl (.g rfl rfl (bn_t c43)) (Ex.ft ft_cursitorref11_ok rfl) rfl ?_
        refine TD.q rfl .u (Ex.py rfl (bn_t c43) rfl) rfl ?_
        by_cases c46 : x44 = a0.fMax
        · replace h := ifT c46 h
          refine TD.nil (X.seq ?_)
          refine T.no rfl (bn_f (decide_eq_true c46)) ?_
          refine T.skip (X.seq (T.seq (T.region rfl ?_)))
          refine TL.run ft_cursitorref11_ok [0] rfl rfl ?_
          obtain rfl := Option.some.inj h
          exact TL.nil (X.seq (T.ret (X.done1 [1] Try.results38 (RV.tm rfl) ⟨rfl, rfl, rfl⟩ (by rfl) (.inl rfl))))
        · replace h := ifF c46 h
          refine TD.nil (X.seq ?_)
          refine T.yes rfl (bn_t (decide_eq_false c46)) ?_
          refine T.seq (T.region rfl ?_)
          refine TL.run ft_cursitorref11_ok [0] rfl rfl ?_
          obtain rfl := Option.some.inj h
          exact TL.nil (X.seq (T.ret (X.rs (X.done1 [1] Try.results38 (RV.tm rfl) ⟨rfl, rfl, rfl⟩ (by rfl) (.inl rfl)))))
def f_r11_Check_l1 (a0 : Bat) : Nat → Int → Nat → Option (Lp Int (Int × Nat))
  | 0, _, _ => none
  | m26 + 1, y21, k22 => if (k22 : Int) < (a0.fRecords.length : Int) then ((a0.fRecords[k22]?).bind fun x31 => (f_r07_Right x31).bind fun x37 => if x37 = 0 then (if -9223372036854775808 ≤ ((k22 : Int) + 1) ∧ ((k22 : Int) + 1) ≤ 9223372036854775807 then (f_r11_Check_l1 a0 m26 y21 (k22 + 1)) else none) else some (Lp.ret x37)) else (some (Lp.go (y21, k22)))
def f_r11_Check_l2 (a0 : Bat) : Nat → Int → Nat → Option (Lp Int (Int × Nat))
  | 0, _, _ => none
  | m77 + 1, y72, k73 => if (k73 : Int) < (a0.fRecords.length : Int) then ((a0.fRecords[k73]?).bind fun x82 => (f_r07_Right x82).bind fun x88 => if x88 = 0 then (if -9223372036854775808 ≤ ((k73 : Int) + 1) ∧ ((k73 : Int) + 1) ≤ 9223372036854775807 then (f_r11_Check_l2 a0 m77 y72 (k73 + 1)) else none) else some (Lp.ret x88)) else (some (Lp.go (y72, k73)))
def f_r11_Check (a0 : Bat) : Option (Int) := if a0.fBase < 0 then some 11 else ((f_r11_int32s a0.fLeader (-1)).bind fun x5 => if x5 = true then ((f_r11_int32s a0.fLast 0).bind fun x8 => if x8 = true then (if -9223372036854775808 ≤ (9223372036854775807 - a0.fBase) ∧ (9223372036854775807 - a0.fBase) ≤ 9223372036854775807 then (if a0.fLast > (9223372036854775807 - a0.fBase) then some 11 else (if a0.fFirst < 0 then some 11 else (if a0.fMax < 0 then some 11 else (if a0.fControl = true then (if a0.fTxn = true then ((f_r11_producer a0).bind fun x17 => if x17 = true then (if (a0.fRecords.length : Int) = 1 then ((f_r11_Check_l1 a0 (((a0.fRecords.length : Int)).toNat + 1) 0 0).bind fun e => match e with | .ret r => some r | .go (y54, k55) => ((a0.fRecords[0]?).bind fun x56 => (f_r08_Read x56).bind fun (x62, x63, x64) => if x64 = 0 then ((f_r11_orders a0).bind fun x67 => some x67) else some x64)) else some 10) else some 11) else some 8) else ((f_r11_producer a0).bind fun x69 => if x69 = true then ((f_r11_Check_l2 a0 (((a0.fRecords.length : Int)).toNat + 1) 0 0).bind fun e => match e with | .ret r => some r | .go (y94, k95) => ((f_r11_orders a0).bind fun x96 => some x96)) else some 11))))) else none) else some 11) else some 11)
set_option maxRecDepth 100000 in
set_option maxHeartbeats 4000000 in
theorem f_r11_Check_spec (a0 : Bat) (A1 : Option Addr) (c2 : Nat) (r : Int) (h : f_r11_Check a0 = some r) : SpecX Try.prog 22 #[.agg #[.int .i64 a0.fBase, .int .i64 a0.fLeader, .bool a0.fAppend, .bool a0.fTxn, .bool a0.fControl, .int .i64 a0.fLast, .int .i64 a0.fFirst, .int .i64 a0.fMax, .int .i64 a0.fProducer, .int .i64 a0.fEpoch, .int .i64 a0.fSequence, .slice A1 a0.fRecords.length c2]] (RX.of (sliceRd 7 Rec_rd) [.slice A1 a0.fRecords.length c2] a0.fRecords) (EmpR) (fun v A' N => v = .int .i64 r ∧ A' = EmpR ∧ N = []) := by
  refine enterA Try.func22 rfl Try.ntmps22 rfl ?_
  intro F w hX
  unfold f_r11_Check at h
  refine T.seq (T.region rfl ?_)
  refine TL.box rfl .u rfl rfl (fun b3 => ?_)
  refine TL.run ft_cursitorref11_ok [1] rfl rfl ?_
  refine TL.nil (X.seq (T.seq (T.seq (T.region rfl ?_))))
  refine TL.run ft_cursitorref11_ok [0] rfl rfl ?_
  refine TL.q rfl .u (Ex.b1 0 rfl Try.isAgg3 rfl rfl) rfl ?_
  by_cases c4 : a0.fBase < 0
  · replace h := ifT c4 h
    refine TL.run ft_cursitorref11_ok [2, 3] rfl rfl ?_
    refine TL.no rfl (.gn rfl rfl (decide_eq_true c4)) rfl ?_
    refine TL.no rfl (.gn rfl rfl (decide_eq_true c4)) rfl ?_
    refine TL.no rfl (.gn rfl rfl (decide_eq_true c4)) rfl ?_
    refine TL.no rfl (.gn rfl rfl (decide_eq_true c4)) rfl ?_
    refine TL.q rfl .u (Ex.py rfl (decide_eq_true c4) rfl) rfl ?_
    refine TL.run ft_cursitorref11_ok [9] rfl rfl ?_
    refine TL.no rfl (.gn rfl rfl rfl) rfl ?_
    refine TL.no rfl (.gn rfl rfl rfl) rfl ?_
    refine TL.no rfl (.gn rfl rfl rfl) rfl ?_
    refine TL.no rfl (.gn rfl rfl rfl) rfl ?_
    refine TL.q rfl .u (Ex.py rfl rfl rfl) rfl ?_
    refine TL.run ft_cursitorref11_ok [15] rfl rfl ?_
    refine TL.no rfl (.gn rfl rfl rfl) rfl ?_
    refine TL.no rfl (.gn rfl rfl rfl) rfl ?_
    refine TL.no rfl (.gn rfl rfl rfl) rfl ?_
    refine TL.no rfl (.gn rfl rfl rfl) rfl ?_
    refine TL.no rfl (.gn rfl rfl rfl) rfl ?_
    refine TL.no rfl (.gn rfl rfl rfl) rfl ?_
    refine TL.q rfl .u (Ex.py rfl rfl rfl) rfl ?_
    refine TL.run ft_cursitorref11_ok [23] rfl rfl ?_
    refine TL.no rfl (.gn rfl rfl rfl) rfl ?_
    refine TL.no rfl (.gn rfl rfl rfl) rfl ?_
    refine TL.no rfl (.gn rfl rfl rfl) rfl ?_
    refine TL.q rfl .u (Ex.py rfl rfl rfl) rfl ?_
    refine TL.run ft_cursitorref11_ok [28] rfl rfl ?_
    refine TL.no rfl (.gn rfl rfl rfl) rfl ?_
    refine TL.no rfl (.gn rfl rfl rfl) rfl ?_
    refine TL.no rfl (.gn rfl rfl rfl) rfl ?_
    refine TL.q rfl .u (Ex.py rfl rfl rfl) rfl ?_
    refine TL.nil (X.seq ?_)
    refine T.yes rfl rfl ?_
    refine T.seq (T.region rfl ?_)
    refine TL.run ft_cursitorref11_ok [0] rfl rfl ?_
    obtain rfl := Option.some.inj h
    exact TL.nil (X.seq (T.ret (X.rs (X.done1 [1] Try.results22 (RV.tm rfl) ⟨rfl, rfl, rfl⟩ (by rfl) (.inl rfl)))))
  · replace h := ifF c4 h
    refine TL.run ft_cursitorref11_ok [2, 3] rfl rfl ?_
    refine TL.q rfl (.g rfl rfl (decide_eq_false c4)) (Ex.ft ft_cursitorref11_ok rfl) rfl ?_
    refine TL.q rfl (.g rfl rfl (decide_eq_false c4)) (Ex.b1 0 rfl Try.isAgg3 rfl rfl) rfl ?_
    obtain ⟨x5, hx6, h⟩ := Option.bind_eq_some_iff.1 h
    refine TL.ce rfl (.g rfl rfl (decide_eq_false c4)) (.fn Try.call34 rfl) (f_r11_int32s_spec a0.fLeader (-1) _ hx6) (fun _ hs => (RX.reads_triv _ _)) rfl ?_
    refine TL.q rfl (.g rfl rfl (decide_eq_false c4)) (Ex.ft ft_cursitorref11_ok rfl) rfl ?_
    refine TL.q rfl .u (Ex.pn rfl (decide_eq_false c4) rfl) rfl ?_
    by_cases c7 : x5 = true
    · replace h := ifT c7 h
      refine TL.run ft_cursitorref11_ok [9] rfl rfl ?_
      refine TL.q rfl (.g rfl rfl (bn_f c7)) (Ex.ft ft_cursitorref11_ok rfl) rfl ?_
      refine TL.q rfl (.g rfl rfl (bn_f c7)) (Ex.b1 0 rfl Try.isAgg3 rfl rfl) rfl ?_
      obtain ⟨x8, hx9, h⟩ := Option.bind_eq_some_iff.1 h
      refine TL.ce rfl (.g rfl rfl (bn_f c7)) (.fn Try.call34 rfl) (f_r11_int32s_spec a0.fLast 0 _ hx9) (fun _ hs => (RX.reads_triv _ _)) rfl ?_
      refine TL.q rfl (.g rfl rfl (bn_f c7)) (Ex.ft ft_cursitorref11_ok rfl) rfl ?_
      refine TL.q rfl .u (Ex.pn rfl (bn_f c7) rfl) rfl ?_
      by_cases c10 : x8 = true
      · replace h := ifT c10 h
        refine TL.run ft_cursitorref11_ok [15] rfl rfl ?_
        refine TL.q rfl (.g rfl rfl (bn_f c10)) (Ex.ft ft_cursitorref11_ok rfl) rfl ?_
        refine TL.q rfl (.g rfl rfl (bn_f c10)) (Ex.b1 0 rfl Try.isAgg3 rfl rfl) rfl ?_
        refine TL.q rfl (.g rfl rfl (bn_f c10)) (Ex.ft ft_cursitorref11_ok rfl) rfl ?_
        refine TL.q rfl (.g rfl rfl (bn_f c10)) (Ex.b1 0 rfl Try.isAgg3 rfl rfl) rfl ?_
        replace h := guard_some h
        obtain ⟨c11, h⟩ := h
        refine TL.q rfl (.g rfl rfl (bn_f c10)) (Ex.sub rfl rfl c11) rfl ?_
        refine TL.q rfl (.g rfl rfl (bn_f c10)) (Ex.ft ft_cursitorref11_ok rfl) rfl ?_
        refine TL.q rfl .u (Ex.pn rfl (bn_f c10) rfl) rfl ?_
        by_cases c12 : a0.fLast > (9223372036854775807 - a0.fBase)
        · replace h := ifT c12 h
          refine TL.run ft_cursitorref11_ok [23] rfl rfl ?_
          refine TL.no rfl (.gn rfl rfl (decide_eq_true c12)) rfl ?_
          refine TL.no rfl (.gn rfl rfl (decide_eq_true c12)) rfl ?_
          refine TL.no rfl (.gn rfl rfl (decide_eq_true c12)) rfl ?_
          refine TL.q rfl .u (Ex.py rfl (decide_eq_true c12) rfl) rfl ?_
          refine TL.run ft_cursitorref11_ok [28] rfl rfl ?_
          refine TL.no rfl (.gn rfl rfl rfl) rfl ?_
          refine TL.no rfl (.gn rfl rfl rfl) rfl ?_
          refine TL.no rfl (.gn rfl rfl rfl) rfl ?_
          refine TL.q rfl .u (Ex.py rfl rfl rfl) rfl ?_
          refine TL.nil (X.seq ?_)
          refine T.yes rfl rfl ?_
          refine T.seq (T.region rfl ?_)
          refine TL.run ft_cursitorref11_ok [0] rfl rfl ?_
          obtain rfl := Option.some.inj h
          exact TL.nil (X.seq (T.ret (X.rs (X.done1 [1] Try.results22 (RV.tm rfl) ⟨rfl, rfl, rfl⟩ (by rfl) (.inl rfl)))))
        · replace h := ifF c12 h
          refine TL.run ft_cursitorref11_ok [23] rfl rfl ?_
          refine TL.q rfl (.g rfl rfl (decide_eq_false c12)) (Ex.ft ft_cursitorref11_ok rfl) rfl ?_
          refine TL.q rfl (.g rfl rfl (decide_eq_false c12)) (Ex.b1 0 rfl Try.isAgg3 rfl rfl) rfl ?_
          refine TL.q rfl (.g rfl rfl (decide_eq_false c12)) (Ex.ft ft_cursitorref11_ok rfl) rfl ?_
          refine TL.q rfl .u (Ex.pn rfl (decide_eq_false c12) rfl) rfl ?_
          by_cases c13 : a0.fFirst < 0
          · replace h := ifT c13 h
            refine TL.run ft_cursitorref11_ok [28] rfl rfl ?_
            refine TL.no rfl (.gn rfl rfl (decide_eq_true c13)) rfl ?_
            refine TL.no rfl (.gn rfl rfl (decide_eq_true c13)) rfl ?_
            refine TL.no rfl (.gn rfl rfl (decide_eq_true c13)) rfl ?_
            refine TL.q rfl .u (Ex.py rfl (decide_eq_true c13) rfl) rfl ?_
            refine TL.nil (X.seq ?_)
            refine T.yes rfl rfl ?_
            refine T.seq (T.region rfl ?_)
            refine TL.run ft_cursitorref11_ok [0] rfl rfl ?_
            obtain rfl := Option.some.inj h
            exact TL.nil (X.seq (T.ret (X.rs (X.done1 [1] Try.results22 (RV.tm rfl) ⟨rfl, rfl, rfl⟩ (by rfl) (.inl rfl)))))
          · replace h := ifF c13 h
            refine TL.run ft_cursitorref11_ok [28] rfl rfl ?_
            refine TL.q rfl (.g rfl rfl (decide_eq_false c13)) (Ex.ft ft_cursitorref11_ok rfl) rfl ?_
            refine TL.q rfl (.g rfl rfl (decide_eq_false c13)) (Ex.b1 0 rfl Try.isAgg3 rfl rfl) rfl ?_
            refine TL.q rfl (.g rfl rfl (decide_eq_false c13)) (Ex.ft ft_cursitorref11_ok rfl) rfl ?_
            refine TL.q rfl .u (Ex.pn rfl (decide_eq_false c13) rfl) rfl ?_
            by_cases c14 : a0.fMax < 0
            · replace h := ifT c14 h
              refine TL.nil (X.seq ?_)
              refine T.yes rfl (decide_eq_true c14) ?_
              refine T.seq (T.region rfl ?_)
              refine TL.run ft_cursitorref11_ok [0] rfl rfl ?_
              obtain rfl := Option.some.inj h
              exact TL.nil (X.seq (T.ret (X.rs (X.done1 [1] Try.results22 (RV.tm rfl) ⟨rfl, rfl, rfl⟩ (by rfl) (.inl rfl)))))
            · replace h := ifF c14 h
              refine TL.nil (X.seq ?_)
              refine T.no rfl (decide_eq_false c14) ?_
              refine T.skip (X.seq (T.seq (T.seq (T.region rfl ?_))))
              refine TL.run ft_cursitorref11_ok [0] rfl rfl ?_
              refine TL.q rfl .u (Ex.b1 0 rfl Try.isAgg4 rfl rfl) rfl ?_
              by_cases c15 : a0.fControl = true
              · replace h := ifT c15 h
                refine TL.run ft_cursitorref11_ok [2] rfl rfl ?_
                refine TL.q rfl (.g rfl rfl c15) (Ex.ft ft_cursitorref11_ok rfl) rfl ?_
                refine TL.q rfl (.g rfl rfl c15) (Ex.b1 0 rfl Try.isAgg4 rfl rfl) rfl ?_
                refine TL.q rfl (.g rfl rfl c15) (Ex.ft ft_cursitorref11_ok rfl) rfl ?_
                refine TL.q rfl .u (Ex.py rfl c15 rfl) rfl ?_
                by_cases c16 : a0.fTxn = true
                · replace h := ifT c16 h
                  refine TL.nil (X.seq ?_)
                  refine T.no rfl (bn_f c16) ?_
                  refine T.skip (X.seq (T.seq (T.seq (T.region rfl ?_))))
                  refine TL.q rfl .u (Ex.bS (us := [.int .i64 a0.fBase, .int .i64 a0.fLeader, .bool a0.fAppend, .bool a0.fTxn, .bool a0.fControl, .int .i64 a0.fLast, .int .i64 a0.fFirst, .int .i64 a0.fMax, .int .i64 a0.fProducer, .int .i64 a0.fEpoch, .int .i64 a0.fSequence, .slice A1 a0.fRecords.length c2]) 0 rfl Try.isAgg36 Try.sizeOf36 rfl rfl rfl) rfl ?_
                  obtain ⟨x17, hx18, h⟩ := Option.bind_eq_some_iff.1 h
                  refine TL.ce rfl .u (.fn Try.call35 rfl) (f_r11_producer_spec a0 _ _ _ hx18) (fun _ hs => (SrcE.old hs hX)) rfl ?_
                  refine TL.run ft_cursitorref11_ok [2] rfl rfl ?_
                  by_cases c19 : x17 = true
                  · replace h := ifT c19 h
                    refine TL.nil (X.seq ?_)
                    refine T.no rfl (bn_f c19) ?_
                    refine T.skip (X.seq (T.seq (T.seq (T.region rfl ?_))))
                    refine TL.run ft_cursitorref11_ok [0] rfl rfl ?_
                    refine TL.q rfl .u (Ex.b1 0 rfl Try.isAgg4 rfl rfl) rfl ?_
                    refine TL.run ft_cursitorref11_ok [2] rfl rfl ?_
                    refine TL.q rfl (.g rfl rfl c15) (Ex.ft ft_cursitorref11_ok rfl) rfl ?_
                    refine TL.q rfl (.g rfl rfl c15) (Ex.b1 0 rfl Try.isAgg34 rfl rfl) rfl ?_
                    refine TL.q rfl (.g rfl rfl c15) (Ex.lenS rfl Try.runUnderlying34) rfl ?_
                    refine TL.q rfl (.g rfl rfl c15) (Ex.ft ft_cursitorref11_ok rfl) rfl ?_
                    refine TL.q rfl .u (Ex.py rfl c15 rfl) rfl ?_
                    by_cases c20 : (a0.fRecords.length : Int) = 1
                    · replace h := ifT c20 h
                      refine TL.nil (X.seq ?_)
                      refine T.no rfl (bn_f (decide_eq_true c20)) ?_
                      refine T.skip (X.seq (T.seq (T.seq (T.region rfl ?_))))
                      refine TL.run ft_cursitorref11_ok [0] rfl rfl ?_
                      refine TL.nil (X.seq (T.block ?_))
                      obtain ⟨E23, hE24, hO25⟩ := Option.bind_eq_some_iff.1 h
                      refine T.lp (fun m e Rs => ∃ (y21 : Int) (k22 : Nat), e = [(1, .pointer (some ⟨b3, 0, none⟩)), (2, .int .i64 y21), (3, .int .i64 (k22 : Int))] ∧ Rs = [BlkR b3 36 #[.int .i64 a0.fBase, .int .i64 a0.fLeader, .bool a0.fAppend, .bool a0.fTxn, .bool a0.fControl, .int .i64 a0.fLast, .int .i64 a0.fFirst, .int .i64 a0.fMax, .int .i64 a0.fProducer, .int .i64 a0.fEpoch, .int .i64 a0.fSequence, .slice A1 a0.fRecords.length c2], EmpR] ∧ f_r11_Check_l1 a0 m y21 k22 = some E23) (((a0.fRecords.length : Int)).toNat + 1) [0, 0] ⟨0, 0, rfl, rfl, by exact hE24⟩ (by rfl) (by rfl) ?_
                      rintro m26 _ _ ⟨y21, k22, rfl, rfl, hl28⟩
                      clear hE24 h
                      cases m26 with
                      | zero =>
                        rw [f_r11_Check_l1] at hl28
                        cases hl28
                      | succ m26 =>
                        have h := hl28
                        clear hl28
                        rw [f_r11_Check_l1] at h
                        refine T.seq (T.seq (T.region rfl ?_))
                        refine TL.run ft_cursitorref11_ok [0, 1] rfl rfl ?_
                        refine TL.q rfl .u (Ex.b1 0 rfl Try.isAgg34 rfl rfl) rfl ?_
                        refine TL.q rfl .u (Ex.lenS rfl Try.runUnderlying34) rfl ?_
                        refine TL.run ft_cursitorref11_ok [4] rfl rfl ?_
                        by_cases c30 : (k22 : Int) < (a0.fRecords.length : Int)
                        · replace h := ifT c30 h
                          refine TL.nil (X.seq ?_)
                          refine T.yes rfl (decide_eq_true c30) ?_
                          refine T.skip (X.seq (T.seq (T.block (T.seq (T.region rfl ?_)))))
                          refine TL.run ft_cursitorref11_ok [0] rfl rfl ?_
                          refine TL.q rfl .u (Ex.b1 0 rfl Try.isAgg34 rfl rfl) rfl ?_
                          obtain ⟨x31, hx32, h⟩ := Option.bind_eq_some_iff.1 h
                          obtain ⟨gz33, oz33, rfl, z33cs, z33cl, z33cc, z33nf, z33r⟩ := RX.elem (by decide) hX hx32
                          obtain ⟨z33S, z33r, z33rr⟩ := z33r
                          obtain ⟨A34, c35, rfl, z33s0⟩ := z33r
                          have hX36 : (RX.of (sliceRd 3 Hd_rd) [.slice A34 x31.fHeaders.length c35] x31.fHeaders).reads w F := ⟨z33S, z33s0, z33rr⟩
                          refine TL.run ft_cursitorref11_ok [2] rfl rfl ?_
                          refine TL.q rfl .u (Ex.ixS (k := k22) rfl rfl rfl Try.runUnderlying34 Try.sizeOf83 (List.getElem?_eq_some_iff.1 hx32).1) rfl ?_
                          refine TL.q rfl .u (Ex.oS (us := [.int .i64 x31.fTime, .int .i64 x31.fOffset, .bool x31.fKey.null, .string (bsOf x31.fKey.data), .bool x31.fValue.null, .string (bsOf x31.fValue.data), .slice A34 x31.fHeaders.length c35]) 0 rfl Try.isAgg83 Try.sizeOf83 z33nf z33cc rfl rfl rfl) rfl ?_
                          obtain ⟨x37, hx38, h⟩ := Option.bind_eq_some_iff.1 h
                          refine TL.ce rfl .u (.fn Try.call36 rfl) (f_r07_Right_spec x31 _ _ _ hx38) (fun _ hs => (SrcE.old hs hX36)) rfl ?_
                          refine TL.run ft_cursitorref11_ok [6] rfl rfl ?_
                          refine TL.nil (X.seq (T.seq (T.region rfl ?_)))
                          refine TL.run ft_cursitorref11_ok [0, 1] rfl rfl ?_
                          by_cases c39 : x37 = 0
                          · replace h := ifT c39 h
                            refine TL.nil (X.seq ?_)
                            refine T.no rfl (bn_f (decide_eq_true c39)) ?_
                            refine T.skip (X.blk (X.seq (T.region rfl ?_)))
                            replace h := guard_some h
                            obtain ⟨c40, h⟩ := h
                            refine TL.run ft_cursitorref11_ok [0] rfl rfl ?_
                            refine TL.q rfl .u (Ex.add rfl rfl c40) rfl ?_
                            refine TL.run ft_cursitorref11_ok [2] rfl rfl ?_
                            exact TL.nil (X.back (m' := m26) [0, 0] (by omega) ⟨y21, k22 + 1, rfl, rfl, h⟩ (by rfl) (by rfl))
                          · replace h := ifF c39 h
                            refine TL.nil (X.seq ?_)
                            refine T.yes rfl (bn_t (decide_eq_false c39)) ?_
                            refine T.seq (T.region rfl ?_)
                            refine TL.run ft_cursitorref11_ok [0, 1] rfl rfl ?_
                            obtain rfl := Option.some.inj h
                            replace h := hO25
                            clear hO25
                            try dsimp only at h
                            obtain rfl := Option.some.inj h
                            exact TL.nil (X.seq (T.ret (X.rb (X.rs (X.rs (X.rb (X.rs (X.done1 [1] Try.results22 (RV.tm rfl) ⟨rfl, rfl, rfl⟩ (by rfl) (.inl rfl)))))))))
                        · replace h := ifF c30 h
                          refine TL.nil (X.seq ?_)
                          refine T.no rfl (decide_eq_false c30) ?_
                          obtain rfl := Option.some.inj h
                          replace h := hO25
                          clear hO25
                          try dsimp only at h
                          refine T.exit (X.exs (X.exs (X.ex (X.seq (T.seq (T.seq (T.region rfl ?_)))))))
                          refine TL.run ft_cursitorref11_ok [0] rfl rfl ?_
                          refine TL.q rfl .u (Ex.b1 0 rfl Try.isAgg4 rfl rfl) rfl ?_
                          refine TL.nil (X.seq ?_)
                          refine T.yes rfl c15 ?_
                          refine T.seq (T.region rfl ?_)
                          refine TL.run ft_cursitorref11_ok [0] rfl rfl ?_
                          refine TL.q rfl .u (Ex.b1 0 rfl Try.isAgg34 rfl rfl) rfl ?_
                          obtain ⟨x41, hx42, h⟩ := Option.bind_eq_some_iff.1 h
                          obtain ⟨gz43, oz43, rfl, z43cs, z43cl, z43cc, z43nf, z43r⟩ := RX.elem (by decide) hX hx42
                          obtain ⟨z43S, z43r, z43rr⟩ := z43r
                          obtain ⟨A44, c45, rfl, z43s0⟩ := z43r
                          have hX46 : (RX.of (sliceRd 3 Hd_rd) [.slice A44 x41.fHeaders.length c45] x41.fHeaders).reads w F := ⟨z43S, z43s0, z43rr⟩
                          refine TL.q rfl .u (Ex.ixS (k := 0) rfl rfl rfl Try.runUnderlying34 Try.sizeOf83 (List.getElem?_eq_some_iff.1 hx42).1) rfl ?_
                          refine TL.q rfl .u (Ex.oS (us := [.int .i64 x41.fTime, .int .i64 x41.fOffset, .bool x41.fKey.null, .string (bsOf x41.fKey.data), .bool x41.fValue.null, .string (bsOf x41.fValue.data), .slice A44 x41.fHeaders.length c45]) 0 rfl Try.isAgg83 Try.sizeOf83 z43nf z43cc rfl rfl rfl) rfl ?_
                          obtain ⟨⟨x47, x48, x49⟩, hx50, h⟩ := Option.bind_eq_some_iff.1 h
                          try dsimp only at h
                          refine TL.ce rfl .u (.fn Try.call37 rfl) (f_r08_Read_spec x41 _ _ _ hx50) (fun _ hs => (SrcE.old hs hX46)) rfl ?_
                          refine TL.run ft_cursitorref11_ok [5, 6, 7, 8, 9, 10, 11] rfl rfl ?_
                          refine TL.nil (X.seq (T.seq (T.region rfl ?_)))
                          refine TL.run ft_cursitorref11_ok [0, 1] rfl rfl ?_
                          by_cases c51 : x49 = 0
                          · replace h := ifT c51 h
                            refine TL.nil (X.seq ?_)
                            refine T.no rfl (bn_f (decide_eq_true c51)) ?_
                            refine T.skip (X.seq (T.seq (T.region rfl ?_)))
                            refine TL.q rfl .u (Ex.bS (us := [.int .i64 a0.fBase, .int .i64 a0.fLeader, .bool a0.fAppend, .bool a0.fTxn, .bool a0.fControl, .int .i64 a0.fLast, .int .i64 a0.fFirst, .int .i64 a0.fMax, .int .i64 a0.fProducer, .int .i64 a0.fEpoch, .int .i64 a0.fSequence, .slice (some ⟨gz43, oz43, none⟩) a0.fRecords.length c2]) 0 rfl Try.isAgg36 Try.sizeOf36 rfl rfl rfl) rfl ?_
                            obtain ⟨x52, hx53, h⟩ := Option.bind_eq_some_iff.1 h
                            refine TL.ce rfl .u (.fn Try.call38 rfl) (f_r11_orders_spec a0 _ _ _ hx53) (fun _ hs => (SrcE.old hs hX)) rfl ?_
                            refine TL.run ft_cursitorref11_ok [2] rfl rfl ?_
                            obtain rfl := Option.some.inj h
                            exact TL.nil (X.seq (T.ret (X.done1 [1] Try.results22 (RV.tm rfl) ⟨rfl, rfl, rfl⟩ (by rfl) (.inl rfl))))
                          · replace h := ifF c51 h
                            refine TL.nil (X.seq ?_)
                            refine T.yes rfl (bn_t (decide_eq_false c51)) ?_
                            refine T.seq (T.region rfl ?_)
                            refine TL.run ft_cursitorref11_ok [0, 1] rfl rfl ?_
                            obtain rfl := Option.some.inj h
                            exact TL.nil (X.seq (T.ret (X.rs (X.done1 [1] Try.results22 (RV.tm rfl) ⟨rfl, rfl, rfl⟩ (by rfl) (.inl rfl)))))
                    · replace h := ifF c20 h
                      refine TL.nil (X.seq ?_)
                      refine T.yes rfl (bn_t (decide_eq_false c20)) ?_
                      refine T.seq (T.region rfl ?_)
                      refine TL.run ft_cursitorref11_ok [0] rfl rfl ?_
                      obtain rfl := Option.some.inj h
                      exact TL.nil (X.seq (T.ret (X.rs (X.done1 [1] Try.results22 (RV.tm rfl) ⟨rfl, rfl, rfl⟩ (by rfl) (.inl rfl)))))
                  · replace h := ifF c19 h
                    replace c19 := eq_false_of_ne_true c19
                    refine TL.nil (X.seq ?_)
                    refine T.yes rfl (bn_t c19) ?_
                    refine T.seq (T.region rfl ?_)
                    refine TL.run ft_cursitorref11_ok [0] rfl rfl ?_
                    obtain rfl := Option.some.inj h
                    exact TL.nil (X.seq (T.ret (X.rs (X.done1 [1] Try.results22 (RV.tm rfl) ⟨rfl, rfl, rfl⟩ (by rfl) (.inl rfl)))))
                · replace h := ifF c16 h
                  replace c16 := eq_false_of_ne_true c16
                  refine TL.nil (X.seq ?_)
                  refine T.yes rfl (bn_t c16) ?_
                  refine T.seq (T.region rfl ?_)
                  refine TL.run ft_cursitorref11_ok [0] rfl rfl ?_
                  obtain rfl := Option.some.inj h
                  exact TL.nil (X.seq (T.ret (X.rs (X.done1 [1] Try.results22 (RV.tm rfl) ⟨rfl, rfl, rfl⟩ (by rfl) (.inl rfl)))))
              · replace h := ifF c15 h
                replace c15 := eq_false_of_ne_true c15
                refine TL.run ft_cursitorref11_ok [2] rfl rfl ?_
                refine TL.no rfl (.gn rfl rfl c15) rfl ?_
                refine TL.no rfl (.gn rfl rfl c15) rfl ?_
                refine TL.no rfl (.gn rfl rfl c15) rfl ?_
                refine TL.q rfl .u (Ex.pn rfl c15 rfl) rfl ?_
                refine TL.nil (X.seq ?_)
                refine T.no rfl rfl ?_
                refine T.skip (X.seq (T.seq (T.seq (T.region rfl ?_))))
                refine TL.q rfl .u (Ex.bS (us := [.int .i64 a0.fBase, .int .i64 a0.fLeader, .bool a0.fAppend, .bool a0.fTxn, .bool a0.fControl, .int .i64 a0.fLast, .int .i64 a0.fFirst, .int .i64 a0.fMax, .int .i64 a0.fProducer, .int .i64 a0.fEpoch, .int .i64 a0.fSequence, .slice A1 a0.fRecords.length c2]) 0 rfl Try.isAgg36 Try.sizeOf36 rfl rfl rfl) rfl ?_
                obtain ⟨x69, hx70, h⟩ := Option.bind_eq_some_iff.1 h
                refine TL.ce rfl .u (.fn Try.call35 rfl) (f_r11_producer_spec a0 _ _ _ hx70) (fun _ hs => (SrcE.old hs hX)) rfl ?_
                refine TL.run ft_cursitorref11_ok [2] rfl rfl ?_
                by_cases c71 : x69 = true
                · replace h := ifT c71 h
                  refine TL.nil (X.seq ?_)
                  refine T.no rfl (bn_f c71) ?_
                  refine T.skip (X.seq (T.seq (T.seq (T.region rfl ?_))))
                  refine TL.run ft_cursitorref11_ok [0] rfl rfl ?_
                  refine TL.q rfl .u (Ex.b1 0 rfl Try.isAgg4 rfl rfl) rfl ?_
                  refine TL.run ft_cursitorref11_ok [2] rfl rfl ?_
                  refine TL.no rfl (.gn rfl rfl c15) rfl ?_
                  refine TL.no rfl (.gn rfl rfl c15) rfl ?_
                  refine TL.no rfl (.gn rfl rfl c15) rfl ?_
                  refine TL.no rfl (.gn rfl rfl c15) rfl ?_
                  refine TL.q rfl .u (Ex.pn rfl c15 rfl) rfl ?_
                  refine TL.nil (X.seq ?_)
                  refine T.no rfl rfl ?_
                  refine T.skip (X.seq (T.seq (T.seq (T.region rfl ?_))))
                  refine TL.run ft_cursitorref11_ok [0] rfl rfl ?_
                  refine TL.nil (X.seq (T.block ?_))
                  obtain ⟨E74, hE75, hO76⟩ := Option.bind_eq_some_iff.1 h
                  refine T.lp (fun m e Rs => ∃ (y72 : Int) (k73 : Nat), e = [(1, .pointer (some ⟨b3, 0, none⟩)), (2, .int .i64 y72), (3, .int .i64 (k73 : Int))] ∧ Rs = [BlkR b3 36 #[.int .i64 a0.fBase, .int .i64 a0.fLeader, .bool a0.fAppend, .bool a0.fTxn, .bool a0.fControl, .int .i64 a0.fLast, .int .i64 a0.fFirst, .int .i64 a0.fMax, .int .i64 a0.fProducer, .int .i64 a0.fEpoch, .int .i64 a0.fSequence, .slice A1 a0.fRecords.length c2], EmpR] ∧ f_r11_Check_l2 a0 m y72 k73 = some E74) (((a0.fRecords.length : Int)).toNat + 1) [0, 0] ⟨0, 0, rfl, rfl, by exact hE75⟩ (by rfl) (by rfl) ?_
                  rintro m77 _ _ ⟨y72, k73, rfl, rfl, hl79⟩
                  clear hE75 h
                  cases m77 with
                  | zero =>
                    rw [f_r11_Check_l2] at hl79
                    cases hl79
                  | succ m77 =>
                    have h := hl79
                    clear hl79
                    rw [f_r11_Check_l2] at h
                    refine T.seq (T.seq (T.region rfl ?_))
                    refine TL.run ft_cursitorref11_ok [0, 1] rfl rfl ?_
                    refine TL.q rfl .u (Ex.b1 0 rfl Try.isAgg34 rfl rfl) rfl ?_
                    refine TL.q rfl .u (Ex.lenS rfl Try.runUnderlying34) rfl ?_
                    refine TL.run ft_cursitorref11_ok [4] rfl rfl ?_
                    by_cases c81 : (k73 : Int) < (a0.fRecords.length : Int)
                    · replace h := ifT c81 h
                      refine TL.nil (X.seq ?_)
                      refine T.yes rfl (decide_eq_true c81) ?_
                      refine T.skip (X.seq (T.seq (T.block (T.seq (T.region rfl ?_)))))
                      refine TL.run ft_cursitorref11_ok [0] rfl rfl ?_
                      refine TL.q rfl .u (Ex.b1 0 rfl Try.isAgg34 rfl rfl) rfl ?_
                      obtain ⟨x82, hx83, h⟩ := Option.bind_eq_some_iff.1 h
                      obtain ⟨gz84, oz84, rfl, z84cs, z84cl, z84cc, z84nf, z84r⟩ := RX.elem (by decide) hX hx83
                      obtain ⟨z84S, z84r, z84rr⟩ := z84r
                      obtain ⟨A85, c86, rfl, z84s0⟩ := z84r
                      have hX87 : (RX.of (sliceRd 3 Hd_rd) [.slice A85 x82.fHeaders.length c86] x82.fHeaders).reads w F := ⟨z84S, z84s0, z84rr⟩
                      refine TL.run ft_cursitorref11_ok [2] rfl rfl ?_
                      refine TL.q rfl .u (Ex.ixS (k := k73) rfl rfl rfl Try.runUnderlying34 Try.sizeOf83 (List.getElem?_eq_some_iff.1 hx83).1) rfl ?_
                      refine TL.q rfl .u (Ex.oS (us := [.int .i64 x82.fTime, .int .i64 x82.fOffset, .bool x82.fKey.null, .string (bsOf x82.fKey.data), .bool x82.fValue.null, .string (bsOf x82.fValue.data), .slice A85 x82.fHeaders.length c86]) 0 rfl Try.isAgg83 Try.sizeOf83 z84nf z84cc rfl rfl rfl) rfl ?_
                      obtain ⟨x88, hx89, h⟩ := Option.bind_eq_some_iff.1 h
                      refine TL.ce rfl .u (.fn Try.call36 rfl) (f_r07_Right_spec x82 _ _ _ hx89) (fun _ hs => (SrcE.old hs hX87)) rfl ?_
                      refine TL.run ft_cursitorref11_ok [6] rfl rfl ?_
                      refine TL.nil (X.seq (T.seq (T.region rfl ?_)))
                      refine TL.run ft_cursitorref11_ok [0, 1] rfl rfl ?_
                      by_cases c90 : x88 = 0
                      · replace h := ifT c90 h
                        refine TL.nil (X.seq ?_)
                        refine T.no rfl (bn_f (decide_eq_true c90)) ?_
                        refine T.skip (X.blk (X.seq (T.region rfl ?_)))
                        replace h := guard_some h
                        obtain ⟨c91, h⟩ := h
                        refine TL.run ft_cursitorref11_ok [0] rfl rfl ?_
                        refine TL.q rfl .u (Ex.add rfl rfl c91) rfl ?_
                        refine TL.run ft_cursitorref11_ok [2] rfl rfl ?_
                        exact TL.nil (X.back (m' := m77) [0, 0] (by omega) ⟨y72, k73 + 1, rfl, rfl, h⟩ (by rfl) (by rfl))
                      · replace h := ifF c90 h
                        refine TL.nil (X.seq ?_)
                        refine T.yes rfl (bn_t (decide_eq_false c90)) ?_
                        refine T.seq (T.region rfl ?_)
                        refine TL.run ft_cursitorref11_ok [0, 1] rfl rfl ?_
                        obtain rfl := Option.some.inj h
                        replace h := hO76
                        clear hO76
                        try dsimp only at h
                        obtain rfl := Option.some.inj h
                        exact TL.nil (X.seq (T.ret (X.rb (X.rs (X.rs (X.rb (X.rs (X.done1 [1] Try.results22 (RV.tm rfl) ⟨rfl, rfl, rfl⟩ (by rfl) (.inl rfl)))))))))
                    · replace h := ifF c81 h
                      refine TL.nil (X.seq ?_)
                      refine T.no rfl (decide_eq_false c81) ?_
                      obtain rfl := Option.some.inj h
                      replace h := hO76
                      clear hO76
                      try dsimp only at h
                      refine T.exit (X.exs (X.exs (X.ex (X.seq (T.seq (T.seq (T.region rfl ?_)))))))
                      refine TL.run ft_cursitorref11_ok [0] rfl rfl ?_
                      refine TL.q rfl .u (Ex.b1 0 rfl Try.isAgg4 rfl rfl) rfl ?_
                      refine TL.nil (X.seq ?_)
                      refine T.no rfl c15 ?_
                      refine T.skip (X.seq (T.seq (T.region rfl ?_)))
                      refine TL.q rfl .u (Ex.bS (us := [.int .i64 a0.fBase, .int .i64 a0.fLeader, .bool a0.fAppend, .bool a0.fTxn, .bool a0.fControl, .int .i64 a0.fLast, .int .i64 a0.fFirst, .int .i64 a0.fMax, .int .i64 a0.fProducer, .int .i64 a0.fEpoch, .int .i64 a0.fSequence, .slice A1 a0.fRecords.length c2]) 0 rfl Try.isAgg36 Try.sizeOf36 rfl rfl rfl) rfl ?_
                      obtain ⟨x92, hx93, h⟩ := Option.bind_eq_some_iff.1 h
                      refine TL.ce rfl .u (.fn Try.call38 rfl) (f_r11_orders_spec a0 _ _ _ hx93) (fun _ hs => (SrcE.old hs hX)) rfl ?_
                      refine TL.run ft_cursitorref11_ok [2] rfl rfl ?_
                      obtain rfl := Option.some.inj h
                      exact TL.nil (X.seq (T.ret (X.done1 [1] Try.results22 (RV.tm rfl) ⟨rfl, rfl, rfl⟩ (by rfl) (.inl rfl))))
                · replace h := ifF c71 h
                  replace c71 := eq_false_of_ne_true c71
                  refine TL.nil (X.seq ?_)
                  refine T.yes rfl (bn_t c71) ?_
                  refine T.seq (T.region rfl ?_)
                  refine TL.run ft_cursitorref11_ok [0] rfl rfl ?_
                  obtain rfl := Option.some.inj h
                  exact TL.nil (X.seq (T.ret (X.rs (X.done1 [1] Try.results22 (RV.tm rfl) ⟨rfl, rfl, rfl⟩ (by rfl) (.inl rfl)))))
      · replace h := ifF c10 h
        replace c10 := eq_false_of_ne_true c10
        refine TL.run ft_cursitorref11_ok [15] rfl rfl ?_
        refine TL.no rfl (.gn rfl rfl (bn_t c10)) rfl ?_
        refine TL.no rfl (.gn rfl rfl (bn_t c10)) rfl ?_
        refine TL.no rfl (.gn rfl rfl (bn_t c10)) rfl ?_
        refine TL.no rfl (.gn rfl rfl (bn_t c10)) rfl ?_
        refine TL.no rfl (.gn rfl rfl (bn_t c10)) rfl ?_
        refine TL.no rfl (.gn rfl rfl (bn_t c10)) rfl ?_
        refine TL.q rfl .u (Ex.py rfl (bn_t c10) rfl) rfl ?_
        refine TL.run ft_cursitorref11_ok [23] rfl rfl ?_
        refine TL.no rfl (.gn rfl rfl rfl) rfl ?_
        refine TL.no rfl (.gn rfl rfl rfl) rfl ?_
        refine TL.no rfl (.gn rfl rfl rfl) rfl ?_
        refine TL.q rfl .u (Ex.py rfl rfl rfl) rfl ?_
        refine TL.run ft_cursitorref11_ok [28] rfl rfl ?_
        refine TL.no rfl (.gn rfl rfl rfl) rfl ?_
        refine TL.no rfl (.gn rfl rfl rfl) rfl ?_
        refine TL.no rfl (.gn rfl rfl rfl) rfl ?_
        refine TL.q rfl .u (Ex.py rfl rfl rfl) rfl ?_
        refine TL.nil (X.seq ?_)
        refine T.yes rfl rfl ?_
        refine T.seq (T.region rfl ?_)
        refine TL.run ft_cursitorref11_ok [0] rfl rfl ?_
        obtain rfl := Option.some.inj h
        exact TL.nil (X.seq (T.ret (X.rs (X.done1 [1] Try.results22 (RV.tm rfl) ⟨rfl, rfl, rfl⟩ (by rfl) (.inl rfl)))))
    · replace h := ifF c7 h
      replace c7 := eq_false_of_ne_true c7
      refine TL.run ft_cursitorref11_ok [9] rfl rfl ?_
      refine TL.no rfl (.gn rfl rfl (bn_t c7)) rfl ?_
      refine TL.no rfl (.gn rfl rfl (bn_t c7)) rfl ?_
      refine TL.no rfl (.gn rfl rfl (bn_t c7)) rfl ?_
      refine TL.no rfl (.gn rfl rfl (bn_t c7)) rfl ?_
      refine TL.q rfl .u (Ex.py rfl (bn_t c7) rfl) rfl ?_
      refine TL.run ft_cursitorref11_ok [15] rfl rfl ?_
      refine TL.no rfl (.gn rfl rfl rfl) rfl ?_
      refine TL.no rfl (.gn rfl rfl rfl) rfl ?_
      refine TL.no rfl (.gn rfl rfl rfl) rfl ?_
      refine TL.no rfl (.gn rfl rfl rfl) rfl ?_
      refine TL.no rfl (.gn rfl rfl rfl) rfl ?_
      refine TL.no rfl (.gn rfl rfl rfl) rfl ?_
      refine TL.q rfl .u (Ex.py rfl rfl rfl) rfl ?_
      refine TL.run ft_cursitorref11_ok [23] rfl rfl ?_
      refine TL.no rfl (.gn rfl rfl rfl) rfl ?_
      refine TL.no rfl (.gn rfl rfl rfl) rfl ?_
      refine TL.no rfl (.gn rfl rfl rfl) rfl ?_
      refine TL.q rfl .u (Ex.py rfl rfl rfl) rfl ?_
      refine TL.run ft_cursitorref11_ok [28] rfl rfl ?_
      refine TL.no rfl (.gn rfl rfl rfl) rfl ?_
      refine TL.no rfl (.gn rfl rfl rfl) rfl ?_
      refine TL.no rfl (.gn rfl rfl rfl) rfl ?_
      refine TL.q rfl .u (Ex.py rfl rfl rfl) rfl ?_
      refine TL.nil (X.seq ?_)
      refine T.yes rfl rfl ?_
      refine T.seq (T.region rfl ?_)
      refine TL.run ft_cursitorref11_ok [0] rfl rfl ?_
      obtain rfl := Option.some.inj h
      exact TL.nil (X.seq (T.ret (X.rs (X.done1 [1] Try.results22 (RV.tm rfl) ⟨rfl, rfl, rfl⟩ (by rfl) (.inl rfl)))))
def f_r11_attributes (a0 : Bat) : Option (Int) := (if a0.fAppend = true then ((some 8 : Option (Int))) else ((some 0 : Option (Int)))).bind fun y5 => (if a0.fTxn = true then (if -9223372036854775808 ≤ (y5 + 16) ∧ (y5 + 16) ≤ 9223372036854775807 then some (y5 + 16) else none) else some y5).bind fun y10 => (if a0.fControl = true then (if -9223372036854775808 ≤ (y10 + 32) ∧ (y10 + 32) ≤ 9223372036854775807 then some (y10 + 32) else none) else some y10).bind fun y16 => some y16
set_option maxRecDepth 100000 in
set_option maxHeartbeats 4000000 in
theorem f_r11_attributes_spec (a0 : Bat) (A1 : Option Addr) (c2 : Nat) (r : Int) (h : f_r11_attributes a0 = some r) : SpecX Try.prog 41 #[.agg #[.int .i64 a0.fBase, .int .i64 a0.fLeader, .bool a0.fAppend, .bool a0.fTxn, .bool a0.fControl, .int .i64 a0.fLast, .int .i64 a0.fFirst, .int .i64 a0.fMax, .int .i64 a0.fProducer, .int .i64 a0.fEpoch, .int .i64 a0.fSequence, .slice A1 a0.fRecords.length c2]] (RX.of (sliceRd 7 Rec_rd) [.slice A1 a0.fRecords.length c2] a0.fRecords) (EmpR) (fun v A' N => v = .int .i64 r ∧ A' = EmpR ∧ N = []) := by
  refine enterA Try.func41 rfl Try.ntmps41 rfl ?_
  intro F w hX
  unfold f_r11_attributes at h
  refine T.seq (T.region rfl ?_)
  refine TL.box rfl .u rfl rfl (fun b3 => ?_)
  refine TL.run ft_cursitorref11_ok [1] rfl rfl ?_
  refine TL.nil (X.seq (T.seq (T.region rfl ?_)))
  refine TL.run ft_cursitorref11_ok [0] rfl rfl ?_
  refine TL.nil (X.seq (T.seq (T.seq (T.region rfl ?_))))
  refine TL.run ft_cursitorref11_ok [0] rfl rfl ?_
  refine TL.q rfl .u (Ex.b1 0 rfl Try.isAgg4 rfl rfl) rfl ?_
  refine TL.nil (X.seq ?_)
  obtain ⟨y5, h, hk6⟩ := Option.bind_eq_some_iff.1 h
  refine T.jq (fun e Rs => e = [(1, .pointer (some ⟨b3, 0, none⟩)), (2, .int .i64 0), (3, .int .i64 y5)] ∧ Rs = [BlkR b3 36 #[.int .i64 a0.fBase, .int .i64 a0.fLeader, .bool a0.fAppend, .bool a0.fTxn, .bool a0.fControl, .int .i64 a0.fLast, .int .i64 a0.fFirst, .int .i64 a0.fMax, .int .i64 a0.fProducer, .int .i64 a0.fEpoch, .int .i64 a0.fSequence, .slice A1 a0.fRecords.length c2], EmpR]) ?_ ?_
  · clear hk6
    by_cases c7 : a0.fAppend = true
    · replace h := ifT c7 h
      refine T.yes rfl c7 ?_
      refine T.region rfl ?_
      refine TL.run ft_cursitorref11_ok [0] rfl rfl ?_
      refine TL.q rfl .u (Ex.add rfl rfl (by omega)) rfl ?_
      refine TL.run ft_cursitorref11_ok [2] rfl rfl ?_
      cases h
      exact TL.nil (X.jq [0, 0] ⟨rfl, rfl⟩ (by rfl) (by rfl))
    · replace h := ifF c7 h
      replace c7 := eq_false_of_ne_true c7
      refine T.no rfl c7 ?_
      cases h
      exact T.skip (X.jq [0, 0] ⟨rfl, rfl⟩ (by rfl) (by rfl))
  · rintro _ _ ⟨rfl, rfl⟩
    clear h
    have h := hk6
    clear hk6
    try dsimp only at h
    refine X.seq (T.seq (T.seq (T.region rfl ?_)))
    refine TL.run ft_cursitorref11_ok [0] rfl rfl ?_
    refine TL.q rfl .u (Ex.b1 0 rfl Try.isAgg4 rfl rfl) rfl ?_
    refine TL.nil (X.seq ?_)
    obtain ⟨y10, h, hk11⟩ := Option.bind_eq_some_iff.1 h
    refine T.jq (fun e Rs => e = [(1, .pointer (some ⟨b3, 0, none⟩)), (2, .int .i64 0), (3, .int .i64 y10)] ∧ Rs = [BlkR b3 36 #[.int .i64 a0.fBase, .int .i64 a0.fLeader, .bool a0.fAppend, .bool a0.fTxn, .bool a0.fControl, .int .i64 a0.fLast, .int .i64 a0.fFirst, .int .i64 a0.fMax, .int .i64 a0.fProducer, .int .i64 a0.fEpoch, .int .i64 a0.fSequence, .slice A1 a0.fRecords.length c2], EmpR]) ?_ ?_
    · clear hk11
      by_cases c12 : a0.fTxn = true
      · replace h := ifT c12 h
        refine T.yes rfl c12 ?_
        refine T.region rfl ?_
        replace h := guard_some h
        obtain ⟨c13, h⟩ := h
        refine TL.run ft_cursitorref11_ok [0] rfl rfl ?_
        refine TL.q rfl .u (Ex.add rfl rfl c13) rfl ?_
        refine TL.run ft_cursitorref11_ok [2] rfl rfl ?_
        cases h
        exact TL.nil (X.jq [0, 0] ⟨rfl, rfl⟩ (by rfl) (by rfl))
      · replace h := ifF c12 h
        replace c12 := eq_false_of_ne_true c12
        refine T.no rfl c12 ?_
        cases h
        exact T.skip (X.jq [0, 0] ⟨rfl, rfl⟩ (by rfl) (by rfl))
    · rintro _ _ ⟨rfl, rfl⟩
      clear h
      have h := hk11
      clear hk11
      try dsimp only at h
      refine X.seq (T.seq (T.seq (T.region rfl ?_)))
      refine TL.run ft_cursitorref11_ok [0] rfl rfl ?_
      refine TL.q rfl .u (Ex.b1 0 rfl Try.isAgg4 rfl rfl) rfl ?_
      refine TL.nil (X.seq ?_)
      obtain ⟨y16, h, hk17⟩ := Option.bind_eq_some_iff.1 h
      refine T.jq (fun e Rs => e = [(2, .int .i64 0), (3, .int .i64 y16)] ∧ Rs = [BlkR b3 36 #[.int .i64 a0.fBase, .int .i64 a0.fLeader, .bool a0.fAppend, .bool a0.fTxn, .bool a0.fControl, .int .i64 a0.fLast, .int .i64 a0.fFirst, .int .i64 a0.fMax, .int .i64 a0.fProducer, .int .i64 a0.fEpoch, .int .i64 a0.fSequence, .slice A1 a0.fRecords.length c2], EmpR]) ?_ ?_
      · clear hk17
        by_cases c18 : a0.fControl = true
        · replace h := ifT c18 h
          refine T.yes rfl c18 ?_
          refine T.region rfl ?_
          replace h := guard_some h
          obtain ⟨c19, h⟩ := h
          refine TL.run ft_cursitorref11_ok [0] rfl rfl ?_
          refine TL.q rfl .u (Ex.add rfl rfl c19) rfl ?_
          refine TL.run ft_cursitorref11_ok [2] rfl rfl ?_
          cases h
          exact TL.nil (X.jq [0, 0] ⟨rfl, rfl⟩ (by rfl) (by rfl))
        · replace h := ifF c18 h
          replace c18 := eq_false_of_ne_true c18
          refine T.no rfl c18 ?_
          cases h
          exact T.skip (X.jq [0, 0] ⟨rfl, rfl⟩ (by rfl) (by rfl))
      · rintro _ _ ⟨rfl, rfl⟩
        clear h
        have h := hk17
        clear hk17
        try dsimp only at h
        refine X.seq (T.seq (T.region rfl ?_))
        refine TL.run ft_cursitorref11_ok [0, 1] rfl rfl ?_
        obtain rfl := Option.some.inj h
        exact TL.nil (X.seq (T.ret (X.done1 [1] Try.results41 (RV.tm rfl) ⟨rfl, rfl, rfl⟩ (by rfl) (.inl rfl))))
def f_r11_Encode_l1 (a0 : Bat) : Nat → List UInt8 → Nat → Option (List UInt8 × Nat)
  | 0, _, _ => none
  | m9 + 1, y4, k5 => if (k5 : Int) < (a0.fRecords.length : Int) then ((a0.fRecords[k5]?).bind fun x14 => (f_r07_Write x14).bind fun x20 => if y4.length + x20.length ≤ 9223372036854775807 then (if -9223372036854775808 ≤ ((k5 : Int) + 1) ∧ ((k5 : Int) + 1) ≤ 9223372036854775807 then (f_r11_Encode_l1 a0 m9 (y4 ++ x20) (k5 + 1)) else none) else none) else some (y4, k5)
def f_r11_Encode (a0 : Bat) : Option (List UInt8) := (f_r11_Encode_l1 a0 (((a0.fRecords.length : Int)).toNat + 1) [] 0).bind fun (y44, k45) => if -9223372036854775808 ≤ (49 + (y44.length : Int)) ∧ (49 + (y44.length : Int)) ≤ 9223372036854775807 then ((f_r11_attributes a0).bind fun x47 => (f_r10_Bytes [a0.fBase, (49 + (y44.length : Int)), a0.fLeader, 0, x47, a0.fLast, a0.fFirst, a0.fMax, a0.fProducer, a0.fEpoch, a0.fSequence, (a0.fRecords.length : Int)]).bind fun (x50, x51) => if 21 ≤ x50.length then (if (x50.drop 21).length + y44.length ≤ 9223372036854775807 then ((f_r05_Sum ((x50.drop 21) ++ y44)).bind fun x55 => if -9223372036854775808 ≤ x55 ∧ x55 ≤ 9223372036854775807 then (if -9223372036854775808 ≤ (49 + (y44.length : Int)) ∧ (49 + (y44.length : Int)) ≤ 9223372036854775807 then ((f_r11_attributes a0).bind fun x59 => (f_r10_Bytes [a0.fBase, (49 + (y44.length : Int)), a0.fLeader, x55, x59, a0.fLast, a0.fFirst, a0.fMax, a0.fProducer, a0.fEpoch, a0.fSequence, (a0.fRecords.length : Int)]).bind fun (x62, x63) => if x62.length + y44.length ≤ 9223372036854775807 then some (x62 ++ y44) else none) else none) else none) else none) else none) else none
set_option maxRecDepth 100000 in
set_option maxHeartbeats 4000000 in
theorem f_r11_Encode_spec (a0 : Bat) (A1 : Option Addr) (c2 : Nat) (r : List UInt8) (h : f_r11_Encode a0 = some r) : SpecX Try.prog 23 #[.agg #[.int .i64 a0.fBase, .int .i64 a0.fLeader, .bool a0.fAppend, .bool a0.fTxn, .bool a0.fControl, .int .i64 a0.fLast, .int .i64 a0.fFirst, .int .i64 a0.fMax, .int .i64 a0.fProducer, .int .i64 a0.fEpoch, .int .i64 a0.fSequence, .slice A1 a0.fRecords.length c2]] (RX.of (sliceRd 7 Rec_rd) [.slice A1 a0.fRecords.length c2] a0.fRecords) (EmpR) (fun v A' N => v = .string (bsOf r) ∧ A' = EmpR ∧ N = []) := by
  refine enterA Try.func23 rfl Try.ntmps23 rfl ?_
  intro F w hX
  unfold f_r11_Encode at h
  refine T.seq (T.region rfl ?_)
  refine TL.box rfl .u rfl rfl (fun b3 => ?_)
  refine TL.run ft_cursitorref11_ok [1] rfl rfl ?_
  refine TL.nil (X.seq (T.seq (T.region rfl ?_)))
  refine TL.run ft_cursitorref11_ok [0] rfl rfl ?_
  refine TL.nil (X.seq (T.seq (T.seq (T.region rfl ?_))))
  refine TL.run ft_cursitorref11_ok [0] rfl rfl ?_
  refine TL.nil (X.seq (T.block ?_))
  obtain ⟨E6, hE7, hO8⟩ := Option.bind_eq_some_iff.1 h
  refine T.lp (fun m e Rs => ∃ (y4 : List UInt8) (k5 : Nat), e = [(1, .pointer (some ⟨b3, 0, none⟩)), (2, .string ⟨#[]⟩), (3, .string (bsOf y4)), (4, .int .i64 (k5 : Int))] ∧ Rs = [BlkR b3 36 #[.int .i64 a0.fBase, .int .i64 a0.fLeader, .bool a0.fAppend, .bool a0.fTxn, .bool a0.fControl, .int .i64 a0.fLast, .int .i64 a0.fFirst, .int .i64 a0.fMax, .int .i64 a0.fProducer, .int .i64 a0.fEpoch, .int .i64 a0.fSequence, .slice A1 a0.fRecords.length c2], EmpR] ∧ f_r11_Encode_l1 a0 m y4 k5 = some E6) (((a0.fRecords.length : Int)).toNat + 1) [0, 0] ⟨[], 0, rfl, rfl, by exact hE7⟩ (by rfl) (by rfl) ?_
  rintro m9 _ _ ⟨y4, k5, rfl, rfl, hl11⟩
  clear hE7 h
  cases m9 with
  | zero =>
    rw [f_r11_Encode_l1] at hl11
    cases hl11
  | succ m9 =>
    have h := hl11
    clear hl11
    rw [f_r11_Encode_l1] at h
    refine T.seq (T.seq (T.region rfl ?_))
    refine TL.run ft_cursitorref11_ok [0, 1] rfl rfl ?_
    refine TL.q rfl .u (Ex.b1 0 rfl Try.isAgg34 rfl rfl) rfl ?_
    refine TL.q rfl .u (Ex.lenS rfl Try.runUnderlying34) rfl ?_
    refine TL.run ft_cursitorref11_ok [4] rfl rfl ?_
    by_cases c13 : (k5 : Int) < (a0.fRecords.length : Int)
    · replace h := ifT c13 h
      refine TL.nil (X.seq ?_)
      refine T.yes rfl (decide_eq_true c13) ?_
      refine T.skip (X.seq (T.seq (T.block (T.region rfl ?_))))
      refine TL.run ft_cursitorref11_ok [0, 1] rfl rfl ?_
      refine TL.q rfl .u (Ex.b1 0 rfl Try.isAgg34 rfl rfl) rfl ?_
      obtain ⟨x14, hx15, h⟩ := Option.bind_eq_some_iff.1 h
      obtain ⟨gz16, oz16, rfl, z16cs, z16cl, z16cc, z16nf, z16r⟩ := RX.elem (by decide) hX hx15
      obtain ⟨z16S, z16r, z16rr⟩ := z16r
      obtain ⟨A17, c18, rfl, z16s0⟩ := z16r
      have hX19 : (RX.of (sliceRd 3 Hd_rd) [.slice A17 x14.fHeaders.length c18] x14.fHeaders).reads w F := ⟨z16S, z16s0, z16rr⟩
      refine TL.run ft_cursitorref11_ok [3] rfl rfl ?_
      refine TL.q rfl .u (Ex.ixS (k := k5) rfl rfl rfl Try.runUnderlying34 Try.sizeOf83 (List.getElem?_eq_some_iff.1 hx15).1) rfl ?_
      refine TL.q rfl .u (Ex.oS (us := [.int .i64 x14.fTime, .int .i64 x14.fOffset, .bool x14.fKey.null, .string (bsOf x14.fKey.data), .bool x14.fValue.null, .string (bsOf x14.fValue.data), .slice A17 x14.fHeaders.length c18]) 0 rfl Try.isAgg83 Try.sizeOf83 z16nf z16cc rfl rfl rfl) rfl ?_
      obtain ⟨x20, hx21, h⟩ := Option.bind_eq_some_iff.1 h
      refine TL.ce rfl .u (.fn Try.call39 rfl) (f_r07_Write_spec x14 _ _ _ hx21) (fun _ hs => (SrcE.old hs hX19)) rfl ?_
      replace h := guard_some h
      obtain ⟨c22, h⟩ := h
      refine TL.q rfl .u (Ex.sAdd rfl rfl c22) rfl ?_
      refine TL.run ft_cursitorref11_ok [8] rfl rfl ?_
      refine TL.nil (X.blk (X.seq (T.region rfl ?_)))
      replace h := guard_some h
      obtain ⟨c23, h⟩ := h
      refine TL.run ft_cursitorref11_ok [0] rfl rfl ?_
      refine TL.q rfl .u (Ex.add rfl rfl c23) rfl ?_
      refine TL.run ft_cursitorref11_ok [2] rfl rfl ?_
      exact TL.nil (X.back (m' := m9) [0, 0] (by omega) ⟨(y4 ++ x20), k5 + 1, rfl, rfl, h⟩ (by rfl) (by rfl))
    · replace h := ifF c13 h
      refine TL.nil (X.seq ?_)
      refine T.no rfl (decide_eq_false c13) ?_
      obtain rfl := Option.some.inj h
      replace h := hO8
      clear hO8
      try dsimp only at h
      refine T.exit (X.exs (X.exs (X.ex (X.seq (T.seq (T.draw (.q 0 (.q 1 (.q 2 (.q 3 (.q 4 (.q 5 (.q 6 (.q 7 (.q 9 (.q 10 (.q 11 (.q 12 (.q 13 (.q 14 (.q 15 (.q 16 (.q 17 (.q 18 (.q 19 (.q 20 (.q 21 (.q 22 (.q 23 (.e 8 (.e 24 (.e 25 (.q 26 (.q 27 (.q 28 (.q 29 (.q 30 .nil))))))))))))))))))))))))))))))) [0, 0] rfl mix_cursitorref11 (NoP.seq np_post) (by kernel_rfl) ?_))))))
      refine TD.run ft_cursitorref11_ok [0] rfl rfl ?_
      refine TD.q rfl .u (Ex.b1 0 rfl Try.isAgg3 rfl rfl) rfl ?_
      refine TD.run ft_cursitorref11_ok [2] rfl rfl ?_
      refine TD.q rfl .u (Ex.lenB rfl Try.runUnderlying9) rfl ?_
      replace h := guard_some h
      obtain ⟨c24, h⟩ := h
      refine TD.q rfl .u (Ex.add rfl rfl c24) rfl ?_
      refine TD.run ft_cursitorref11_ok [5] rfl rfl ?_
      refine TD.q rfl .u (Ex.b1 0 rfl Try.isAgg3 rfl rfl) rfl ?_
      refine TD.q rfl .u (Ex.bS (us := [.int .i64 a0.fBase, .int .i64 a0.fLeader, .bool a0.fAppend, .bool a0.fTxn, .bool a0.fControl, .int .i64 a0.fLast, .int .i64 a0.fFirst, .int .i64 a0.fMax, .int .i64 a0.fProducer, .int .i64 a0.fEpoch, .int .i64 a0.fSequence, .slice A1 a0.fRecords.length c2]) 0 rfl Try.isAgg36 Try.sizeOf36 rfl rfl rfl) rfl ?_
      refine TD.run ft_cursitorref11_ok [9] rfl rfl ?_
      refine TD.q rfl .u (Ex.b1 0 rfl Try.isAgg3 rfl rfl) rfl ?_
      refine TD.run ft_cursitorref11_ok [11] rfl rfl ?_
      refine TD.q rfl .u (Ex.b1 0 rfl Try.isAgg3 rfl rfl) rfl ?_
      refine TD.run ft_cursitorref11_ok [13] rfl rfl ?_
      refine TD.q rfl .u (Ex.b1 0 rfl Try.isAgg3 rfl rfl) rfl ?_
      refine TD.run ft_cursitorref11_ok [15] rfl rfl ?_
      refine TD.q rfl .u (Ex.b1 0 rfl Try.isAgg3 rfl rfl) rfl ?_
      refine TD.run ft_cursitorref11_ok [17] rfl rfl ?_
      refine TD.q rfl .u (Ex.b1 0 rfl Try.isAgg3 rfl rfl) rfl ?_
      refine TD.run ft_cursitorref11_ok [19] rfl rfl ?_
      refine TD.q rfl .u (Ex.b1 0 rfl Try.isAgg3 rfl rfl) rfl ?_
      refine TD.run ft_cursitorref11_ok [21] rfl rfl ?_
      refine TD.q rfl .u (Ex.b1 0 rfl Try.isAgg34 rfl rfl) rfl ?_
      refine TD.q rfl .u (Ex.lenS rfl Try.runUnderlying34) rfl ?_
      obtain ⟨x25, hx26, h⟩ := Option.bind_eq_some_iff.1 h
      refine TD.ce rfl .u (.fn Try.call41 rfl) (f_r11_attributes_spec a0 _ _ _ hx26) (fun _ hs => (SrcE.old hs hX)) rfl [0, 0] (rfl) ?_
      refine TD.lit (cells := #[.int .i64 a0.fBase, .int .i64 (49 + (y4.length : Int)), .int .i64 a0.fLeader, .int .i64 0, .int .i64 x25, .int .i64 a0.fLast, .int .i64 a0.fFirst, .int .i64 a0.fMax, .int .i64 a0.fProducer, .int .i64 a0.fEpoch, .int .i64 a0.fSequence, .int .i64 (a0.fRecords.length : Int)]) rfl .u sok_cursitorref11_44_12 rfl (by kernel_rfl) rfl [1, 1] (fun _ => rfl) (fun b27 => ?_)
      refine TD.rowOf (us := [.int .i64 a0.fBase, .int .i64 (49 + (y4.length : Int)), .int .i64 a0.fLeader, .int .i64 0, .int .i64 x25, .int .i64 a0.fLast, .int .i64 a0.fFirst, .int .i64 a0.fMax, .int .i64 a0.fProducer, .int .i64 a0.fEpoch, .int .i64 a0.fSequence, .int .i64 (a0.fRecords.length : Int)]) (xs := [a0.fBase, (49 + (y4.length : Int)), a0.fLeader, 0, x25, a0.fLast, a0.fFirst, a0.fMax, a0.fProducer, a0.fEpoch, a0.fSequence, (a0.fRecords.length : Int)]) (E := intE) (z := 1) rfl (Nat.le_of_ble_eq_true rfl) (fun _ => ⟨rfl, rfl, ⟨rfl, rfl, ⟨rfl, rfl, ⟨rfl, rfl, ⟨rfl, rfl, ⟨rfl, rfl, ⟨rfl, rfl, ⟨rfl, rfl, ⟨rfl, rfl, ⟨rfl, rfl, ⟨rfl, rfl, ⟨rfl, rfl, rfl⟩⟩⟩⟩⟩⟩⟩⟩⟩⟩⟩⟩) ?_
      obtain ⟨⟨x28, x29⟩, hx30, h⟩ := Option.bind_eq_some_iff.1 h
      try dsimp only at h
      refine TD.ce rfl .u (.fn Try.call40 rfl) (f_r10_Bytes_spec [a0.fBase, (49 + (y4.length : Int)), a0.fLeader, 0, x25, a0.fLast, a0.fFirst, a0.fMax, a0.fProducer, a0.fEpoch, a0.fSequence, (a0.fRecords.length : Int)] _ _ _ hx30) (fun _ hs => (SrcE.res 0 hs rfl (fun w G h => own_reads (by decide) w G h))) rfl [1, 1] (rfl) ?_
      refine TD.run ft_cursitorref11_ok [26, 27, 28, 29, 30] rfl rfl ?_
      refine TD.nil (X.seq (T.seq (T.region rfl ?_)))
      replace h := guard_some h
      obtain ⟨c31, h⟩ := h
      refine TL.run ft_cursitorref11_ok [0] rfl rfl ?_
      replace c31 : 21 ≤ x28.length := c31
      refine TL.q rfl .u (Ex.sSl (p := 21) (q := x28.length) (m := (x28.drop 21)) rfl Try.runUnderlying9 (.some rfl rfl) .none (by first | omega | (dsimp only; omega)) (sl_drop _ _)) rfl ?_
      replace h := guard_some h
      obtain ⟨c32, h⟩ := h
      refine TL.run ft_cursitorref11_ok [2] rfl rfl ?_
      refine TL.q rfl .u (Ex.sAdd rfl rfl c32) rfl ?_
      obtain ⟨x33, hx34, h⟩ := Option.bind_eq_some_iff.1 h
      refine TL.ce rfl .u (.fn Try.call42 rfl) (f_r05_Sum_spec ((x28.drop 21) ++ y4) _ hx34) (fun _ hs => (RX.reads_triv _ _)) rfl ?_
      replace h := guard_some h
      obtain ⟨c35, h⟩ := h
      refine TL.q rfl .u (Ex.conv64 rfl Try.runUnderlying94 Try.runUnderlying3 c35) rfl ?_
      refine TL.run ft_cursitorref11_ok [6] rfl rfl ?_
      refine TL.nil (X.seq (T.seq (T.draw (.q 0 (.q 1 (.q 2 (.q 3 (.q 4 (.q 5 (.q 6 (.q 7 (.q 8 (.q 10 (.q 11 (.q 12 (.q 13 (.q 14 (.q 15 (.q 16 (.q 17 (.q 18 (.q 19 (.q 20 (.q 21 (.q 22 (.q 23 (.q 24 (.e 9 (.e 25 (.e 26 (.q 27 (.q 28 (.q 29 (.q 30 (.q 31 .nil)))))))))))))))))))))))))))))))) [0, 0, 0] rfl mix_cursitorref11 (NoP.seq np_post) (by kernel_rfl) ?_)))
      refine TD.run ft_cursitorref11_ok [0] rfl rfl ?_
      refine TD.q rfl .u (Ex.b1 1 rfl Try.isAgg3 rfl rfl) rfl ?_
      refine TD.run ft_cursitorref11_ok [2] rfl rfl ?_
      refine TD.q rfl .u (Ex.lenB rfl Try.runUnderlying9) rfl ?_
      replace h := guard_some h
      obtain ⟨c36, h⟩ := h
      refine TD.q rfl .u (Ex.add rfl rfl c36) rfl ?_
      refine TD.run ft_cursitorref11_ok [5] rfl rfl ?_
      refine TD.q rfl .u (Ex.b1 1 rfl Try.isAgg3 rfl rfl) rfl ?_
      refine TD.run ft_cursitorref11_ok [7] rfl rfl ?_
      refine TD.q rfl .u (Ex.bS (us := [.int .i64 a0.fBase, .int .i64 a0.fLeader, .bool a0.fAppend, .bool a0.fTxn, .bool a0.fControl, .int .i64 a0.fLast, .int .i64 a0.fFirst, .int .i64 a0.fMax, .int .i64 a0.fProducer, .int .i64 a0.fEpoch, .int .i64 a0.fSequence, .slice A1 a0.fRecords.length c2]) 1 rfl Try.isAgg36 Try.sizeOf36 rfl rfl rfl) rfl ?_
      refine TD.run ft_cursitorref11_ok [10] rfl rfl ?_
      refine TD.q rfl .u (Ex.b1 1 rfl Try.isAgg3 rfl rfl) rfl ?_
      refine TD.run ft_cursitorref11_ok [12] rfl rfl ?_
      refine TD.q rfl .u (Ex.b1 1 rfl Try.isAgg3 rfl rfl) rfl ?_
      refine TD.run ft_cursitorref11_ok [14] rfl rfl ?_
      refine TD.q rfl .u (Ex.b1 1 rfl Try.isAgg3 rfl rfl) rfl ?_
      refine TD.run ft_cursitorref11_ok [16] rfl rfl ?_
      refine TD.q rfl .u (Ex.b1 1 rfl Try.isAgg3 rfl rfl) rfl ?_
      refine TD.run ft_cursitorref11_ok [18] rfl rfl ?_
      refine TD.q rfl .u (Ex.b1 1 rfl Try.isAgg3 rfl rfl) rfl ?_
      refine TD.run ft_cursitorref11_ok [20] rfl rfl ?_
      refine TD.q rfl .u (Ex.b1 1 rfl Try.isAgg3 rfl rfl) rfl ?_
      refine TD.run ft_cursitorref11_ok [22] rfl rfl ?_
      refine TD.q rfl .u (Ex.b1 1 rfl Try.isAgg34 rfl rfl) rfl ?_
      refine TD.q rfl .u (Ex.lenS rfl Try.runUnderlying34) rfl ?_
      obtain ⟨x37, hx38, h⟩ := Option.bind_eq_some_iff.1 h
      refine TD.ce rfl .u (.fn Try.call41 rfl) (f_r11_attributes_spec a0 _ _ _ hx38) (fun _ hs => (SrcE.old hs hX)) rfl [0, 0, 0] (rfl) ?_
      refine TD.lit (cells := #[.int .i64 a0.fBase, .int .i64 (49 + (y4.length : Int)), .int .i64 a0.fLeader, .int .i64 x33, .int .i64 x37, .int .i64 a0.fLast, .int .i64 a0.fFirst, .int .i64 a0.fMax, .int .i64 a0.fProducer, .int .i64 a0.fEpoch, .int .i64 a0.fSequence, .int .i64 (a0.fRecords.length : Int)]) rfl .u sok_cursitorref11_44_12 rfl (by kernel_rfl) rfl [1, 1, 1] (fun _ => rfl) (fun b39 => ?_)
      refine TD.rowOf (us := [.int .i64 a0.fBase, .int .i64 (49 + (y4.length : Int)), .int .i64 a0.fLeader, .int .i64 x33, .int .i64 x37, .int .i64 a0.fLast, .int .i64 a0.fFirst, .int .i64 a0.fMax, .int .i64 a0.fProducer, .int .i64 a0.fEpoch, .int .i64 a0.fSequence, .int .i64 (a0.fRecords.length : Int)]) (xs := [a0.fBase, (49 + (y4.length : Int)), a0.fLeader, x33, x37, a0.fLast, a0.fFirst, a0.fMax, a0.fProducer, a0.fEpoch, a0.fSequence, (a0.fRecords.length : Int)]) (E := intE) (z := 1) rfl (Nat.le_of_ble_eq_true rfl) (fun _ => ⟨rfl, rfl, ⟨rfl, rfl, ⟨rfl, rfl, ⟨rfl, rfl, ⟨rfl, rfl, ⟨rfl, rfl, ⟨rfl, rfl, ⟨rfl, rfl, ⟨rfl, rfl, ⟨rfl, rfl, ⟨rfl, rfl, ⟨rfl, rfl, rfl⟩⟩⟩⟩⟩⟩⟩⟩⟩⟩⟩⟩) ?_
      obtain ⟨⟨x40, x41⟩, hx42, h⟩ := Option.bind_eq_some_iff.1 h
      try dsimp only at h
      refine TD.ce rfl .u (.fn Try.call40 rfl) (f_r10_Bytes_spec [a0.fBase, (49 + (y4.length : Int)), a0.fLeader, x33, x37, a0.fLast, a0.fFirst, a0.fMax, a0.fProducer, a0.fEpoch, a0.fSequence, (a0.fRecords.length : Int)] _ _ _ hx42) (fun _ hs => (SrcE.res 0 hs rfl (fun w G h => own_reads (by decide) w G h))) rfl [1, 1, 1] (rfl) ?_
      refine TD.run ft_cursitorref11_ok [27, 28, 29, 30, 31] rfl rfl ?_
      refine TD.nil (X.seq (T.seq (T.region rfl ?_)))
      replace h := guard_some h
      obtain ⟨c43, h⟩ := h
      refine TL.run ft_cursitorref11_ok [0, 1] rfl rfl ?_
      refine TL.q rfl .u (Ex.sAdd rfl rfl c43) rfl ?_
      refine TL.run ft_cursitorref11_ok [3] rfl rfl ?_
      obtain rfl := Option.some.inj h
      exact TL.nil (X.seq (T.ret (X.done1 [3] Try.results23 (RV.tm rfl) ⟨rfl, rfl, rfl⟩ (by rfl) (.inl rfl))))
end Go.Proofs.Ytahjmpipllajcaa.Sl
namespace Go.Proofs.Ytahjmpipllajcaa.Sl
open Go.RowKit
set_option linter.unusedVariables false
set_option linter.unusedSimpArgs false
set_option maxRecDepth 100000
def ft_cursitorlaw24 : FTab := [(36, 11, 11)]
theorem ft_cursitorlaw24_ok : (ft_cursitorlaw24).OK Try.prog := ⟨FOK.mk Try.runUnderlying36 rfl Try.sizeOf34 rfl, trivial⟩
theorem mix_cursitorlaw24 : Try.prog.follows .mixedOrders = true := by kernel_rfl
theorem bok_cursitorlaw24_45 : BOK Try.prog 45 #[.int .i64 0, .int .i64 0, .int .i64 0, .int .i64 0] [(0, 1), (1, 1), (2, 1), (3, 1)] := BOK.mkA Try.zeroValue45 Try.runUnderlying45 Try.sizeOf3 (by decide)
theorem sok_cursitorlaw24_44_3 : SOK Try.prog 44 3 3 1 #[.int .i64 0, .int .i64 0, .int .i64 0] := SOK.mk Try.runUnderlying44 Try.sizeOf3 Try.zeroValue3 (by decide) (by kernel_rfl)
theorem sok_cursitorlaw24_44_5 : SOK Try.prog 44 3 5 1 #[.int .i64 0, .int .i64 0, .int .i64 0, .int .i64 0, .int .i64 0] := SOK.mk Try.runUnderlying44 Try.sizeOf3 Try.zeroValue3 (by decide) (by kernel_rfl)
theorem inf_cursitorlaw24_3 : (Try.prog.info? 3).map (fun i => (i.zero, i.size, i.bytes)) = some (some (.int .i64 0), 1, 8) := by kernel_rfl
theorem flat_cursitorlaw24_45 : Flat Try.prog 2 45 [.int .i64, .int .i64, .int .i64, .int .i64] true := (Flat.array1 Try.isAgg45 Try.sizeOf45 rfl Try.underlying45 rfl inf_cursitorlaw24_3 (Flat.one_ Try.isAgg3 Try.sizeOf3 Try.underlying3))
def f_l24_speaks  : Option (Bool) := ((f_tally_Quarter 1 [5, 3, 2]).bind fun x20 => if (fEq x20.1 4613937818241073152 && fEq x20.2 4613937818241073152) = true then ((f_tally_Turn (4607182418800017408, 0) (-1)).bind fun x23 => if (fEq x23.1 0 && fEq x23.2 13830554455654793216) = true then ((f_tally_Quarters [5, 3, 2, 0, 4]).bind fun x27 => (f_tally_Back x27).bind fun x29 => if x29.1 = 9 then (if x29.2.1 = 3 then (if x29.2.2.1 = 2 then (if x29.2.2.2 = 0 then some true else some false) else some false) else some false) else some false) else some false) else some false).bind fun y17 => some y17
set_option maxRecDepth 100000 in
set_option maxHeartbeats 4000000 in
theorem f_l24_speaks_spec  (r : Bool) (h : f_l24_speaks  = some r) : SpecX Try.prog 14 #[] .triv (EmpR) (fun v A' N => v = .bool r ∧ A' = EmpR ∧ N = []) := by
  refine enterA Try.func14 rfl Try.ntmps14 rfl ?_
  intro F w hX
  unfold f_l24_speaks at h
  refine T.seq (T.region rfl ?_)
  refine TL.run ft_cursitorlaw24_ok [0] rfl rfl ?_
  refine TL.nil (X.seq (T.seq ?_))
  obtain ⟨y17, h, hk18⟩ := Option.bind_eq_some_iff.1 h
  refine T.jq (fun e Rs => e = [(0, .bool y17)] ∧ Rs = [EmpR]) ?_ ?_
  · clear hk18
    refine T.region rfl ?_
    refine TL.lit (cells := #[.int .i64 5, .int .i64 3, .int .i64 2]) rfl .u sok_cursitorlaw24_44_3 rfl (by kernel_rfl) rfl (fun b19 => ?_)
    refine TL.rowOf (us := [.int .i64 5, .int .i64 3, .int .i64 2]) (xs := [5, 3, 2]) (E := intE) (z := 1) rfl (Nat.le_of_ble_eq_true rfl) (fun _ => ⟨rfl, rfl, ⟨rfl, rfl, ⟨rfl, rfl, rfl⟩⟩⟩) ?_
    obtain ⟨x20, hx21, h⟩ := Option.bind_eq_some_iff.1 h
    refine TL.ce rfl .u (.fn Try.call18 rfl) (f_tally_Quarter_spec 1 [5, 3, 2] _ _ _ hx21) (fun _ hs => (SrcE.res 0 hs rfl (fun w G h => own_reads (by decide) w G h))) rfl ?_
    refine TL.q rfl .u (Ex.ceq rfl rfl Try.runUnderlying46) rfl ?_
    by_cases c22 : (fEq x20.1 4613937818241073152 && fEq x20.2 4613937818241073152) = true
    · replace h := ifT c22 h
      obtain ⟨x23, hx24, h⟩ := Option.bind_eq_some_iff.1 h
      refine TL.run ft_cursitorlaw24_ok [3] rfl rfl ?_
      refine TL.ce rfl (.g rfl rfl c22) (.fn Try.call20 rfl) (f_tally_Turn_spec (4607182418800017408, 0) (-1) _ hx24) (fun _ hs => (RX.reads_triv _ _)) rfl ?_
      refine TL.q rfl (.g rfl rfl c22) (Ex.ceq rfl rfl Try.runUnderlying46) rfl ?_
      refine TL.q rfl .u (Ex.py rfl c22 rfl) rfl ?_
      by_cases c25 : (fEq x23.1 0 && fEq x23.2 13830554455654793216) = true
      · replace h := ifT c25 h
        refine TL.run ft_cursitorlaw24_ok [7] rfl rfl ?_
        refine TL.lit (cells := #[.int .i64 5, .int .i64 3, .int .i64 2, .int .i64 0, .int .i64 4]) rfl (.g rfl rfl c25) sok_cursitorlaw24_44_5 rfl (by kernel_rfl) rfl (fun b26 => ?_)
        refine TL.rowOf (us := [.int .i64 5, .int .i64 3, .int .i64 2, .int .i64 0, .int .i64 4]) (xs := [5, 3, 2, 0, 4]) (E := intE) (z := 1) rfl (Nat.le_of_ble_eq_true rfl) (fun _ => ⟨rfl, rfl, ⟨rfl, rfl, ⟨rfl, rfl, ⟨rfl, rfl, ⟨rfl, rfl, rfl⟩⟩⟩⟩⟩) ?_
        obtain ⟨x27, hx28, h⟩ := Option.bind_eq_some_iff.1 h
        refine TL.ce rfl (.g rfl rfl c25) (.fn Try.call15 rfl) (f_tally_Quarters_spec [5, 3, 2, 0, 4] _ _ _ hx28) (fun _ hs => (SrcE.res 0 hs rfl (fun w G h => own_reads (by decide) w G h))) rfl ?_
        obtain ⟨x29, hx30, h⟩ := Option.bind_eq_some_iff.1 h
        refine TL.ce rfl (.g rfl rfl c25) (.fn Try.call19 rfl) (f_tally_Back_spec x27 _ hx30) (fun _ hs => (RX.reads_triv _ _)) rfl ?_
        refine TL.q rfl (.g rfl rfl c25) (Ex.bld (cells := #[.int .i64 9, .int .i64 3, .int .i64 2, .int .i64 0]) bok_cursitorlaw24_45 rfl (by kernel_rfl)) rfl ?_
        by_cases c31 : x29.1 = 9
        · replace h := ifT c31 h
          by_cases c32 : x29.2.1 = 3
          · replace h := ifT c32 h
            by_cases c33 : x29.2.2.1 = 2
            · replace h := ifT c33 h
              by_cases c34 : x29.2.2.2 = 0
              · replace h := ifT c34 h
                refine TL.q rfl (.g rfl rfl c25) (Ex.aEq (us := [.int .i64 x29.1, .int .i64 x29.2.1, .int .i64 x29.2.2.1, .int .i64 x29.2.2.2]) (vs := [.int .i64 9, .int .i64 3, .int .i64 2, .int .i64 0]) flat_cursitorlaw24_45 rfl Try.eqGuardType45 rfl rfl rfl rfl (eqL_t (eqV_i c31) (eqL_t (eqV_i c32) (eqL_t (eqV_i c33) (eqL_t (eqV_i c34) rfl))))) rfl ?_
                refine TL.q rfl .u (Ex.py rfl c25 rfl) rfl ?_
                refine TL.run ft_cursitorlaw24_ok [14] rfl rfl ?_
                cases h
                exact TL.nil (X.jq [2] ⟨rfl, rfl⟩ (by rfl) (by rfl))
              · replace h := ifF c34 h
                refine TL.q rfl (.g rfl rfl c25) (Ex.aEq (us := [.int .i64 x29.1, .int .i64 x29.2.1, .int .i64 x29.2.2.1, .int .i64 x29.2.2.2]) (vs := [.int .i64 9, .int .i64 3, .int .i64 2, .int .i64 0]) flat_cursitorlaw24_45 rfl Try.eqGuardType45 rfl rfl rfl rfl (eqL_t (eqV_i c31) (eqL_t (eqV_i c32) (eqL_t (eqV_i c33) (eqL_f (eqV_in c34)))))) rfl ?_
                refine TL.q rfl .u (Ex.py rfl c25 rfl) rfl ?_
                refine TL.run ft_cursitorlaw24_ok [14] rfl rfl ?_
                cases h
                exact TL.nil (X.jq [2] ⟨rfl, rfl⟩ (by rfl) (by rfl))
            · replace h := ifF c33 h
              refine TL.q rfl (.g rfl rfl c25) (Ex.aEq (us := [.int .i64 x29.1, .int .i64 x29.2.1, .int .i64 x29.2.2.1, .int .i64 x29.2.2.2]) (vs := [.int .i64 9, .int .i64 3, .int .i64 2, .int .i64 0]) flat_cursitorlaw24_45 rfl Try.eqGuardType45 rfl rfl rfl rfl (eqL_t (eqV_i c31) (eqL_t (eqV_i c32) (eqL_f (eqV_in c33))))) rfl ?_
              refine TL.q rfl .u (Ex.py rfl c25 rfl) rfl ?_
              refine TL.run ft_cursitorlaw24_ok [14] rfl rfl ?_
              cases h
              exact TL.nil (X.jq [2] ⟨rfl, rfl⟩ (by rfl) (by rfl))
          · replace h := ifF c32 h
            refine TL.q rfl (.g rfl rfl c25) (Ex.aEq (us := [.int .i64 x29.1, .int .i64 x29.2.1, .int .i64 x29.2.2.1, .int .i64 x29.2.2.2]) (vs := [.int .i64 9, .int .i64 3, .int .i64 2, .int .i64 0]) flat_cursitorlaw24_45 rfl Try.eqGuardType45 rfl rfl rfl rfl (eqL_t (eqV_i c31) (eqL_f (eqV_in c32)))) rfl ?_
            refine TL.q rfl .u (Ex.py rfl c25 rfl) rfl ?_
            refine TL.run ft_cursitorlaw24_ok [14] rfl rfl ?_
            cases h
            exact TL.nil (X.jq [2] ⟨rfl, rfl⟩ (by rfl) (by rfl))
        · replace h := ifF c31 h
          refine TL.q rfl (.g rfl rfl c25) (Ex.aEq (us := [.int .i64 x29.1, .int .i64 x29.2.1, .int .i64 x29.2.2.1, .int .i64 x29.2.2.2]) (vs := [.int .i64 9, .int .i64 3, .int .i64 2, .int .i64 0]) flat_cursitorlaw24_45 rfl Try.eqGuardType45 rfl rfl rfl rfl (eqL_f (eqV_in c31))) rfl ?_
          refine TL.q rfl .u (Ex.py rfl c25 rfl) rfl ?_
          refine TL.run ft_cursitorlaw24_ok [14] rfl rfl ?_
          cases h
          exact TL.nil (X.jq [2] ⟨rfl, rfl⟩ (by rfl) (by rfl))
      · replace h := ifF c25 h
        replace c25 := eq_false_of_ne_true c25
        refine TL.run ft_cursitorlaw24_ok [7] rfl rfl ?_
        refine TL.no rfl (.gn rfl rfl c25) rfl ?_
        refine TL.no rfl (.gn rfl rfl c25) rfl ?_
        refine TL.no rfl (.gn rfl rfl c25) rfl ?_
        refine TL.no rfl (.gn rfl rfl c25) rfl ?_
        refine TL.no rfl (.gn rfl rfl c25) rfl ?_
        refine TL.q rfl .u (Ex.pn rfl c25 rfl) rfl ?_
        refine TL.run ft_cursitorlaw24_ok [14] rfl rfl ?_
        cases h
        exact TL.nil (X.jq [1] ⟨rfl, rfl⟩ (by rfl) (by rfl))
    · replace h := ifF c22 h
      replace c22 := eq_false_of_ne_true c22
      refine TL.run ft_cursitorlaw24_ok [3] rfl rfl ?_
      refine TL.no rfl (.gn rfl rfl c22) rfl ?_
      refine TL.no rfl (.gn rfl rfl c22) rfl ?_
      refine TL.q rfl .u (Ex.pn rfl c22 rfl) rfl ?_
      refine TL.run ft_cursitorlaw24_ok [7] rfl rfl ?_
      refine TL.no rfl (.gn rfl rfl rfl) rfl ?_
      refine TL.no rfl (.gn rfl rfl rfl) rfl ?_
      refine TL.no rfl (.gn rfl rfl rfl) rfl ?_
      refine TL.no rfl (.gn rfl rfl rfl) rfl ?_
      refine TL.no rfl (.gn rfl rfl rfl) rfl ?_
      refine TL.q rfl .u (Ex.pn rfl rfl rfl) rfl ?_
      refine TL.run ft_cursitorlaw24_ok [14] rfl rfl ?_
      cases h
      exact TL.nil (X.jq [1] ⟨rfl, rfl⟩ (by rfl) (by rfl))
  · rintro _ _ ⟨rfl, rfl⟩
    clear h
    have h := hk18
    clear hk18
    try dsimp only at h
    obtain rfl := Option.some.inj h
    exact X.seq (T.ret (X.done1 [0] Try.results14 (RV.tm rfl) ⟨rfl, rfl, rfl⟩ (by rfl) (.inl rfl)))
def f_l24_whole (a0 : Int) (a1 : Int) : Option (Nat × Nat) := some ((FloatKind.f64.nearest a0), (FloatKind.f64.nearest a1))
set_option maxRecDepth 100000 in
set_option maxHeartbeats 4000000 in
theorem f_l24_whole_spec (a0 : Int) (a1 : Int) (r : Nat × Nat) (h : f_l24_whole a0 a1 = some r) : SpecX Try.prog 17 #[.int .i64 a0, .int .i64 a1] .triv (EmpR) (fun v A' N => v = .complex .f64 r.1 r.2 ∧ A' = EmpR ∧ N = []) := by
  refine enterA Try.func17 rfl Try.ntmps17 rfl ?_
  intro F w hX
  unfold f_l24_whole at h
  refine T.seq (T.region rfl ?_)
  refine TL.run ft_cursitorlaw24_ok [0] rfl rfl ?_
  refine TL.nil (X.seq (T.seq (T.region rfl ?_)))
  refine TL.run ft_cursitorlaw24_ok [0] rfl rfl ?_
  refine TL.q rfl .u (Ex.i2f rfl Try.underlying3 Try.underlying63) rfl ?_
  refine TL.run ft_cursitorlaw24_ok [2] rfl rfl ?_
  refine TL.q rfl .u (Ex.i2f rfl Try.underlying3 Try.underlying63) rfl ?_
  refine TL.q rfl .u (Ex.cx rfl rfl) rfl ?_
  refine TL.run ft_cursitorlaw24_ok [5] rfl rfl ?_
  obtain rfl := Option.some.inj h
  exact TL.nil (X.seq (T.ret (X.done1 [0] Try.results17 (RV.tm rfl) ⟨rfl, rfl, rfl⟩ (by rfl) (.inl rfl))))
def f_l24_TallyPoints_l1 : List Bat → Bool → Int → Int → Option (Lp Bool (Bool × Int × Int))
  | [], y7, y8, y9 => some (Lp.go (y7, y8, y9))
  | x15 :: xs, y7, y8, y9 => (f_l11_Small x15).bind fun x23 => if x23 = 0 then some (Lp.ret true) else ((f_r11_Check x15).bind fun x26 => (if x26 = 0 then ((f_r11_Encode x15).bind fun x35 => some ((x35.length : Int), (x15.fRecords.length : Int))) else ((some (0, 0) : Option (Int × Int)))).bind fun (y31, y32) => (f_tally_Point x15).bind fun x37 => (f_l24_whole y31 y32).bind fun x39 => if (fEq x37.1 x39.1 && fEq x37.2 x39.2) = true then (if -9223372036854775808 ≤ (y8 + y31) ∧ (y8 + y31) ≤ 9223372036854775807 then (if -9223372036854775808 ≤ (y9 + y32) ∧ (y9 + y32) ≤ 9223372036854775807 then (f_l24_TallyPoints_l1 xs y7 (y8 + y31) (y9 + y32)) else none) else none) else none)
def f_l24_TallyPoints (a0 : List Bat) : Option (Bool) := (f_l24_speaks).bind fun x3 => if x3 = true then (if (a0.length : Int) > 8 then some true else ((f_l24_TallyPoints_l1 a0 false 0 0).bind fun e => match e with | .ret r => some r | .go (y44, y45, y46) => ((f_tally_Total a0).bind fun x48 => (f_l24_whole y45 y46).bind fun x50 => some (fEq x48.1 x50.1 && fEq x48.2 x50.2)))) else none
set_option maxRecDepth 100000 in
set_option maxHeartbeats 4000000 in
theorem f_l24_TallyPoints_spec (a0 : List Bat) (A1 : Option Addr) (c2 : Nat) (r : Bool) (h : f_l24_TallyPoints a0 = some r) : SpecX Try.prog 6 #[.slice A1 a0.length c2] (RX.of (sliceRd 12 Bat_rd) [.slice A1 a0.length c2] a0) (EmpR) (fun v A' N => v = .bool r ∧ A' = EmpR ∧ N = []) := by
  refine enterA Try.func6 rfl Try.ntmps6 rfl ?_
  intro F w hX
  unfold f_l24_TallyPoints at h
  refine T.seq (T.region rfl ?_)
  refine TL.run ft_cursitorlaw24_ok [0] rfl rfl ?_
  obtain ⟨x3, hx4, h⟩ := Option.bind_eq_some_iff.1 h
  refine TL.nil (X.seq (T.seq (T.seq (T.region rfl ?_))))
  refine TL.ce rfl .u (.fn Try.call14 rfl) (f_l24_speaks_spec _ hx4) (fun _ hs => (RX.reads_triv _ _)) rfl ?_
  refine TL.run ft_cursitorlaw24_ok [1] rfl rfl ?_
  by_cases c5 : x3 = true
  · replace h := ifT c5 h
    refine TL.nil (X.seq ?_)
    refine T.no rfl (bn_f c5) ?_
    refine T.skip (X.seq (T.seq (T.seq (T.region rfl ?_))))
    refine TL.run ft_cursitorlaw24_ok [0] rfl rfl ?_
    refine TL.q rfl .u (Ex.lenS rfl Try.runUnderlying23) rfl ?_
    refine TL.run ft_cursitorlaw24_ok [2] rfl rfl ?_
    by_cases c6 : (a0.length : Int) > 8
    · replace h := ifT c6 h
      refine TL.nil (X.seq ?_)
      refine T.yes rfl (decide_eq_true c6) ?_
      refine T.seq (T.region rfl ?_)
      refine TL.run ft_cursitorlaw24_ok [0] rfl rfl ?_
      obtain rfl := Option.some.inj h
      exact TL.nil (X.seq (T.ret (X.rs (X.done1 [0] Try.results6 (RV.tm rfl) ⟨rfl, rfl, rfl⟩ (by rfl) (.inl rfl)))))
    · replace h := ifF c6 h
      refine TL.nil (X.seq ?_)
      refine T.no rfl (decide_eq_false c6) ?_
      refine T.skip (X.seq (T.seq (T.region rfl ?_)))
      refine TL.run ft_cursitorlaw24_ok [0, 1] rfl rfl ?_
      refine TL.nil (X.seq (T.seq (T.seq (T.region rfl ?_))))
      refine TL.run ft_cursitorlaw24_ok [0] rfl rfl ?_
      refine TL.q rfl .u (Ex.lenS rfl Try.runUnderlying23) rfl ?_
      refine TL.run ft_cursitorlaw24_ok [2] rfl rfl ?_
      refine TL.nil (X.seq (T.block ?_))
      obtain ⟨E11, hE12, hO13⟩ := Option.bind_eq_some_iff.1 h
      have hk17len := RX.len_le hX
      refine T.lp (fun m e Rs => ∃ (y7 : Bool) (y8 : Int) (y9 : Int) (k10 : Nat), k10 + m = a0.length ∧ e = [(0, .slice A1 a0.length c2), (2, .bool y7), (3, .int .i64 y8), (4, .int .i64 y9), (14, .slice A1 a0.length c2), (15, .int .i64 (a0.length : Int)), (16, .int .i64 (k10 : Int))] ∧ Rs = [EmpR] ∧ f_l24_TallyPoints_l1 (a0.drop k10) y7 y8 y9 = some E11) (a0.length) [0] ⟨false, 0, 0, 0, by simp, rfl, rfl, by rw [List.drop_zero]; exact hE12⟩ (by rfl) (by rfl) ?_
      rintro m14 _ _ ⟨y7, y8, y9, k10, hk17, rfl, rfl, hl16⟩
      clear hE12 h
      cases m14 with
      | zero =>
        have h := hl16
        clear hl16
        rw [List.drop_of_length_le (by omega), f_l24_TallyPoints_l1] at h
        have hk17ge : ¬ ((k10 : Int) < (a0.length : Int)) := by omega
        refine T.seq (T.region rfl ?_)
        refine TL.run ft_cursitorlaw24_ok [0] rfl rfl ?_
        refine TL.nil (X.seq (T.seq ?_))
        refine T.no rfl (decide_eq_false hk17ge) ?_
        obtain rfl := Option.some.inj h
        replace h := hO13
        clear hO13
        try dsimp only at h
        refine T.exit (X.exs (X.exs (X.ex (X.seq (T.seq (T.region rfl ?_))))))
        obtain ⟨x52, hx53, h⟩ := Option.bind_eq_some_iff.1 h
        refine TL.run ft_cursitorlaw24_ok [0] rfl rfl ?_
        refine TL.ce rfl .u (.fn Try.call25 rfl) (f_tally_Total_spec a0 _ _ _ hx53) (fun _ hs => (SrcE.old hs hX)) rfl ?_
        obtain ⟨x54, hx55, h⟩ := Option.bind_eq_some_iff.1 h
        refine TL.run ft_cursitorlaw24_ok [2, 3] rfl rfl ?_
        refine TL.ce rfl .u (.fn Try.call17 rfl) (f_l24_whole_spec y8 y9 _ hx55) (fun _ hs => (RX.reads_triv _ _)) rfl ?_
        refine TL.q rfl .u (Ex.ceq rfl rfl Try.runUnderlying46) rfl ?_
        refine TL.run ft_cursitorlaw24_ok [6] rfl rfl ?_
        obtain rfl := Option.some.inj h
        exact TL.nil (X.seq (T.ret (X.done1 [0] Try.results6 (RV.tm rfl) ⟨rfl, rfl, rfl⟩ (by rfl) (.inl rfl))))
      | succ m14 =>
        have h := hl16
        clear hl16
        obtain ⟨x15, hxx15⟩ : ∃ x, a0[k10]? = some x := ⟨_, List.getElem?_eq_getElem (by omega)⟩
        rw [drop_cons hxx15, f_l24_TallyPoints_l1] at h
        have hk17lt : (k10 : Int) < (a0.length : Int) := by omega
        refine T.seq (T.region rfl ?_)
        refine TL.run ft_cursitorlaw24_ok [0] rfl rfl ?_
        refine TL.nil (X.seq (T.seq ?_))
        refine T.yes rfl (decide_eq_true hk17lt) ?_
        obtain ⟨gz18, oz18, rfl, z18cs, z18cl, z18cc, z18nf, z18r⟩ := RX.elem (by decide) hX hxx15
        obtain ⟨z18S, z18r, z18rr⟩ := z18r
        obtain ⟨A19, c20, rfl, z18s0⟩ := z18r
        have hX21 : (RX.of (sliceRd 7 Rec_rd) [.slice A19 x15.fRecords.length c20] x15.fRecords).reads w F := ⟨z18S, z18s0, z18rr⟩
        refine T.skip (X.seq (T.seq (T.block (T.seq (T.region rfl ?_)))))
        refine TL.q rfl .u (Ex.ixS (k := k10) rfl rfl rfl Try.runUnderlying23 Try.sizeOf36 (List.getElem?_eq_some_iff.1 hxx15).1) rfl ?_
        refine TL.q rfl .u (Ex.oS (us := [.int .i64 x15.fBase, .int .i64 x15.fLeader, .bool x15.fAppend, .bool x15.fTxn, .bool x15.fControl, .int .i64 x15.fLast, .int .i64 x15.fFirst, .int .i64 x15.fMax, .int .i64 x15.fProducer, .int .i64 x15.fEpoch, .int .i64 x15.fSequence, .slice A19 x15.fRecords.length c20]) 0 rfl Try.isAgg36 Try.sizeOf36 z18nf z18cc rfl rfl rfl) rfl ?_
        refine TL.alloc rfl .u Try.zeroValue36 rfl (fun b22 => ?_)
        refine TL.st0 (cs' := #[.int .i64 x15.fBase, .int .i64 x15.fLeader, .bool x15.fAppend, .bool x15.fTxn, .bool x15.fControl, .int .i64 x15.fLast, .int .i64 x15.fFirst, .int .i64 x15.fMax, .int .i64 x15.fProducer, .int .i64 x15.fEpoch, .int .i64 x15.fSequence, .slice A19 x15.fRecords.length c20]) rfl .u rfl rfl Try.sizeOf36 rfl rfl rfl rfl ?_
        refine TL.nil (X.seq (T.seq (T.seq (T.region rfl ?_))))
        refine TL.q rfl .u (Ex.bS (us := [.int .i64 x15.fBase, .int .i64 x15.fLeader, .bool x15.fAppend, .bool x15.fTxn, .bool x15.fControl, .int .i64 x15.fLast, .int .i64 x15.fFirst, .int .i64 x15.fMax, .int .i64 x15.fProducer, .int .i64 x15.fEpoch, .int .i64 x15.fSequence, .slice A19 x15.fRecords.length c20]) 0 rfl Try.isAgg36 Try.sizeOf36 rfl rfl rfl) rfl ?_
        obtain ⟨x23, hx24, h⟩ := Option.bind_eq_some_iff.1 h
        refine TL.ce rfl .u (.fn Try.call21 rfl) (f_l11_Small_spec x15 _ _ _ hx24) (fun _ hs => (SrcE.old hs hX21)) rfl ?_
        refine TL.run ft_cursitorlaw24_ok [2] rfl rfl ?_
        by_cases c25 : x23 = 0
        · replace h := ifT c25 h
          refine TL.nil (X.seq ?_)
          refine T.yes rfl (decide_eq_true c25) ?_
          refine T.seq (T.region rfl ?_)
          refine TL.run ft_cursitorlaw24_ok [0] rfl rfl ?_
          obtain rfl := Option.some.inj h
          replace h := hO13
          clear hO13
          try dsimp only at h
          obtain rfl := Option.some.inj h
          exact TL.nil (X.seq (T.ret (X.rs (X.rb (X.rs (X.rs (X.rb (X.rs (X.done1 [1] Try.results6 (RV.tm rfl) ⟨rfl, rfl, rfl⟩ (by rfl) (.inl rfl))))))))))
        · replace h := ifF c25 h
          refine TL.nil (X.seq ?_)
          refine T.no rfl (decide_eq_false c25) ?_
          refine T.skip (X.seq (T.seq (T.region rfl ?_)))
          refine TL.run ft_cursitorlaw24_ok [0, 1] rfl rfl ?_
          refine TL.nil (X.seq (T.seq (T.seq (T.region rfl ?_))))
          refine TL.q rfl .u (Ex.bS (us := [.int .i64 x15.fBase, .int .i64 x15.fLeader, .bool x15.fAppend, .bool x15.fTxn, .bool x15.fControl, .int .i64 x15.fLast, .int .i64 x15.fFirst, .int .i64 x15.fMax, .int .i64 x15.fProducer, .int .i64 x15.fEpoch, .int .i64 x15.fSequence, .slice A19 x15.fRecords.length c20]) 0 rfl Try.isAgg36 Try.sizeOf36 rfl rfl rfl) rfl ?_
          obtain ⟨x26, hx27, h⟩ := Option.bind_eq_some_iff.1 h
          refine TL.ce rfl .u (.fn Try.call22 rfl) (f_r11_Check_spec x15 _ _ _ hx27) (fun _ hs => (SrcE.old hs hX21)) rfl ?_
          refine TL.run ft_cursitorlaw24_ok [2] rfl rfl ?_
          refine TL.nil (X.seq ?_)
          obtain ⟨⟨y31, y32⟩, h, hk33⟩ := Option.bind_eq_some_iff.1 h
          refine T.jq (fun e Rs => e = [(0, .slice (some ⟨gz18, oz18, none⟩) a0.length c2), (2, .bool y7), (3, .int .i64 y8), (4, .int .i64 y9), (6, .pointer (some ⟨b22, 0, none⟩)), (7, .int .i64 y31), (8, .int .i64 y32), (14, .slice (some ⟨gz18, oz18, none⟩) a0.length c2), (15, .int .i64 (a0.length : Int)), (16, .int .i64 (k10 : Int))] ∧ Rs = [BlkR b22 36 #[.int .i64 x15.fBase, .int .i64 x15.fLeader, .bool x15.fAppend, .bool x15.fTxn, .bool x15.fControl, .int .i64 x15.fLast, .int .i64 x15.fFirst, .int .i64 x15.fMax, .int .i64 x15.fProducer, .int .i64 x15.fEpoch, .int .i64 x15.fSequence, .slice A19 x15.fRecords.length c20], EmpR]) ?_ ?_
          · clear hk33
            by_cases c34 : x26 = 0
            · replace h := ifT c34 h
              refine T.yes rfl (decide_eq_true c34) ?_
              refine T.draw (.q 0 (.q 3 (.q 4 (.q 5 (.e 1 (.q 2 (.q 6 (.q 7 .nil)))))))) [0, 0] rfl mix_cursitorlaw24 (NoP.seq (NoP.seq (NoP.blk (NoP.seq (NoP.seq (NoP.blk (NoP.seq np_post))))))) (by kernel_rfl) ?_
              refine TD.q rfl .u (Ex.bS (us := [.int .i64 x15.fBase, .int .i64 x15.fLeader, .bool x15.fAppend, .bool x15.fTxn, .bool x15.fControl, .int .i64 x15.fLast, .int .i64 x15.fFirst, .int .i64 x15.fMax, .int .i64 x15.fProducer, .int .i64 x15.fEpoch, .int .i64 x15.fSequence, .slice A19 x15.fRecords.length c20]) 0 rfl Try.isAgg36 Try.sizeOf36 rfl rfl rfl) rfl ?_
              refine TD.run ft_cursitorlaw24_ok [3] rfl rfl ?_
              refine TD.q rfl .u (Ex.b1 0 rfl Try.isAgg34 rfl rfl) rfl ?_
              refine TD.q rfl .u (Ex.lenS rfl Try.runUnderlying34) rfl ?_
              obtain ⟨x35, hx36, h⟩ := Option.bind_eq_some_iff.1 h
              refine TD.ce rfl .u (.fn Try.call23 rfl) (f_r11_Encode_spec x15 _ _ _ hx36) (fun _ hs => (SrcE.old hs hX21)) rfl [0, 0] (rfl) ?_
              refine TD.q rfl .u (Ex.lenB rfl Try.runUnderlying9) rfl ?_
              refine TD.run ft_cursitorlaw24_ok [6, 7] rfl rfl ?_
              cases h
              exact TD.nil (X.jq [0, 0] ⟨rfl, rfl⟩ (by rfl) (by rfl))
            · replace h := ifF c34 h
              refine T.no rfl (decide_eq_false c34) ?_
              cases h
              exact T.skip (X.jq [0, 0] ⟨rfl, rfl⟩ (by rfl) (by rfl))
          · rintro _ _ ⟨rfl, rfl⟩
            clear h
            have h := hk33
            clear hk33
            try dsimp only at h
            refine X.seq (T.seq (T.seq (T.region rfl ?_)))
            refine TL.q rfl .u (Ex.bS (us := [.int .i64 x15.fBase, .int .i64 x15.fLeader, .bool x15.fAppend, .bool x15.fTxn, .bool x15.fControl, .int .i64 x15.fLast, .int .i64 x15.fFirst, .int .i64 x15.fMax, .int .i64 x15.fProducer, .int .i64 x15.fEpoch, .int .i64 x15.fSequence, .slice A19 x15.fRecords.length c20]) 0 rfl Try.isAgg36 Try.sizeOf36 rfl rfl rfl) rfl ?_
            obtain ⟨x37, hx38, h⟩ := Option.bind_eq_some_iff.1 h
            refine TL.ce rfl .u (.fn Try.call24 rfl) (f_tally_Point_spec x15 _ _ _ hx38) (fun _ hs => (SrcE.old hs hX21)) rfl ?_
            obtain ⟨x39, hx40, h⟩ := Option.bind_eq_some_iff.1 h
            refine TL.run ft_cursitorlaw24_ok [2, 3] rfl rfl ?_
            refine TL.ce rfl .u (.fn Try.call17 rfl) (f_l24_whole_spec y31 y32 _ hx40) (fun _ hs => (RX.reads_triv _ _)) rfl ?_
            refine TL.q rfl .u (Ex.cne rfl rfl Try.runUnderlying46) rfl ?_
            by_cases c41 : (fEq x37.1 x39.1 && fEq x37.2 x39.2) = true
            · replace h := ifT c41 h
              refine TL.nil (X.seq ?_)
              refine T.no rfl (bn_f c41) ?_
              refine T.skip (X.seq (T.region rfl ?_))
              replace h := guard_some h
              obtain ⟨c42, h⟩ := h
              refine TL.run ft_cursitorlaw24_ok [0, 1] rfl rfl ?_
              refine TL.q rfl .u (Ex.add rfl rfl c42) rfl ?_
              replace h := guard_some h
              obtain ⟨c43, h⟩ := h
              refine TL.run ft_cursitorlaw24_ok [3, 4] rfl rfl ?_
              refine TL.q rfl .u (Ex.add rfl rfl c43) rfl ?_
              refine TL.run ft_cursitorlaw24_ok [6, 7] rfl rfl ?_
              refine TL.nil (X.blk (X.seq (T.region rfl ?_)))
              refine TL.q rfl .u (Ex.add rfl rfl (by omega)) rfl ?_
              refine TL.run ft_cursitorlaw24_ok [1] rfl rfl ?_
              exact TL.nil (X.back (m' := m14) [1] (by omega) ⟨y7, (y8 + y31), (y9 + y32), k10 + 1, by omega, rfl, rfl, h⟩ (by rfl) (by rfl))
            · replace h := ifF c41 h
              replace c41 := eq_false_of_ne_true c41
              refine TL.nil (X.seq ?_)
              refine T.yes rfl (bn_t c41) ?_
              exact nomatch h
  · replace h := ifF c5 h
    replace c5 := eq_false_of_ne_true c5
    refine TL.nil (X.seq ?_)
    refine T.yes rfl (bn_t c5) ?_
    exact nomatch h
end Go.Proofs.Ytahjmpipllajcaa.Sl
namespace Go.Proofs.Ytahjmpipllajcaa.Sl
open Go.RowKit Go.Deep Go.ChangeShapes
set_option linter.unusedVariables false
def andRd {α : Type} (E : Rd α) (W : α → Prop) : Rd α := ⟨fun w S cs a => E.P w S cs a ∧ W a, fun h k => ⟨E.mono h.1 k, h.2⟩, fun h k => ⟨E.move h.1 k, h.2⟩⟩
section
variable {H : Type} (enc : TypeId × Value → H) (P : Program) {α β : Type}
def OpensW (t : TypeId) (E : Rd α) : Prop :=
  ∀ (w : World) (fuel : Nat) (cs : List Value) (x : DataW H × List MemPlace), DataW.trod enc P w 0 (fun _ => true) true fuel t cs = some x → (∀ m, m ∈ x.1.weights P t → m ≤ reachBytes) → ∃ a, E.P w (fun k => k < w.heap.size) cs a
def OpensWFs (off : Nat) (fs : List Field) (n : Nat) (E : Rd α) : Prop :=
  ∀ (w : World) (fuel : Nat) (cs : List Value) (xs : List (DataW H × List MemPlace)), cs.length = off + n → xs.length = fs.length →
    (∀ (i : Nat) (f : Field), fs[i]? = some f → DataW.trod enc P w 0 (fun _ => true) true fuel f.type ((cs.drop f.offset).take (P.cellsOf f.type)) = xs[i]?) →
    (∀ m, m ∈ DataW.weightsEach P (fs.map (·.type)) (xs.map (·.1)) → m ≤ reachBytes) → ∃ a, E.P w (fun k => k < w.heap.size) (cs.drop off) a
variable {enc P}
theorem opensW_weak {t : TypeId} {E : Rd α} {E' : Rd β} (f : α → β) (h : OpensW enc P t E) (hf : ∀ w S cs a, E.P w S cs a → E'.P w S cs (f a)) : OpensW enc P t E' := by
  intro w fuel cs x hx hw
  obtain ⟨a, ha⟩ := h w fuel cs x hx hw
  exact ⟨f a, hf _ _ _ _ ha⟩
theorem opensW_of {t : TypeId} {E : Rd α} {E' : Rd β} (f : α → β) (h : Opens enc P t E) (hf : ∀ w S cs a, E.P w S cs a → E'.P w S cs (f a)) : OpensW enc P t E' := by
  intro w fuel cs x hx hw
  obtain ⟨a, ha⟩ := h w fuel cs x hx
  exact ⟨f a, hf _ _ _ _ ha⟩
def wI (n : Int) : Prop := -9223372036854775808 ≤ n ∧ n ≤ 9223372036854775807
def wB (_ : Bool) : Prop := True
def wS (l : List UInt8) : Prop := l.length ≤ 140737488351232
def wL (W : α → Prop) (l : List α) : Prop := l.length ≤ 140737488351232 ∧ ∀ x, x ∈ l → W x
theorem op_i64 {t : TypeId} (ht : P.underlying t = some (.int .i64)) : OpensW enc P t (andRd intE wI) := opensW_of id (opens_int ht) (fun w S cs a h => ⟨h.1, Go.bounds_i64 h.2⟩)
theorem op_bool {t : TypeId} (ht : P.underlying t = some .bool) : OpensW enc P t (andRd boolE wB) := opensW_of id (opens_bool ht) (fun w S cs a h => ⟨h, trivial⟩)
theorem op_str {t : TypeId} (ht : P.underlying t = some .string) : OpensW enc P t (andRd strE wS) := by
  intro w fuel cs x h hw
  obtain ⟨s, rfl, rfl, hs⟩ := DataW.trod_string ht h
  have := hw s.data.toList.length (by simp [DataW.weights])
  exact ⟨s.data.toList, by cases s; simp [strE, bsOf], this⟩
theorem slice_and {size : Nat} {E : Rd α} {W : α → Prop} {w : World} {S : Nat → Prop} {cs : List Value} {l : List α} (h : (sliceRd size (andRd E W)).P w S cs l) : (sliceRd size E).P w S cs l ∧ ∀ x, x ∈ l → W x := by
  rcases h with ⟨h, rfl⟩ | ⟨a, cap, h1, h2, h3, h4, h5⟩
  · exact ⟨.inl ⟨h, rfl⟩, fun x hx => by simp at hx⟩
  · refine ⟨.inr ⟨a, cap, h1, h2, h3, h4, fun i x hx => ?_⟩, fun x hx => ?_⟩
    · obtain ⟨cs, k1, k2, k3⟩ := h5 i x hx
      exact ⟨cs, k1, k2, k3.1⟩
    · obtain ⟨i, hi⟩ := List.getElem?_of_mem hx
      obtain ⟨cs, k1, k2, k3⟩ := h5 i x hi
      exact k3.2
theorem weightsAll_mem {e : TypeId} {l : List (DataW H)} {d : DataW H} {m : Nat} (hd : d ∈ l) (hm : m ∈ d.weights P e) : m ∈ DataW.weightsAll P e l := by
  induction l with
  | nil => simp at hd
  | cons x l ih =>
    simp only [DataW.weightsAll, List.mem_append]
    rcases List.mem_cons.1 hd with rfl | h
    · exact .inl hm
    · exact .inr (ih h)
theorem op_slice {t e : TypeId} {E : Rd α} {W : α → Prop} (size bytes : Nat) (ht : P.underlying t = some (.slice e)) (hc : P.cellsOf e = size) (hb : P.bytesOf e = bytes) (hp : 0 < size) (hpb : 0 < bytes) (he : OpensW enc P e (andRd E W)) : OpensW enc P t (andRd (sliceRd size E) (wL W)) := by
  intro w fuel cs x h hw
  rcases open_slice ht h with ⟨rfl, _⟩ | ⟨a, len, cap, m, n, D, Pl, rfl, _, hl, hm, hmm, rfl, hx⟩
  · exact ⟨[], .inl ⟨rfl, rfl⟩, by simp, fun x hx => by simp at hx⟩
  have hlm : len ≤ m := by rw [hmm]; split <;> omega
  have hlen : len ≤ 140737488351232 := by
    have h1 := hw ((((List.range len).map D).length + ((List.range (m - len)).map fun j => D (len + j)).length) * P.bytesOf e) (by simp only [DataW.weights, ht]; exact List.mem_cons_self)
    rw [hb] at h1
    simp only [List.length_map, List.length_range] at h1
    have h2 : (len + (m - len)) * 1 ≤ (len + (m - len)) * bytes := Nat.mul_le_mul_left _ hpb
    have h3 : reachBytes = 140737488351232 := rfl
    omega
  have hwe : ∀ i, i < len → ∀ z, z ∈ (D i).weights P e → z ≤ reachBytes := by
    intro i hi z hz
    apply hw
    simp only [DataW.weights, ht]
    exact List.mem_cons_of_mem _ (List.mem_append.2 (.inl (weightsAll_mem (d := D i) (List.mem_map.2 ⟨i, List.mem_range.2 hi, rfl⟩) hz)))
  rw [hc] at hx
  have each : ∀ i : Fin len, ∃ y : α, ∃ cs, cs.length = size ∧ (∀ j, j < size → w.cell? (a.add (i.val * size + j)) = cs[j]?) ∧ (andRd E W).P w (fun k => k < w.heap.size) cs y := by
    intro i
    obtain ⟨cs', h1, h2⟩ := hx i.val (by have := i.isLt; omega)
    obtain ⟨_, h3, h4⟩ := World.cells?_some h1
    obtain ⟨y, hy⟩ := he _ _ _ _ h2 (hwe i.val i.isLt)
    refine ⟨y, cs', h3, fun j hj => ?_, hy⟩
    rw [← h4 j hj, add_add]
  obtain ⟨f, hf⟩ := Classical.axiomOfChoice each
  have hs : (sliceRd size (andRd E W)).P w (fun k => k < w.heap.size) [.slice (some a) len cap] ((List.finRange len).map f) := by
    refine .inr ⟨a, cap, by simp, by simpa using hl, hm, fun hz => ?_, ?_⟩
    · simp at hz
      obtain ⟨cs', k1, k2, k3⟩ := hf ⟨0, by omega⟩
      have := k2 0 hp
      rw [List.getElem?_eq_getElem (by omega)] at this
      simp only [World.cell?] at this
      rw [block_add] at this
      rcases Nat.lt_or_ge a.block w.heap.size with h | h
      · exact h
      · rw [Array.getElem?_eq_none h] at this
        simp at this
    · intro i x hx
      rw [List.getElem?_map, Option.map_eq_some_iff] at hx
      obtain ⟨j, hj, rfl⟩ := hx
      have e : j.val = i := by
        obtain ⟨h1, h2⟩ := List.getElem?_eq_some_iff.1 hj
        rw [← h2]
        simp
      rw [← e]
      exact hf j
  obtain ⟨k1, k2⟩ := slice_and hs
  exact ⟨_, k1, by simpa using hlen, k2⟩
theorem opensWFs_nil (off : Nat) : OpensWFs enc P off [] 0 unitRd := by
  intro w fuel cs xs hl _ _ _
  exact ⟨(), List.drop_of_length_le (by omega)⟩
theorem opensWFs_cons {off n : Nat} (m : Nat) {f : Field} {fs : List Field} {A : Rd α} {B : Rd β} (ho : f.offset = off) (hc : P.cellsOf f.type = m) (hA : OpensW enc P f.type A) (hB : OpensWFs enc P (off + m) fs n B) :
    OpensWFs enc P off (f :: fs) (m + n) (pairRd A B) := by
  intro w fuel cs xs hl hx h hw
  cases xs with
  | nil => simp at hx
  | cons x xs =>
    have h0 := h 0 f rfl
    rw [ho, hc] at h0
    simp only [List.map_cons, DataW.weightsEach, List.mem_append] at hw
    obtain ⟨a, ha⟩ := hA _ _ _ _ h0 (fun m hm => hw m (.inl hm))
    obtain ⟨b, hb⟩ := hB w fuel cs xs (by omega) (by simpa using hx) (fun i f' hf => by simpa using h (i + 1) f' (by simpa using hf)) (fun m hm => hw m (.inr hm))
    refine ⟨(a, b), (cs.drop off).take m, cs.drop (off + m), ?_, ha, hb⟩
    rw [← List.drop_drop, List.take_append_drop]
theorem opensW_struct {t : TypeId} {fs : Array Field} {n : Nat} {E : Rd α} (ht : P.underlying t = some (.struct fs)) (hc : P.cellsOf t = n) (h : OpensWFs enc P 0 fs.toList n E) : OpensW enc P t E := by
  intro w fuel cs x hx hw
  obtain ⟨xs, k, rfl, rfl, hl, hxl, hf⟩ := DataW.trod_struct ht hx
  simp only [DataW.weights, ht] at hw
  obtain ⟨a, ha⟩ := h w k cs xs (by omega) (by simpa using hxl) (fun i f hi => hf i f (by simpa using hi)) hw
  exact ⟨a, by simpa using ha⟩
theorem weights_in : ∀ {ts : List TypeId} {ds : List (DataW H)} (j : Nat) {t : TypeId} {d : DataW H} {m : Nat}, ts[j]? = some t → ds[j]? = some d → m ∈ d.weights P t → m ∈ DataW.weightsEach P ts ds
  | [], _, j, _, _, _, ht, _, _ => by simp at ht
  | _ :: _, [], j, _, _, _, _, hd, _ => by simp at hd
  | t :: ts, d :: ds, 0, _, _, _, ht, hd, hm => by
    obtain rfl : t = _ := by simpa using ht
    obtain rfl : d = _ := by simpa using hd
    simp only [DataW.weightsEach, List.mem_append]
    exact .inl hm
  | t :: ts, d :: ds, j + 1, _, _, _, ht, hd, hm => by
    simp only [DataW.weightsEach, List.mem_append]
    exact .inr (weights_in j (by simpa using ht) (by simpa using hd) hm)
theorem slice_cells {size : Nat} {E : Rd α} {w : World} {S : Nat → Prop} {cs : List Value} {l : List α} (h : (sliceRd size E).P w S cs l) : ∃ A c, cs = [.slice A l.length c] := by
  rcases h with ⟨h, rfl⟩ | ⟨a, cap, h, _⟩
  · exact ⟨none, 0, h⟩
  · exact ⟨_, _, h⟩
theorem opens_arg1 {t e : TypeId} {E : Rd α} {r : Reach} {b0 : Nat} {w : World} {v : Value} {d : DataW H} {p : List MemPlace} (ht : P.underlying t = some (.slice e)) (hval : Value.okWide P w r b0 t v) (h : OpensW enc P t E)
    (hv : DataW.Trod enc P w 0 (fun _ => true) true t v d p) (hw : ∀ m, m ∈ d.weights P t → m ≤ reachBytes) : ∃ a, E.P w (fun k => k < w.heap.size) [v] a := by
  obtain ⟨a0, len, cap, rfl⟩ := Go.WideShapes.okWide_slice ht hval
  obtain ⟨fuel, hf⟩ := hv
  exact h _ _ _ _ hf hw
theorem RX.reads_all {E : Rd α} {w : World} {cs : List Value} {a : α} (h : E.P w (fun k => k < w.heap.size) cs a) : (RX.of E cs a).reads w (fun _ => False) := ⟨_, h, fun k hk => ⟨fun h => h, hk⟩⟩
end
end Go.Proofs.Ytahjmpipllajcaa.Sl
namespace Go.Proofs.Ytahjmpipllajcaa.Sl
open Go.RowKit
set_option linter.unusedVariables false
def wf_Bl (x : Bl) : Prop := wB x.null ∧ wS x.data
def wf_Hd (x : Hd) : Prop := wS x.fKey ∧ wf_Bl x.fValue
def wf_Rec (x : Rec) : Prop := wI x.fTime ∧ wI x.fOffset ∧ wf_Bl x.fKey ∧ wf_Bl x.fValue ∧ (wL wf_Hd) x.fHeaders
def wf_Bat (x : Bat) : Prop := wI x.fBase ∧ wI x.fLeader ∧ wB x.fAppend ∧ wB x.fTxn ∧ wB x.fControl ∧ wI x.fLast ∧ wI x.fFirst ∧ wI x.fMax ∧ wI x.fProducer ∧ wI x.fEpoch ∧ wI x.fSequence ∧ (wL wf_Rec) x.fRecords
end Go.Proofs.Ytahjmpipllajcaa.Sl
namespace Go.Proofs.Ytahjmpipllajcaa.Sl
open Go.RowKit
set_option linter.unusedVariables false
set_option linter.unusedSimpArgs false
theorem speaks24 : f_l24_speaks = some true := by kernel_rfl
theorem whole_eq (a b : Int) : f_l24_whole a b = some (fw a, fw b) := rfl
end Go.Proofs.Ytahjmpipllajcaa.Sl
namespace Go.Proofs.Ytahjmpipllajcaa.Sl
open Go.RowKit
set_option linter.unusedVariables false
set_option linter.unusedSimpArgs false
theorem b_at_drop {α : Type} {l : List α} {k : Nat} {x : α} {t : List α} (h : l.drop k = x :: t) : l[k]? = some x ∧ l.drop (k + 1) = t ∧ l.length = k + 1 + t.length := by
  have hl := congrArg List.length h
  rw [List.length_drop, List.length_cons] at hl
  refine ⟨?_, ?_, by omega⟩
  · have := congrArg (fun z => z[0]?) h
    simpa using this
  · rw [← List.drop_drop, h]
    rfl
theorem b_nil_drop {α : Type} {l : List α} {k : Nat} (h : l.drop k = []) : l.length ≤ k := List.drop_eq_nil_iff.1 h
def brAll (l : List Hd) : Bool := l.all fun h => bright h.fValue
def rightR (r : Rec) : Int := if r.fOffset < 0 ∨ r.fOffset > 2147483647 then 11 else if (bright r.fKey && bright r.fValue && brAll r.fHeaders) = true then 0 else 4
theorem rights_loop (y : Bool) : ∀ l : List Bl, f_record_rights_l1 l y = some (if l.all bright = true then .go y else .ret false)
  | [] => rfl
  | b :: l => by
    rw [f_record_rights_l1, gRight_eq, Option.bind_some, List.all_cons, rights_loop y l]
    cases bright b <;> rfl
theorem rights_eq (l : List Bl) : f_record_rights l = some (l.all bright) := by
  unfold f_record_rights
  rw [rights_loop]
  cases l.all bright <;> rfl
theorem rightH_loop (y : Int) : ∀ l : List Hd, f_record_Right_l1 l y = some (if brAll l = true then .go y else .ret 4)
  | [] => rfl
  | h :: l => by
    rw [f_record_Right_l1, rights_eq, Option.bind_some, rightH_loop y l]
    unfold brAll
    rw [List.all_cons, List.all_cons, List.all_nil, Bool.and_true]
    cases bright h.fValue <;> rfl
theorem record_right (r : Rec) (hw : wI r.fOffset) : f_record_Right r = some (rightR r) := by
  unfold f_record_Right rightR
  by_cases h : r.fOffset < 0
  · rw [if_pos h, if_pos (.inl h)]
  rw [if_neg h, gFits_eq _ _ hw, fits_4, Option.bind_some]
  by_cases h2 : r.fOffset > 2147483647
  · rw [if_neg (by simp; omega), if_pos (.inr h2)]
  rw [if_pos (by simp; omega), if_neg (by omega), rights_eq, Option.bind_some, rightH_loop]
  simp only [List.all_cons, List.all_nil, Bool.and_true]
  cases bright r.fKey <;> cases bright r.fValue <;> cases brAll r.fHeaders <;> rfl
theorem odd_eq (b : Bl) : f_r07_odd b = some (!bright b) := by
  unfold f_r07_odd bright
  obtain ⟨n, d⟩ := b
  cases n
  · rfl
  · cases d <;> simp
theorem r06_loop (a0 : List Hd) (hb : a0.length ≤ 1000000) (y : Bool) : ∀ (l : List Hd) (k fuel : Nat), a0.drop k = l → l.length < fuel → ∃ z, f_r06_Right_l1 a0 fuel y k = some (if brAll l = true then .go (y, z) else .ret false)
  | [], k, fuel + 1, h, hf => by
    have := b_nil_drop h
    exact ⟨k, by rw [f_r06_Right_l1, if_neg (by omega)]; rfl⟩
  | x :: l, k, fuel + 1, h, hf => by
    obtain ⟨h1, h2, h3⟩ := b_at_drop h
    rw [List.length_cons] at hf
    obtain ⟨z, hz⟩ := r06_loop a0 hb y l (k + 1) fuel h2 (by omega)
    rw [f_r06_Right_l1, if_pos (by omega), h1, Option.bind_some]
    have e : brAll (x :: l) = (bright x.fValue && brAll l) := rfl
    rw [e]
    by_cases hn : x.fValue.null = true
    · rw [if_pos hn]
      by_cases hd : x.fValue.data = []
      · rw [if_pos hd, if_pos (by omega), hz]
        have : bright x.fValue = true := by unfold bright; rw [hd]; simp
        rw [this, Bool.true_and]
        exact ⟨z, rfl⟩
      · rw [if_neg hd]
        have : bright x.fValue = false := by unfold bright; rw [hn]; simp [hd]
        rw [this]
        exact ⟨0, rfl⟩
    · rw [if_neg hn, if_pos (by omega), hz]
      have : bright x.fValue = true := by unfold bright; simp [hn]
      rw [this, Bool.true_and]
      exact ⟨z, rfl⟩
theorem r06_right (a0 : List Hd) (hb : a0.length ≤ 1000000) : f_r06_Right a0 = some (brAll a0) := by
  unfold f_r06_Right
  obtain ⟨z, hz⟩ := r06_loop a0 hb false a0 0 (((a0.length : Int)).toNat + 1) rfl (by omega)
  rw [hz]
  cases brAll a0 <;> rfl
theorem r07_right (r : Rec) (hb : r.fHeaders.length ≤ 1000000) : f_r07_Right r = some (rightR r) := by
  unfold f_r07_Right rightR
  by_cases h : r.fOffset < 0
  · rw [if_pos h, if_pos (.inl h)]
  rw [if_neg h]
  by_cases h2 : r.fOffset > 2147483647
  · rw [if_pos h2, if_pos (.inr h2)]
  rw [if_neg h2, if_neg (by omega), odd_eq, odd_eq, r06_right _ hb]
  cases bright r.fKey <;> cases bright r.fValue <;> cases brAll r.fHeaders <;> rfl
end Go.Proofs.Ytahjmpipllajcaa.Sl
namespace Go.Proofs.Ytahjmpipllajcaa.Sl
open Go.RowKit
set_option linter.unusedVariables false
set_option linter.unusedSimpArgs false
theorem iint_ok2 (l : List UInt8) (p : Nat) (h : 2 ≤ l.length) : iint ⟨l, p, 0⟩ 2 = (beInt (l.take 2), ⟨l.drop 2, p + 2, 0⟩) := iint_ok l p 2 (by decide) (by decide) h
theorem iint_ok4 (l : List UInt8) (p : Nat) (h : 4 ≤ l.length) : iint ⟨l, p, 0⟩ 4 = (beInt (l.take 4), ⟨l.drop 4, p + 4, 0⟩) := iint_ok l p 4 (by decide) (by decide) h
theorem iint_short2 (l : List UInt8) (p : Nat) (h : l.length < 2) : iint ⟨l, p, 0⟩ 2 = (0, ⟨l, p, 1⟩) := iint_short l p 2 (by decide) (by decide) (by omega)
theorem iint_short4 (l : List UInt8) (p : Nat) (h : l.length < 4) : iint ⟨l, p, 0⟩ 4 = (0, ⟨l, p, 1⟩) := iint_short l p 4 (by decide) (by decide) (by omega)
theorem iint_e (l : List UInt8) (p : Nat) (e n : Int) (h : e ≠ 0) : iint ⟨l, p, e⟩ n = (0, ⟨l, p, e⟩) := iint_err (st := ⟨l, p, e⟩) h n
theorem iclose_e (l : List UInt8) (p : Nat) (e : Int) (h : e ≠ 0) : iclose ⟨l, p, e⟩ = ⟨l, p, e⟩ := iclose_err (st := ⟨l, p, e⟩) h
theorem ifail_e (l : List UInt8) (p : Nat) (e f : Int) (h : e ≠ 0) : ifail ⟨l, p, e⟩ f = ⟨l, p, e⟩ := ifail_err (st := ⟨l, p, e⟩) h f
theorem ifail_0 (l : List UInt8) (p : Nat) (f : Int) : ifail ⟨l, p, 0⟩ f = ⟨l, p, f⟩ := by simp [ifail]
theorem iclose_0 (l : List UInt8) (p : Nat) : iclose ⟨l, p, 0⟩ = ⟨l, p, if l = [] then 0 else 2⟩ := by unfold iclose; split <;> simp_all [ifail]
theorem drop_nil_iff {l : List UInt8} {n : Nat} (h : n ≤ l.length) : l.drop n = [] ↔ ¬ (l.length : Int) > n := by rw [List.drop_eq_nil_iff]; omega
theorem read_key (l : List UInt8) (hl : l.length ≤ 9223372036854775807) : f_control_ReadKey l = f_r08_ReadKey l := by
  unfold f_control_ReadKey f_r08_ReadKey f_control_version
  simp only [gNew_eq l (by omega), gInt_eq, gClose_eq, gIFail_eq, Option.bind_some]
  by_cases h2 : l.length < 2
  · have h2i : (l.length : Int) < 2 := by omega
    simp [iint_short2 l 0 h2, iint_e, iclose_e, ifail_e, h2i]
  have h2i : ¬ (l.length : Int) < 2 := by omega
  have h2j : 2 ≤ (l.length : Int) := by omega
  rw [iint_ok2 l 0 (by omega), if_neg h2i, if_pos (show 2 ≤ l.length by omega), gRInt_eq _ (by simp; omega)]
  simp only [Option.bind_some]
  by_cases h0 : beInt (l.take 2) = 0
  · rw [if_pos h0, if_pos h0]
    simp only [Option.bind_some]
    by_cases h4 : l.length < 4
    · have h4i : (l.length : Int) < 4 := by omega
      simp [iint_short2 (l.drop 2) (0 + 2) (by simp; omega), iclose_e, h4i]
    have h4i : ¬ (l.length : Int) < 4 := by omega
    rw [iint_ok2 _ _ (by simp; omega), if_neg h4i, if_pos (show 4 ≤ l.length by omega), gRInt_eq _ (by simp; omega)]
    simp only [Option.bind_some, List.drop_drop, iclose_0, ifail_0]
    have hd := drop_nil_iff (l := l) (n := 4) (by omega)
    generalize beInt ((l.drop 2).take 2) = k
    by_cases h5 : (l.length : Int) > 4
    · have hd2 : ¬ l.drop (2 + 2) = [] := fun h => (hd.1 h) h5
      by_cases k0 : k = 0
      · simp [hd2, h5, iclose_e, k0]
      · by_cases k1 : k = 1 <;> simp [hd2, h5, iclose_e, k0, k1]
    · have hd2 : l.drop (2 + 2) = [] := hd.2 h5
      by_cases k0 : k = 0
      · simp [hd2, h5, iclose_e, k0]
      · by_cases k1 : k = 1 <;> simp [hd2, h5, iclose_e, k0, k1]
  · rw [if_neg h0, if_neg h0]
    simp [ifail_0, iint_e, iclose_e]
theorem read_value (l : List UInt8) (hl : l.length ≤ 9223372036854775807) : f_control_ReadValue l = f_r08_ReadValue l := by
  unfold f_control_ReadValue f_r08_ReadValue f_control_version
  simp only [gNew_eq l (by omega), gInt_eq, gClose_eq, gIFail_eq, Option.bind_some]
  by_cases h2 : l.length < 2
  · have h2i : (l.length : Int) < 2 := by omega
    simp [iint_short2 l 0 h2, iint_e, iclose_e, ifail_e, h2i]
  have h2i : ¬ (l.length : Int) < 2 := by omega
  have h2j : 2 ≤ (l.length : Int) := by omega
  rw [iint_ok2 l 0 (by omega), if_neg h2i, if_pos (show 2 ≤ l.length by omega), gRInt_eq _ (by simp; omega)]
  simp only [Option.bind_some]
  by_cases h0 : beInt (l.take 2) = 0
  · rw [if_pos h0, if_pos h0]
    simp only [Option.bind_some]
    by_cases h4 : l.length < 6
    · have h4i : (l.length : Int) < 6 := by omega
      simp [iint_short4 (l.drop 2) (0 + 2) (by simp; omega), iclose_e, h4i]
    have h4i : ¬ (l.length : Int) < 6 := by omega
    rw [iint_ok4 _ _ (by simp; omega), if_neg h4i, if_pos (show 6 ≤ l.length by omega), gRInt_eq _ (by simp; omega)]
    simp only [Option.bind_some, List.drop_drop, iclose_0, ifail_0]
    have hd := drop_nil_iff (l := l) (n := 6) (by omega)
    generalize beInt ((l.drop 2).take 4) = k
    by_cases h5 : (l.length : Int) > 6
    · have hd2 : ¬ l.drop (2 + 4) = [] := fun h => (hd.1 h) h5
      by_cases k0 : k < 0 <;> simp [hd2, h5, iclose_e, k0]
    · have hd2 : l.drop (2 + 4) = [] := hd.2 h5
      by_cases k0 : k < 0 <;> simp [hd2, h5, iclose_e, k0]
  · rw [if_neg h0, if_neg h0]
    simp [ifail_0, iint_e, iclose_e]
theorem read_control (r : Rec) (h1 : r.fKey.data.length ≤ 9223372036854775807) (h2 : r.fValue.data.length ≤ 9223372036854775807) : f_control_Read r = f_r08_Read r := by
  unfold f_control_Read f_r08_Read
  rw [read_key _ h1, read_value _ h2]
end Go.Proofs.Ytahjmpipllajcaa.Sl
