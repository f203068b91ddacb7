/- Printed by g2.py: package cursitorref17. -/
import Derived.Test.YtdlpmcbglmgpiaaGb
import Derived.Test.YtdlpmcbglmgpiaaNg
namespace Go.Proofs.Ytdlpmcbglmgpiaa.Sl
open Go.RowKit
set_option linter.unusedVariables false
set_option linter.unusedSimpArgs false
set_option maxRecDepth 100000
def ft_cursitorref17 : FTab := [(26, 0, 0), (26, 1, 1), (30, 0, 0), (30, 1, 1), (30, 2, 2), (30, 3, 3), (134, 0, 0), (134, 1, 2), (134, 2, 3)]
theorem ft_cursitorref17_ok : (ft_cursitorref17).OK Try.prog := ⟨FOK.mk Try.runUnderlying26 rfl Try.sizeOf4 rfl, FOK.mk Try.runUnderlying26 rfl Try.sizeOf9 rfl, FOK.mk Try.runUnderlying30 rfl Try.sizeOf3 rfl, FOK.mk Try.runUnderlying30 rfl Try.sizeOf3 rfl, FOK.mk Try.runUnderlying30 rfl Try.sizeOf3 rfl, FOK.mk Try.runUnderlying30 rfl Try.sizeOf26 rfl, FOK.mk Try.runUnderlying134 rfl Try.sizeOf26 rfl, FOK.mk Try.runUnderlying134 rfl Try.sizeOf3 rfl, FOK.mk Try.runUnderlying134 rfl Try.sizeOf3 rfl, trivial⟩
theorem mix_cursitorref17 : Try.prog.follows .mixedOrders = true := by kernel_rfl
theorem bok_cursitorref17_30 : BOK Try.prog 30 #[.int .i64 0, .int .i64 0, .int .i64 0, .bool false, .string ⟨#[]⟩] [(0, 1), (1, 1), (2, 1), (3, 2)] := BOK.mk Try.zeroValue30 Try.runUnderlying30 (by intro w; simp)
def f_r17_Versions (a0 : Int) (a1 : Int) : Option (Int) := if a0 = 0 then (if a1 = 3 then some 0 else (if a1 = 4 then some 0 else some 7)) else (if a0 = 22 then (if a1 = 0 then some 0 else (if a1 = 1 then some 0 else some 7)) else (if a0 = 27 then (if a1 = 0 then some 0 else (if a1 = 1 then some 0 else some 7)) else (if a0 = 24 then (if a1 = 0 then some 0 else some 7) else (if a0 = 26 then (if a1 = 0 then some 0 else some 7) else some 12))))
set_option maxRecDepth 100000 in
set_option maxHeartbeats 4000000 in
theorem f_r17_Versions_spec (a0 : Int) (a1 : Int) (r : Int) (h : f_r17_Versions a0 a1 = some r) : SpecX Try.prog 77 #[.int .i64 a0, .int .i64 a1] .triv (EmpR) (fun v A' N => v = .int .i64 r ∧ A' = EmpR ∧ N = []) := by
  refine enterA Try.func77 rfl Try.ntmps77 rfl ?_
  intro F w hX
  unfold f_r17_Versions at h
  refine T.seq (T.region rfl ?_)
  refine TL.run ft_cursitorref17_ok [0] rfl rfl ?_
  refine TL.nil (X.seq (T.seq (T.seq (T.region rfl ?_))))
  refine TL.run ft_cursitorref17_ok [0] rfl rfl ?_
  refine TL.nil (X.seq (T.block (T.seq (T.region rfl ?_))))
  refine TL.run ft_cursitorref17_ok [0, 1] rfl rfl ?_
  by_cases c1 : a0 = 0
  · replace h := ifT c1 h
    refine TL.nil (X.seq ?_)
    refine T.yes rfl (decide_eq_true c1) ?_
    refine T.seq (T.seq (T.region rfl ?_))
    by_cases c2 : a1 = 3
    · replace h := ifT c2 h
      refine TL.run ft_cursitorref17_ok [0, 1, 2] rfl rfl ?_
      refine TL.no rfl (.gn rfl rfl (decide_eq_true c2)) rfl ?_
      refine TL.no rfl (.gn rfl rfl (decide_eq_true c2)) rfl ?_
      refine TL.q rfl .u (Ex.py rfl (decide_eq_true c2) rfl) rfl ?_
      refine TL.nil (X.seq ?_)
      refine T.yes rfl rfl ?_
      refine T.seq (T.region rfl ?_)
      refine TL.run ft_cursitorref17_ok [0] rfl rfl ?_
      obtain rfl := Option.some.inj h
      exact TL.nil (X.seq (T.ret (X.rs (X.rb (X.rs (X.done1 [0] Try.results77 (RV.tm rfl) ⟨rfl, rfl, rfl⟩ (by rfl) (.inl rfl)))))))
    · replace h := ifF c2 h
      refine TL.run ft_cursitorref17_ok [0, 1, 2] rfl rfl ?_
      refine TL.q rfl (.g rfl rfl (decide_eq_false c2)) (Ex.ft ft_cursitorref17_ok rfl) rfl ?_
      refine TL.q rfl (.g rfl rfl (decide_eq_false c2)) (Ex.ft ft_cursitorref17_ok rfl) rfl ?_
      refine TL.q rfl .u (Ex.pn rfl (decide_eq_false c2) rfl) rfl ?_
      by_cases c3 : a1 = 4
      · replace h := ifT c3 h
        refine TL.nil (X.seq ?_)
        refine T.yes rfl (decide_eq_true c3) ?_
        refine T.seq (T.region rfl ?_)
        refine TL.run ft_cursitorref17_ok [0] rfl rfl ?_
        obtain rfl := Option.some.inj h
        exact TL.nil (X.seq (T.ret (X.rs (X.rb (X.rs (X.done1 [0] Try.results77 (RV.tm rfl) ⟨rfl, rfl, rfl⟩ (by rfl) (.inl rfl)))))))
      · replace h := ifF c3 h
        refine TL.nil (X.seq ?_)
        refine T.no rfl (decide_eq_false c3) ?_
        refine T.skip (X.seq (T.seq (T.region rfl ?_)))
        refine TL.run ft_cursitorref17_ok [0] rfl rfl ?_
        obtain rfl := Option.some.inj h
        exact TL.nil (X.seq (T.ret (X.rb (X.rs (X.done1 [0] Try.results77 (RV.tm rfl) ⟨rfl, rfl, rfl⟩ (by rfl) (.inl rfl))))))
  · replace h := ifF c1 h
    refine TL.nil (X.seq ?_)
    refine T.no rfl (decide_eq_false c1) ?_
    refine T.seq (T.seq (T.region rfl ?_))
    refine TL.run ft_cursitorref17_ok [0, 1] rfl rfl ?_
    by_cases c4 : a0 = 22
    · replace h := ifT c4 h
      refine TL.nil (X.seq ?_)
      refine T.yes rfl (decide_eq_true c4) ?_
      refine T.skip (X.seq ?_)
      refine T.yes rfl (decide_eq_true c4) ?_
      refine T.seq (T.seq (T.region rfl ?_))
      by_cases c5 : a1 = 0
      · replace h := ifT c5 h
        refine TL.run ft_cursitorref17_ok [0, 1, 2] rfl rfl ?_
        refine TL.no rfl (.gn rfl rfl (decide_eq_true c5)) rfl ?_
        refine TL.no rfl (.gn rfl rfl (decide_eq_true c5)) rfl ?_
        refine TL.q rfl .u (Ex.py rfl (decide_eq_true c5) rfl) rfl ?_
        refine TL.nil (X.seq ?_)
        refine T.yes rfl rfl ?_
        refine T.seq (T.region rfl ?_)
        refine TL.run ft_cursitorref17_ok [0] rfl rfl ?_
        obtain rfl := Option.some.inj h
        exact TL.nil (X.seq (T.ret (X.rs (X.rb (X.rs (X.done1 [0] Try.results77 (RV.tm rfl) ⟨rfl, rfl, rfl⟩ (by rfl) (.inl rfl)))))))
      · replace h := ifF c5 h
        refine TL.run ft_cursitorref17_ok [0, 1, 2] rfl rfl ?_
        refine TL.q rfl (.g rfl rfl (decide_eq_false c5)) (Ex.ft ft_cursitorref17_ok rfl) rfl ?_
        refine TL.q rfl (.g rfl rfl (decide_eq_false c5)) (Ex.ft ft_cursitorref17_ok rfl) rfl ?_
        refine TL.q rfl .u (Ex.pn rfl (decide_eq_false c5) rfl) rfl ?_
        by_cases c6 : a1 = 1
        · replace h := ifT c6 h
          refine TL.nil (X.seq ?_)
          refine T.yes rfl (decide_eq_true c6) ?_
          refine T.seq (T.region rfl ?_)
          refine TL.run ft_cursitorref17_ok [0] rfl rfl ?_
          obtain rfl := Option.some.inj h
          exact TL.nil (X.seq (T.ret (X.rs (X.rb (X.rs (X.done1 [0] Try.results77 (RV.tm rfl) ⟨rfl, rfl, rfl⟩ (by rfl) (.inl rfl)))))))
        · replace h := ifF c6 h
          refine TL.nil (X.seq ?_)
          refine T.no rfl (decide_eq_false c6) ?_
          refine T.skip (X.seq (T.seq (T.region rfl ?_)))
          refine TL.run ft_cursitorref17_ok [0] rfl rfl ?_
          obtain rfl := Option.some.inj h
          exact TL.nil (X.seq (T.ret (X.rb (X.rs (X.done1 [0] Try.results77 (RV.tm rfl) ⟨rfl, rfl, rfl⟩ (by rfl) (.inl rfl))))))
    · replace h := ifF c4 h
      refine TL.nil (X.seq ?_)
      refine T.no rfl (decide_eq_false c4) ?_
      refine T.region rfl ?_
      refine TL.run ft_cursitorref17_ok [0, 1] rfl rfl ?_
      by_cases c7 : a0 = 27
      · replace h := ifT c7 h
        refine TL.nil (X.seq ?_)
        refine T.yes rfl (decide_eq_true c7) ?_
        refine T.seq (T.seq (T.region rfl ?_))
        by_cases c8 : a1 = 0
        · replace h := ifT c8 h
          refine TL.run ft_cursitorref17_ok [0, 1, 2] rfl rfl ?_
          refine TL.no rfl (.gn rfl rfl (decide_eq_true c8)) rfl ?_
          refine TL.no rfl (.gn rfl rfl (decide_eq_true c8)) rfl ?_
          refine TL.q rfl .u (Ex.py rfl (decide_eq_true c8) rfl) rfl ?_
          refine TL.nil (X.seq ?_)
          refine T.yes rfl rfl ?_
          refine T.seq (T.region rfl ?_)
          refine TL.run ft_cursitorref17_ok [0] rfl rfl ?_
          obtain rfl := Option.some.inj h
          exact TL.nil (X.seq (T.ret (X.rs (X.rb (X.rs (X.done1 [0] Try.results77 (RV.tm rfl) ⟨rfl, rfl, rfl⟩ (by rfl) (.inl rfl)))))))
        · replace h := ifF c8 h
          refine TL.run ft_cursitorref17_ok [0, 1, 2] rfl rfl ?_
          refine TL.q rfl (.g rfl rfl (decide_eq_false c8)) (Ex.ft ft_cursitorref17_ok rfl) rfl ?_
          refine TL.q rfl (.g rfl rfl (decide_eq_false c8)) (Ex.ft ft_cursitorref17_ok rfl) rfl ?_
          refine TL.q rfl .u (Ex.pn rfl (decide_eq_false c8) rfl) rfl ?_
          by_cases c9 : a1 = 1
          · replace h := ifT c9 h
            refine TL.nil (X.seq ?_)
            refine T.yes rfl (decide_eq_true c9) ?_
            refine T.seq (T.region rfl ?_)
            refine TL.run ft_cursitorref17_ok [0] rfl rfl ?_
            obtain rfl := Option.some.inj h
            exact TL.nil (X.seq (T.ret (X.rs (X.rb (X.rs (X.done1 [0] Try.results77 (RV.tm rfl) ⟨rfl, rfl, rfl⟩ (by rfl) (.inl rfl)))))))
          · replace h := ifF c9 h
            refine TL.nil (X.seq ?_)
            refine T.no rfl (decide_eq_false c9) ?_
            refine T.skip (X.seq (T.seq (T.region rfl ?_)))
            refine TL.run ft_cursitorref17_ok [0] rfl rfl ?_
            obtain rfl := Option.some.inj h
            exact TL.nil (X.seq (T.ret (X.rb (X.rs (X.done1 [0] Try.results77 (RV.tm rfl) ⟨rfl, rfl, rfl⟩ (by rfl) (.inl rfl))))))
      · replace h := ifF c7 h
        refine TL.nil (X.seq ?_)
        refine T.no rfl (decide_eq_false c7) ?_
        refine T.seq (T.seq (T.region rfl ?_))
        refine TL.run ft_cursitorref17_ok [0, 1] rfl rfl ?_
        by_cases c10 : a0 = 24
        · replace h := ifT c10 h
          refine TL.nil (X.seq ?_)
          refine T.yes rfl (decide_eq_true c10) ?_
          refine T.skip (X.seq ?_)
          refine T.yes rfl (decide_eq_true c10) ?_
          refine T.seq (T.seq (T.region rfl ?_))
          refine TL.run ft_cursitorref17_ok [0, 1] rfl rfl ?_
          by_cases c11 : a1 = 0
          · replace h := ifT c11 h
            refine TL.nil (X.seq ?_)
            refine T.yes rfl (decide_eq_true c11) ?_
            refine T.seq (T.region rfl ?_)
            refine TL.run ft_cursitorref17_ok [0] rfl rfl ?_
            obtain rfl := Option.some.inj h
            exact TL.nil (X.seq (T.ret (X.rs (X.rb (X.rs (X.done1 [0] Try.results77 (RV.tm rfl) ⟨rfl, rfl, rfl⟩ (by rfl) (.inl rfl)))))))
          · replace h := ifF c11 h
            refine TL.nil (X.seq ?_)
            refine T.no rfl (decide_eq_false c11) ?_
            refine T.skip (X.seq (T.seq (T.region rfl ?_)))
            refine TL.run ft_cursitorref17_ok [0] rfl rfl ?_
            obtain rfl := Option.some.inj h
            exact TL.nil (X.seq (T.ret (X.rb (X.rs (X.done1 [0] Try.results77 (RV.tm rfl) ⟨rfl, rfl, rfl⟩ (by rfl) (.inl rfl))))))
        · replace h := ifF c10 h
          refine TL.nil (X.seq ?_)
          refine T.no rfl (decide_eq_false c10) ?_
          refine T.region rfl ?_
          refine TL.run ft_cursitorref17_ok [0, 1] rfl rfl ?_
          by_cases c12 : a0 = 26
          · replace h := ifT c12 h
            refine TL.nil (X.seq ?_)
            refine T.yes rfl (decide_eq_true c12) ?_
            refine T.seq (T.seq (T.region rfl ?_))
            refine TL.run ft_cursitorref17_ok [0, 1] rfl rfl ?_
            by_cases c13 : a1 = 0
            · replace h := ifT c13 h
              refine TL.nil (X.seq ?_)
              refine T.yes rfl (decide_eq_true c13) ?_
              refine T.seq (T.region rfl ?_)
              refine TL.run ft_cursitorref17_ok [0] rfl rfl ?_
              obtain rfl := Option.some.inj h
              exact TL.nil (X.seq (T.ret (X.rs (X.rb (X.rs (X.done1 [0] Try.results77 (RV.tm rfl) ⟨rfl, rfl, rfl⟩ (by rfl) (.inl rfl)))))))
            · replace h := ifF c13 h
              refine TL.nil (X.seq ?_)
              refine T.no rfl (decide_eq_false c13) ?_
              refine T.skip (X.seq (T.seq (T.region rfl ?_)))
              refine TL.run ft_cursitorref17_ok [0] rfl rfl ?_
              obtain rfl := Option.some.inj h
              exact TL.nil (X.seq (T.ret (X.rb (X.rs (X.done1 [0] Try.results77 (RV.tm rfl) ⟨rfl, rfl, rfl⟩ (by rfl) (.inl rfl))))))
          · replace h := ifF c12 h
            refine TL.nil (X.seq ?_)
            refine T.no rfl (decide_eq_false c12) ?_
            refine T.skip (X.blk (X.seq (T.seq (T.region rfl ?_))))
            refine TL.run ft_cursitorref17_ok [0] rfl rfl ?_
            obtain rfl := Option.some.inj h
            exact TL.nil (X.seq (T.ret (X.done1 [0] Try.results77 (RV.tm rfl) ⟨rfl, rfl, rfl⟩ (by rfl) (.inl rfl))))
def f_r17_Read (a0 : List UInt8) : Option (R17Head × Int × Int) := if (a0.length : Int) < 4 then (some ((⟨0, 0, 0, (⟨false, []⟩ : Bl)⟩ : R17Head), 0, 1)) else (if 2 ≤ a0.length then ((gRInt (a0.take 2)).bind fun x5 => if 4 ≤ a0.length then ((gRInt ((a0.drop 2).take 2)).bind fun x8 => (f_r17_Versions x5 x8).bind fun x11 => if x11 = 0 then (if (a0.length : Int) < 8 then (some ((⟨0, 0, 0, (⟨false, []⟩ : Bl)⟩ : R17Head), 0, 1)) else (if 8 ≤ a0.length then ((gRInt ((a0.drop 4).take 4)).bind fun x16 => if 8 ≤ a0.length then ((gRRFixed (a0.drop 8) 2).bind fun x19 => if x19.err = 0 then (if -9223372036854775808 ≤ (8 + x19.many) ∧ (8 + x19.many) ≤ 9223372036854775807 then (some ((⟨x5, x8, x16, x19.blob⟩ : R17Head), (8 + x19.many), 0)) else none) else (some ((⟨0, 0, 0, (⟨false, []⟩ : Bl)⟩ : R17Head), 0, x19.err))) else none) else none)) else (some ((⟨0, 0, 0, (⟨false, []⟩ : Bl)⟩ : R17Head), 0, x11))) else none) else none)
set_option maxRecDepth 100000 in
set_option maxHeartbeats 4000000 in
theorem f_r17_Read_spec (a0 : List UInt8) (r : R17Head × Int × Int) (h : f_r17_Read a0 = some r) : SpecX Try.prog 18 #[.string (bsOf a0)] .triv (EmpR) (fun v A' N => v = .tuple #[.agg #[.int .i64 r.1.fKind, .int .i64 r.1.fVersion, .int .i64 r.1.fNumber, .bool r.1.fClient.null, .string (bsOf r.1.fClient.data)], .int .i64 r.2.1, .int .i64 r.2.2] ∧ A' = EmpR ∧ N = []) := by
  refine enterA Try.func18 rfl Try.ntmps18 rfl ?_
  intro F w hX
  unfold f_r17_Read at h
  refine T.seq (T.region rfl ?_)
  refine TL.alloc rfl .u Try.zeroValue30 rfl (fun b1 => ?_)
  refine TL.run ft_cursitorref17_ok [1, 2] rfl rfl ?_
  refine TL.nil (X.seq (T.seq (T.region rfl ?_)))
  refine TL.q rfl .u (Ex.bld (cells := #[.int .i64 0, .int .i64 0, .int .i64 0, .bool false, .string ⟨#[]⟩]) bok_cursitorref17_30 rfl (by rfl)) rfl ?_
  refine TL.alloc rfl .u Try.zeroValue30 rfl (fun b2 => ?_)
  refine TL.st0 (cs' := #[.int .i64 0, .int .i64 0, .int .i64 0, .bool false, .string ⟨#[]⟩]) rfl .u rfl rfl Try.sizeOf30 rfl rfl rfl rfl ?_
  refine TL.nil (X.seq (T.seq (T.seq (T.region rfl ?_))))
  refine TL.run ft_cursitorref17_ok [0] rfl rfl ?_
  refine TL.q rfl .u (Ex.lenB rfl Try.runUnderlying9) rfl ?_
  refine TL.run ft_cursitorref17_ok [2] rfl rfl ?_
  by_cases c3 : (a0.length : Int) < 4
  · replace h := ifT c3 h
    refine TL.nil (X.seq ?_)
    refine T.yes rfl (decide_eq_true c3) ?_
    refine T.seq (T.region rfl ?_)
    refine TL.q rfl .u (Ex.bS (us := [.int .i64 0, .int .i64 0, .int .i64 0, .bool false, .string ⟨#[]⟩]) 0 rfl Try.isAgg30 Try.sizeOf30 rfl rfl rfl) rfl ?_
    refine TL.st1 (cs' := #[.int .i64 0, .int .i64 0, .int .i64 0, .bool false, .string ⟨#[]⟩]) rfl .u rfl rfl Try.sizeOf30 rfl rfl rfl rfl ?_
    refine TL.run ft_cursitorref17_ok [2, 3] rfl rfl ?_
    obtain rfl := Option.some.inj h
    exact TL.nil (X.seq (T.ret (X.rs (X.done3 [2] Try.results18 (RV.cS (us := #[.int .i64 0, .int .i64 0, .int .i64 0, .bool false, .string ⟨#[]⟩]) 1 rfl Try.isAgg30 Try.sizeOf30 rfl rfl) (RV.tm rfl) (RV.tm rfl) ⟨rfl, rfl, rfl⟩ (by rfl) (.inl rfl)))))
  · replace h := ifF c3 h
    refine TL.nil (X.seq ?_)
    refine T.no rfl (decide_eq_false c3) ?_
    replace h := guard_some h
    obtain ⟨c4, h⟩ := h
    obtain ⟨x5, hx6, h⟩ := Option.bind_eq_some_iff.1 h
    replace h := guard_some h
    obtain ⟨c7, h⟩ := h
    obtain ⟨x8, hx9, h⟩ := Option.bind_eq_some_iff.1 h
    refine T.skip (X.seq (T.seq ?_))
    refine T.join (fun e Rs => ∃ (b10 : Nat), e = [(0, .string (bsOf a0)), (2, .pointer (some ⟨b1, 0, none⟩)), (3, .int .i64 0), (4, .int .i64 0), (5, .pointer (some ⟨b2, 0, none⟩)), (6, .pointer (some ⟨b10, 0, none⟩)), (9, .agg #[.int .i64 0, .int .i64 0, .int .i64 0, .bool false, .string ⟨#[]⟩]), (10, .string (bsOf a0)), (11, .int .i64 (a0.length : Int)), (12, .bool (decide ((a0.length : Int) < 4)))] ∧ Rs = [BlkR b10 30 #[.int .i64 x5, .int .i64 x8, .int .i64 0, .bool false, .string ⟨#[]⟩], BlkR b2 30 #[.int .i64 0, .int .i64 0, .int .i64 0, .bool false, .string ⟨#[]⟩], BlkR b1 30 #[.int .i64 0, .int .i64 0, .int .i64 0, .bool false, .string ⟨#[]⟩], EmpR]) ?_ ?_
    · refine T.draw (.q 0 (.q 1 (.q 3 (.q 4 (.br 2 (.br 5 (.q 6 (.e 7 (.e 8 .nil))) (.e 7 (.e 5 (.q 6 (.e 8 .nil))))) (.e 7 (.e 2 (.e 5 (.q 6 (.e 8 .nil)))))))))) [0, 0, 0] rfl mix_cursitorref17 np_jq (by kernel_rfl) ?_
      refine TD.run ft_cursitorref17_ok [0] rfl rfl ?_
      refine TD.q rfl .u (Ex.sSl (p := 0) (q := 2) (m := (a0.take 2)) rfl Try.runUnderlying9 .none (.some rfl rfl) (by omega) (by simp)) rfl ?_
      refine TD.run ft_cursitorref17_ok [3] rfl rfl ?_
      refine TD.q rfl .u (Ex.sSl (p := 2) (q := 4) (m := ((a0.drop 2).take 2)) rfl Try.runUnderlying9 (.some rfl rfl) (.some rfl rfl) (by omega) rfl) rfl ?_
      refine TD.br ?_ ?_
      · refine TD.ce rfl .u (.fn Try.call76 rfl) (SpecX.pure (fun w => gRInt_spec (a0.take 2) _ hx6 w)) (fun _ _ => RX.reads_triv _ _) rfl [0, 0, 0] (rfl) ?_
        refine TD.br ?_ ?_
        · refine TD.ce rfl .u (.fn Try.call76 rfl) (SpecX.pure (fun w => gRInt_spec ((a0.drop 2).take 2) _ hx9 w)) (fun _ _ => RX.reads_triv _ _) rfl [0, 0, 0] (rfl) ?_
          refine TD.q rfl .u (Ex.bld (cells := #[.int .i64 x5, .int .i64 x8, .int .i64 0, .bool false, .string ⟨#[]⟩]) bok_cursitorref17_30 rfl (by rfl)) rfl ?_
          refine TD.alloc rfl .u Try.zeroValue30 rfl [1, 1, 1] (fun _ => rfl) (fun b10 => ?_)
          refine TD.st0 (cs' := #[.int .i64 x5, .int .i64 x8, .int .i64 0, .bool false, .string ⟨#[]⟩]) rfl .u rfl rfl Try.sizeOf30 rfl rfl rfl rfl [1, 1, 1] (rfl) ?_
          exact TD.nil (X.jn [0, 0, 0, 0] ⟨b10, rfl, rfl⟩ (by rfl) (by rfl))
        · refine TD.alloc rfl .u Try.zeroValue30 rfl [1, 1, 1] (fun _ => rfl) (fun b10 => ?_)
          refine TD.ce rfl .u (.fn Try.call76 rfl) (SpecX.pure (fun w => gRInt_spec ((a0.drop 2).take 2) _ hx9 w)) (fun _ _ => RX.reads_triv _ _) rfl [1, 1, 1] (rfl) ?_
          refine TD.q rfl .u (Ex.bld (cells := #[.int .i64 x5, .int .i64 x8, .int .i64 0, .bool false, .string ⟨#[]⟩]) bok_cursitorref17_30 rfl (by rfl)) rfl ?_
          refine TD.st0 (cs' := #[.int .i64 x5, .int .i64 x8, .int .i64 0, .bool false, .string ⟨#[]⟩]) rfl .u rfl rfl Try.sizeOf30 rfl rfl rfl rfl [1, 1, 1] (rfl) ?_
          exact TD.nil (X.jn [0, 0, 0, 0] ⟨b10, rfl, rfl⟩ (by rfl) (by rfl))
      · refine TD.alloc rfl .u Try.zeroValue30 rfl [1, 1, 1] (fun _ => rfl) (fun b10 => ?_)
        refine TD.ce rfl .u (.fn Try.call76 rfl) (SpecX.pure (fun w => gRInt_spec (a0.take 2) _ hx6 w)) (fun _ _ => RX.reads_triv _ _) rfl [1, 1, 1] (rfl) ?_
        refine TD.ce rfl .u (.fn Try.call76 rfl) (SpecX.pure (fun w => gRInt_spec ((a0.drop 2).take 2) _ hx9 w)) (fun _ _ => RX.reads_triv _ _) rfl [1, 1, 1] (rfl) ?_
        refine TD.q rfl .u (Ex.bld (cells := #[.int .i64 x5, .int .i64 x8, .int .i64 0, .bool false, .string ⟨#[]⟩]) bok_cursitorref17_30 rfl (by rfl)) rfl ?_
        refine TD.st0 (cs' := #[.int .i64 x5, .int .i64 x8, .int .i64 0, .bool false, .string ⟨#[]⟩]) rfl .u rfl rfl Try.sizeOf30 rfl rfl rfl rfl [1, 1, 1] (rfl) ?_
        exact TD.nil (X.jn [0, 0, 0, 0] ⟨b10, rfl, rfl⟩ (by rfl) (by rfl))
    · rintro _ _ ⟨b10, rfl, rfl⟩
      refine X.seq (T.seq (T.region rfl ?_))
      refine TL.run ft_cursitorref17_ok [0] rfl rfl ?_
      refine TL.q rfl .u (Ex.b1 0 rfl Try.isAgg3 rfl rfl) rfl ?_
      refine TL.run ft_cursitorref17_ok [2] rfl rfl ?_
      refine TL.q rfl .u (Ex.b1 0 rfl Try.isAgg3 rfl rfl) rfl ?_
      obtain ⟨x11, hx12, h⟩ := Option.bind_eq_some_iff.1 h
      refine TL.ce rfl .u (.fn Try.call77 rfl) (f_r17_Versions_spec x5 x8 _ hx12) (fun _ hs => (RX.reads_triv _ _)) rfl ?_
      refine TL.run ft_cursitorref17_ok [5] rfl rfl ?_
      refine TL.nil (X.seq (T.seq (T.seq (T.region rfl ?_))))
      refine TL.run ft_cursitorref17_ok [0, 1] rfl rfl ?_
      by_cases c13 : x11 = 0
      · replace h := ifT c13 h
        refine TL.nil (X.seq ?_)
        refine T.no rfl (bn_f (decide_eq_true c13)) ?_
        refine T.skip (X.seq (T.seq (T.seq (T.region rfl ?_))))
        refine TL.run ft_cursitorref17_ok [0] rfl rfl ?_
        refine TL.q rfl .u (Ex.lenB rfl Try.runUnderlying9) rfl ?_
        refine TL.run ft_cursitorref17_ok [2] rfl rfl ?_
        by_cases c14 : (a0.length : Int) < 8
        · replace h := ifT c14 h
          refine TL.nil (X.seq ?_)
          refine T.yes rfl (decide_eq_true c14) ?_
          refine T.seq (T.region rfl ?_)
          refine TL.q rfl .u (Ex.bS (us := [.int .i64 0, .int .i64 0, .int .i64 0, .bool false, .string ⟨#[]⟩]) 1 rfl Try.isAgg30 Try.sizeOf30 rfl rfl rfl) rfl ?_
          refine TL.st2 (cs' := #[.int .i64 0, .int .i64 0, .int .i64 0, .bool false, .string ⟨#[]⟩]) rfl .u rfl rfl Try.sizeOf30 rfl rfl rfl rfl ?_
          refine TL.run ft_cursitorref17_ok [2, 3] rfl rfl ?_
          obtain rfl := Option.some.inj h
          exact TL.nil (X.seq (T.ret (X.rs (X.done3 [3] Try.results18 (RV.cS (us := #[.int .i64 0, .int .i64 0, .int .i64 0, .bool false, .string ⟨#[]⟩]) 2 rfl Try.isAgg30 Try.sizeOf30 rfl rfl) (RV.tm rfl) (RV.tm rfl) ⟨rfl, rfl, rfl⟩ (by rfl) (.inl rfl)))))
        · replace h := ifF c14 h
          refine TL.nil (X.seq ?_)
          refine T.no rfl (decide_eq_false c14) ?_
          refine T.skip (X.seq (T.seq (T.region rfl ?_)))
          replace h := guard_some h
          obtain ⟨c15, h⟩ := h
          refine TL.run ft_cursitorref17_ok [0] rfl rfl ?_
          refine TL.q rfl .u (Ex.sSl (p := 4) (q := 8) (m := ((a0.drop 4).take 4)) rfl Try.runUnderlying9 (.some rfl rfl) (.some rfl rfl) (by omega) rfl) rfl ?_
          obtain ⟨x16, hx17, h⟩ := Option.bind_eq_some_iff.1 h
          refine TL.ce rfl .u (.fn Try.call76 rfl) (SpecX.pure (fun w => gRInt_spec ((a0.drop 4).take 4) _ hx17 w)) (fun _ _ => RX.reads_triv _ _) rfl ?_
          refine TL.run ft_cursitorref17_ok [3] rfl rfl ?_
          refine TL.st0 (cs' := #[.int .i64 x5, .int .i64 x8, .int .i64 x16, .bool false, .string ⟨#[]⟩]) rfl .u rfl rfl Try.sizeOf3 rfl rfl rfl rfl ?_
          refine TL.nil (X.seq (T.seq (T.region rfl ?_)))
          replace h := guard_some h
          obtain ⟨c18, h⟩ := h
          refine TL.run ft_cursitorref17_ok [0] rfl rfl ?_
          refine TL.q rfl .u (Ex.sSl (p := 8) (q := a0.length) (m := (a0.drop 8)) rfl Try.runUnderlying9 (.some rfl rfl) .none (by omega) (sl_drop _ _)) rfl ?_
          obtain ⟨x19, hx20, h⟩ := Option.bind_eq_some_iff.1 h
          refine TL.ce rfl .u (.fn Try.call78 rfl) (gRRFixed_spec (a0.drop 8) 2 _ hx20) (fun _ hs => (RX.reads_triv _ _)) rfl ?_
          refine TL.alloc rfl .u Try.zeroValue134 rfl (fun b21 => ?_)
          refine TL.st0 (cs' := #[.bool x19.blob.null, .string (bsOf x19.blob.data), .int .i64 x19.many, .int .i64 x19.err]) rfl .u rfl rfl Try.sizeOf134 rfl rfl rfl rfl ?_
          refine TL.nil (X.seq (T.seq (T.seq (T.region rfl ?_))))
          refine TL.run ft_cursitorref17_ok [0] rfl rfl ?_
          refine TL.q rfl .u (Ex.b1 0 rfl Try.isAgg3 rfl rfl) rfl ?_
          refine TL.run ft_cursitorref17_ok [2] rfl rfl ?_
          by_cases c22 : x19.err = 0
          · replace h := ifT c22 h
            refine TL.nil (X.seq ?_)
            refine T.no rfl (bn_f (decide_eq_true c22)) ?_
            refine T.skip (X.seq (T.seq (T.region rfl ?_)))
            refine TL.run ft_cursitorref17_ok [0] rfl rfl ?_
            refine TL.q rfl .u (Ex.bS (us := [.bool x19.blob.null, .string (bsOf x19.blob.data)]) 0 rfl Try.isAgg26 Try.sizeOf26 rfl rfl rfl) rfl ?_
            refine TL.run ft_cursitorref17_ok [2] rfl rfl ?_
            refine TL.st1 (cs' := #[.int .i64 x5, .int .i64 x8, .int .i64 x16, .bool x19.blob.null, .string (bsOf x19.blob.data)]) rfl .u rfl rfl Try.sizeOf26 rfl rfl rfl rfl ?_
            refine TL.nil (X.seq (T.seq (T.draw (.q 0 (.q 1 (.q 2 (.q 3 (.e 4 (.q 5 (.q 6 .nil))))))) [0, 0, 0, 1] rfl mix_cursitorref17 (NoP.seq np_post) (by kernel_rfl) ?_)))
            refine TD.q rfl .u (Ex.bS (us := [.int .i64 x5, .int .i64 x8, .int .i64 x16, .bool x19.blob.null, .string (bsOf x19.blob.data)]) 1 rfl Try.isAgg30 Try.sizeOf30 rfl rfl rfl) rfl ?_
            refine TD.run ft_cursitorref17_ok [1] rfl rfl ?_
            refine TD.q rfl .u (Ex.b1 0 rfl Try.isAgg3 rfl rfl) rfl ?_
            replace h := guard_some h
            obtain ⟨c23, h⟩ := h
            refine TD.q rfl .u (Ex.add rfl rfl c23) rfl ?_
            refine TD.st3 (cs' := #[.int .i64 x5, .int .i64 x8, .int .i64 x16, .bool x19.blob.null, .string (bsOf x19.blob.data)]) rfl .u rfl rfl Try.sizeOf30 rfl rfl rfl rfl [0, 0, 0, 1] (rfl) ?_
            refine TD.run ft_cursitorref17_ok [5, 6] rfl rfl ?_
            obtain rfl := Option.some.inj h
            exact TD.nil (X.seq (T.ret (X.done3 [4] Try.results18 (RV.cS (us := #[.int .i64 x5, .int .i64 x8, .int .i64 x16, .bool x19.blob.null, .string (bsOf x19.blob.data)]) 3 rfl Try.isAgg30 Try.sizeOf30 rfl rfl) (RV.tm rfl) (RV.tm rfl) ⟨rfl, rfl, rfl⟩ (by rfl) (.inl rfl))))
          · replace h := ifF c22 h
            refine TL.nil (X.seq ?_)
            refine T.yes rfl (bn_t (decide_eq_false c22)) ?_
            refine T.seq (T.draw (.q 0 (.q 1 (.q 2 (.e 3 (.q 4 (.q 5 .nil)))))) [0, 0, 0, 1] rfl mix_cursitorref17 (NoP.seq (NoP.seq np_post)) (by kernel_rfl) ?_)
            refine TD.q rfl .u (Ex.bS (us := [.int .i64 0, .int .i64 0, .int .i64 0, .bool false, .string ⟨#[]⟩]) 2 rfl Try.isAgg30 Try.sizeOf30 rfl rfl rfl) rfl ?_
            refine TD.run ft_cursitorref17_ok [1] rfl rfl ?_
            refine TD.q rfl .u (Ex.b1 0 rfl Try.isAgg3 rfl rfl) rfl ?_
            refine TD.st3 (cs' := #[.int .i64 0, .int .i64 0, .int .i64 0, .bool false, .string ⟨#[]⟩]) rfl .u rfl rfl Try.sizeOf30 rfl rfl rfl rfl [0, 0, 0, 1] (rfl) ?_
            refine TD.run ft_cursitorref17_ok [4, 5] rfl rfl ?_
            obtain rfl := Option.some.inj h
            exact TD.nil (X.seq (T.ret (X.rs (X.done3 [4] Try.results18 (RV.cS (us := #[.int .i64 0, .int .i64 0, .int .i64 0, .bool false, .string ⟨#[]⟩]) 3 rfl Try.isAgg30 Try.sizeOf30 rfl rfl) (RV.tm rfl) (RV.tm rfl) ⟨rfl, rfl, rfl⟩ (by rfl) (.inl rfl)))))
      · replace h := ifF c13 h
        refine TL.nil (X.seq ?_)
        refine T.yes rfl (bn_t (decide_eq_false c13)) ?_
        refine T.seq (T.region rfl ?_)
        refine TL.q rfl .u (Ex.bS (us := [.int .i64 0, .int .i64 0, .int .i64 0, .bool false, .string ⟨#[]⟩]) 1 rfl Try.isAgg30 Try.sizeOf30 rfl rfl rfl) rfl ?_
        refine TL.run ft_cursitorref17_ok [1] rfl rfl ?_
        refine TL.st2 (cs' := #[.int .i64 0, .int .i64 0, .int .i64 0, .bool false, .string ⟨#[]⟩]) rfl .u rfl rfl Try.sizeOf30 rfl rfl rfl rfl ?_
        refine TL.run ft_cursitorref17_ok [3, 4] rfl rfl ?_
        obtain rfl := Option.some.inj h
        exact TL.nil (X.seq (T.ret (X.rs (X.done3 [3] Try.results18 (RV.cS (us := #[.int .i64 0, .int .i64 0, .int .i64 0, .bool false, .string ⟨#[]⟩]) 2 rfl Try.isAgg30 Try.sizeOf30 rfl rfl) (RV.tm rfl) (RV.tm rfl) ⟨rfl, rfl, rfl⟩ (by rfl) (.inl rfl)))))
def f_r17_Write (a0 : R17Head) : Option (List UInt8) := (gRBytes a0.fKind 2).bind fun x2 => (gRBytes a0.fVersion 2).bind fun x4 => if x2.length + x4.length ≤ 9223372036854775807 then ((gRBytes a0.fNumber 4).bind fun x7 => if (x2 ++ x4).length + x7.length ≤ 9223372036854775807 then ((gRBFixed a0.fClient 2).bind fun x10 => if ((x2 ++ x4) ++ x7).length + x10.length ≤ 9223372036854775807 then (some (((x2 ++ x4) ++ x7) ++ x10)) else none) else none) else none
set_option maxRecDepth 100000 in
set_option maxHeartbeats 4000000 in
theorem f_r17_Write_spec (a0 : R17Head) (r : List UInt8) (h : f_r17_Write a0 = some r) : SpecX Try.prog 21 #[.agg #[.int .i64 a0.fKind, .int .i64 a0.fVersion, .int .i64 a0.fNumber, .bool a0.fClient.null, .string (bsOf a0.fClient.data)]] .triv (EmpR) (fun v A' N => v = .string (bsOf r) ∧ A' = EmpR ∧ N = []) := by
  refine enterA Try.func21 rfl Try.ntmps21 rfl ?_
  intro F w hX
  unfold f_r17_Write at h
  refine T.seq (T.region rfl ?_)
  refine TL.box rfl .u rfl rfl (fun b1 => ?_)
  refine TL.run ft_cursitorref17_ok [1] rfl rfl ?_
  refine TL.nil (X.seq (T.seq (T.draw (.q 0 (.q 1 (.q 3 (.q 4 (.q 7 (.q 8 (.q 11 (.q 12 (.e 2 (.e 5 (.q 6 (.e 9 (.q 10 (.e 13 (.q 14 (.q 15 .nil)))))))))))))))) [0, 0] rfl mix_cursitorref17 (NoP.seq np_post) (by kernel_rfl) ?_)))
  refine TD.run ft_cursitorref17_ok [0] rfl rfl ?_
  refine TD.q rfl .u (Ex.b1 0 rfl Try.isAgg3 rfl rfl) rfl ?_
  refine TD.run ft_cursitorref17_ok [3] rfl rfl ?_
  refine TD.q rfl .u (Ex.b1 0 rfl Try.isAgg3 rfl rfl) rfl ?_
  refine TD.run ft_cursitorref17_ok [7] rfl rfl ?_
  refine TD.q rfl .u (Ex.b1 0 rfl Try.isAgg3 rfl rfl) rfl ?_
  refine TD.run ft_cursitorref17_ok [11] rfl rfl ?_
  refine TD.q rfl .u (Ex.bS (us := [.bool a0.fClient.null, .string (bsOf a0.fClient.data)]) 0 rfl Try.isAgg26 Try.sizeOf26 rfl rfl rfl) rfl ?_
  obtain ⟨x2, hx3, h⟩ := Option.bind_eq_some_iff.1 h
  refine TD.ce rfl .u (.fn Try.call79 rfl) (gRBytes_spec a0.fKind 2 _ hx3) (fun _ hs => (RX.reads_triv _ _)) rfl [0, 0] (rfl) ?_
  obtain ⟨x4, hx5, h⟩ := Option.bind_eq_some_iff.1 h
  refine TD.ce rfl .u (.fn Try.call79 rfl) (gRBytes_spec a0.fVersion 2 _ hx5) (fun _ hs => (RX.reads_triv _ _)) rfl [0, 0] (rfl) ?_
  replace h := guard_some h
  obtain ⟨c6, h⟩ := h
  refine TD.q rfl .u (Ex.sAdd rfl rfl c6) rfl ?_
  obtain ⟨x7, hx8, h⟩ := Option.bind_eq_some_iff.1 h
  refine TD.ce rfl .u (.fn Try.call79 rfl) (gRBytes_spec a0.fNumber 4 _ hx8) (fun _ hs => (RX.reads_triv _ _)) rfl [0, 0] (rfl) ?_
  replace h := guard_some h
  obtain ⟨c9, h⟩ := h
  refine TD.q rfl .u (Ex.sAdd rfl rfl c9) rfl ?_
  obtain ⟨x10, hx11, h⟩ := Option.bind_eq_some_iff.1 h
  refine TD.ce rfl .u (.fn Try.call80 rfl) (gRBFixed_spec a0.fClient 2 _ hx11) (fun _ hs => (RX.reads_triv _ _)) rfl [0, 0] (rfl) ?_
  replace h := guard_some h
  obtain ⟨c12, h⟩ := h
  refine TD.q rfl .u (Ex.sAdd rfl rfl c12) rfl ?_
  refine TD.run ft_cursitorref17_ok [15] rfl rfl ?_
  obtain rfl := Option.some.inj h
  exact TD.nil (X.seq (T.ret (X.done1 [1] Try.results21 (RV.tm rfl) ⟨rfl, rfl, rfl⟩ (by rfl) (.inl rfl))))
def f_r17_Check (a0 : R17Head) : Option (Int) := (f_r17_Versions a0.fKind a0.fVersion).bind fun x2 => if x2 = 0 then (if a0.fNumber < (-2147483648) then some 11 else (if a0.fNumber > 2147483647 then some 11 else (if a0.fClient.null = true then (if a0.fClient.data = [] then (if (a0.fClient.data.length : Int) > 32767 then some 4 else some 0) else some 4) else (if (a0.fClient.data.length : Int) > 32767 then some 4 else some 0)))) else some x2
set_option maxRecDepth 100000 in
set_option maxHeartbeats 4000000 in
theorem f_r17_Check_spec (a0 : R17Head) (r : Int) (h : f_r17_Check a0 = some r) : SpecX Try.prog 24 #[.agg #[.int .i64 a0.fKind, .int .i64 a0.fVersion, .int .i64 a0.fNumber, .bool a0.fClient.null, .string (bsOf a0.fClient.data)]] .triv (EmpR) (fun v A' N => v = .int .i64 r ∧ A' = EmpR ∧ N = []) := by
  refine enterA Try.func24 rfl Try.ntmps24 rfl ?_
  intro F w hX
  unfold f_r17_Check at h
  refine T.seq (T.region rfl ?_)
  refine TL.box rfl .u rfl rfl (fun b1 => ?_)
  refine TL.run ft_cursitorref17_ok [1] rfl rfl ?_
  refine TL.nil (X.seq (T.seq (T.region rfl ?_)))
  refine TL.run ft_cursitorref17_ok [0] rfl rfl ?_
  refine TL.q rfl .u (Ex.b1 0 rfl Try.isAgg3 rfl rfl) rfl ?_
  refine TL.run ft_cursitorref17_ok [2] rfl rfl ?_
  refine TL.q rfl .u (Ex.b1 0 rfl Try.isAgg3 rfl rfl) rfl ?_
  obtain ⟨x2, hx3, h⟩ := Option.bind_eq_some_iff.1 h
  refine TL.ce rfl .u (.fn Try.call77 rfl) (f_r17_Versions_spec a0.fKind a0.fVersion _ hx3) (fun _ hs => (RX.reads_triv _ _)) rfl ?_
  refine TL.run ft_cursitorref17_ok [5] rfl rfl ?_
  refine TL.nil (X.seq (T.seq (T.seq (T.region rfl ?_))))
  refine TL.run ft_cursitorref17_ok [0, 1] rfl rfl ?_
  by_cases c4 : x2 = 0
  · replace h := ifT c4 h
    refine TL.nil (X.seq ?_)
    refine T.no rfl (bn_f (decide_eq_true c4)) ?_
    refine T.skip (X.seq (T.seq (T.seq (T.region rfl ?_))))
    refine TL.run ft_cursitorref17_ok [0] rfl rfl ?_
    refine TL.q rfl .u (Ex.b1 0 rfl Try.isAgg3 rfl rfl) rfl ?_
    by_cases c5 : a0.fNumber < (-2147483648)
    · replace h := ifT c5 h
      refine TL.run ft_cursitorref17_ok [2, 3] rfl rfl ?_
      refine TL.no rfl (.gn rfl rfl (decide_eq_true c5)) rfl ?_
      refine TL.no rfl (.gn rfl rfl (decide_eq_true c5)) rfl ?_
      refine TL.no rfl (.gn rfl rfl (decide_eq_true c5)) rfl ?_
      refine TL.q rfl .u (Ex.py rfl (decide_eq_true c5) rfl) rfl ?_
      refine TL.nil (X.seq ?_)
      refine T.yes rfl rfl ?_
      refine T.seq (T.region rfl ?_)
      refine TL.run ft_cursitorref17_ok [0] rfl rfl ?_
      obtain rfl := Option.some.inj h
      exact TL.nil (X.seq (T.ret (X.rs (X.done1 [1] Try.results24 (RV.tm rfl) ⟨rfl, rfl, rfl⟩ (by rfl) (.inl rfl)))))
    · replace h := ifF c5 h
      refine TL.run ft_cursitorref17_ok [2, 3] rfl rfl ?_
      refine TL.q rfl (.g rfl rfl (decide_eq_false c5)) (Ex.ft ft_cursitorref17_ok rfl) rfl ?_
      refine TL.q rfl (.g rfl rfl (decide_eq_false c5)) (Ex.b1 0 rfl Try.isAgg3 rfl rfl) rfl ?_
      refine TL.q rfl (.g rfl rfl (decide_eq_false c5)) (Ex.ft ft_cursitorref17_ok rfl) rfl ?_
      refine TL.q rfl .u (Ex.pn rfl (decide_eq_false c5) rfl) rfl ?_
      by_cases c6 : a0.fNumber > 2147483647
      · replace h := ifT c6 h
        refine TL.nil (X.seq ?_)
        refine T.yes rfl (decide_eq_true c6) ?_
        refine T.seq (T.region rfl ?_)
        refine TL.run ft_cursitorref17_ok [0] rfl rfl ?_
        obtain rfl := Option.some.inj h
        exact TL.nil (X.seq (T.ret (X.rs (X.done1 [1] Try.results24 (RV.tm rfl) ⟨rfl, rfl, rfl⟩ (by rfl) (.inl rfl)))))
      · replace h := ifF c6 h
        refine TL.nil (X.seq ?_)
        refine T.no rfl (decide_eq_false c6) ?_
        refine T.skip (X.seq (T.seq (T.seq (T.region rfl ?_))))
        refine TL.run ft_cursitorref17_ok [0, 1] rfl rfl ?_
        refine TL.q rfl .u (Ex.b1 0 rfl Try.isAgg4 rfl rfl) rfl ?_
        by_cases c7 : a0.fClient.null = true
        · replace h := ifT c7 h
          refine TL.run ft_cursitorref17_ok [3] rfl rfl ?_
          refine TL.q rfl (.g rfl rfl c7) (Ex.ft ft_cursitorref17_ok rfl) rfl ?_
          refine TL.q rfl (.g rfl rfl c7) (Ex.ft ft_cursitorref17_ok rfl) rfl ?_
          refine TL.q rfl (.g rfl rfl c7) (Ex.b1 0 rfl Try.isAgg9 rfl rfl) rfl ?_
          refine TL.q rfl (.g rfl rfl c7) (Ex.sNe rfl (m := []) rfl) rfl ?_
          refine TL.q rfl .u (Ex.py rfl c7 rfl) rfl ?_
          by_cases c8 : a0.fClient.data = []
          · replace h := ifT c8 h
            refine TL.run ft_cursitorref17_ok [9] rfl rfl ?_
            refine TL.q rfl (.g rfl rfl (bn_f (decide_eq_true c8))) (Ex.ft ft_cursitorref17_ok rfl) rfl ?_
            refine TL.q rfl (.g rfl rfl (bn_f (decide_eq_true c8))) (Ex.ft ft_cursitorref17_ok rfl) rfl ?_
            refine TL.q rfl (.g rfl rfl (bn_f (decide_eq_true c8))) (Ex.b1 0 rfl Try.isAgg9 rfl rfl) rfl ?_
            refine TL.q rfl (.g rfl rfl (bn_f (decide_eq_true c8))) (Ex.lenB rfl Try.runUnderlying9) rfl ?_
            refine TL.q rfl (.g rfl rfl (bn_f (decide_eq_true c8))) (Ex.ft ft_cursitorref17_ok rfl) rfl ?_
            refine TL.q rfl .u (Ex.pn rfl (bn_f (decide_eq_true c8)) rfl) rfl ?_
            by_cases c9 : (a0.fClient.data.length : Int) > 32767
            · replace h := ifT c9 h
              refine TL.nil (X.seq ?_)
              refine T.yes rfl (decide_eq_true c9) ?_
              refine T.seq (T.region rfl ?_)
              refine TL.run ft_cursitorref17_ok [0] rfl rfl ?_
              obtain rfl := Option.some.inj h
              exact TL.nil (X.seq (T.ret (X.rs (X.done1 [1] Try.results24 (RV.tm rfl) ⟨rfl, rfl, rfl⟩ (by rfl) (.inl rfl)))))
            · replace h := ifF c9 h
              refine TL.nil (X.seq ?_)
              refine T.no rfl (decide_eq_false c9) ?_
              refine T.skip (X.seq (T.seq (T.region rfl ?_)))
              refine TL.run ft_cursitorref17_ok [0] rfl rfl ?_
              obtain rfl := Option.some.inj h
              exact TL.nil (X.seq (T.ret (X.done1 [1] Try.results24 (RV.tm rfl) ⟨rfl, rfl, rfl⟩ (by rfl) (.inl rfl))))
          · replace h := ifF c8 h
            refine TL.run ft_cursitorref17_ok [9] rfl rfl ?_
            refine TL.no rfl (.gn rfl rfl (bn_t (decide_eq_false c8))) rfl ?_
            refine TL.no rfl (.gn rfl rfl (bn_t (decide_eq_false c8))) rfl ?_
            refine TL.no rfl (.gn rfl rfl (bn_t (decide_eq_false c8))) rfl ?_
            refine TL.no rfl (.gn rfl rfl (bn_t (decide_eq_false c8))) rfl ?_
            refine TL.no rfl (.gn rfl rfl (bn_t (decide_eq_false c8))) rfl ?_
            refine TL.q rfl .u (Ex.py rfl (bn_t (decide_eq_false c8)) rfl) rfl ?_
            refine TL.nil (X.seq ?_)
            refine T.yes rfl rfl ?_
            refine T.seq (T.region rfl ?_)
            refine TL.run ft_cursitorref17_ok [0] rfl rfl ?_
            obtain rfl := Option.some.inj h
            exact TL.nil (X.seq (T.ret (X.rs (X.done1 [1] Try.results24 (RV.tm rfl) ⟨rfl, rfl, rfl⟩ (by rfl) (.inl rfl)))))
        · replace h := ifF c7 h
          replace c7 := eq_false_of_ne_true c7
          refine TL.run ft_cursitorref17_ok [3] rfl rfl ?_
          refine TL.no rfl (.gn rfl rfl c7) rfl ?_
          refine TL.no rfl (.gn rfl rfl c7) rfl ?_
          refine TL.no rfl (.gn rfl rfl c7) rfl ?_
          refine TL.no rfl (.gn rfl rfl c7) rfl ?_
          refine TL.q rfl .u (Ex.pn rfl c7 rfl) rfl ?_
          refine TL.run ft_cursitorref17_ok [9] rfl rfl ?_
          refine TL.q rfl (.g rfl rfl rfl) (Ex.ft ft_cursitorref17_ok rfl) rfl ?_
          refine TL.q rfl (.g rfl rfl rfl) (Ex.ft ft_cursitorref17_ok rfl) rfl ?_
          refine TL.q rfl (.g rfl rfl rfl) (Ex.b1 0 rfl Try.isAgg9 rfl rfl) rfl ?_
          refine TL.q rfl (.g rfl rfl rfl) (Ex.lenB rfl Try.runUnderlying9) rfl ?_
          refine TL.q rfl (.g rfl rfl rfl) (Ex.ft ft_cursitorref17_ok rfl) rfl ?_
          refine TL.q rfl .u (Ex.pn rfl rfl rfl) rfl ?_
          by_cases c10 : (a0.fClient.data.length : Int) > 32767
          · replace h := ifT c10 h
            refine TL.nil (X.seq ?_)
            refine T.yes rfl (decide_eq_true c10) ?_
            refine T.seq (T.region rfl ?_)
            refine TL.run ft_cursitorref17_ok [0] rfl rfl ?_
            obtain rfl := Option.some.inj h
            exact TL.nil (X.seq (T.ret (X.rs (X.done1 [1] Try.results24 (RV.tm rfl) ⟨rfl, rfl, rfl⟩ (by rfl) (.inl rfl)))))
          · replace h := ifF c10 h
            refine TL.nil (X.seq ?_)
            refine T.no rfl (decide_eq_false c10) ?_
            refine T.skip (X.seq (T.seq (T.region rfl ?_)))
            refine TL.run ft_cursitorref17_ok [0] rfl rfl ?_
            obtain rfl := Option.some.inj h
            exact TL.nil (X.seq (T.ret (X.done1 [1] Try.results24 (RV.tm rfl) ⟨rfl, rfl, rfl⟩ (by rfl) (.inl rfl))))
  · replace h := ifF c4 h
    refine TL.nil (X.seq ?_)
    refine T.yes rfl (bn_t (decide_eq_false c4)) ?_
    refine T.seq (T.region rfl ?_)
    refine TL.run ft_cursitorref17_ok [0, 1] rfl rfl ?_
    obtain rfl := Option.some.inj h
    exact TL.nil (X.seq (T.ret (X.rs (X.done1 [1] Try.results24 (RV.tm rfl) ⟨rfl, rfl, rfl⟩ (by rfl) (.inl rfl)))))
end Go.Proofs.Ytdlpmcbglmgpiaa.Sl
