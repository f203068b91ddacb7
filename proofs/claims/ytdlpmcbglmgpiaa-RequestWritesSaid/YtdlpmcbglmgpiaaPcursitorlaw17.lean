/- Printed by g2.py: package cursitorlaw17. -/
import Derived.Test.YtdlpmcbglmgpiaaGb
import Derived.Test.YtdlpmcbglmgpiaaNg
import Derived.Test.YtdlpmcbglmgpiaaPcursitorref17
import Derived.Test.YtdlpmcbglmgpiaaPrequest
namespace Go.Proofs.Ytdlpmcbglmgpiaa.Sl
open Go.RowKit
set_option linter.unusedVariables false
set_option linter.unusedSimpArgs false
set_option maxRecDepth 100000
def ft_cursitorlaw17 : FTab := [(26, 1, 1), (28, 3, 3)]
theorem ft_cursitorlaw17_ok : (ft_cursitorlaw17).OK Try.prog := ⟨FOK.mk Try.runUnderlying26 rfl Try.sizeOf9 rfl, FOK.mk Try.runUnderlying28 rfl Try.sizeOf26 rfl, trivial⟩
theorem mix_cursitorlaw17 : Try.prog.follows .mixedOrders = true := by kernel_rfl
theorem flat_cursitorlaw17_28 : Flat Try.prog 3 28 [.int .i64, .int .i64, .int .i64, .bool, .string] true := (Flat.struct Try.isAgg28 Try.sizeOf28 rfl Try.underlying28 Try.stoodInHeld28 ⟨by decide, rfl, [.int .i64], [.int .i64, .int .i64, .bool, .string], false, rfl, ((Flat.one_ Try.isAgg3 Try.sizeOf3 Try.underlying3).mono (by decide)), ⟨by decide, rfl, [.int .i64], [.int .i64, .bool, .string], false, rfl, ((Flat.one_ Try.isAgg3 Try.sizeOf3 Try.underlying3).mono (by decide)), ⟨by decide, rfl, [.int .i64], [.bool, .string], false, rfl, ((Flat.one_ Try.isAgg3 Try.sizeOf3 Try.underlying3).mono (by decide)), ⟨by decide, rfl, [.bool, .string], [], true, rfl, (Flat.struct Try.isAgg26 Try.sizeOf26 rfl Try.underlying26 Try.stoodInHeld26 ⟨by decide, rfl, [.bool], [.string], false, rfl, (Flat.one_ Try.isAgg4 Try.sizeOf4 Try.underlying4), ⟨by decide, rfl, [.string], [], false, rfl, (Flat.one_ Try.isAgg9 Try.sizeOf9 Try.underlying9), rfl⟩⟩), rfl⟩⟩⟩⟩)
theorem bok_cursitorlaw17_26 : BOK Try.prog 26 #[.bool false, .string ⟨#[]⟩] [(0, 1), (1, 1)] := BOK.mk Try.zeroValue26 Try.runUnderlying26 (by intro w; simp)
theorem bok_cursitorlaw17_28 : BOK Try.prog 28 #[.int .i64 0, .int .i64 0, .int .i64 0, .bool false, .string ⟨#[]⟩] [(0, 1), (1, 1), (2, 1), (3, 2)] := BOK.mk Try.zeroValue28 Try.runUnderlying28 (by intro w; simp)
def f_l17_speaks  : Option (Bool) := (f_request_Write ([], 0) (⟨22, 1, 5, (⟨true, []⟩ : Bl)⟩ : Head)).bind fun st2 => (gOText st2).bind fun (x4, x5, st6) => if x5 = 0 then (if x4 = [0, 22, 0, 1, 0, 0, 0, 5, 255, 255] then ((f_request_Check (⟨1, 0, 0, (⟨false, []⟩ : Bl)⟩ : Head)).bind fun x10 => if x10 = 12 then some true else some false) else some false) else some false
set_option maxRecDepth 100000 in
set_option maxHeartbeats 4000000 in
theorem f_l17_speaks_spec  (r : Bool) (h : f_l17_speaks  = some r) : SpecX Try.prog 15 #[] .triv (EmpR) (fun v A' N => v = .bool r ∧ A' = EmpR ∧ N = []) := by
  refine enterA Try.func15 rfl Try.ntmps15 rfl ?_
  intro F w hX
  unfold f_l17_speaks at h
  refine T.seq (T.region rfl ?_)
  refine TL.run ft_cursitorlaw17_ok [0] rfl rfl ?_
  refine TL.nil (X.seq (T.seq (T.region rfl ?_)))
  refine TL.newout rfl .u Try.zeroValue40 rfl (fun b1 => ?_)
  refine TL.nil (X.seq (T.seq (T.region rfl ?_)))
  refine TL.q rfl .u (Ex.bld (cells := #[.bool true, .string ⟨#[]⟩]) bok_cursitorlaw17_26 rfl (by rfl)) rfl ?_
  refine TL.q rfl .u (Ex.bld (cells := #[.int .i64 22, .int .i64 1, .int .i64 5, .bool true, .string ⟨#[]⟩]) bok_cursitorlaw17_28 rfl (by rfl)) rfl ?_
  obtain ⟨st2, hx3, h⟩ := Option.bind_eq_some_iff.1 h
  refine TL.c0 rfl .u (.fn Try.call22 rfl) (f_request_Write_spec b1 ([], 0) (⟨22, 1, 5, (⟨true, []⟩ : Bl)⟩ : Head) _ hx3) (fun _ hs => (Src.triv _)) rfl ?_
  obtain ⟨⟨x4, x5, st6⟩, hx7, h⟩ := Option.bind_eq_some_iff.1 h
  try dsimp only at h
  refine TL.nil (X.seq (T.seq (T.region rfl ?_)))
  refine TL.c0 rfl .u (.fn Try.call23 rfl) (gOText_spec b1 st2 _ hx7) (fun _ hs => (Src.triv _)) rfl ?_
  refine TL.run ft_cursitorlaw17_ok [1, 2, 3, 4, 5] rfl rfl ?_
  refine TL.nil (X.seq (T.seq (T.region rfl ?_)))
  by_cases c8 : x5 = 0
  · replace h := ifT c8 h
    refine TL.run ft_cursitorlaw17_ok [0, 1, 2] rfl rfl ?_
    refine TL.q rfl (.g rfl rfl (decide_eq_true c8)) (Ex.ft ft_cursitorlaw17_ok rfl) rfl ?_
    refine TL.q rfl (.g rfl rfl (decide_eq_true c8)) (Ex.sEq rfl (m := [0, 22, 0, 1, 0, 0, 0, 5, 255, 255]) rfl) rfl ?_
    refine TL.q rfl .u (Ex.py rfl (decide_eq_true c8) rfl) rfl ?_
    by_cases c9 : x4 = [0, 22, 0, 1, 0, 0, 0, 5, 255, 255]
    · replace h := ifT c9 h
      refine TL.run ft_cursitorlaw17_ok [6] rfl rfl ?_
      refine TL.q rfl (.g rfl rfl (decide_eq_true c9)) (Ex.bld (cells := #[.int .i64 1, .int .i64 0, .int .i64 0, .bool false, .string ⟨#[]⟩]) bok_cursitorlaw17_28 rfl (by rfl)) rfl ?_
      obtain ⟨x10, hx11, h⟩ := Option.bind_eq_some_iff.1 h
      refine TL.ce rfl (.g rfl rfl (decide_eq_true c9)) (.fn Try.call25 rfl) (f_request_Check_spec (⟨1, 0, 0, (⟨false, []⟩ : Bl)⟩ : Head) _ hx11) (fun _ hs => (RX.reads_triv _ _)) rfl ?_
      refine TL.q rfl (.g rfl rfl (decide_eq_true c9)) (Ex.ft ft_cursitorlaw17_ok rfl) rfl ?_
      refine TL.q rfl .u (Ex.py rfl (decide_eq_true c9) rfl) rfl ?_
      refine TL.run ft_cursitorlaw17_ok [11] rfl rfl ?_
      by_cases c12 : x10 = 12
      · replace h := ifT c12 h
        obtain rfl := Option.some.inj h
        exact TL.nil (X.seq (T.ret (X.done1 [1] Try.results15 (RV.tm (v := .bool true) (congrArg (fun b => some (Value.bool b)) (decide_eq_true c12))) ⟨rfl, rfl, rfl⟩ (by rfl) (.inl rfl))))
      · replace h := ifF c12 h
        obtain rfl := Option.some.inj h
        exact TL.nil (X.seq (T.ret (X.done1 [1] Try.results15 (RV.tm (v := .bool false) (congrArg (fun b => some (Value.bool b)) (decide_eq_false c12))) ⟨rfl, rfl, rfl⟩ (by rfl) (.inl rfl))))
    · replace h := ifF c9 h
      refine TL.run ft_cursitorlaw17_ok [6] rfl rfl ?_
      refine TL.no rfl (.gn rfl rfl (decide_eq_false c9)) rfl ?_
      refine TL.no rfl (.gn rfl rfl (decide_eq_false c9)) rfl ?_
      refine TL.no rfl (.gn rfl rfl (decide_eq_false c9)) rfl ?_
      refine TL.q rfl .u (Ex.pn rfl (decide_eq_false c9) rfl) rfl ?_
      refine TL.run ft_cursitorlaw17_ok [11] rfl rfl ?_
      obtain rfl := Option.some.inj h
      exact TL.nil (X.seq (T.ret (X.done1 [1] Try.results15 (RV.tm rfl) ⟨rfl, rfl, rfl⟩ (by rfl) (.inl rfl))))
  · replace h := ifF c8 h
    refine TL.run ft_cursitorlaw17_ok [0, 1, 2] rfl rfl ?_
    refine TL.no rfl (.gn rfl rfl (decide_eq_false c8)) rfl ?_
    refine TL.no rfl (.gn rfl rfl (decide_eq_false c8)) rfl ?_
    refine TL.q rfl .u (Ex.pn rfl (decide_eq_false c8) rfl) rfl ?_
    refine TL.run ft_cursitorlaw17_ok [6] rfl rfl ?_
    refine TL.no rfl (.gn rfl rfl rfl) rfl ?_
    refine TL.no rfl (.gn rfl rfl rfl) rfl ?_
    refine TL.no rfl (.gn rfl rfl rfl) rfl ?_
    refine TL.q rfl .u (Ex.pn rfl rfl rfl) rfl ?_
    refine TL.run ft_cursitorlaw17_ok [11] rfl rfl ?_
    obtain rfl := Option.some.inj h
    exact TL.nil (X.seq (T.ret (X.done1 [1] Try.results15 (RV.tm rfl) ⟨rfl, rfl, rfl⟩ (by rfl) (.inl rfl))))
def f_l17_RequestReads (a0 : List UInt8) : Option (Bool) := (f_l17_speaks).bind fun x1 => if x1 = true then (if (a0.length : Int) > 2000 then some true else ((gNew a0).bind fun st5 => (f_request_Read st5).bind fun (x8, st9) => (f_r17_Read a0).bind fun (x12, x13, x14) => (gErr st9).bind fun (x17, st18) => if x17 = x14 then (if x8.fKind = x12.fKind then (if x8.fVersion = x12.fVersion then (if x8.fNumber = x12.fNumber then (if x8.fClient.null = x12.fClient.null then (if x8.fClient.data = x12.fClient.data then (if x14 = 0 then ((gAt st18).bind fun (x27, st28) => if x27 = x13 then (if 0 ≤ x13 ∧ x13.toNat ≤ a0.length then ((f_r17_Write (⟨x8.fKind, x8.fVersion, x8.fNumber, x8.fClient⟩ : R17Head)).bind fun x32 => if x32 = (a0.take x13.toNat) then some true else none) else none) else none) else some true) else none) else none) else none) else none) else none) else none)) else none
set_option maxRecDepth 100000 in
set_option maxHeartbeats 4000000 in
theorem f_l17_RequestReads_spec (a0 : List UInt8) (r : Bool) (h : f_l17_RequestReads a0 = some r) : SpecX Try.prog 3 #[.string (bsOf a0)] .triv (EmpR) (fun v A' N => v = .bool r ∧ A' = EmpR ∧ N = []) := by
  refine enterA Try.func3 rfl Try.ntmps3 rfl ?_
  intro F w hX
  unfold f_l17_RequestReads at h
  refine T.seq (T.region rfl ?_)
  refine TL.run ft_cursitorlaw17_ok [0] rfl rfl ?_
  obtain ⟨x1, hx2, h⟩ := Option.bind_eq_some_iff.1 h
  refine TL.nil (X.seq (T.seq (T.seq (T.region rfl ?_))))
  refine TL.ce rfl .u (.fn Try.call15 rfl) (f_l17_speaks_spec _ hx2) (fun _ hs => (RX.reads_triv _ _)) rfl ?_
  refine TL.run ft_cursitorlaw17_ok [1] rfl rfl ?_
  by_cases c3 : x1 = true
  · replace h := ifT c3 h
    refine TL.nil (X.seq ?_)
    refine T.no rfl (bn_f c3) ?_
    refine T.skip (X.seq (T.seq (T.seq (T.region rfl ?_))))
    refine TL.run ft_cursitorlaw17_ok [0] rfl rfl ?_
    refine TL.q rfl .u (Ex.lenB rfl Try.runUnderlying9) rfl ?_
    refine TL.run ft_cursitorlaw17_ok [2] rfl rfl ?_
    by_cases c4 : (a0.length : Int) > 2000
    · replace h := ifT c4 h
      refine TL.nil (X.seq ?_)
      refine T.yes rfl (decide_eq_true c4) ?_
      refine T.seq (T.region rfl ?_)
      refine TL.run ft_cursitorlaw17_ok [0] rfl rfl ?_
      obtain rfl := Option.some.inj h
      exact TL.nil (X.seq (T.ret (X.rs (X.done1 [0] Try.results3 (RV.tm rfl) ⟨rfl, rfl, rfl⟩ (by rfl) (.inl rfl)))))
    · replace h := ifF c4 h
      refine TL.nil (X.seq ?_)
      refine T.no rfl (decide_eq_false c4) ?_
      refine T.skip (X.seq (T.seq (T.region rfl ?_)))
      obtain ⟨st5, hx6, h⟩ := Option.bind_eq_some_iff.1 h
      refine TL.run ft_cursitorlaw17_ok [0] rfl rfl ?_
      refine TL.cge rfl .u (.fn Try.call16 rfl) (gNew_spec a0 _ hx6) (fun _ hs => (RX.reads_triv _ _)) rfl ?_
      rintro _ _ _ ⟨b7, rfl, rfl, rfl⟩
      refine TL.sel [0, 0] rfl ?_
      refine TL.run ft_cursitorlaw17_ok [2] rfl rfl ?_
      refine TL.nil (X.seq (T.seq (T.region rfl ?_)))
      obtain ⟨⟨x8, st9⟩, hx10, h⟩ := Option.bind_eq_some_iff.1 h
      try dsimp only at h
      refine TL.run ft_cursitorlaw17_ok [0] rfl rfl ?_
      refine TL.c0 rfl .u (.fn Try.call17 rfl) (f_request_Read_spec b7 st5 _ hx10) (fun _ hs => (Src.triv _)) rfl ?_
      refine TL.alloc rfl .u Try.zeroValue28 rfl (fun b11 => ?_)
      refine TL.st0 (cs' := #[.int .i64 x8.fKind, .int .i64 x8.fVersion, .int .i64 x8.fNumber, .bool x8.fClient.null, .string (bsOf x8.fClient.data)]) rfl .u rfl rfl Try.sizeOf28 rfl rfl rfl rfl ?_
      refine TL.nil (X.seq (T.seq (T.region rfl ?_)))
      obtain ⟨⟨x12, x13, x14⟩, hx15, h⟩ := Option.bind_eq_some_iff.1 h
      try dsimp only at h
      refine TL.run ft_cursitorlaw17_ok [0] rfl rfl ?_
      refine TL.ce rfl .u (.fn Try.call18 rfl) (f_r17_Read_spec a0 _ hx15) (fun _ hs => (RX.reads_triv _ _)) rfl ?_
      refine TL.run ft_cursitorlaw17_ok [2, 3, 4, 5] rfl rfl ?_
      refine TL.alloc rfl .u Try.zeroValue30 rfl (fun b16 => ?_)
      refine TL.st0 (cs' := #[.int .i64 x12.fKind, .int .i64 x12.fVersion, .int .i64 x12.fNumber, .bool x12.fClient.null, .string (bsOf x12.fClient.data)]) rfl .u rfl rfl Try.sizeOf30 rfl rfl rfl rfl ?_
      refine TL.run ft_cursitorlaw17_ok [8, 9] rfl rfl ?_
      refine TL.nil (X.seq (T.seq (T.seq (T.region rfl ?_))))
      obtain ⟨⟨x17, st18⟩, hx19, h⟩ := Option.bind_eq_some_iff.1 h
      try dsimp only at h
      refine TL.run ft_cursitorlaw17_ok [0] rfl rfl ?_
      refine TL.c2 rfl .u (.fn Try.call19 rfl) (gErr_spec b7 st9 _ hx19) (fun _ hs => (Src.triv _)) rfl ?_
      by_cases c20 : x17 = x14
      · replace h := ifT c20 h
        refine TL.run ft_cursitorlaw17_ok [2, 3, 4] rfl rfl ?_
        refine TL.q rfl (.g rfl rfl (bn_f (decide_eq_true c20))) (Ex.bS (us := [.int .i64 x8.fKind, .int .i64 x8.fVersion, .int .i64 x8.fNumber, .bool x8.fClient.null, .string (bsOf x8.fClient.data)]) 1 rfl Try.isAgg28 Try.sizeOf28 rfl rfl rfl) rfl ?_
        refine TL.q rfl (.g rfl rfl (bn_f (decide_eq_true c20))) (Ex.bS (us := [.int .i64 x12.fKind, .int .i64 x12.fVersion, .int .i64 x12.fNumber, .bool x12.fClient.null, .string (bsOf x12.fClient.data)]) 0 rfl Try.isAgg30 Try.sizeOf30 rfl rfl rfl) rfl ?_
        by_cases c21 : x8.fKind = x12.fKind
        · replace h := ifT c21 h
          by_cases c22 : x8.fVersion = x12.fVersion
          · replace h := ifT c22 h
            by_cases c23 : x8.fNumber = x12.fNumber
            · replace h := ifT c23 h
              by_cases c24 : x8.fClient.null = x12.fClient.null
              · replace h := ifT c24 h
                by_cases c25 : x8.fClient.data = x12.fClient.data
                · replace h := ifT c25 h
                  refine TL.q rfl (.g rfl rfl (bn_f (decide_eq_true c20))) (Ex.aNe (us := [.int .i64 x8.fKind, .int .i64 x8.fVersion, .int .i64 x8.fNumber, .bool x8.fClient.null, .string (bsOf x8.fClient.data)]) (vs := [.int .i64 x12.fKind, .int .i64 x12.fVersion, .int .i64 x12.fNumber, .bool x12.fClient.null, .string (bsOf x12.fClient.data)]) flat_cursitorlaw17_28 rfl Try.eqGuardType28 rfl rfl rfl rfl (eqL_t (eqV_i c21) (eqL_t (eqV_i c22) (eqL_t (eqV_i c23) (eqL_t (eqV_b c24) (eqL_t (eqV_s (l := x8.fClient.data) (m := x12.fClient.data) c25) rfl)))))) rfl ?_
                  refine TL.q rfl .u (Ex.pn rfl (bn_f (decide_eq_true c20)) rfl) rfl ?_
                  refine TL.nil (X.seq ?_)
                  refine T.no rfl rfl ?_
                  refine T.skip (X.seq (T.seq (T.draw (.q 0 (.q 1 (.q 2 (.q 3 (.q 5 (.e 4 (.q 6 (.q 7 (.q 8 (.q 10 (.q 11 (.q 12 (.e 9 (.q 13 (.q 14 (.q 15 (.q 16 .nil))))))))))))))))) [0, 0, 1] rfl mix_cursitorlaw17 (NoP.seq np_post) (by kernel_rfl) ?_)))
                  by_cases c26 : x14 = 0
                  · replace h := ifT c26 h
                    refine TD.run ft_cursitorlaw17_ok [0, 1, 2] rfl rfl ?_
                    refine TD.q rfl (.g rfl rfl (bn_f (decide_eq_true c26))) (Ex.ft ft_cursitorlaw17_ok rfl) rfl ?_
                    refine TD.q rfl (.g rfl rfl (bn_f (decide_eq_true c26))) (Ex.ft ft_cursitorlaw17_ok rfl) rfl ?_
                    obtain ⟨⟨x27, st28⟩, hx29, h⟩ := Option.bind_eq_some_iff.1 h
                    try dsimp only at h
                    refine TD.c2 rfl (.g rfl rfl (bn_f (decide_eq_true c26))) (.fn Try.call20 rfl) (gAt_spec b7 st18 _ hx29) (fun _ hs => (Src.triv _)) rfl [0, 0, 1] (rfl) ?_
                    refine TD.q rfl (.g rfl rfl (bn_f (decide_eq_true c26))) (Ex.ft ft_cursitorlaw17_ok rfl) rfl ?_
                    refine TD.q rfl (.g rfl rfl (bn_f (decide_eq_true c26))) (Ex.ft ft_cursitorlaw17_ok rfl) rfl ?_
                    by_cases c30 : x27 = x13
                    · replace h := ifT c30 h
                      refine TD.q rfl (.g rfl rfl (decide_eq_true c30)) (Ex.bS (us := [.int .i64 x8.fKind, .int .i64 x8.fVersion, .int .i64 x8.fNumber, .bool x8.fClient.null, .string (bsOf x8.fClient.data)]) 1 rfl Try.isAgg28 Try.sizeOf28 rfl rfl rfl) rfl ?_
                      refine TD.q rfl (.g rfl rfl (decide_eq_true c30)) (Ex.ft ft_cursitorlaw17_ok rfl) rfl ?_
                      refine TD.q rfl (.g rfl rfl (decide_eq_true c30)) (Ex.ft ft_cursitorlaw17_ok rfl) rfl ?_
                      replace h := guard_some h
                      obtain ⟨c31, h⟩ := h
                      refine TD.q rfl (.g rfl rfl (decide_eq_true c30)) (Ex.sSl (p := 0) (q := x13.toNat) (m := (a0.take x13.toNat)) rfl Try.runUnderlying9 .none (.some rfl ((Int.toNat_of_nonneg c31.1).symm)) (by omega) (by simp)) rfl ?_
                      obtain ⟨x32, hx33, h⟩ := Option.bind_eq_some_iff.1 h
                      refine TD.ce rfl (.g rfl rfl (decide_eq_true c30)) (.fn Try.call21 rfl) (f_r17_Write_spec (⟨x8.fKind, x8.fVersion, x8.fNumber, x8.fClient⟩ : R17Head) _ hx33) (fun _ hs => (RX.reads_triv _ _)) rfl [0, 0, 1] (rfl) ?_
                      refine TD.q rfl (.g rfl rfl (decide_eq_true c30)) (Ex.sEq rfl rfl) rfl ?_
                      refine TD.q rfl (.g rfl rfl (bn_f (decide_eq_true c26))) (Ex.py rfl (decide_eq_true c30) rfl) rfl ?_
                      refine TD.q rfl .u (Ex.pn rfl (bn_f (decide_eq_true c26)) rfl) rfl ?_
                      refine TD.run ft_cursitorlaw17_ok [16] rfl rfl ?_
                      by_cases c34 : x32 = (a0.take x13.toNat)
                      · replace h := ifT c34 h
                        obtain rfl := Option.some.inj h
                        exact TD.nil (X.seq (T.ret (X.done1 [3] Try.results3 (RV.tm (v := .bool true) (congrArg (fun b => some (Value.bool b)) (decide_eq_true c34))) ⟨rfl, rfl, rfl⟩ (by rfl) (.inl rfl))))
                      · replace h := ifF c34 h
                        exact nomatch h
                    · replace h := ifF c30 h
                      refine TD.no rfl (.gn rfl rfl (decide_eq_false c30)) rfl ?_
                      refine TD.no rfl (.gn rfl rfl (decide_eq_false c30)) rfl ?_
                      refine TD.no rfl (.gn rfl rfl (decide_eq_false c30)) rfl ?_
                      refine TD.no rfl (.gn rfl rfl (decide_eq_false c30)) rfl ?_
                      refine TD.noe rfl (.gn rfl rfl (decide_eq_false c30)) rfl [0, 0, 1] rfl ?_
                      refine TD.no rfl (.gn rfl rfl (decide_eq_false c30)) rfl ?_
                      exact nomatch h
                  · replace h := ifF c26 h
                    refine TD.run ft_cursitorlaw17_ok [0, 1, 2] rfl rfl ?_
                    refine TD.no rfl (.gn rfl rfl (bn_t (decide_eq_false c26))) rfl ?_
                    refine TD.no rfl (.gn rfl rfl (bn_t (decide_eq_false c26))) rfl ?_
                    refine TD.noe rfl (.gn rfl rfl (bn_t (decide_eq_false c26))) rfl [0, 0, 1] rfl ?_
                    refine TD.no rfl (.gn rfl rfl (bn_t (decide_eq_false c26))) rfl ?_
                    refine TD.no rfl (.gn rfl rfl (bn_t (decide_eq_false c26))) rfl ?_
                    refine TD.no rfl (.gu rfl rfl) rfl ?_
                    refine TD.no rfl (.gu rfl rfl) rfl ?_
                    refine TD.no rfl (.gu rfl rfl) rfl ?_
                    refine TD.no rfl (.gu rfl rfl) rfl ?_
                    refine TD.noe rfl (.gu rfl rfl) rfl [0, 0, 1] rfl ?_
                    refine TD.no rfl (.gu rfl rfl) rfl ?_
                    refine TD.no rfl (.gn rfl rfl (bn_t (decide_eq_false c26))) rfl ?_
                    refine TD.q rfl .u (Ex.py rfl (bn_t (decide_eq_false c26)) rfl) rfl ?_
                    refine TD.run ft_cursitorlaw17_ok [16] rfl rfl ?_
                    obtain rfl := Option.some.inj h
                    exact TD.nil (X.seq (T.ret (X.done1 [3] Try.results3 (RV.tm rfl) ⟨rfl, rfl, rfl⟩ (by rfl) (.inl rfl))))
                · replace h := ifF c25 h
                  refine TL.q rfl (.g rfl rfl (bn_f (decide_eq_true c20))) (Ex.aNe (us := [.int .i64 x8.fKind, .int .i64 x8.fVersion, .int .i64 x8.fNumber, .bool x8.fClient.null, .string (bsOf x8.fClient.data)]) (vs := [.int .i64 x12.fKind, .int .i64 x12.fVersion, .int .i64 x12.fNumber, .bool x12.fClient.null, .string (bsOf x12.fClient.data)]) flat_cursitorlaw17_28 rfl Try.eqGuardType28 rfl rfl rfl rfl (eqL_t (eqV_i c21) (eqL_t (eqV_i c22) (eqL_t (eqV_i c23) (eqL_t (eqV_b c24) (eqL_f (eqV_sn (l := x8.fClient.data) (m := x12.fClient.data) c25))))))) rfl ?_
                  exact nomatch h
              · replace h := ifF c24 h
                refine TL.q rfl (.g rfl rfl (bn_f (decide_eq_true c20))) (Ex.aNe (us := [.int .i64 x8.fKind, .int .i64 x8.fVersion, .int .i64 x8.fNumber, .bool x8.fClient.null, .string (bsOf x8.fClient.data)]) (vs := [.int .i64 x12.fKind, .int .i64 x12.fVersion, .int .i64 x12.fNumber, .bool x12.fClient.null, .string (bsOf x12.fClient.data)]) flat_cursitorlaw17_28 rfl Try.eqGuardType28 rfl rfl rfl rfl (eqL_t (eqV_i c21) (eqL_t (eqV_i c22) (eqL_t (eqV_i c23) (eqL_f (eqV_bn c24)))))) rfl ?_
                exact nomatch h
            · replace h := ifF c23 h
              refine TL.q rfl (.g rfl rfl (bn_f (decide_eq_true c20))) (Ex.aNe (us := [.int .i64 x8.fKind, .int .i64 x8.fVersion, .int .i64 x8.fNumber, .bool x8.fClient.null, .string (bsOf x8.fClient.data)]) (vs := [.int .i64 x12.fKind, .int .i64 x12.fVersion, .int .i64 x12.fNumber, .bool x12.fClient.null, .string (bsOf x12.fClient.data)]) flat_cursitorlaw17_28 rfl Try.eqGuardType28 rfl rfl rfl rfl (eqL_t (eqV_i c21) (eqL_t (eqV_i c22) (eqL_f (eqV_in c23))))) rfl ?_
              exact nomatch h
          · replace h := ifF c22 h
            refine TL.q rfl (.g rfl rfl (bn_f (decide_eq_true c20))) (Ex.aNe (us := [.int .i64 x8.fKind, .int .i64 x8.fVersion, .int .i64 x8.fNumber, .bool x8.fClient.null, .string (bsOf x8.fClient.data)]) (vs := [.int .i64 x12.fKind, .int .i64 x12.fVersion, .int .i64 x12.fNumber, .bool x12.fClient.null, .string (bsOf x12.fClient.data)]) flat_cursitorlaw17_28 rfl Try.eqGuardType28 rfl rfl rfl rfl (eqL_t (eqV_i c21) (eqL_f (eqV_in c22)))) rfl ?_
            exact nomatch h
        · replace h := ifF c21 h
          refine TL.q rfl (.g rfl rfl (bn_f (decide_eq_true c20))) (Ex.aNe (us := [.int .i64 x8.fKind, .int .i64 x8.fVersion, .int .i64 x8.fNumber, .bool x8.fClient.null, .string (bsOf x8.fClient.data)]) (vs := [.int .i64 x12.fKind, .int .i64 x12.fVersion, .int .i64 x12.fNumber, .bool x12.fClient.null, .string (bsOf x12.fClient.data)]) flat_cursitorlaw17_28 rfl Try.eqGuardType28 rfl rfl rfl rfl (eqL_f (eqV_in c21))) rfl ?_
          exact nomatch h
      · replace h := ifF c20 h
        refine TL.run ft_cursitorlaw17_ok [2, 3, 4] rfl rfl ?_
        refine TL.no rfl (.gn rfl rfl (bn_t (decide_eq_false c20))) rfl ?_
        refine TL.no rfl (.gn rfl rfl (bn_t (decide_eq_false c20))) rfl ?_
        refine TL.no rfl (.gn rfl rfl (bn_t (decide_eq_false c20))) rfl ?_
        exact nomatch h
  · replace h := ifF c3 h
    replace c3 := eq_false_of_ne_true c3
    refine TL.nil (X.seq ?_)
    refine T.yes rfl (bn_t c3) ?_
    exact nomatch h
def f_l17_RequestWrites (a0 : Head) : Option (Bool) := (f_l17_speaks).bind fun x2 => if x2 = true then (if (a0.fClient.data.length : Int) > 40000 then some true else ((f_request_Write ([], 0) a0).bind fun st7 => (gOText st7).bind fun (x9, x10, st11) => (f_r17_Check (⟨a0.fKind, a0.fVersion, a0.fNumber, a0.fClient⟩ : R17Head)).bind fun x13 => if x10 = x13 then ((f_request_Check a0).bind fun x16 => if x16 = x13 then (if x13 = 0 then ((gNew x9).bind fun st20 => (f_r17_Write (⟨a0.fKind, a0.fVersion, a0.fNumber, a0.fClient⟩ : R17Head)).bind fun x23 => if x9 = x23 then ((f_request_Read st20).bind fun (x26, st27) => if x26.fKind = a0.fKind then (if x26.fVersion = a0.fVersion then (if x26.fNumber = a0.fNumber then (if x26.fClient.null = a0.fClient.null then (if x26.fClient.data = a0.fClient.data then ((gClose st27).bind fun (x34, st35) => if x34 = 0 then some true else none) else none) else none) else none) else none) else none) else none) else (if x9 = [] then some true else none)) else none) else none)) else none
set_option maxRecDepth 100000 in
set_option maxHeartbeats 4000000 in
theorem f_l17_RequestWrites_spec (a0 : Head) (r : Bool) (h : f_l17_RequestWrites a0 = some r) : SpecX Try.prog 4 #[.agg #[.int .i64 a0.fKind, .int .i64 a0.fVersion, .int .i64 a0.fNumber, .bool a0.fClient.null, .string (bsOf a0.fClient.data)]] .triv (EmpR) (fun v A' N => v = .bool r ∧ A' = EmpR ∧ N = []) := by
  refine enterA Try.func4 rfl Try.ntmps4 rfl ?_
  intro F w hX
  unfold f_l17_RequestWrites at h
  refine T.seq (T.region rfl ?_)
  refine TL.box rfl .u rfl rfl (fun b1 => ?_)
  refine TL.run ft_cursitorlaw17_ok [1] rfl rfl ?_
  obtain ⟨x2, hx3, h⟩ := Option.bind_eq_some_iff.1 h
  refine TL.nil (X.seq (T.seq (T.seq (T.region rfl ?_))))
  refine TL.ce rfl .u (.fn Try.call15 rfl) (f_l17_speaks_spec _ hx3) (fun _ hs => (RX.reads_triv _ _)) rfl ?_
  refine TL.run ft_cursitorlaw17_ok [1] rfl rfl ?_
  by_cases c4 : x2 = true
  · replace h := ifT c4 h
    refine TL.nil (X.seq ?_)
    refine T.no rfl (bn_f c4) ?_
    refine T.skip (X.seq (T.seq (T.seq (T.region rfl ?_))))
    refine TL.run ft_cursitorlaw17_ok [0, 1] rfl rfl ?_
    refine TL.q rfl .u (Ex.b1 0 rfl Try.isAgg9 rfl rfl) rfl ?_
    refine TL.q rfl .u (Ex.lenB rfl Try.runUnderlying9) rfl ?_
    refine TL.run ft_cursitorlaw17_ok [4] rfl rfl ?_
    by_cases c5 : (a0.fClient.data.length : Int) > 40000
    · replace h := ifT c5 h
      refine TL.nil (X.seq ?_)
      refine T.yes rfl (decide_eq_true c5) ?_
      refine T.seq (T.region rfl ?_)
      refine TL.run ft_cursitorlaw17_ok [0] rfl rfl ?_
      obtain rfl := Option.some.inj h
      exact TL.nil (X.seq (T.ret (X.rs (X.done1 [1] Try.results4 (RV.tm rfl) ⟨rfl, rfl, rfl⟩ (by rfl) (.inl rfl)))))
    · replace h := ifF c5 h
      refine TL.nil (X.seq ?_)
      refine T.no rfl (decide_eq_false c5) ?_
      refine T.skip (X.seq (T.seq (T.region rfl ?_)))
      refine TL.newout rfl .u Try.zeroValue40 rfl (fun b6 => ?_)
      refine TL.nil (X.seq (T.seq (T.region rfl ?_)))
      refine TL.q rfl .u (Ex.bS (us := [.int .i64 a0.fKind, .int .i64 a0.fVersion, .int .i64 a0.fNumber, .bool a0.fClient.null, .string (bsOf a0.fClient.data)]) 1 rfl Try.isAgg28 Try.sizeOf28 rfl rfl rfl) rfl ?_
      obtain ⟨st7, hx8, h⟩ := Option.bind_eq_some_iff.1 h
      refine TL.c0 rfl .u (.fn Try.call22 rfl) (f_request_Write_spec b6 ([], 0) a0 _ hx8) (fun _ hs => (Src.triv _)) rfl ?_
      obtain ⟨⟨x9, x10, st11⟩, hx12, h⟩ := Option.bind_eq_some_iff.1 h
      try dsimp only at h
      refine TL.nil (X.seq (T.seq (T.region rfl ?_)))
      refine TL.c0 rfl .u (.fn Try.call23 rfl) (gOText_spec b6 st7 _ hx12) (fun _ hs => (Src.triv _)) rfl ?_
      refine TL.run ft_cursitorlaw17_ok [1, 2, 3, 4, 5] rfl rfl ?_
      refine TL.nil (X.seq (T.seq (T.region rfl ?_)))
      refine TL.q rfl .u (Ex.bS (us := [.int .i64 a0.fKind, .int .i64 a0.fVersion, .int .i64 a0.fNumber, .bool a0.fClient.null, .string (bsOf a0.fClient.data)]) 1 rfl Try.isAgg28 Try.sizeOf28 rfl rfl rfl) rfl ?_
      obtain ⟨x13, hx14, h⟩ := Option.bind_eq_some_iff.1 h
      refine TL.ce rfl .u (.fn Try.call24 rfl) (f_r17_Check_spec (⟨a0.fKind, a0.fVersion, a0.fNumber, a0.fClient⟩ : R17Head) _ hx14) (fun _ hs => (RX.reads_triv _ _)) rfl ?_
      refine TL.run ft_cursitorlaw17_ok [2] rfl rfl ?_
      refine TL.nil (X.seq (T.seq (T.seq (T.region rfl ?_))))
      by_cases c15 : x10 = x13
      · replace h := ifT c15 h
        refine TL.run ft_cursitorlaw17_ok [0, 1, 2, 3] rfl rfl ?_
        refine TL.q rfl (.g rfl rfl (bn_f (decide_eq_true c15))) (Ex.bS (us := [.int .i64 a0.fKind, .int .i64 a0.fVersion, .int .i64 a0.fNumber, .bool a0.fClient.null, .string (bsOf a0.fClient.data)]) 1 rfl Try.isAgg28 Try.sizeOf28 rfl rfl rfl) rfl ?_
        obtain ⟨x16, hx17, h⟩ := Option.bind_eq_some_iff.1 h
        refine TL.ce rfl (.g rfl rfl (bn_f (decide_eq_true c15))) (.fn Try.call25 rfl) (f_request_Check_spec a0 _ hx17) (fun _ hs => (RX.reads_triv _ _)) rfl ?_
        refine TL.q rfl (.g rfl rfl (bn_f (decide_eq_true c15))) (Ex.ft ft_cursitorlaw17_ok rfl) rfl ?_
        refine TL.q rfl (.g rfl rfl (bn_f (decide_eq_true c15))) (Ex.ft ft_cursitorlaw17_ok rfl) rfl ?_
        refine TL.q rfl .u (Ex.pn rfl (bn_f (decide_eq_true c15)) rfl) rfl ?_
        by_cases c18 : x16 = x13
        · replace h := ifT c18 h
          refine TL.nil (X.seq ?_)
          refine T.no rfl (bn_f (decide_eq_true c18)) ?_
          refine T.skip (X.seq (T.seq (T.seq (T.region rfl ?_))))
          refine TL.run ft_cursitorlaw17_ok [0, 1] rfl rfl ?_
          by_cases c19 : x13 = 0
          · replace h := ifT c19 h
            refine TL.nil (X.seq ?_)
            refine T.no rfl (bn_f (decide_eq_true c19)) ?_
            refine T.skip (X.seq (T.seq (T.region rfl ?_)))
            obtain ⟨st20, hx21, h⟩ := Option.bind_eq_some_iff.1 h
            refine TL.run ft_cursitorlaw17_ok [0] rfl rfl ?_
            refine TL.cge rfl .u (.fn Try.call16 rfl) (gNew_spec x9 _ hx21) (fun _ hs => (RX.reads_triv _ _)) rfl ?_
            rintro _ _ _ ⟨b22, rfl, rfl, rfl⟩
            refine TL.sel [0, 0, 0, 0] rfl ?_
            refine TL.run ft_cursitorlaw17_ok [2] rfl rfl ?_
            refine TL.nil (X.seq (T.seq (T.draw (.q 0 (.q 1 (.e 2 (.q 3 (.q 4 (.q 5 (.q 7 (.e 6 (.q 8 (.q 9 (.q 10 (.q 11 (.e 12 (.q 13 (.q 14 (.q 15 .nil)))))))))))))))) [1, 1, 1] rfl mix_cursitorlaw17 (NoP.seq np_post) (by kernel_rfl) ?_)))
            refine TD.run ft_cursitorlaw17_ok [0] rfl rfl ?_
            refine TD.q rfl .u (Ex.bS (us := [.int .i64 a0.fKind, .int .i64 a0.fVersion, .int .i64 a0.fNumber, .bool a0.fClient.null, .string (bsOf a0.fClient.data)]) 1 rfl Try.isAgg28 Try.sizeOf28 rfl rfl rfl) rfl ?_
            obtain ⟨x23, hx24, h⟩ := Option.bind_eq_some_iff.1 h
            refine TD.ce rfl .u (.fn Try.call21 rfl) (f_r17_Write_spec (⟨a0.fKind, a0.fVersion, a0.fNumber, a0.fClient⟩ : R17Head) _ hx24) (fun _ hs => (RX.reads_triv _ _)) rfl [1, 1, 1] (rfl) ?_
            refine TD.q rfl .u (Ex.sEq rfl rfl) rfl ?_
            by_cases c25 : x9 = x23
            · replace h := ifT c25 h
              refine TD.run ft_cursitorlaw17_ok [4] rfl rfl ?_
              refine TD.q rfl (.g rfl rfl (decide_eq_true c25)) (Ex.ft ft_cursitorlaw17_ok rfl) rfl ?_
              refine TD.q rfl (.g rfl rfl (decide_eq_true c25)) (Ex.bS (us := [.int .i64 a0.fKind, .int .i64 a0.fVersion, .int .i64 a0.fNumber, .bool a0.fClient.null, .string (bsOf a0.fClient.data)]) 1 rfl Try.isAgg28 Try.sizeOf28 rfl rfl rfl) rfl ?_
              obtain ⟨⟨x26, st27⟩, hx28, h⟩ := Option.bind_eq_some_iff.1 h
              try dsimp only at h
              refine TD.c0 rfl (.g rfl rfl (decide_eq_true c25)) (.fn Try.call17 rfl) (f_request_Read_spec b22 st20 _ hx28) (fun _ hs => (Src.triv _)) rfl [1, 1, 1] (rfl) ?_
              by_cases c29 : x26.fKind = a0.fKind
              · replace h := ifT c29 h
                by_cases c30 : x26.fVersion = a0.fVersion
                · replace h := ifT c30 h
                  by_cases c31 : x26.fNumber = a0.fNumber
                  · replace h := ifT c31 h
                    by_cases c32 : x26.fClient.null = a0.fClient.null
                    · replace h := ifT c32 h
                      by_cases c33 : x26.fClient.data = a0.fClient.data
                      · replace h := ifT c33 h
                        refine TD.q rfl (.g rfl rfl (decide_eq_true c25)) (Ex.aEq (us := [.int .i64 x26.fKind, .int .i64 x26.fVersion, .int .i64 x26.fNumber, .bool x26.fClient.null, .string (bsOf x26.fClient.data)]) (vs := [.int .i64 a0.fKind, .int .i64 a0.fVersion, .int .i64 a0.fNumber, .bool a0.fClient.null, .string (bsOf a0.fClient.data)]) flat_cursitorlaw17_28 rfl Try.eqGuardType28 rfl rfl rfl rfl (eqL_t (eqV_i c29) (eqL_t (eqV_i c30) (eqL_t (eqV_i c31) (eqL_t (eqV_b c32) (eqL_t (eqV_s (l := x26.fClient.data) (m := a0.fClient.data) c33) rfl)))))) rfl ?_
                        refine TD.q rfl .u (Ex.py rfl (decide_eq_true c25) rfl) rfl ?_
                        refine TD.run ft_cursitorlaw17_ok [10] rfl rfl ?_
                        refine TD.q rfl (.g rfl rfl rfl) (Ex.ft ft_cursitorlaw17_ok rfl) rfl ?_
                        obtain ⟨⟨x34, st35⟩, hx36, h⟩ := Option.bind_eq_some_iff.1 h
                        try dsimp only at h
                        refine TD.c0 rfl (.g rfl rfl rfl) (.fn Try.call26 rfl) (gClose_spec b22 st27 _ hx36) (fun _ hs => (Src.triv _)) rfl [1, 1, 1] (rfl) ?_
                        refine TD.q rfl (.g rfl rfl rfl) (Ex.ft ft_cursitorlaw17_ok rfl) rfl ?_
                        refine TD.q rfl .u (Ex.py rfl rfl rfl) rfl ?_
                        refine TD.run ft_cursitorlaw17_ok [15] rfl rfl ?_
                        by_cases c37 : x34 = 0
                        · replace h := ifT c37 h
                          obtain rfl := Option.some.inj h
                          exact TD.nil (X.seq (T.ret (X.done1 [3] Try.results4 (RV.tm (v := .bool true) (congrArg (fun b => some (Value.bool b)) (decide_eq_true c37))) ⟨rfl, rfl, rfl⟩ (by rfl) (.inl rfl))))
                        · replace h := ifF c37 h
                          exact nomatch h
                      · replace h := ifF c33 h
                        refine TD.q rfl (.g rfl rfl (decide_eq_true c25)) (Ex.aEq (us := [.int .i64 x26.fKind, .int .i64 x26.fVersion, .int .i64 x26.fNumber, .bool x26.fClient.null, .string (bsOf x26.fClient.data)]) (vs := [.int .i64 a0.fKind, .int .i64 a0.fVersion, .int .i64 a0.fNumber, .bool a0.fClient.null, .string (bsOf a0.fClient.data)]) flat_cursitorlaw17_28 rfl Try.eqGuardType28 rfl rfl rfl rfl (eqL_t (eqV_i c29) (eqL_t (eqV_i c30) (eqL_t (eqV_i c31) (eqL_t (eqV_b c32) (eqL_f (eqV_sn (l := x26.fClient.data) (m := a0.fClient.data) c33))))))) rfl ?_
                        exact nomatch h
                    · replace h := ifF c32 h
                      refine TD.q rfl (.g rfl rfl (decide_eq_true c25)) (Ex.aEq (us := [.int .i64 x26.fKind, .int .i64 x26.fVersion, .int .i64 x26.fNumber, .bool x26.fClient.null, .string (bsOf x26.fClient.data)]) (vs := [.int .i64 a0.fKind, .int .i64 a0.fVersion, .int .i64 a0.fNumber, .bool a0.fClient.null, .string (bsOf a0.fClient.data)]) flat_cursitorlaw17_28 rfl Try.eqGuardType28 rfl rfl rfl rfl (eqL_t (eqV_i c29) (eqL_t (eqV_i c30) (eqL_t (eqV_i c31) (eqL_f (eqV_bn c32)))))) rfl ?_
                      exact nomatch h
                  · replace h := ifF c31 h
                    refine TD.q rfl (.g rfl rfl (decide_eq_true c25)) (Ex.aEq (us := [.int .i64 x26.fKind, .int .i64 x26.fVersion, .int .i64 x26.fNumber, .bool x26.fClient.null, .string (bsOf x26.fClient.data)]) (vs := [.int .i64 a0.fKind, .int .i64 a0.fVersion, .int .i64 a0.fNumber, .bool a0.fClient.null, .string (bsOf a0.fClient.data)]) flat_cursitorlaw17_28 rfl Try.eqGuardType28 rfl rfl rfl rfl (eqL_t (eqV_i c29) (eqL_t (eqV_i c30) (eqL_f (eqV_in c31))))) rfl ?_
                    exact nomatch h
                · replace h := ifF c30 h
                  refine TD.q rfl (.g rfl rfl (decide_eq_true c25)) (Ex.aEq (us := [.int .i64 x26.fKind, .int .i64 x26.fVersion, .int .i64 x26.fNumber, .bool x26.fClient.null, .string (bsOf x26.fClient.data)]) (vs := [.int .i64 a0.fKind, .int .i64 a0.fVersion, .int .i64 a0.fNumber, .bool a0.fClient.null, .string (bsOf a0.fClient.data)]) flat_cursitorlaw17_28 rfl Try.eqGuardType28 rfl rfl rfl rfl (eqL_t (eqV_i c29) (eqL_f (eqV_in c30)))) rfl ?_
                  exact nomatch h
              · replace h := ifF c29 h
                refine TD.q rfl (.g rfl rfl (decide_eq_true c25)) (Ex.aEq (us := [.int .i64 x26.fKind, .int .i64 x26.fVersion, .int .i64 x26.fNumber, .bool x26.fClient.null, .string (bsOf x26.fClient.data)]) (vs := [.int .i64 a0.fKind, .int .i64 a0.fVersion, .int .i64 a0.fNumber, .bool a0.fClient.null, .string (bsOf a0.fClient.data)]) flat_cursitorlaw17_28 rfl Try.eqGuardType28 rfl rfl rfl rfl (eqL_f (eqV_in c29))) rfl ?_
                exact nomatch h
            · replace h := ifF c25 h
              refine TD.run ft_cursitorlaw17_ok [4] rfl rfl ?_
              refine TD.no rfl (.gn rfl rfl (decide_eq_false c25)) rfl ?_
              refine TD.no rfl (.gn rfl rfl (decide_eq_false c25)) rfl ?_
              refine TD.noe rfl (.gn rfl rfl (decide_eq_false c25)) rfl [1, 1, 1] rfl ?_
              refine TD.no rfl (.gn rfl rfl (decide_eq_false c25)) rfl ?_
              exact nomatch h
          · replace h := ifF c19 h
            refine TL.nil (X.seq ?_)
            refine T.yes rfl (bn_t (decide_eq_false c19)) ?_
            refine T.seq (T.region rfl ?_)
            refine TL.run ft_cursitorlaw17_ok [0] rfl rfl ?_
            refine TL.q rfl .u (Ex.sEq rfl (m := []) rfl) rfl ?_
            refine TL.run ft_cursitorlaw17_ok [2] rfl rfl ?_
            by_cases c38 : x9 = []
            · replace h := ifT c38 h
              obtain rfl := Option.some.inj h
              exact TL.nil (X.seq (T.ret (X.rs (X.done1 [2] Try.results4 (RV.tm (v := .bool true) (congrArg (fun b => some (Value.bool b)) (decide_eq_true c38))) ⟨rfl, rfl, rfl⟩ (by rfl) (.inl rfl)))))
            · replace h := ifF c38 h
              exact nomatch h
        · replace h := ifF c18 h
          refine TL.nil (X.seq ?_)
          refine T.yes rfl (bn_t (decide_eq_false c18)) ?_
          exact nomatch h
      · replace h := ifF c15 h
        refine TL.run ft_cursitorlaw17_ok [0, 1, 2, 3] rfl rfl ?_
        refine TL.no rfl (.gn rfl rfl (bn_t (decide_eq_false c15))) rfl ?_
        refine TL.no rfl (.gn rfl rfl (bn_t (decide_eq_false c15))) rfl ?_
        refine TL.no rfl (.gn rfl rfl (bn_t (decide_eq_false c15))) rfl ?_
        refine TL.no rfl (.gn rfl rfl (bn_t (decide_eq_false c15))) rfl ?_
        exact nomatch h
  · replace h := ifF c4 h
    replace c4 := eq_false_of_ne_true c4
    refine TL.nil (X.seq ?_)
    refine T.yes rfl (bn_t c4) ?_
    exact nomatch h
end Go.Proofs.Ytdlpmcbglmgpiaa.Sl
