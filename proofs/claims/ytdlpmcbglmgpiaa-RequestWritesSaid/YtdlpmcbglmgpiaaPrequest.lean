/- Printed by g2.py: package request. -/
import Derived.Test.YtdlpmcbglmgpiaaGb
import Derived.Test.YtdlpmcbglmgpiaaNg
import Derived.Test.YtdlpmcbglmgpiaaHv
namespace Go.Proofs.Ytdlpmcbglmgpiaa.Sl
open Go.RowKit
set_option linter.unusedVariables false
set_option linter.unusedSimpArgs false
set_option maxRecDepth 100000
def ft_request : FTab := [(26, 1, 1), (28, 0, 0), (28, 1, 1), (28, 2, 2), (28, 3, 3)]
theorem ft_request_ok : (ft_request).OK Try.prog := ⟨FOK.mk Try.runUnderlying26 rfl Try.sizeOf9 rfl, FOK.mk Try.runUnderlying28 rfl Try.sizeOf3 rfl, FOK.mk Try.runUnderlying28 rfl Try.sizeOf3 rfl, FOK.mk Try.runUnderlying28 rfl Try.sizeOf3 rfl, FOK.mk Try.runUnderlying28 rfl Try.sizeOf26 rfl, trivial⟩
theorem bok_request_28 : BOK Try.prog 28 #[.int .i64 0, .int .i64 0, .int .i64 0, .bool false, .string ⟨#[]⟩] [(0, 1), (1, 1), (2, 1), (3, 2)] := BOK.mk Try.zeroValue28 Try.runUnderlying28 (by intro w; simp)
def f_request_Check (a0 : Head) : Option (Int) := (gVCheck a0.fKind a0.fVersion).bind fun x2 => if x2 = 0 then ((gFits a0.fNumber 4).bind fun x5 => if x5 = true then ((gRight a0.fClient).bind fun x8 => if x8 = true then (if (a0.fClient.data.length : Int) > 32767 then some 4 else some 0) else some 4) else some 11) else some x2
set_option maxRecDepth 100000 in
set_option maxHeartbeats 4000000 in
theorem f_request_Check_spec (a0 : Head) (r : Int) (h : f_request_Check a0 = some r) : SpecX Try.prog 25 #[.agg #[.int .i64 a0.fKind, .int .i64 a0.fVersion, .int .i64 a0.fNumber, .bool a0.fClient.null, .string (bsOf a0.fClient.data)]] .triv (EmpR) (fun v A' N => v = .int .i64 r ∧ A' = EmpR ∧ N = []) := by
  refine enterA Try.func25 rfl Try.ntmps25 rfl ?_
  intro F w hX
  unfold f_request_Check at h
  refine T.seq (T.region rfl ?_)
  refine TL.box rfl .u rfl rfl (fun b1 => ?_)
  refine TL.run ft_request_ok [1] rfl rfl ?_
  refine TL.nil (X.seq (T.seq (T.seq (T.region rfl ?_))))
  refine TL.run ft_request_ok [0] rfl rfl ?_
  refine TL.q rfl .u (Ex.b1 0 rfl Try.isAgg3 rfl rfl) rfl ?_
  refine TL.run ft_request_ok [2] rfl rfl ?_
  refine TL.q rfl .u (Ex.b1 0 rfl Try.isAgg3 rfl rfl) rfl ?_
  obtain ⟨x2, hx3, h⟩ := Option.bind_eq_some_iff.1 h
  refine TL.ce rfl .u (.fn Try.call73 rfl) (gVCheck_spec a0.fKind a0.fVersion _ hx3) (fun _ hs => (RX.reads_triv _ _)) rfl ?_
  refine TL.run ft_request_ok [5] rfl rfl ?_
  refine TL.nil (X.seq (T.seq (T.region rfl ?_)))
  refine TL.run ft_request_ok [0, 1] rfl rfl ?_
  by_cases c4 : x2 = 0
  · replace h := ifT c4 h
    refine TL.nil (X.seq ?_)
    refine T.no rfl (bn_f (decide_eq_true c4)) ?_
    refine T.skip (X.seq (T.seq (T.block (T.seq (T.region rfl ?_)))))
    refine TL.run ft_request_ok [0] rfl rfl ?_
    refine TL.q rfl .u (Ex.b1 0 rfl Try.isAgg3 rfl rfl) rfl ?_
    obtain ⟨x5, hx6, h⟩ := Option.bind_eq_some_iff.1 h
    refine TL.ce rfl .u (.fn Try.call84 rfl) (SpecX.pure (fun w => gFits_spec a0.fNumber 4 _ hx6 w)) (fun _ _ => RX.reads_triv _ _) rfl ?_
    refine TL.run ft_request_ok [3, 4] rfl rfl ?_
    by_cases c7 : x5 = true
    · replace h := ifT c7 h
      refine TL.nil (X.seq ?_)
      refine T.no rfl (bn_f c7) ?_
      refine T.seq (T.region rfl ?_)
      refine TL.run ft_request_ok [0] rfl rfl ?_
      refine TL.q rfl .u (Ex.bS (us := [.bool a0.fClient.null, .string (bsOf a0.fClient.data)]) 0 rfl Try.isAgg26 Try.sizeOf26 rfl rfl rfl) rfl ?_
      obtain ⟨x8, hx9, h⟩ := Option.bind_eq_some_iff.1 h
      refine TL.ce rfl .u (.fn Try.call85 rfl) (gRight_spec a0.fClient _ hx9) (fun _ hs => (RX.reads_triv _ _)) rfl ?_
      by_cases c10 : x8 = true
      · replace h := ifT c10 h
        refine TL.run ft_request_ok [3, 4] rfl rfl ?_
        refine TL.q rfl (.g rfl rfl (bn_f c10)) (Ex.ft ft_request_ok rfl) rfl ?_
        refine TL.q rfl (.g rfl rfl (bn_f c10)) (Ex.ft ft_request_ok rfl) rfl ?_
        refine TL.q rfl (.g rfl rfl (bn_f c10)) (Ex.b1 0 rfl Try.isAgg9 rfl rfl) rfl ?_
        refine TL.q rfl (.g rfl rfl (bn_f c10)) (Ex.lenB rfl Try.runUnderlying9) rfl ?_
        refine TL.q rfl (.g rfl rfl (bn_f c10)) (Ex.ft ft_request_ok rfl) rfl ?_
        refine TL.q rfl .u (Ex.pn rfl (bn_f c10) rfl) rfl ?_
        refine TL.run ft_request_ok [11] rfl rfl ?_
        by_cases c11 : (a0.fClient.data.length : Int) > 32767
        · replace h := ifT c11 h
          refine TL.nil (X.seq ?_)
          refine T.yes rfl (decide_eq_true c11) ?_
          refine T.seq (T.region rfl ?_)
          refine TL.run ft_request_ok [0] rfl rfl ?_
          obtain rfl := Option.some.inj h
          exact TL.nil (X.seq (T.ret (X.rb (X.rs (X.done1 [1] Try.results25 (RV.tm rfl) ⟨rfl, rfl, rfl⟩ (by rfl) (.inl rfl))))))
        · replace h := ifF c11 h
          refine TL.nil (X.seq ?_)
          refine T.no rfl (decide_eq_false c11) ?_
          refine T.skip (X.blk (X.seq (T.seq (T.region rfl ?_))))
          refine TL.run ft_request_ok [0] rfl rfl ?_
          obtain rfl := Option.some.inj h
          exact TL.nil (X.seq (T.ret (X.done1 [1] Try.results25 (RV.tm rfl) ⟨rfl, rfl, rfl⟩ (by rfl) (.inl rfl))))
      · replace h := ifF c10 h
        replace c10 := eq_false_of_ne_true c10
        refine TL.run ft_request_ok [3, 4] rfl rfl ?_
        refine TL.no rfl (.gn rfl rfl (bn_t c10)) rfl ?_
        refine TL.no rfl (.gn rfl rfl (bn_t c10)) rfl ?_
        refine TL.no rfl (.gn rfl rfl (bn_t c10)) rfl ?_
        refine TL.no rfl (.gn rfl rfl (bn_t c10)) rfl ?_
        refine TL.no rfl (.gn rfl rfl (bn_t c10)) rfl ?_
        refine TL.q rfl .u (Ex.py rfl (bn_t c10) rfl) rfl ?_
        refine TL.run ft_request_ok [11] rfl rfl ?_
        refine TL.nil (X.seq ?_)
        refine T.yes rfl rfl ?_
        refine T.seq (T.region rfl ?_)
        refine TL.run ft_request_ok [0] rfl rfl ?_
        obtain rfl := Option.some.inj h
        exact TL.nil (X.seq (T.ret (X.rb (X.rs (X.done1 [1] Try.results25 (RV.tm rfl) ⟨rfl, rfl, rfl⟩ (by rfl) (.inl rfl))))))
    · replace h := ifF c7 h
      replace c7 := eq_false_of_ne_true c7
      refine TL.nil (X.seq ?_)
      refine T.yes rfl (bn_t c7) ?_
      refine T.seq (T.region rfl ?_)
      refine TL.run ft_request_ok [0] rfl rfl ?_
      obtain rfl := Option.some.inj h
      exact TL.nil (X.seq (T.ret (X.rb (X.rs (X.done1 [1] Try.results25 (RV.tm rfl) ⟨rfl, rfl, rfl⟩ (by rfl) (.inl rfl))))))
  · replace h := ifF c4 h
    refine TL.nil (X.seq ?_)
    refine T.yes rfl (bn_t (decide_eq_false c4)) ?_
    refine T.seq (T.region rfl ?_)
    refine TL.run ft_request_ok [0, 1] rfl rfl ?_
    obtain rfl := Option.some.inj h
    exact TL.nil (X.seq (T.ret (X.rs (X.done1 [1] Try.results25 (RV.tm rfl) ⟨rfl, rfl, rfl⟩ (by rfl) (.inl rfl)))))
def f_request_Write (st : List UInt8 × Int) (a1 : Head) : Option (List UInt8 × Int) := (f_request_Check a1).bind fun x2 => if x2 = 0 then ((gOInt st a1.fKind 2).bind fun st5 => (gOInt st5 a1.fVersion 2).bind fun st7 => (gOInt st7 a1.fNumber 4).bind fun st9 => (gPutFixed st9 a1.fClient 2).bind fun st11 => some st11) else ((gOFail st x2).bind fun st13 => some st13)
set_option maxRecDepth 100000 in
set_option maxHeartbeats 4000000 in
theorem f_request_Write_spec (g : Nat) (st : List UInt8 × Int) (a1 : Head) (r : List UInt8 × Int) (h : f_request_Write st a1 = some r) : SpecX Try.prog 22 #[.pointer (some ⟨g, 0, none⟩), .agg #[.int .i64 a1.fKind, .int .i64 a1.fVersion, .int .i64 a1.fNumber, .bool a1.fClient.null, .string (bsOf a1.fClient.data)]] .triv (OutR g st) (fun v A' N => v = .tuple #[] ∧ A' = OutR g r ∧ N = []) := by
  refine enterA Try.func22 rfl Try.ntmps22 rfl ?_
  intro F w hX
  unfold f_request_Write at h
  refine T.seq (T.region rfl ?_)
  refine TL.box rfl .u rfl rfl (fun b1 => ?_)
  refine TL.nil (X.seq (T.seq (T.seq (T.region rfl ?_))))
  refine TL.q rfl .u (Ex.bS (us := [.int .i64 a1.fKind, .int .i64 a1.fVersion, .int .i64 a1.fNumber, .bool a1.fClient.null, .string (bsOf a1.fClient.data)]) 0 rfl Try.isAgg28 Try.sizeOf28 rfl rfl rfl) rfl ?_
  obtain ⟨x2, hx3, h⟩ := Option.bind_eq_some_iff.1 h
  refine TL.ce rfl .u (.fn Try.call25 rfl) (f_request_Check_spec a1 _ hx3) (fun _ hs => (RX.reads_triv _ _)) rfl ?_
  refine TL.run ft_request_ok [2] rfl rfl ?_
  refine TL.nil (X.seq (T.seq (T.region rfl ?_)))
  refine TL.run ft_request_ok [0, 1] rfl rfl ?_
  by_cases c4 : x2 = 0
  · replace h := ifT c4 h
    refine TL.nil (X.seq ?_)
    refine T.no rfl (bn_f (decide_eq_true c4)) ?_
    refine T.skip (X.seq (T.seq (T.region rfl ?_)))
    refine TL.run ft_request_ok [0, 1] rfl rfl ?_
    refine TL.q rfl .u (Ex.b1 0 rfl Try.isAgg3 rfl rfl) rfl ?_
    obtain ⟨st5, hx6, h⟩ := Option.bind_eq_some_iff.1 h
    refine TL.c1 rfl .u (.fn Try.call82 rfl) (gOInt_spec g st a1.fKind 2 _ hx6) (fun _ hs => (Src.triv _)) rfl ?_
    refine TL.nil (X.seq (T.seq (T.region rfl ?_)))
    refine TL.run ft_request_ok [0, 1] rfl rfl ?_
    refine TL.q rfl .u (Ex.b1 0 rfl Try.isAgg3 rfl rfl) rfl ?_
    obtain ⟨st7, hx8, h⟩ := Option.bind_eq_some_iff.1 h
    refine TL.c1 rfl .u (.fn Try.call82 rfl) (gOInt_spec g st5 a1.fVersion 2 _ hx8) (fun _ hs => (Src.triv _)) rfl ?_
    refine TL.nil (X.seq (T.seq (T.region rfl ?_)))
    refine TL.run ft_request_ok [0, 1] rfl rfl ?_
    refine TL.q rfl .u (Ex.b1 0 rfl Try.isAgg3 rfl rfl) rfl ?_
    obtain ⟨st9, hx10, h⟩ := Option.bind_eq_some_iff.1 h
    refine TL.c1 rfl .u (.fn Try.call82 rfl) (gOInt_spec g st7 a1.fNumber 4 _ hx10) (fun _ hs => (Src.triv _)) rfl ?_
    refine TL.nil (X.seq (T.region rfl ?_))
    refine TL.run ft_request_ok [0, 1] rfl rfl ?_
    refine TL.q rfl .u (Ex.bS (us := [.bool a1.fClient.null, .string (bsOf a1.fClient.data)]) 0 rfl Try.isAgg26 Try.sizeOf26 rfl rfl rfl) rfl ?_
    obtain ⟨st11, hx12, h⟩ := Option.bind_eq_some_iff.1 h
    refine TL.c1 rfl .u (.fn Try.call83 rfl) (gPutFixed_spec g st9 a1.fClient 2 _ hx12) (fun _ hs => (Src.triv _)) rfl ?_
    obtain rfl := Option.some.inj h
    exact TL.nil (X.done0 [1] Try.results22 ⟨rfl, rfl, rfl⟩ (by rfl) (.inr rfl))
  · replace h := ifF c4 h
    refine TL.nil (X.seq ?_)
    refine T.yes rfl (bn_t (decide_eq_false c4)) ?_
    refine T.seq (T.region rfl ?_)
    obtain ⟨st13, hx14, h⟩ := Option.bind_eq_some_iff.1 h
    refine TL.run ft_request_ok [0, 1] rfl rfl ?_
    refine TL.c1 rfl .u (.fn Try.call81 rfl) (gOFail_spec g st x2 _ hx14) (fun _ hs => (Src.triv _)) rfl ?_
    obtain rfl := Option.some.inj h
    exact TL.nil (X.seq (T.ret (X.rs (X.done0 [1] Try.results22 ⟨rfl, rfl, rfl⟩ (by rfl) (.inl rfl)))))
def f_request_Read (st : I)  : Option (Head × I) := (gInt st 2).bind fun (x2, st3) => (gInt st3 2).bind fun (x5, st6) => (gErr st6).bind fun (x9, st10) => if x9 = 0 then ((gVCheck x2 x5).bind fun x13 => if x13 = 0 then ((gInt st10 4).bind fun (x16, st17) => (gFixed st17 2).bind fun (x19, st20) => (gErr st20).bind fun (x22, st23) => if x22 = 0 then (some ((⟨x2, x5, x16, x19⟩ : Head), st23)) else (some ((⟨0, 0, 0, (⟨false, []⟩ : Bl)⟩ : Head), st23))) else ((gIFail st10 x13).bind fun st26 => (gInt st26 4).bind fun (x28, st29) => (gFixed st29 2).bind fun (x31, st32) => (gErr st32).bind fun (x34, st35) => if x34 = 0 then (some ((⟨x2, x5, x28, x31⟩ : Head), st35)) else (some ((⟨0, 0, 0, (⟨false, []⟩ : Bl)⟩ : Head), st35)))) else ((gInt st10 4).bind fun (x38, st39) => (gFixed st39 2).bind fun (x41, st42) => (gErr st42).bind fun (x44, st45) => if x44 = 0 then (some ((⟨x2, x5, x38, x41⟩ : Head), st45)) else (some ((⟨0, 0, 0, (⟨false, []⟩ : Bl)⟩ : Head), st45)))
set_option maxRecDepth 100000 in
set_option maxHeartbeats 4000000 in
theorem f_request_Read_spec (g : Nat) (st : I)  (r : Head × I) (h : f_request_Read st  = some r) : SpecX Try.prog 17 #[.pointer (some ⟨g, 0, none⟩)] .triv (InR g st) (fun v A' N => v = .agg #[.int .i64 r.1.fKind, .int .i64 r.1.fVersion, .int .i64 r.1.fNumber, .bool r.1.fClient.null, .string (bsOf r.1.fClient.data)] ∧ A' = InR g r.2 ∧ N = []) := by
  refine enterA Try.func17 rfl Try.ntmps17 rfl ?_
  intro F w hX
  unfold f_request_Read at h
  refine T.seq (T.region rfl ?_)
  refine TL.alloc rfl .u Try.zeroValue28 rfl (fun b1 => ?_)
  refine TL.nil (X.seq (T.seq (T.region rfl ?_)))
  obtain ⟨⟨x2, st3⟩, hx4, h⟩ := Option.bind_eq_some_iff.1 h
  try dsimp only at h
  refine TL.run ft_request_ok [0] rfl rfl ?_
  refine TL.c1 rfl .u (.fn Try.call72 rfl) (gInt_spec g st 2 _ hx4) (fun _ hs => (Src.triv _)) rfl ?_
  obtain ⟨⟨x5, st6⟩, hx7, h⟩ := Option.bind_eq_some_iff.1 h
  try dsimp only at h
  refine TL.run ft_request_ok [2] rfl rfl ?_
  refine TL.c1 rfl .u (.fn Try.call72 rfl) (gInt_spec g st3 2 _ hx7) (fun _ hs => (Src.triv _)) rfl ?_
  refine TL.q rfl .u (Ex.bld (cells := #[.int .i64 x2, .int .i64 x5, .int .i64 0, .bool false, .string ⟨#[]⟩]) bok_request_28 rfl (by rfl)) rfl ?_
  refine TL.alloc rfl .u Try.zeroValue28 rfl (fun b8 => ?_)
  refine TL.st0 (cs' := #[.int .i64 x2, .int .i64 x5, .int .i64 0, .bool false, .string ⟨#[]⟩]) rfl .u rfl rfl Try.sizeOf28 rfl rfl rfl rfl ?_
  refine TL.nil (X.seq (T.seq (T.seq (T.region rfl ?_))))
  obtain ⟨⟨x9, st10⟩, hx11, h⟩ := Option.bind_eq_some_iff.1 h
  try dsimp only at h
  refine TL.run ft_request_ok [0] rfl rfl ?_
  refine TL.c2 rfl .u (.fn Try.call19 rfl) (gErr_spec g st6 _ hx11) (fun _ hs => (Src.triv _)) rfl ?_
  refine TL.run ft_request_ok [2] rfl rfl ?_
  by_cases c12 : x9 = 0
  · replace h := ifT c12 h
    refine TL.nil (X.seq ?_)
    refine T.yes rfl (decide_eq_true c12) ?_
    refine T.seq (T.region rfl ?_)
    refine TL.run ft_request_ok [0] rfl rfl ?_
    refine TL.q rfl .u (Ex.b1 0 rfl Try.isAgg3 rfl rfl) rfl ?_
    refine TL.run ft_request_ok [2] rfl rfl ?_
    refine TL.q rfl .u (Ex.b1 0 rfl Try.isAgg3 rfl rfl) rfl ?_
    obtain ⟨x13, hx14, h⟩ := Option.bind_eq_some_iff.1 h
    refine TL.ce rfl .u (.fn Try.call73 rfl) (gVCheck_spec x2 x5 _ hx14) (fun _ hs => (RX.reads_triv _ _)) rfl ?_
    refine TL.run ft_request_ok [5] rfl rfl ?_
    refine TL.nil (X.seq (T.seq (T.region rfl ?_)))
    refine TL.run ft_request_ok [0, 1] rfl rfl ?_
    by_cases c15 : x13 = 0
    · replace h := ifT c15 h
      refine TL.nil (X.seq ?_)
      refine T.no rfl (bn_f (decide_eq_true c15)) ?_
      refine T.skip (X.seq (T.seq (T.region rfl ?_)))
      obtain ⟨⟨x16, st17⟩, hx18, h⟩ := Option.bind_eq_some_iff.1 h
      try dsimp only at h
      refine TL.run ft_request_ok [0] rfl rfl ?_
      refine TL.c2 rfl .u (.fn Try.call72 rfl) (gInt_spec g st10 4 _ hx18) (fun _ hs => (Src.triv _)) rfl ?_
      refine TL.run ft_request_ok [2] rfl rfl ?_
      refine TL.st0 (cs' := #[.int .i64 x2, .int .i64 x5, .int .i64 x16, .bool false, .string ⟨#[]⟩]) rfl .u rfl rfl Try.sizeOf3 rfl rfl rfl rfl ?_
      refine TL.nil (X.seq (T.seq (T.region rfl ?_)))
      obtain ⟨⟨x19, st20⟩, hx21, h⟩ := Option.bind_eq_some_iff.1 h
      try dsimp only at h
      refine TL.run ft_request_ok [0] rfl rfl ?_
      refine TL.c2 rfl .u (.fn Try.call75 rfl) (gFixed_spec g st17 2 _ hx21) (fun _ hs => (Src.triv _)) rfl ?_
      refine TL.run ft_request_ok [2] rfl rfl ?_
      refine TL.st0 (cs' := #[.int .i64 x2, .int .i64 x5, .int .i64 x16, .bool x19.null, .string (bsOf x19.data)]) rfl .u rfl rfl Try.sizeOf26 rfl rfl rfl rfl ?_
      refine TL.nil (X.seq (T.seq (T.seq (T.region rfl ?_))))
      obtain ⟨⟨x22, st23⟩, hx24, h⟩ := Option.bind_eq_some_iff.1 h
      try dsimp only at h
      refine TL.run ft_request_ok [0] rfl rfl ?_
      refine TL.c2 rfl .u (.fn Try.call19 rfl) (gErr_spec g st20 _ hx24) (fun _ hs => (Src.triv _)) rfl ?_
      refine TL.run ft_request_ok [2] rfl rfl ?_
      by_cases c25 : x22 = 0
      · replace h := ifT c25 h
        refine TL.nil (X.seq ?_)
        refine T.no rfl (bn_f (decide_eq_true c25)) ?_
        refine T.skip (X.seq (T.seq (T.region rfl ?_)))
        refine TL.q rfl .u (Ex.bS (us := [.int .i64 x2, .int .i64 x5, .int .i64 x16, .bool x19.null, .string (bsOf x19.data)]) 0 rfl Try.isAgg28 Try.sizeOf28 rfl rfl rfl) rfl ?_
        refine TL.st1 (cs' := #[.int .i64 x2, .int .i64 x5, .int .i64 x16, .bool x19.null, .string (bsOf x19.data)]) rfl .u rfl rfl Try.sizeOf28 rfl rfl rfl rfl ?_
        obtain rfl := Option.some.inj h
        exact TL.nil (X.seq (T.ret (X.done1 [2] Try.results17 (RV.cS (us := #[.int .i64 x2, .int .i64 x5, .int .i64 x16, .bool x19.null, .string (bsOf x19.data)]) 1 rfl Try.isAgg28 Try.sizeOf28 rfl rfl) ⟨rfl, rfl, rfl⟩ (by rfl) (.inl rfl))))
      · replace h := ifF c25 h
        refine TL.nil (X.seq ?_)
        refine T.yes rfl (bn_t (decide_eq_false c25)) ?_
        refine T.seq (T.region rfl ?_)
        refine TL.q rfl .u (Ex.bld (cells := #[.int .i64 0, .int .i64 0, .int .i64 0, .bool false, .string ⟨#[]⟩]) bok_request_28 rfl (by rfl)) rfl ?_
        refine TL.st1 (cs' := #[.int .i64 0, .int .i64 0, .int .i64 0, .bool false, .string ⟨#[]⟩]) rfl .u rfl rfl Try.sizeOf28 rfl rfl rfl rfl ?_
        obtain rfl := Option.some.inj h
        exact TL.nil (X.seq (T.ret (X.rs (X.done1 [2] Try.results17 (RV.cS (us := #[.int .i64 0, .int .i64 0, .int .i64 0, .bool false, .string ⟨#[]⟩]) 1 rfl Try.isAgg28 Try.sizeOf28 rfl rfl) ⟨rfl, rfl, rfl⟩ (by rfl) (.inl rfl)))))
    · replace h := ifF c15 h
      refine TL.nil (X.seq ?_)
      refine T.yes rfl (bn_t (decide_eq_false c15)) ?_
      refine T.region rfl ?_
      obtain ⟨st26, hx27, h⟩ := Option.bind_eq_some_iff.1 h
      refine TL.run ft_request_ok [0, 1] rfl rfl ?_
      refine TL.c2 rfl .u (.fn Try.call74 rfl) (gIFail_spec g st10 x13 _ hx27) (fun _ hs => (Src.triv _)) rfl ?_
      refine TL.nil (X.seq (T.seq (T.region rfl ?_)))
      obtain ⟨⟨x28, st29⟩, hx30, h⟩ := Option.bind_eq_some_iff.1 h
      try dsimp only at h
      refine TL.run ft_request_ok [0] rfl rfl ?_
      refine TL.c2 rfl .u (.fn Try.call72 rfl) (gInt_spec g st26 4 _ hx30) (fun _ hs => (Src.triv _)) rfl ?_
      refine TL.run ft_request_ok [2] rfl rfl ?_
      refine TL.st0 (cs' := #[.int .i64 x2, .int .i64 x5, .int .i64 x28, .bool false, .string ⟨#[]⟩]) rfl .u rfl rfl Try.sizeOf3 rfl rfl rfl rfl ?_
      refine TL.nil (X.seq (T.seq (T.region rfl ?_)))
      obtain ⟨⟨x31, st32⟩, hx33, h⟩ := Option.bind_eq_some_iff.1 h
      try dsimp only at h
      refine TL.run ft_request_ok [0] rfl rfl ?_
      refine TL.c2 rfl .u (.fn Try.call75 rfl) (gFixed_spec g st29 2 _ hx33) (fun _ hs => (Src.triv _)) rfl ?_
      refine TL.run ft_request_ok [2] rfl rfl ?_
      refine TL.st0 (cs' := #[.int .i64 x2, .int .i64 x5, .int .i64 x28, .bool x31.null, .string (bsOf x31.data)]) rfl .u rfl rfl Try.sizeOf26 rfl rfl rfl rfl ?_
      refine TL.nil (X.seq (T.seq (T.seq (T.region rfl ?_))))
      obtain ⟨⟨x34, st35⟩, hx36, h⟩ := Option.bind_eq_some_iff.1 h
      try dsimp only at h
      refine TL.run ft_request_ok [0] rfl rfl ?_
      refine TL.c2 rfl .u (.fn Try.call19 rfl) (gErr_spec g st32 _ hx36) (fun _ hs => (Src.triv _)) rfl ?_
      refine TL.run ft_request_ok [2] rfl rfl ?_
      by_cases c37 : x34 = 0
      · replace h := ifT c37 h
        refine TL.nil (X.seq ?_)
        refine T.no rfl (bn_f (decide_eq_true c37)) ?_
        refine T.skip (X.seq (T.seq (T.region rfl ?_)))
        refine TL.q rfl .u (Ex.bS (us := [.int .i64 x2, .int .i64 x5, .int .i64 x28, .bool x31.null, .string (bsOf x31.data)]) 0 rfl Try.isAgg28 Try.sizeOf28 rfl rfl rfl) rfl ?_
        refine TL.st1 (cs' := #[.int .i64 x2, .int .i64 x5, .int .i64 x28, .bool x31.null, .string (bsOf x31.data)]) rfl .u rfl rfl Try.sizeOf28 rfl rfl rfl rfl ?_
        obtain rfl := Option.some.inj h
        exact TL.nil (X.seq (T.ret (X.done1 [2] Try.results17 (RV.cS (us := #[.int .i64 x2, .int .i64 x5, .int .i64 x28, .bool x31.null, .string (bsOf x31.data)]) 1 rfl Try.isAgg28 Try.sizeOf28 rfl rfl) ⟨rfl, rfl, rfl⟩ (by rfl) (.inl rfl))))
      · replace h := ifF c37 h
        refine TL.nil (X.seq ?_)
        refine T.yes rfl (bn_t (decide_eq_false c37)) ?_
        refine T.seq (T.region rfl ?_)
        refine TL.q rfl .u (Ex.bld (cells := #[.int .i64 0, .int .i64 0, .int .i64 0, .bool false, .string ⟨#[]⟩]) bok_request_28 rfl (by rfl)) rfl ?_
        refine TL.st1 (cs' := #[.int .i64 0, .int .i64 0, .int .i64 0, .bool false, .string ⟨#[]⟩]) rfl .u rfl rfl Try.sizeOf28 rfl rfl rfl rfl ?_
        obtain rfl := Option.some.inj h
        exact TL.nil (X.seq (T.ret (X.rs (X.done1 [2] Try.results17 (RV.cS (us := #[.int .i64 0, .int .i64 0, .int .i64 0, .bool false, .string ⟨#[]⟩]) 1 rfl Try.isAgg28 Try.sizeOf28 rfl rfl) ⟨rfl, rfl, rfl⟩ (by rfl) (.inl rfl)))))
  · replace h := ifF c12 h
    refine TL.nil (X.seq ?_)
    refine T.no rfl (decide_eq_false c12) ?_
    refine T.skip (X.seq (T.seq (T.region rfl ?_)))
    obtain ⟨⟨x38, st39⟩, hx40, h⟩ := Option.bind_eq_some_iff.1 h
    try dsimp only at h
    refine TL.run ft_request_ok [0] rfl rfl ?_
    refine TL.c2 rfl .u (.fn Try.call72 rfl) (gInt_spec g st10 4 _ hx40) (fun _ hs => (Src.triv _)) rfl ?_
    refine TL.run ft_request_ok [2] rfl rfl ?_
    refine TL.st0 (cs' := #[.int .i64 x2, .int .i64 x5, .int .i64 x38, .bool false, .string ⟨#[]⟩]) rfl .u rfl rfl Try.sizeOf3 rfl rfl rfl rfl ?_
    refine TL.nil (X.seq (T.seq (T.region rfl ?_)))
    obtain ⟨⟨x41, st42⟩, hx43, h⟩ := Option.bind_eq_some_iff.1 h
    try dsimp only at h
    refine TL.run ft_request_ok [0] rfl rfl ?_
    refine TL.c2 rfl .u (.fn Try.call75 rfl) (gFixed_spec g st39 2 _ hx43) (fun _ hs => (Src.triv _)) rfl ?_
    refine TL.run ft_request_ok [2] rfl rfl ?_
    refine TL.st0 (cs' := #[.int .i64 x2, .int .i64 x5, .int .i64 x38, .bool x41.null, .string (bsOf x41.data)]) rfl .u rfl rfl Try.sizeOf26 rfl rfl rfl rfl ?_
    refine TL.nil (X.seq (T.seq (T.seq (T.region rfl ?_))))
    obtain ⟨⟨x44, st45⟩, hx46, h⟩ := Option.bind_eq_some_iff.1 h
    try dsimp only at h
    refine TL.run ft_request_ok [0] rfl rfl ?_
    refine TL.c2 rfl .u (.fn Try.call19 rfl) (gErr_spec g st42 _ hx46) (fun _ hs => (Src.triv _)) rfl ?_
    refine TL.run ft_request_ok [2] rfl rfl ?_
    by_cases c47 : x44 = 0
    · replace h := ifT c47 h
      refine TL.nil (X.seq ?_)
      refine T.no rfl (bn_f (decide_eq_true c47)) ?_
      refine T.skip (X.seq (T.seq (T.region rfl ?_)))
      refine TL.q rfl .u (Ex.bS (us := [.int .i64 x2, .int .i64 x5, .int .i64 x38, .bool x41.null, .string (bsOf x41.data)]) 0 rfl Try.isAgg28 Try.sizeOf28 rfl rfl rfl) rfl ?_
      refine TL.st1 (cs' := #[.int .i64 x2, .int .i64 x5, .int .i64 x38, .bool x41.null, .string (bsOf x41.data)]) rfl .u rfl rfl Try.sizeOf28 rfl rfl rfl rfl ?_
      obtain rfl := Option.some.inj h
      exact TL.nil (X.seq (T.ret (X.done1 [2] Try.results17 (RV.cS (us := #[.int .i64 x2, .int .i64 x5, .int .i64 x38, .bool x41.null, .string (bsOf x41.data)]) 1 rfl Try.isAgg28 Try.sizeOf28 rfl rfl) ⟨rfl, rfl, rfl⟩ (by rfl) (.inl rfl))))
    · replace h := ifF c47 h
      refine TL.nil (X.seq ?_)
      refine T.yes rfl (bn_t (decide_eq_false c47)) ?_
      refine T.seq (T.region rfl ?_)
      refine TL.q rfl .u (Ex.bld (cells := #[.int .i64 0, .int .i64 0, .int .i64 0, .bool false, .string ⟨#[]⟩]) bok_request_28 rfl (by rfl)) rfl ?_
      refine TL.st1 (cs' := #[.int .i64 0, .int .i64 0, .int .i64 0, .bool false, .string ⟨#[]⟩]) rfl .u rfl rfl Try.sizeOf28 rfl rfl rfl rfl ?_
      obtain rfl := Option.some.inj h
      exact TL.nil (X.seq (T.ret (X.rs (X.done1 [2] Try.results17 (RV.cS (us := #[.int .i64 0, .int .i64 0, .int .i64 0, .bool false, .string ⟨#[]⟩]) 1 rfl Try.isAgg28 Try.sizeOf28 rfl rfl) ⟨rfl, rfl, rfl⟩ (by rfl) (.inl rfl)))))
end Go.Proofs.Ytdlpmcbglmgpiaa.Sl
