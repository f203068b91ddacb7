/- Printed by g2.py: package control. -/
import Derived.Test.YtdlpmcbglmgpiaaGb
import Derived.Test.YtdlpmcbglmgpiaaNg
namespace Go.Proofs.Ytdlpmcbglmgpiaa.Sl
open Go.RowKit
set_option linter.unusedVariables false
set_option linter.unusedSimpArgs false
set_option maxRecDepth 100000
def ft_control : FTab := [(26, 0, 0), (26, 1, 1), (96, 1, 1), (96, 2, 2), (96, 3, 4), (96, 4, 6)]
theorem ft_control_ok : (ft_control).OK Try.prog := ⟨FOK.mk Try.runUnderlying26 rfl Try.sizeOf4 rfl, FOK.mk Try.runUnderlying26 rfl Try.sizeOf9 rfl, FOK.mk Try.runUnderlying96 rfl Try.sizeOf3 rfl, FOK.mk Try.runUnderlying96 rfl Try.sizeOf26 rfl, FOK.mk Try.runUnderlying96 rfl Try.sizeOf26 rfl, FOK.mk Try.runUnderlying96 rfl Try.sizeOf48 rfl, trivial⟩
theorem bok_control_96 : BOK Try.prog 96 #[.int .i64 0, .int .i64 0, .bool false, .string ⟨#[]⟩, .bool false, .string ⟨#[]⟩, .slice none 0 0] [(0, 1), (1, 1), (2, 2), (4, 2), (6, 1)] := BOK.mk Try.zeroValue96 Try.runUnderlying96 (by intro w; simp)
def f_control_version (st : I)  : Option (I) := (gInt st 2).bind fun (x1, st2) => if x1 = 0 then some st2 else ((gIFail st2 7).bind fun st5 => some st5)
set_option maxRecDepth 100000 in
set_option maxHeartbeats 4000000 in
theorem f_control_version_spec (g : Nat) (st : I)  (r : I) (h : f_control_version st  = some r) : SpecX Try.prog 159 #[.pointer (some ⟨g, 0, none⟩)] .triv (InR g st) (fun v A' N => v = .tuple #[] ∧ A' = InR g r ∧ N = []) := by
  refine enterA Try.func159 rfl Try.ntmps159 rfl ?_
  intro F w hX
  unfold f_control_version at h
  refine T.seq (T.region rfl ?_)
  obtain ⟨⟨x1, st2⟩, hx3, h⟩ := Option.bind_eq_some_iff.1 h
  try dsimp only at h
  refine TL.run ft_control_ok [0] rfl rfl ?_
  refine TL.c0 rfl .u (.fn Try.call72 rfl) (gInt_spec g st 2 _ hx3) (fun _ hs => (Src.triv _)) rfl ?_
  refine TL.run ft_control_ok [2] rfl rfl ?_
  by_cases c4 : x1 = 0
  · replace h := ifT c4 h
    refine TL.nil (X.seq ?_)
    refine T.no rfl (bn_f (decide_eq_true c4)) ?_
    obtain rfl := Option.some.inj h
    exact T.skip (X.done0 [0] Try.results159 ⟨rfl, rfl, rfl⟩ (by rfl) (.inr rfl))
  · replace h := ifF c4 h
    refine TL.nil (X.seq ?_)
    refine T.yes rfl (bn_t (decide_eq_false c4)) ?_
    refine T.region rfl ?_
    obtain ⟨st5, hx6, h⟩ := Option.bind_eq_some_iff.1 h
    refine TL.run ft_control_ok [0] rfl rfl ?_
    refine TL.c0 rfl .u (.fn Try.call74 rfl) (gIFail_spec g st2 7 _ hx6) (fun _ hs => (Src.triv _)) rfl ?_
    obtain rfl := Option.some.inj h
    exact TL.nil (X.done0 [0] Try.results159 ⟨rfl, rfl, rfl⟩ (by rfl) (.inr rfl))
def f_control_ReadKey (a0 : List UInt8) : Option (Int × Int) := (gNew a0).bind fun st1 => (f_control_version st1).bind fun st4 => (gInt st4 2).bind fun (x6, st7) => if x6 = 0 then ((gClose st7).bind fun (x10, st11) => if x10 = 0 then some (x6, 0) else some (0, x10)) else (if x6 = 1 then ((gClose st7).bind fun (x15, st16) => if x15 = 0 then some (x6, 0) else some (0, x15)) else ((gIFail st7 12).bind fun st19 => (gClose st19).bind fun (x21, st22) => if x21 = 0 then some (x6, 0) else some (0, x21)))
set_option maxRecDepth 100000 in
set_option maxHeartbeats 4000000 in
theorem f_control_ReadKey_spec (a0 : List UInt8) (r : Int × Int) (h : f_control_ReadKey a0 = some r) : SpecX Try.prog 144 #[.string (bsOf a0)] .triv (EmpR) (fun v A' N => v = .tuple #[.int .i64 r.1, .int .i64 r.2] ∧ A' = EmpR ∧ N = []) := by
  refine enterA Try.func144 rfl Try.ntmps144 rfl ?_
  intro F w hX
  unfold f_control_ReadKey at h
  refine T.seq (T.region rfl ?_)
  refine TL.run ft_control_ok [0, 1] rfl rfl ?_
  refine TL.nil (X.seq (T.seq (T.region rfl ?_)))
  obtain ⟨st1, hx2, h⟩ := Option.bind_eq_some_iff.1 h
  refine TL.run ft_control_ok [0] rfl rfl ?_
  refine TL.cge rfl .u (.fn Try.call16 rfl) (gNew_spec a0 _ hx2) (fun _ hs => (RX.reads_triv _ _)) rfl ?_
  rintro _ _ _ ⟨b3, rfl, rfl, rfl⟩
  refine TL.sel [0, 0] rfl ?_
  refine TL.run ft_control_ok [2] rfl rfl ?_
  refine TL.nil (X.seq (T.seq (T.region rfl ?_)))
  obtain ⟨st4, hx5, h⟩ := Option.bind_eq_some_iff.1 h
  refine TL.run ft_control_ok [0] rfl rfl ?_
  refine TL.c0 rfl .u (.fn Try.call159 rfl) (f_control_version_spec b3 st1 _ hx5) (fun _ hs => (Src.triv _)) rfl ?_
  refine TL.nil (X.seq (T.seq (T.region rfl ?_)))
  obtain ⟨⟨x6, st7⟩, hx8, h⟩ := Option.bind_eq_some_iff.1 h
  try dsimp only at h
  refine TL.run ft_control_ok [0] rfl rfl ?_
  refine TL.c0 rfl .u (.fn Try.call72 rfl) (gInt_spec b3 st4 2 _ hx8) (fun _ hs => (Src.triv _)) rfl ?_
  refine TL.run ft_control_ok [2] rfl rfl ?_
  refine TL.nil (X.seq (T.seq (T.seq (T.region rfl ?_))))
  by_cases c9 : x6 = 0
  · replace h := ifT c9 h
    refine TL.run ft_control_ok [0, 1, 2] rfl rfl ?_
    refine TL.no rfl (.gn rfl rfl (bn_f (decide_eq_true c9))) rfl ?_
    refine TL.no rfl (.gn rfl rfl (bn_f (decide_eq_true c9))) rfl ?_
    refine TL.q rfl .u (Ex.pn rfl (bn_f (decide_eq_true c9)) rfl) rfl ?_
    refine TL.nil (X.seq ?_)
    refine T.no rfl rfl ?_
    refine T.skip (X.seq (T.seq (T.seq (T.region rfl ?_))))
    obtain ⟨⟨x10, st11⟩, hx12, h⟩ := Option.bind_eq_some_iff.1 h
    try dsimp only at h
    refine TL.run ft_control_ok [0] rfl rfl ?_
    refine TL.c0 rfl .u (.fn Try.call26 rfl) (gClose_spec b3 st7 _ hx12) (fun _ hs => (Src.triv _)) rfl ?_
    refine TL.run ft_control_ok [2] rfl rfl ?_
    refine TL.nil (X.seq (T.seq (T.region rfl ?_)))
    refine TL.run ft_control_ok [0, 1] rfl rfl ?_
    by_cases c13 : x10 = 0
    · replace h := ifT c13 h
      refine TL.nil (X.seq ?_)
      refine T.no rfl (bn_f (decide_eq_true c13)) ?_
      refine T.skip (X.seq (T.seq (T.region rfl ?_)))
      refine TL.run ft_control_ok [0, 1, 2] rfl rfl ?_
      obtain rfl := Option.some.inj h
      exact TL.nil (X.seq (T.ret (X.done2 [1] Try.results144 (RV.tm rfl) (RV.tm rfl) ⟨rfl, rfl, rfl⟩ (by rfl) (.inl rfl))))
    · replace h := ifF c13 h
      refine TL.nil (X.seq ?_)
      refine T.yes rfl (bn_t (decide_eq_false c13)) ?_
      refine T.seq (T.region rfl ?_)
      refine TL.run ft_control_ok [0, 1, 2] rfl rfl ?_
      obtain rfl := Option.some.inj h
      exact TL.nil (X.seq (T.ret (X.rs (X.done2 [1] Try.results144 (RV.tm rfl) (RV.tm rfl) ⟨rfl, rfl, rfl⟩ (by rfl) (.inl rfl)))))
  · replace h := ifF c9 h
    refine TL.run ft_control_ok [0, 1, 2] rfl rfl ?_
    refine TL.q rfl (.g rfl rfl (bn_t (decide_eq_false c9))) (Ex.ft ft_control_ok rfl) rfl ?_
    refine TL.q rfl (.g rfl rfl (bn_t (decide_eq_false c9))) (Ex.ft ft_control_ok rfl) rfl ?_
    refine TL.q rfl .u (Ex.py rfl (bn_t (decide_eq_false c9)) rfl) rfl ?_
    by_cases c14 : x6 = 1
    · replace h := ifT c14 h
      refine TL.nil (X.seq ?_)
      refine T.no rfl (bn_f (decide_eq_true c14)) ?_
      refine T.skip (X.seq (T.seq (T.seq (T.region rfl ?_))))
      obtain ⟨⟨x15, st16⟩, hx17, h⟩ := Option.bind_eq_some_iff.1 h
      try dsimp only at h
      refine TL.run ft_control_ok [0] rfl rfl ?_
      refine TL.c0 rfl .u (.fn Try.call26 rfl) (gClose_spec b3 st7 _ hx17) (fun _ hs => (Src.triv _)) rfl ?_
      refine TL.run ft_control_ok [2] rfl rfl ?_
      refine TL.nil (X.seq (T.seq (T.region rfl ?_)))
      refine TL.run ft_control_ok [0, 1] rfl rfl ?_
      by_cases c18 : x15 = 0
      · replace h := ifT c18 h
        refine TL.nil (X.seq ?_)
        refine T.no rfl (bn_f (decide_eq_true c18)) ?_
        refine T.skip (X.seq (T.seq (T.region rfl ?_)))
        refine TL.run ft_control_ok [0, 1, 2] rfl rfl ?_
        obtain rfl := Option.some.inj h
        exact TL.nil (X.seq (T.ret (X.done2 [1] Try.results144 (RV.tm rfl) (RV.tm rfl) ⟨rfl, rfl, rfl⟩ (by rfl) (.inl rfl))))
      · replace h := ifF c18 h
        refine TL.nil (X.seq ?_)
        refine T.yes rfl (bn_t (decide_eq_false c18)) ?_
        refine T.seq (T.region rfl ?_)
        refine TL.run ft_control_ok [0, 1, 2] rfl rfl ?_
        obtain rfl := Option.some.inj h
        exact TL.nil (X.seq (T.ret (X.rs (X.done2 [1] Try.results144 (RV.tm rfl) (RV.tm rfl) ⟨rfl, rfl, rfl⟩ (by rfl) (.inl rfl)))))
    · replace h := ifF c14 h
      refine TL.nil (X.seq ?_)
      refine T.yes rfl (bn_t (decide_eq_false c14)) ?_
      refine T.region rfl ?_
      obtain ⟨st19, hx20, h⟩ := Option.bind_eq_some_iff.1 h
      refine TL.run ft_control_ok [0] rfl rfl ?_
      refine TL.c0 rfl .u (.fn Try.call74 rfl) (gIFail_spec b3 st7 12 _ hx20) (fun _ hs => (Src.triv _)) rfl ?_
      refine TL.nil (X.seq (T.seq (T.seq (T.region rfl ?_))))
      obtain ⟨⟨x21, st22⟩, hx23, h⟩ := Option.bind_eq_some_iff.1 h
      try dsimp only at h
      refine TL.run ft_control_ok [0] rfl rfl ?_
      refine TL.c0 rfl .u (.fn Try.call26 rfl) (gClose_spec b3 st19 _ hx23) (fun _ hs => (Src.triv _)) rfl ?_
      refine TL.run ft_control_ok [2] rfl rfl ?_
      refine TL.nil (X.seq (T.seq (T.region rfl ?_)))
      refine TL.run ft_control_ok [0, 1] rfl rfl ?_
      by_cases c24 : x21 = 0
      · replace h := ifT c24 h
        refine TL.nil (X.seq ?_)
        refine T.no rfl (bn_f (decide_eq_true c24)) ?_
        refine T.skip (X.seq (T.seq (T.region rfl ?_)))
        refine TL.run ft_control_ok [0, 1, 2] rfl rfl ?_
        obtain rfl := Option.some.inj h
        exact TL.nil (X.seq (T.ret (X.done2 [1] Try.results144 (RV.tm rfl) (RV.tm rfl) ⟨rfl, rfl, rfl⟩ (by rfl) (.inl rfl))))
      · replace h := ifF c24 h
        refine TL.nil (X.seq ?_)
        refine T.yes rfl (bn_t (decide_eq_false c24)) ?_
        refine T.seq (T.region rfl ?_)
        refine TL.run ft_control_ok [0, 1, 2] rfl rfl ?_
        obtain rfl := Option.some.inj h
        exact TL.nil (X.seq (T.ret (X.rs (X.done2 [1] Try.results144 (RV.tm rfl) (RV.tm rfl) ⟨rfl, rfl, rfl⟩ (by rfl) (.inl rfl)))))
def f_control_ReadValue (a0 : List UInt8) : Option (Int × Int) := (gNew a0).bind fun st1 => (f_control_version st1).bind fun st4 => (gInt st4 4).bind fun (x6, st7) => if x6 < 0 then ((gIFail st7 11).bind fun st10 => (gClose st10).bind fun (x12, st13) => if x12 = 0 then some (x6, 0) else some (0, x12)) else ((gClose st7).bind fun (x16, st17) => if x16 = 0 then some (x6, 0) else some (0, x16))
set_option maxRecDepth 100000 in
set_option maxHeartbeats 4000000 in
theorem f_control_ReadValue_spec (a0 : List UInt8) (r : Int × Int) (h : f_control_ReadValue a0 = some r) : SpecX Try.prog 145 #[.string (bsOf a0)] .triv (EmpR) (fun v A' N => v = .tuple #[.int .i64 r.1, .int .i64 r.2] ∧ A' = EmpR ∧ N = []) := by
  refine enterA Try.func145 rfl Try.ntmps145 rfl ?_
  intro F w hX
  unfold f_control_ReadValue at h
  refine T.seq (T.region rfl ?_)
  refine TL.run ft_control_ok [0, 1] rfl rfl ?_
  refine TL.nil (X.seq (T.seq (T.region rfl ?_)))
  obtain ⟨st1, hx2, h⟩ := Option.bind_eq_some_iff.1 h
  refine TL.run ft_control_ok [0] rfl rfl ?_
  refine TL.cge rfl .u (.fn Try.call16 rfl) (gNew_spec a0 _ hx2) (fun _ hs => (RX.reads_triv _ _)) rfl ?_
  rintro _ _ _ ⟨b3, rfl, rfl, rfl⟩
  refine TL.sel [0, 0] rfl ?_
  refine TL.run ft_control_ok [2] rfl rfl ?_
  refine TL.nil (X.seq (T.seq (T.region rfl ?_)))
  obtain ⟨st4, hx5, h⟩ := Option.bind_eq_some_iff.1 h
  refine TL.run ft_control_ok [0] rfl rfl ?_
  refine TL.c0 rfl .u (.fn Try.call159 rfl) (f_control_version_spec b3 st1 _ hx5) (fun _ hs => (Src.triv _)) rfl ?_
  refine TL.nil (X.seq (T.seq (T.region rfl ?_)))
  obtain ⟨⟨x6, st7⟩, hx8, h⟩ := Option.bind_eq_some_iff.1 h
  try dsimp only at h
  refine TL.run ft_control_ok [0] rfl rfl ?_
  refine TL.c0 rfl .u (.fn Try.call72 rfl) (gInt_spec b3 st4 4 _ hx8) (fun _ hs => (Src.triv _)) rfl ?_
  refine TL.run ft_control_ok [2] rfl rfl ?_
  refine TL.nil (X.seq (T.seq (T.seq (T.region rfl ?_))))
  refine TL.run ft_control_ok [0, 1] rfl rfl ?_
  by_cases c9 : x6 < 0
  · replace h := ifT c9 h
    refine TL.nil (X.seq ?_)
    refine T.yes rfl (decide_eq_true c9) ?_
    refine T.region rfl ?_
    obtain ⟨st10, hx11, h⟩ := Option.bind_eq_some_iff.1 h
    refine TL.run ft_control_ok [0] rfl rfl ?_
    refine TL.c0 rfl .u (.fn Try.call74 rfl) (gIFail_spec b3 st7 11 _ hx11) (fun _ hs => (Src.triv _)) rfl ?_
    refine TL.nil (X.seq (T.seq (T.seq (T.region rfl ?_))))
    obtain ⟨⟨x12, st13⟩, hx14, h⟩ := Option.bind_eq_some_iff.1 h
    try dsimp only at h
    refine TL.run ft_control_ok [0] rfl rfl ?_
    refine TL.c0 rfl .u (.fn Try.call26 rfl) (gClose_spec b3 st10 _ hx14) (fun _ hs => (Src.triv _)) rfl ?_
    refine TL.run ft_control_ok [2] rfl rfl ?_
    refine TL.nil (X.seq (T.seq (T.region rfl ?_)))
    refine TL.run ft_control_ok [0, 1] rfl rfl ?_
    by_cases c15 : x12 = 0
    · replace h := ifT c15 h
      refine TL.nil (X.seq ?_)
      refine T.no rfl (bn_f (decide_eq_true c15)) ?_
      refine T.skip (X.seq (T.seq (T.region rfl ?_)))
      refine TL.run ft_control_ok [0, 1, 2] rfl rfl ?_
      obtain rfl := Option.some.inj h
      exact TL.nil (X.seq (T.ret (X.done2 [1] Try.results145 (RV.tm rfl) (RV.tm rfl) ⟨rfl, rfl, rfl⟩ (by rfl) (.inl rfl))))
    · replace h := ifF c15 h
      refine TL.nil (X.seq ?_)
      refine T.yes rfl (bn_t (decide_eq_false c15)) ?_
      refine T.seq (T.region rfl ?_)
      refine TL.run ft_control_ok [0, 1, 2] rfl rfl ?_
      obtain rfl := Option.some.inj h
      exact TL.nil (X.seq (T.ret (X.rs (X.done2 [1] Try.results145 (RV.tm rfl) (RV.tm rfl) ⟨rfl, rfl, rfl⟩ (by rfl) (.inl rfl)))))
  · replace h := ifF c9 h
    refine TL.nil (X.seq ?_)
    refine T.no rfl (decide_eq_false c9) ?_
    refine T.skip (X.seq (T.seq (T.seq (T.region rfl ?_))))
    obtain ⟨⟨x16, st17⟩, hx18, h⟩ := Option.bind_eq_some_iff.1 h
    try dsimp only at h
    refine TL.run ft_control_ok [0] rfl rfl ?_
    refine TL.c0 rfl .u (.fn Try.call26 rfl) (gClose_spec b3 st7 _ hx18) (fun _ hs => (Src.triv _)) rfl ?_
    refine TL.run ft_control_ok [2] rfl rfl ?_
    refine TL.nil (X.seq (T.seq (T.region rfl ?_)))
    refine TL.run ft_control_ok [0, 1] rfl rfl ?_
    by_cases c19 : x16 = 0
    · replace h := ifT c19 h
      refine TL.nil (X.seq ?_)
      refine T.no rfl (bn_f (decide_eq_true c19)) ?_
      refine T.skip (X.seq (T.seq (T.region rfl ?_)))
      refine TL.run ft_control_ok [0, 1, 2] rfl rfl ?_
      obtain rfl := Option.some.inj h
      exact TL.nil (X.seq (T.ret (X.done2 [1] Try.results145 (RV.tm rfl) (RV.tm rfl) ⟨rfl, rfl, rfl⟩ (by rfl) (.inl rfl))))
    · replace h := ifF c19 h
      refine TL.nil (X.seq ?_)
      refine T.yes rfl (bn_t (decide_eq_false c19)) ?_
      refine T.seq (T.region rfl ?_)
      refine TL.run ft_control_ok [0, 1, 2] rfl rfl ?_
      obtain rfl := Option.some.inj h
      exact TL.nil (X.seq (T.ret (X.rs (X.done2 [1] Try.results145 (RV.tm rfl) (RV.tm rfl) ⟨rfl, rfl, rfl⟩ (by rfl) (.inl rfl)))))
def f_control_Read (a0 : Rec) : Option (Int × Int × Int) := if a0.fKey.null = true then some (0, 0, 12) else (if a0.fValue.null = true then some (0, 0, 12) else (if (a0.fHeaders.length : Int) > 0 then some (0, 0, 12) else (if a0.fOffset = 0 then ((f_control_ReadKey a0.fKey.data).bind fun (x8, x9) => if x9 = 0 then ((f_control_ReadValue a0.fValue.data).bind fun (x12, x13) => if x13 = 0 then some (x8, x12, 0) else some (0, 0, x13)) else some (0, 0, x9)) else some (0, 0, 12))))
set_option maxRecDepth 100000 in
set_option maxHeartbeats 4000000 in
theorem f_control_Read_spec (a0 : Rec) (A1 : Option Addr) (c2 : Nat) (r : Int × Int × Int) (h : f_control_Read a0 = some r) : SpecX Try.prog 104 #[.agg #[.int .i64 a0.fTime, .int .i64 a0.fOffset, .bool a0.fKey.null, .string (bsOf a0.fKey.data), .bool a0.fValue.null, .string (bsOf a0.fValue.data), .slice A1 a0.fHeaders.length c2]] (RX.of (sliceRd 3 Hd_rd) [.slice A1 a0.fHeaders.length c2] a0.fHeaders) (EmpR) (fun v A' N => v = .tuple #[.int .i64 r.1, .int .i64 r.2.1, .int .i64 r.2.2] ∧ A' = EmpR ∧ N = []) := by
  refine enterA Try.func104 rfl Try.ntmps104 rfl ?_
  intro F w hX
  unfold f_control_Read at h
  refine T.seq (T.region rfl ?_)
  refine TL.box rfl .u rfl rfl (fun b3 => ?_)
  refine TL.run ft_control_ok [1, 2, 3] rfl rfl ?_
  refine TL.nil (X.seq (T.seq (T.seq (T.region rfl ?_))))
  refine TL.run ft_control_ok [0, 1] rfl rfl ?_
  refine TL.q rfl .u (Ex.b1 0 rfl Try.isAgg4 rfl rfl) rfl ?_
  by_cases c4 : a0.fKey.null = true
  · replace h := ifT c4 h
    refine TL.run ft_control_ok [3] rfl rfl ?_
    refine TL.no rfl (.gn rfl rfl c4) rfl ?_
    refine TL.no rfl (.gn rfl rfl c4) rfl ?_
    refine TL.no rfl (.gn rfl rfl c4) rfl ?_
    refine TL.q rfl .u (Ex.py rfl c4 rfl) rfl ?_
    refine TL.run ft_control_ok [8] rfl rfl ?_
    refine TL.no rfl (.gn rfl rfl rfl) rfl ?_
    refine TL.no rfl (.gn rfl rfl rfl) rfl ?_
    refine TL.no rfl (.gn rfl rfl rfl) rfl ?_
    refine TL.no rfl (.gn rfl rfl rfl) rfl ?_
    refine TL.q rfl .u (Ex.py rfl rfl rfl) rfl ?_
    refine TL.run ft_control_ok [14] rfl rfl ?_
    refine TL.no rfl (.gn rfl rfl rfl) rfl ?_
    refine TL.no rfl (.gn rfl rfl rfl) rfl ?_
    refine TL.no rfl (.gn rfl rfl rfl) rfl ?_
    refine TL.q rfl .u (Ex.py rfl rfl rfl) rfl ?_
    refine TL.nil (X.seq ?_)
    refine T.yes rfl rfl ?_
    refine T.seq (T.region rfl ?_)
    refine TL.run ft_control_ok [0, 1, 2] rfl rfl ?_
    obtain rfl := Option.some.inj h
    exact TL.nil (X.seq (T.ret (X.rs (X.done3 [1] Try.results104 (RV.tm rfl) (RV.tm rfl) (RV.tm rfl) ⟨rfl, rfl, rfl⟩ (by rfl) (.inl rfl)))))
  · replace h := ifF c4 h
    replace c4 := eq_false_of_ne_true c4
    refine TL.run ft_control_ok [3] rfl rfl ?_
    refine TL.q rfl (.g rfl rfl c4) (Ex.ft ft_control_ok rfl) rfl ?_
    refine TL.q rfl (.g rfl rfl c4) (Ex.ft ft_control_ok rfl) rfl ?_
    refine TL.q rfl (.g rfl rfl c4) (Ex.b1 0 rfl Try.isAgg4 rfl rfl) rfl ?_
    refine TL.q rfl .u (Ex.pn rfl c4 rfl) rfl ?_
    by_cases c5 : a0.fValue.null = true
    · replace h := ifT c5 h
      refine TL.run ft_control_ok [8] rfl rfl ?_
      refine TL.no rfl (.gn rfl rfl c5) rfl ?_
      refine TL.no rfl (.gn rfl rfl c5) rfl ?_
      refine TL.no rfl (.gn rfl rfl c5) rfl ?_
      refine TL.no rfl (.gn rfl rfl c5) rfl ?_
      refine TL.q rfl .u (Ex.py rfl c5 rfl) rfl ?_
      refine TL.run ft_control_ok [14] rfl rfl ?_
      refine TL.no rfl (.gn rfl rfl rfl) rfl ?_
      refine TL.no rfl (.gn rfl rfl rfl) rfl ?_
      refine TL.no rfl (.gn rfl rfl rfl) rfl ?_
      refine TL.q rfl .u (Ex.py rfl rfl rfl) rfl ?_
      refine TL.nil (X.seq ?_)
      refine T.yes rfl rfl ?_
      refine T.seq (T.region rfl ?_)
      refine TL.run ft_control_ok [0, 1, 2] rfl rfl ?_
      obtain rfl := Option.some.inj h
      exact TL.nil (X.seq (T.ret (X.rs (X.done3 [1] Try.results104 (RV.tm rfl) (RV.tm rfl) (RV.tm rfl) ⟨rfl, rfl, rfl⟩ (by rfl) (.inl rfl)))))
    · replace h := ifF c5 h
      replace c5 := eq_false_of_ne_true c5
      refine TL.run ft_control_ok [8] rfl rfl ?_
      refine TL.q rfl (.g rfl rfl c5) (Ex.ft ft_control_ok rfl) rfl ?_
      refine TL.q rfl (.g rfl rfl c5) (Ex.b1 0 rfl Try.isAgg48 rfl rfl) rfl ?_
      refine TL.q rfl (.g rfl rfl c5) (Ex.lenS rfl Try.runUnderlying48) rfl ?_
      refine TL.q rfl (.g rfl rfl c5) (Ex.ft ft_control_ok rfl) rfl ?_
      refine TL.q rfl .u (Ex.pn rfl c5 rfl) rfl ?_
      by_cases c6 : (a0.fHeaders.length : Int) > 0
      · replace h := ifT c6 h
        refine TL.run ft_control_ok [14] rfl rfl ?_
        refine TL.no rfl (.gn rfl rfl (decide_eq_true c6)) rfl ?_
        refine TL.no rfl (.gn rfl rfl (decide_eq_true c6)) rfl ?_
        refine TL.no rfl (.gn rfl rfl (decide_eq_true c6)) rfl ?_
        refine TL.q rfl .u (Ex.py rfl (decide_eq_true c6) rfl) rfl ?_
        refine TL.nil (X.seq ?_)
        refine T.yes rfl rfl ?_
        refine T.seq (T.region rfl ?_)
        refine TL.run ft_control_ok [0, 1, 2] rfl rfl ?_
        obtain rfl := Option.some.inj h
        exact TL.nil (X.seq (T.ret (X.rs (X.done3 [1] Try.results104 (RV.tm rfl) (RV.tm rfl) (RV.tm rfl) ⟨rfl, rfl, rfl⟩ (by rfl) (.inl rfl)))))
      · replace h := ifF c6 h
        refine TL.run ft_control_ok [14] rfl rfl ?_
        refine TL.q rfl (.g rfl rfl (decide_eq_false c6)) (Ex.ft ft_control_ok rfl) rfl ?_
        refine TL.q rfl (.g rfl rfl (decide_eq_false c6)) (Ex.b1 0 rfl Try.isAgg3 rfl rfl) rfl ?_
        refine TL.q rfl (.g rfl rfl (decide_eq_false c6)) (Ex.ft ft_control_ok rfl) rfl ?_
        refine TL.q rfl .u (Ex.pn rfl (decide_eq_false c6) rfl) rfl ?_
        by_cases c7 : a0.fOffset = 0
        · replace h := ifT c7 h
          refine TL.nil (X.seq ?_)
          refine T.no rfl (bn_f (decide_eq_true c7)) ?_
          refine T.skip (X.seq (T.seq (T.seq (T.region rfl ?_))))
          refine TL.run ft_control_ok [0, 1] rfl rfl ?_
          refine TL.q rfl .u (Ex.b1 0 rfl Try.isAgg9 rfl rfl) rfl ?_
          obtain ⟨⟨x8, x9⟩, hx10, h⟩ := Option.bind_eq_some_iff.1 h
          try dsimp only at h
          refine TL.ce rfl .u (.fn Try.call144 rfl) (f_control_ReadKey_spec a0.fKey.data _ hx10) (fun _ hs => (RX.reads_triv _ _)) rfl ?_
          refine TL.run ft_control_ok [4, 5, 6, 7, 8] rfl rfl ?_
          refine TL.nil (X.seq (T.seq (T.region rfl ?_)))
          refine TL.run ft_control_ok [0, 1] rfl rfl ?_
          by_cases c11 : x9 = 0
          · replace h := ifT c11 h
            refine TL.nil (X.seq ?_)
            refine T.no rfl (bn_f (decide_eq_true c11)) ?_
            refine T.skip (X.seq (T.seq (T.seq (T.region rfl ?_))))
            refine TL.run ft_control_ok [0, 1] rfl rfl ?_
            refine TL.q rfl .u (Ex.b1 0 rfl Try.isAgg9 rfl rfl) rfl ?_
            obtain ⟨⟨x12, x13⟩, hx14, h⟩ := Option.bind_eq_some_iff.1 h
            try dsimp only at h
            refine TL.ce rfl .u (.fn Try.call145 rfl) (f_control_ReadValue_spec a0.fValue.data _ hx14) (fun _ hs => (RX.reads_triv _ _)) rfl ?_
            refine TL.run ft_control_ok [4, 5, 6, 7, 8] rfl rfl ?_
            refine TL.nil (X.seq (T.seq (T.region rfl ?_)))
            refine TL.run ft_control_ok [0, 1] rfl rfl ?_
            by_cases c15 : x13 = 0
            · replace h := ifT c15 h
              refine TL.nil (X.seq ?_)
              refine T.no rfl (bn_f (decide_eq_true c15)) ?_
              refine T.skip (X.seq (T.seq (T.region rfl ?_)))
              refine TL.run ft_control_ok [0, 1, 2, 3, 4] rfl rfl ?_
              obtain rfl := Option.some.inj h
              exact TL.nil (X.seq (T.ret (X.done3 [1] Try.results104 (RV.tm rfl) (RV.tm rfl) (RV.tm rfl) ⟨rfl, rfl, rfl⟩ (by rfl) (.inl rfl))))
            · replace h := ifF c15 h
              refine TL.nil (X.seq ?_)
              refine T.yes rfl (bn_t (decide_eq_false c15)) ?_
              refine T.seq (T.region rfl ?_)
              refine TL.run ft_control_ok [0, 1, 2, 3] rfl rfl ?_
              obtain rfl := Option.some.inj h
              exact TL.nil (X.seq (T.ret (X.rs (X.done3 [1] Try.results104 (RV.tm rfl) (RV.tm rfl) (RV.tm rfl) ⟨rfl, rfl, rfl⟩ (by rfl) (.inl rfl)))))
          · replace h := ifF c11 h
            refine TL.nil (X.seq ?_)
            refine T.yes rfl (bn_t (decide_eq_false c11)) ?_
            refine T.seq (T.region rfl ?_)
            refine TL.run ft_control_ok [0, 1, 2, 3] rfl rfl ?_
            obtain rfl := Option.some.inj h
            exact TL.nil (X.seq (T.ret (X.rs (X.done3 [1] Try.results104 (RV.tm rfl) (RV.tm rfl) (RV.tm rfl) ⟨rfl, rfl, rfl⟩ (by rfl) (.inl rfl)))))
        · replace h := ifF c7 h
          refine TL.nil (X.seq ?_)
          refine T.yes rfl (bn_t (decide_eq_false c7)) ?_
          refine T.seq (T.region rfl ?_)
          refine TL.run ft_control_ok [0, 1, 2] rfl rfl ?_
          obtain rfl := Option.some.inj h
          exact TL.nil (X.seq (T.ret (X.rs (X.done3 [1] Try.results104 (RV.tm rfl) (RV.tm rfl) (RV.tm rfl) ⟨rfl, rfl, rfl⟩ (by rfl) (.inl rfl)))))
def f_control_Key (a0 : Int) : Option (List UInt8 × Int) := if a0 = 0 then ((gOInt ([], 0) 0 2).bind fun st3 => (gOInt st3 a0 2).bind fun st5 => (gOText st5).bind fun (x7, x8, st9) => some (x7, x8)) else (if a0 = 1 then ((gOInt ([], 0) 0 2).bind fun st13 => (gOInt st13 a0 2).bind fun st15 => (gOText st15).bind fun (x17, x18, st19) => some (x17, x18)) else some ([], 12))
set_option maxRecDepth 100000 in
set_option maxHeartbeats 4000000 in
theorem f_control_Key_spec (a0 : Int) (r : List UInt8 × Int) (h : f_control_Key a0 = some r) : SpecX Try.prog 156 #[.int .i64 a0] .triv (EmpR) (fun v A' N => v = .tuple #[.string (bsOf r.1), .int .i64 r.2] ∧ A' = EmpR ∧ N = []) := by
  refine enterA Try.func156 rfl Try.ntmps156 rfl ?_
  intro F w hX
  unfold f_control_Key at h
  refine T.seq (T.region rfl ?_)
  refine TL.run ft_control_ok [0, 1] rfl rfl ?_
  refine TL.nil (X.seq (T.seq (T.seq (T.region rfl ?_))))
  by_cases c1 : a0 = 0
  · replace h := ifT c1 h
    refine TL.run ft_control_ok [0, 1, 2] rfl rfl ?_
    refine TL.no rfl (.gn rfl rfl (bn_f (decide_eq_true c1))) rfl ?_
    refine TL.no rfl (.gn rfl rfl (bn_f (decide_eq_true c1))) rfl ?_
    refine TL.q rfl .u (Ex.pn rfl (bn_f (decide_eq_true c1)) rfl) rfl ?_
    refine TL.nil (X.seq ?_)
    refine T.no rfl rfl ?_
    refine T.skip (X.seq (T.seq (T.region rfl ?_)))
    refine TL.newout rfl .u Try.zeroValue40 rfl (fun b2 => ?_)
    obtain ⟨st3, hx4, h⟩ := Option.bind_eq_some_iff.1 h
    refine TL.nil (X.seq (T.seq (T.region rfl ?_)))
    refine TL.c0 rfl .u (.fn Try.call82 rfl) (gOInt_spec b2 ([], 0) 0 2 _ hx4) (fun _ hs => (Src.triv _)) rfl ?_
    refine TL.nil (X.seq (T.seq (T.region rfl ?_)))
    obtain ⟨st5, hx6, h⟩ := Option.bind_eq_some_iff.1 h
    refine TL.run ft_control_ok [0] rfl rfl ?_
    refine TL.c0 rfl .u (.fn Try.call82 rfl) (gOInt_spec b2 st3 a0 2 _ hx6) (fun _ hs => (Src.triv _)) rfl ?_
    obtain ⟨⟨x7, x8, st9⟩, hx10, h⟩ := Option.bind_eq_some_iff.1 h
    try dsimp only at h
    refine TL.nil (X.seq (T.seq (T.region rfl ?_)))
    refine TL.c0 rfl .u (.fn Try.call23 rfl) (gOText_spec b2 st5 _ hx10) (fun _ hs => (Src.triv _)) rfl ?_
    refine TL.run ft_control_ok [1, 2, 3, 4] rfl rfl ?_
    obtain rfl := Option.some.inj h
    exact TL.nil (X.seq (T.ret (X.done2 [1] Try.results156 (RV.tm rfl) (RV.tm rfl) ⟨rfl, rfl, rfl⟩ (by rfl) (.inl rfl))))
  · replace h := ifF c1 h
    refine TL.run ft_control_ok [0, 1, 2] rfl rfl ?_
    refine TL.q rfl (.g rfl rfl (bn_t (decide_eq_false c1))) (Ex.ft ft_control_ok rfl) rfl ?_
    refine TL.q rfl (.g rfl rfl (bn_t (decide_eq_false c1))) (Ex.ft ft_control_ok rfl) rfl ?_
    refine TL.q rfl .u (Ex.py rfl (bn_t (decide_eq_false c1)) rfl) rfl ?_
    by_cases c11 : a0 = 1
    · replace h := ifT c11 h
      refine TL.nil (X.seq ?_)
      refine T.no rfl (bn_f (decide_eq_true c11)) ?_
      refine T.skip (X.seq (T.seq (T.region rfl ?_)))
      refine TL.newout rfl .u Try.zeroValue40 rfl (fun b12 => ?_)
      obtain ⟨st13, hx14, h⟩ := Option.bind_eq_some_iff.1 h
      refine TL.nil (X.seq (T.seq (T.region rfl ?_)))
      refine TL.c0 rfl .u (.fn Try.call82 rfl) (gOInt_spec b12 ([], 0) 0 2 _ hx14) (fun _ hs => (Src.triv _)) rfl ?_
      refine TL.nil (X.seq (T.seq (T.region rfl ?_)))
      obtain ⟨st15, hx16, h⟩ := Option.bind_eq_some_iff.1 h
      refine TL.run ft_control_ok [0] rfl rfl ?_
      refine TL.c0 rfl .u (.fn Try.call82 rfl) (gOInt_spec b12 st13 a0 2 _ hx16) (fun _ hs => (Src.triv _)) rfl ?_
      obtain ⟨⟨x17, x18, st19⟩, hx20, h⟩ := Option.bind_eq_some_iff.1 h
      try dsimp only at h
      refine TL.nil (X.seq (T.seq (T.region rfl ?_)))
      refine TL.c0 rfl .u (.fn Try.call23 rfl) (gOText_spec b12 st15 _ hx20) (fun _ hs => (Src.triv _)) rfl ?_
      refine TL.run ft_control_ok [1, 2, 3, 4] rfl rfl ?_
      obtain rfl := Option.some.inj h
      exact TL.nil (X.seq (T.ret (X.done2 [1] Try.results156 (RV.tm rfl) (RV.tm rfl) ⟨rfl, rfl, rfl⟩ (by rfl) (.inl rfl))))
    · replace h := ifF c11 h
      refine TL.nil (X.seq ?_)
      refine T.yes rfl (bn_t (decide_eq_false c11)) ?_
      refine T.seq (T.region rfl ?_)
      refine TL.run ft_control_ok [0, 1] rfl rfl ?_
      obtain rfl := Option.some.inj h
      exact TL.nil (X.seq (T.ret (X.rs (X.done2 [0] Try.results156 (RV.tm rfl) (RV.tm rfl) ⟨rfl, rfl, rfl⟩ (by rfl) (.inl rfl)))))
def f_control_Value (a0 : Int) : Option (List UInt8 × Int) := if a0 < 0 then some ([], 11) else ((gOInt ([], 0) 0 2).bind fun st3 => (gOInt st3 a0 4).bind fun st5 => (gOText st5).bind fun (x7, x8, st9) => some (x7, x8))
set_option maxRecDepth 100000 in
set_option maxHeartbeats 4000000 in
theorem f_control_Value_spec (a0 : Int) (r : List UInt8 × Int) (h : f_control_Value a0 = some r) : SpecX Try.prog 157 #[.int .i64 a0] .triv (EmpR) (fun v A' N => v = .tuple #[.string (bsOf r.1), .int .i64 r.2] ∧ A' = EmpR ∧ N = []) := by
  refine enterA Try.func157 rfl Try.ntmps157 rfl ?_
  intro F w hX
  unfold f_control_Value at h
  refine T.seq (T.region rfl ?_)
  refine TL.run ft_control_ok [0, 1] rfl rfl ?_
  refine TL.nil (X.seq (T.seq (T.seq (T.region rfl ?_))))
  refine TL.run ft_control_ok [0, 1] rfl rfl ?_
  by_cases c1 : a0 < 0
  · replace h := ifT c1 h
    refine TL.nil (X.seq ?_)
    refine T.yes rfl (decide_eq_true c1) ?_
    refine T.seq (T.region rfl ?_)
    refine TL.run ft_control_ok [0, 1] rfl rfl ?_
    obtain rfl := Option.some.inj h
    exact TL.nil (X.seq (T.ret (X.rs (X.done2 [0] Try.results157 (RV.tm rfl) (RV.tm rfl) ⟨rfl, rfl, rfl⟩ (by rfl) (.inl rfl)))))
  · replace h := ifF c1 h
    refine TL.nil (X.seq ?_)
    refine T.no rfl (decide_eq_false c1) ?_
    refine T.skip (X.seq (T.seq (T.region rfl ?_)))
    refine TL.newout rfl .u Try.zeroValue40 rfl (fun b2 => ?_)
    obtain ⟨st3, hx4, h⟩ := Option.bind_eq_some_iff.1 h
    refine TL.nil (X.seq (T.seq (T.region rfl ?_)))
    refine TL.c0 rfl .u (.fn Try.call82 rfl) (gOInt_spec b2 ([], 0) 0 2 _ hx4) (fun _ hs => (Src.triv _)) rfl ?_
    refine TL.nil (X.seq (T.seq (T.region rfl ?_)))
    obtain ⟨st5, hx6, h⟩ := Option.bind_eq_some_iff.1 h
    refine TL.run ft_control_ok [0] rfl rfl ?_
    refine TL.c0 rfl .u (.fn Try.call82 rfl) (gOInt_spec b2 st3 a0 4 _ hx6) (fun _ hs => (Src.triv _)) rfl ?_
    obtain ⟨⟨x7, x8, st9⟩, hx10, h⟩ := Option.bind_eq_some_iff.1 h
    try dsimp only at h
    refine TL.nil (X.seq (T.seq (T.region rfl ?_)))
    refine TL.c0 rfl .u (.fn Try.call23 rfl) (gOText_spec b2 st5 _ hx10) (fun _ hs => (Src.triv _)) rfl ?_
    refine TL.run ft_control_ok [1, 2, 3, 4] rfl rfl ?_
    obtain rfl := Option.some.inj h
    exact TL.nil (X.seq (T.ret (X.done2 [1] Try.results157 (RV.tm rfl) (RV.tm rfl) ⟨rfl, rfl, rfl⟩ (by rfl) (.inl rfl))))
def f_control_Record (a0 : Int) (a1 : Int) : Option (Rec × Int) := (f_control_Key a0).bind fun (x2, x3) => if x3 = 0 then ((f_control_Value a1).bind fun (x6, x7) => if x7 = 0 then ((gOf x2).bind fun x10 => (gOf x6).bind fun x12 => some ((⟨0, 0, x10, x12, []⟩ : Rec), 0)) else (some ((⟨0, 0, (⟨false, []⟩ : Bl), (⟨false, []⟩ : Bl), []⟩ : Rec), x7))) else (some ((⟨0, 0, (⟨false, []⟩ : Bl), (⟨false, []⟩ : Bl), []⟩ : Rec), x3))
set_option maxRecDepth 100000 in
set_option maxHeartbeats 4000000 in
theorem f_control_Record_spec (a0 : Int) (a1 : Int) (r : Rec × Int) (h : f_control_Record a0 a1 = some r) : SpecX Try.prog 139 #[.int .i64 a0, .int .i64 a1] .triv (EmpR) (fun v A' N => ∃ (A14 : Option Addr) (c15 : Nat), v = .tuple #[.agg #[.int .i64 r.1.fTime, .int .i64 r.1.fOffset, .bool r.1.fKey.null, .string (bsOf r.1.fKey.data), .bool r.1.fValue.null, .string (bsOf r.1.fValue.data), .slice A14 r.1.fHeaders.length c15], .int .i64 r.2] ∧ A' = EmpR ∧ N = [RdR (sliceRd 3 Hd_rd) [.slice A14 r.1.fHeaders.length c15] r.1.fHeaders]) := by
  refine enterA Try.func139 rfl Try.ntmps139 rfl ?_
  intro F w hX
  unfold f_control_Record at h
  refine T.seq (T.region rfl ?_)
  refine TL.alloc rfl .u Try.zeroValue96 rfl (fun b1 => ?_)
  refine TL.run ft_control_ok [1] rfl rfl ?_
  refine TL.nil (X.seq (T.seq (T.region rfl ?_)))
  obtain ⟨⟨x2, x3⟩, hx4, h⟩ := Option.bind_eq_some_iff.1 h
  try dsimp only at h
  refine TL.run ft_control_ok [0] rfl rfl ?_
  refine TL.ce rfl .u (.fn Try.call156 rfl) (f_control_Key_spec a0 _ hx4) (fun _ hs => (RX.reads_triv _ _)) rfl ?_
  refine TL.run ft_control_ok [2, 3, 4, 5, 6] rfl rfl ?_
  refine TL.nil (X.seq (T.seq (T.seq (T.region rfl ?_))))
  refine TL.run ft_control_ok [0, 1] rfl rfl ?_
  by_cases c5 : x3 = 0
  · replace h := ifT c5 h
    refine TL.nil (X.seq ?_)
    refine T.no rfl (bn_f (decide_eq_true c5)) ?_
    refine T.skip (X.seq (T.seq (T.region rfl ?_)))
    obtain ⟨⟨x6, x7⟩, hx8, h⟩ := Option.bind_eq_some_iff.1 h
    try dsimp only at h
    refine TL.run ft_control_ok [0] rfl rfl ?_
    refine TL.ce rfl .u (.fn Try.call157 rfl) (f_control_Value_spec a1 _ hx8) (fun _ hs => (RX.reads_triv _ _)) rfl ?_
    refine TL.run ft_control_ok [2, 3, 4, 5, 6] rfl rfl ?_
    refine TL.nil (X.seq (T.seq (T.seq (T.region rfl ?_))))
    refine TL.run ft_control_ok [0, 1] rfl rfl ?_
    by_cases c9 : x7 = 0
    · replace h := ifT c9 h
      refine TL.nil (X.seq ?_)
      refine T.no rfl (bn_f (decide_eq_true c9)) ?_
      refine T.skip (X.seq (T.seq (T.region rfl ?_)))
      obtain ⟨x10, hx11, h⟩ := Option.bind_eq_some_iff.1 h
      refine TL.run ft_control_ok [0] rfl rfl ?_
      refine TL.ce rfl .u (.fn Try.call130 rfl) (gOf_spec x2 _ hx11) (fun _ hs => (RX.reads_triv _ _)) rfl ?_
      obtain ⟨x12, hx13, h⟩ := Option.bind_eq_some_iff.1 h
      refine TL.run ft_control_ok [2] rfl rfl ?_
      refine TL.ce rfl .u (.fn Try.call130 rfl) (gOf_spec x6 _ hx13) (fun _ hs => (RX.reads_triv _ _)) rfl ?_
      refine TL.q rfl .u (Ex.bld (cells := #[.int .i64 0, .int .i64 0, .bool x10.null, .string (bsOf x10.data), .bool x12.null, .string (bsOf x12.data), .slice none 0 0]) bok_control_96 rfl (by rfl)) rfl ?_
      refine TL.st0 (cs' := #[.int .i64 0, .int .i64 0, .bool x10.null, .string (bsOf x10.data), .bool x12.null, .string (bsOf x12.data), .slice none 0 0]) rfl .u rfl rfl Try.sizeOf96 rfl rfl rfl rfl ?_
      refine TL.run ft_control_ok [6] rfl rfl ?_
      obtain rfl := Option.some.inj h
      refine TL.nil (X.seq (T.ret ?_))
      refine X.nilrd 3 Hd_rd ?_
      exact X.done2 [2, 0] Try.results139 (RV.cS (us := #[.int .i64 0, .int .i64 0, .bool x10.null, .string (bsOf x10.data), .bool x12.null, .string (bsOf x12.data), .slice none 0 0]) 1 rfl Try.isAgg96 Try.sizeOf96 rfl rfl) (RV.tm rfl) ⟨_, _, rfl, rfl, rfl⟩ (by rfl) (.inl rfl)
    · replace h := ifF c9 h
      refine TL.nil (X.seq ?_)
      refine T.yes rfl (bn_t (decide_eq_false c9)) ?_
      refine T.seq (T.region rfl ?_)
      refine TL.q rfl .u (Ex.bld (cells := #[.int .i64 0, .int .i64 0, .bool false, .string ⟨#[]⟩, .bool false, .string ⟨#[]⟩, .slice none 0 0]) bok_control_96 rfl (by rfl)) rfl ?_
      refine TL.run ft_control_ok [1] rfl rfl ?_
      refine TL.st0 (cs' := #[.int .i64 0, .int .i64 0, .bool false, .string ⟨#[]⟩, .bool false, .string ⟨#[]⟩, .slice none 0 0]) rfl .u rfl rfl Try.sizeOf96 rfl rfl rfl rfl ?_
      refine TL.run ft_control_ok [3] rfl rfl ?_
      obtain rfl := Option.some.inj h
      refine TL.nil (X.seq (T.ret (X.rs ?_)))
      refine X.nilrd 3 Hd_rd ?_
      exact X.done2 [2, 0] Try.results139 (RV.cS (us := #[.int .i64 0, .int .i64 0, .bool false, .string ⟨#[]⟩, .bool false, .string ⟨#[]⟩, .slice none 0 0]) 1 rfl Try.isAgg96 Try.sizeOf96 rfl rfl) (RV.tm rfl) ⟨_, _, rfl, rfl, rfl⟩ (by rfl) (.inl rfl)
  · replace h := ifF c5 h
    refine TL.nil (X.seq ?_)
    refine T.yes rfl (bn_t (decide_eq_false c5)) ?_
    refine T.seq (T.region rfl ?_)
    refine TL.q rfl .u (Ex.bld (cells := #[.int .i64 0, .int .i64 0, .bool false, .string ⟨#[]⟩, .bool false, .string ⟨#[]⟩, .slice none 0 0]) bok_control_96 rfl (by rfl)) rfl ?_
    refine TL.run ft_control_ok [1] rfl rfl ?_
    refine TL.st0 (cs' := #[.int .i64 0, .int .i64 0, .bool false, .string ⟨#[]⟩, .bool false, .string ⟨#[]⟩, .slice none 0 0]) rfl .u rfl rfl Try.sizeOf96 rfl rfl rfl rfl ?_
    refine TL.run ft_control_ok [3] rfl rfl ?_
    obtain rfl := Option.some.inj h
    refine TL.nil (X.seq (T.ret (X.rs ?_)))
    refine X.nilrd 3 Hd_rd ?_
    exact X.done2 [2, 0] Try.results139 (RV.cS (us := #[.int .i64 0, .int .i64 0, .bool false, .string ⟨#[]⟩, .bool false, .string ⟨#[]⟩, .slice none 0 0]) 1 rfl Try.isAgg96 Try.sizeOf96 rfl rfl) (RV.tm rfl) ⟨_, _, rfl, rfl, rfl⟩ (by rfl) (.inl rfl)
end Go.Proofs.Ytdlpmcbglmgpiaa.Sl
