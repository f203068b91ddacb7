/- WholeEnds: for every input the law returns true, and its arguments read behind the call as they did before. -/
import Derived.OpenShut
import Derived.Test.YtagbblaegdedpaaRows
import Derived.WalkKit
import Derived.ProofKit
import Derived.ShutString
import Derived.ChangeOld
import Derived.Below
import Derived.SizedLaws
import Derived.Test.YtagbblaegdedpaaK1
namespace Go.Proofs.Ytagbblaegdedpaa.Sl
open Go.RowKit
set_option linter.unusedVariables false
set_option linter.unusedSimpArgs false
set_option maxRecDepth 100000
def ft_control : FTab := [(26, 0, 0), (26, 1, 1), (29, 1, 1), (29, 2, 2), (29, 3, 4), (29, 4, 6)]
theorem ft_control_ok : (ft_control).OK Try.prog := ⟨FOK.mk Try.runUnderlying26 rfl Try.sizeOf4 rfl, FOK.mk Try.runUnderlying26 rfl Try.sizeOf9 rfl, FOK.mk Try.runUnderlying29 rfl Try.sizeOf3 rfl, FOK.mk Try.runUnderlying29 rfl Try.sizeOf26 rfl, FOK.mk Try.runUnderlying29 rfl Try.sizeOf26 rfl, FOK.mk Try.runUnderlying29 rfl Try.sizeOf27 rfl, trivial⟩
theorem bok_control_29 : BOK Try.prog 29 #[.int .i64 0, .int .i64 0, .bool false, .string ⟨#[]⟩, .bool false, .string ⟨#[]⟩, .slice none 0 0] [(0, 1), (1, 1), (2, 2), (4, 2), (6, 1)] := BOK.mk Try.zeroValue29 Try.runUnderlying29 (by intro w; simp)
def f_control_Key (a0 : Int) : Option (List UInt8 × Int) := if a0 = 0 then ((gOInt ([], 0) 0 2).bind fun st3 => (gOInt st3 a0 2).bind fun st5 => (gOText st5).bind fun (x7, x8, st9) => some (x7, x8)) else (if a0 = 1 then ((gOInt ([], 0) 0 2).bind fun st13 => (gOInt st13 a0 2).bind fun st15 => (gOText st15).bind fun (x17, x18, st19) => some (x17, x18)) else some ([], 12))
set_option maxRecDepth 100000 in
set_option maxHeartbeats 4000000 in
theorem f_control_Key_spec (a0 : Int) (r : List UInt8 × Int) (h : f_control_Key a0 = some r) : SpecX Try.prog 128 #[.int .i64 a0] .triv (EmpR) (fun v A' N => v = .tuple #[.string (bsOf r.1), .int .i64 r.2] ∧ A' = EmpR ∧ N = []) := by
  refine enterA Try.func128 rfl Try.ntmps128 rfl ?_
  intro F w hX
  unfold f_control_Key at h
  refine T.seq (T.region rfl ?_)
  refine TL.run ft_control_ok [0, 1] rfl rfl ?_
  refine TL.nil (X.seq (T.seq (T.seq (T.region rfl ?_))))
  by_cases c1 : a0 = 0
  · replace h := ifT c1 h
    refine TL.run ft_control_ok [0, 1, 2] rfl rfl ?_
    refine TL.no rfl (.gn rfl rfl (bn_f (decide_eq_true c1))) rfl ?_
    refine TL.no rfl (.gn rfl rfl (bn_f (decide_eq_true c1))) rfl ?_
    refine TL.q rfl .u (Ex.pn rfl (bn_f (decide_eq_true c1)) rfl) rfl ?_
    refine TL.nil (X.seq ?_)
    refine T.no rfl rfl ?_
    refine T.skip (X.seq (T.seq (T.region rfl ?_)))
    refine TL.newout rfl .u Try.zeroValue50 rfl (fun b2 => ?_)
    obtain ⟨st3, hx4, h⟩ := Option.bind_eq_some_iff.1 h
    refine TL.nil (X.seq (T.seq (T.region rfl ?_)))
    refine TL.c0 rfl .u (.fn Try.call113 rfl) (gOInt_spec b2 ([], 0) 0 2 _ hx4) (fun _ hs => (Src.triv _)) rfl ?_
    refine TL.nil (X.seq (T.seq (T.region rfl ?_)))
    obtain ⟨st5, hx6, h⟩ := Option.bind_eq_some_iff.1 h
    refine TL.run ft_control_ok [0] rfl rfl ?_
    refine TL.c0 rfl .u (.fn Try.call113 rfl) (gOInt_spec b2 st3 a0 2 _ hx6) (fun _ hs => (Src.triv _)) rfl ?_
    obtain ⟨⟨x7, x8, st9⟩, hx10, h⟩ := Option.bind_eq_some_iff.1 h
    try dsimp only at h
    refine TL.nil (X.seq (T.seq (T.region rfl ?_)))
    refine TL.c0 rfl .u (.fn Try.call30 rfl) (gOText_spec b2 st5 _ hx10) (fun _ hs => (Src.triv _)) rfl ?_
    refine TL.run ft_control_ok [1, 2, 3, 4] rfl rfl ?_
    obtain rfl := Option.some.inj h
    exact TL.nil (X.seq (T.ret (X.done2 [1] Try.results128 (RV.tm rfl) (RV.tm rfl) ⟨rfl, rfl, rfl⟩ (by rfl) (.inl rfl))))
  · replace h := ifF c1 h
    refine TL.run ft_control_ok [0, 1, 2] rfl rfl ?_
    refine TL.q rfl (.g rfl rfl (bn_t (decide_eq_false c1))) (Ex.ft ft_control_ok rfl) rfl ?_
    refine TL.q rfl (.g rfl rfl (bn_t (decide_eq_false c1))) (Ex.ft ft_control_ok rfl) rfl ?_
    refine TL.q rfl .u (Ex.py rfl (bn_t (decide_eq_false c1)) rfl) rfl ?_
    by_cases c11 : a0 = 1
    · replace h := ifT c11 h
      refine TL.nil (X.seq ?_)
      refine T.no rfl (bn_f (decide_eq_true c11)) ?_
      refine T.skip (X.seq (T.seq (T.region rfl ?_)))
      refine TL.newout rfl .u Try.zeroValue50 rfl (fun b12 => ?_)
      obtain ⟨st13, hx14, h⟩ := Option.bind_eq_some_iff.1 h
      refine TL.nil (X.seq (T.seq (T.region rfl ?_)))
      refine TL.c0 rfl .u (.fn Try.call113 rfl) (gOInt_spec b12 ([], 0) 0 2 _ hx14) (fun _ hs => (Src.triv _)) rfl ?_
      refine TL.nil (X.seq (T.seq (T.region rfl ?_)))
      obtain ⟨st15, hx16, h⟩ := Option.bind_eq_some_iff.1 h
      refine TL.run ft_control_ok [0] rfl rfl ?_
      refine TL.c0 rfl .u (.fn Try.call113 rfl) (gOInt_spec b12 st13 a0 2 _ hx16) (fun _ hs => (Src.triv _)) rfl ?_
      obtain ⟨⟨x17, x18, st19⟩, hx20, h⟩ := Option.bind_eq_some_iff.1 h
      try dsimp only at h
      refine TL.nil (X.seq (T.seq (T.region rfl ?_)))
      refine TL.c0 rfl .u (.fn Try.call30 rfl) (gOText_spec b12 st15 _ hx20) (fun _ hs => (Src.triv _)) rfl ?_
      refine TL.run ft_control_ok [1, 2, 3, 4] rfl rfl ?_
      obtain rfl := Option.some.inj h
      exact TL.nil (X.seq (T.ret (X.done2 [1] Try.results128 (RV.tm rfl) (RV.tm rfl) ⟨rfl, rfl, rfl⟩ (by rfl) (.inl rfl))))
    · replace h := ifF c11 h
      refine TL.nil (X.seq ?_)
      refine T.yes rfl (bn_t (decide_eq_false c11)) ?_
      refine T.seq (T.region rfl ?_)
      refine TL.run ft_control_ok [0, 1] rfl rfl ?_
      obtain rfl := Option.some.inj h
      exact TL.nil (X.seq (T.ret (X.rs (X.done2 [0] Try.results128 (RV.tm rfl) (RV.tm rfl) ⟨rfl, rfl, rfl⟩ (by rfl) (.inl rfl)))))
def f_control_Value (a0 : Int) : Option (List UInt8 × Int) := if a0 < 0 then some ([], 11) else ((gOInt ([], 0) 0 2).bind fun st3 => (gOInt st3 a0 4).bind fun st5 => (gOText st5).bind fun (x7, x8, st9) => some (x7, x8))
set_option maxRecDepth 100000 in
set_option maxHeartbeats 4000000 in
theorem f_control_Value_spec (a0 : Int) (r : List UInt8 × Int) (h : f_control_Value a0 = some r) : SpecX Try.prog 129 #[.int .i64 a0] .triv (EmpR) (fun v A' N => v = .tuple #[.string (bsOf r.1), .int .i64 r.2] ∧ A' = EmpR ∧ N = []) := by
  refine enterA Try.func129 rfl Try.ntmps129 rfl ?_
  intro F w hX
  unfold f_control_Value at h
  refine T.seq (T.region rfl ?_)
  refine TL.run ft_control_ok [0, 1] rfl rfl ?_
  refine TL.nil (X.seq (T.seq (T.seq (T.region rfl ?_))))
  refine TL.run ft_control_ok [0, 1] rfl rfl ?_
  by_cases c1 : a0 < 0
  · replace h := ifT c1 h
    refine TL.nil (X.seq ?_)
    refine T.yes rfl (decide_eq_true c1) ?_
    refine T.seq (T.region rfl ?_)
    refine TL.run ft_control_ok [0, 1] rfl rfl ?_
    obtain rfl := Option.some.inj h
    exact TL.nil (X.seq (T.ret (X.rs (X.done2 [0] Try.results129 (RV.tm rfl) (RV.tm rfl) ⟨rfl, rfl, rfl⟩ (by rfl) (.inl rfl)))))
  · replace h := ifF c1 h
    refine TL.nil (X.seq ?_)
    refine T.no rfl (decide_eq_false c1) ?_
    refine T.skip (X.seq (T.seq (T.region rfl ?_)))
    refine TL.newout rfl .u Try.zeroValue50 rfl (fun b2 => ?_)
    obtain ⟨st3, hx4, h⟩ := Option.bind_eq_some_iff.1 h
    refine TL.nil (X.seq (T.seq (T.region rfl ?_)))
    refine TL.c0 rfl .u (.fn Try.call113 rfl) (gOInt_spec b2 ([], 0) 0 2 _ hx4) (fun _ hs => (Src.triv _)) rfl ?_
    refine TL.nil (X.seq (T.seq (T.region rfl ?_)))
    obtain ⟨st5, hx6, h⟩ := Option.bind_eq_some_iff.1 h
    refine TL.run ft_control_ok [0] rfl rfl ?_
    refine TL.c0 rfl .u (.fn Try.call113 rfl) (gOInt_spec b2 st3 a0 4 _ hx6) (fun _ hs => (Src.triv _)) rfl ?_
    obtain ⟨⟨x7, x8, st9⟩, hx10, h⟩ := Option.bind_eq_some_iff.1 h
    try dsimp only at h
    refine TL.nil (X.seq (T.seq (T.region rfl ?_)))
    refine TL.c0 rfl .u (.fn Try.call30 rfl) (gOText_spec b2 st5 _ hx10) (fun _ hs => (Src.triv _)) rfl ?_
    refine TL.run ft_control_ok [1, 2, 3, 4] rfl rfl ?_
    obtain rfl := Option.some.inj h
    exact TL.nil (X.seq (T.ret (X.done2 [1] Try.results129 (RV.tm rfl) (RV.tm rfl) ⟨rfl, rfl, rfl⟩ (by rfl) (.inl rfl))))
def f_control_Record (a0 : Int) (a1 : Int) : Option (Rec × Int) := (f_control_Key a0).bind fun (x2, x3) => if x3 = 0 then ((f_control_Value a1).bind fun (x6, x7) => if x7 = 0 then ((gOf x2).bind fun x10 => (gOf x6).bind fun x12 => some ((⟨0, 0, x10, x12, []⟩ : Rec), 0)) else (some ((⟨0, 0, (⟨false, []⟩ : Bl), (⟨false, []⟩ : Bl), []⟩ : Rec), x7))) else (some ((⟨0, 0, (⟨false, []⟩ : Bl), (⟨false, []⟩ : Bl), []⟩ : Rec), x3))
set_option maxRecDepth 100000 in
set_option maxHeartbeats 4000000 in
theorem f_control_Record_spec (a0 : Int) (a1 : Int) (r : Rec × Int) (h : f_control_Record a0 a1 = some r) : SpecX Try.prog 53 #[.int .i64 a0, .int .i64 a1] .triv (EmpR) (fun v A' N => ∃ (A14 : Option Addr) (c15 : Nat), v = .tuple #[.agg #[.int .i64 r.1.fTime, .int .i64 r.1.fOffset, .bool r.1.fKey.null, .string (bsOf r.1.fKey.data), .bool r.1.fValue.null, .string (bsOf r.1.fValue.data), .slice A14 r.1.fHeaders.length c15], .int .i64 r.2] ∧ A' = EmpR ∧ N = [RdR (sliceRd 3 Hd_rd) [.slice A14 r.1.fHeaders.length c15] r.1.fHeaders]) := by
  refine enterA Try.func53 rfl Try.ntmps53 rfl ?_
  intro F w hX
  unfold f_control_Record at h
  refine T.seq (T.region rfl ?_)
  refine TL.alloc rfl .u Try.zeroValue29 rfl (fun b1 => ?_)
  refine TL.run ft_control_ok [1] rfl rfl ?_
  refine TL.nil (X.seq (T.seq (T.region rfl ?_)))
  obtain ⟨⟨x2, x3⟩, hx4, h⟩ := Option.bind_eq_some_iff.1 h
  try dsimp only at h
  refine TL.run ft_control_ok [0] rfl rfl ?_
  refine TL.ce rfl .u (.fn Try.call128 rfl) (f_control_Key_spec a0 _ hx4) (fun _ hs => (RX.reads_triv _ _)) rfl ?_
  refine TL.run ft_control_ok [2, 3, 4, 5, 6] rfl rfl ?_
  refine TL.nil (X.seq (T.seq (T.seq (T.region rfl ?_))))
  refine TL.run ft_control_ok [0, 1] rfl rfl ?_
  by_cases c5 : x3 = 0
  · replace h := ifT c5 h
    refine TL.nil (X.seq ?_)
    refine T.no rfl (bn_f (decide_eq_true c5)) ?_
    refine T.skip (X.seq (T.seq (T.region rfl ?_)))
    obtain ⟨⟨x6, x7⟩, hx8, h⟩ := Option.bind_eq_some_iff.1 h
    try dsimp only at h
    refine TL.run ft_control_ok [0] rfl rfl ?_
    refine TL.ce rfl .u (.fn Try.call129 rfl) (f_control_Value_spec a1 _ hx8) (fun _ hs => (RX.reads_triv _ _)) rfl ?_
    refine TL.run ft_control_ok [2, 3, 4, 5, 6] rfl rfl ?_
    refine TL.nil (X.seq (T.seq (T.seq (T.region rfl ?_))))
    refine TL.run ft_control_ok [0, 1] rfl rfl ?_
    by_cases c9 : x7 = 0
    · replace h := ifT c9 h
      refine TL.nil (X.seq ?_)
      refine T.no rfl (bn_f (decide_eq_true c9)) ?_
      refine T.skip (X.seq (T.seq (T.region rfl ?_)))
      obtain ⟨x10, hx11, h⟩ := Option.bind_eq_some_iff.1 h
      refine TL.run ft_control_ok [0] rfl rfl ?_
      refine TL.ce rfl .u (.fn Try.call130 rfl) (gOf_spec x2 _ hx11) (fun _ hs => (RX.reads_triv _ _)) rfl ?_
      obtain ⟨x12, hx13, h⟩ := Option.bind_eq_some_iff.1 h
      refine TL.run ft_control_ok [2] rfl rfl ?_
      refine TL.ce rfl .u (.fn Try.call130 rfl) (gOf_spec x6 _ hx13) (fun _ hs => (RX.reads_triv _ _)) rfl ?_
      refine TL.q rfl .u (Ex.bld (cells := #[.int .i64 0, .int .i64 0, .bool x10.null, .string (bsOf x10.data), .bool x12.null, .string (bsOf x12.data), .slice none 0 0]) bok_control_29 rfl (by kernel_rfl)) rfl ?_
      refine TL.st0 (cs' := #[.int .i64 0, .int .i64 0, .bool x10.null, .string (bsOf x10.data), .bool x12.null, .string (bsOf x12.data), .slice none 0 0]) rfl .u rfl rfl Try.sizeOf29 rfl rfl rfl rfl ?_
      refine TL.run ft_control_ok [6] rfl rfl ?_
      obtain rfl := Option.some.inj h
      refine TL.nil (X.seq (T.ret ?_))
      refine X.nilrd 3 Hd_rd ?_
      exact X.done2 [2, 0] Try.results53 (RV.cS (us := #[.int .i64 0, .int .i64 0, .bool x10.null, .string (bsOf x10.data), .bool x12.null, .string (bsOf x12.data), .slice none 0 0]) 1 rfl Try.isAgg29 Try.sizeOf29 rfl rfl) (RV.tm rfl) ⟨_, _, rfl, rfl, rfl⟩ (by rfl) (.inl rfl)
    · replace h := ifF c9 h
      refine TL.nil (X.seq ?_)
      refine T.yes rfl (bn_t (decide_eq_false c9)) ?_
      refine T.seq (T.region rfl ?_)
      refine TL.q rfl .u (Ex.bld (cells := #[.int .i64 0, .int .i64 0, .bool false, .string ⟨#[]⟩, .bool false, .string ⟨#[]⟩, .slice none 0 0]) bok_control_29 rfl (by kernel_rfl)) rfl ?_
      refine TL.run ft_control_ok [1] rfl rfl ?_
      refine TL.st0 (cs' := #[.int .i64 0, .int .i64 0, .bool false, .string ⟨#[]⟩, .bool false, .string ⟨#[]⟩, .slice none 0 0]) rfl .u rfl rfl Try.sizeOf29 rfl rfl rfl rfl ?_
      refine TL.run ft_control_ok [3] rfl rfl ?_
      obtain rfl := Option.some.inj h
      refine TL.nil (X.seq (T.ret (X.rs ?_)))
      refine X.nilrd 3 Hd_rd ?_
      exact X.done2 [2, 0] Try.results53 (RV.cS (us := #[.int .i64 0, .int .i64 0, .bool false, .string ⟨#[]⟩, .bool false, .string ⟨#[]⟩, .slice none 0 0]) 1 rfl Try.isAgg29 Try.sizeOf29 rfl rfl) (RV.tm rfl) ⟨_, _, rfl, rfl, rfl⟩ (by rfl) (.inl rfl)
  · replace h := ifF c5 h
    refine TL.nil (X.seq ?_)
    refine T.yes rfl (bn_t (decide_eq_false c5)) ?_
    refine T.seq (T.region rfl ?_)
    refine TL.q rfl .u (Ex.bld (cells := #[.int .i64 0, .int .i64 0, .bool false, .string ⟨#[]⟩, .bool false, .string ⟨#[]⟩, .slice none 0 0]) bok_control_29 rfl (by kernel_rfl)) rfl ?_
    refine TL.run ft_control_ok [1] rfl rfl ?_
    refine TL.st0 (cs' := #[.int .i64 0, .int .i64 0, .bool false, .string ⟨#[]⟩, .bool false, .string ⟨#[]⟩, .slice none 0 0]) rfl .u rfl rfl Try.sizeOf29 rfl rfl rfl rfl ?_
    refine TL.run ft_control_ok [3] rfl rfl ?_
    obtain rfl := Option.some.inj h
    refine TL.nil (X.seq (T.ret (X.rs ?_)))
    refine X.nilrd 3 Hd_rd ?_
    exact X.done2 [2, 0] Try.results53 (RV.cS (us := #[.int .i64 0, .int .i64 0, .bool false, .string ⟨#[]⟩, .bool false, .string ⟨#[]⟩, .slice none 0 0]) 1 rfl Try.isAgg29 Try.sizeOf29 rfl rfl) (RV.tm rfl) ⟨_, _, rfl, rfl, rfl⟩ (by rfl) (.inl rfl)
def f_control_version (st : I)  : Option (I) := (gInt st 2).bind fun (x1, st2) => if x1 = 0 then some st2 else ((gIFail st2 7).bind fun st5 => some st5)
set_option maxRecDepth 100000 in
set_option maxHeartbeats 4000000 in
theorem f_control_version_spec (g : Nat) (st : I)  (r : I) (h : f_control_version st  = some r) : SpecX Try.prog 185 #[.pointer (some ⟨g, 0, none⟩)] .triv (InR g st) (fun v A' N => v = .tuple #[] ∧ A' = InR g r ∧ N = []) := by
  refine enterA Try.func185 rfl Try.ntmps185 rfl ?_
  intro F w hX
  unfold f_control_version at h
  refine T.seq (T.region rfl ?_)
  obtain ⟨⟨x1, st2⟩, hx3, h⟩ := Option.bind_eq_some_iff.1 h
  try dsimp only at h
  refine TL.run ft_control_ok [0] rfl rfl ?_
  refine TL.c0 rfl .u (.fn Try.call83 rfl) (gInt_spec g st 2 _ hx3) (fun _ hs => (Src.triv _)) rfl ?_
  refine TL.run ft_control_ok [2] rfl rfl ?_
  by_cases c4 : x1 = 0
  · replace h := ifT c4 h
    refine TL.nil (X.seq ?_)
    refine T.no rfl (bn_f (decide_eq_true c4)) ?_
    obtain rfl := Option.some.inj h
    exact T.skip (X.done0 [0] Try.results185 ⟨rfl, rfl, rfl⟩ (by rfl) (.inr rfl))
  · replace h := ifF c4 h
    refine TL.nil (X.seq ?_)
    refine T.yes rfl (bn_t (decide_eq_false c4)) ?_
    refine T.region rfl ?_
    obtain ⟨st5, hx6, h⟩ := Option.bind_eq_some_iff.1 h
    refine TL.run ft_control_ok [0] rfl rfl ?_
    refine TL.c0 rfl .u (.fn Try.call84 rfl) (gIFail_spec g st2 7 _ hx6) (fun _ hs => (Src.triv _)) rfl ?_
    obtain rfl := Option.some.inj h
    exact TL.nil (X.done0 [0] Try.results185 ⟨rfl, rfl, rfl⟩ (by rfl) (.inr rfl))
def f_control_ReadKey (a0 : List UInt8) : Option (Int × Int) := (gNew a0).bind fun st1 => (f_control_version st1).bind fun st4 => (gInt st4 2).bind fun (x6, st7) => if x6 = 0 then ((gClose st7).bind fun (x10, st11) => if x10 = 0 then some (x6, 0) else some (0, x10)) else (if x6 = 1 then ((gClose st7).bind fun (x15, st16) => if x15 = 0 then some (x6, 0) else some (0, x15)) else ((gIFail st7 12).bind fun st19 => (gClose st19).bind fun (x21, st22) => if x21 = 0 then some (x6, 0) else some (0, x21)))
set_option maxRecDepth 100000 in
set_option maxHeartbeats 4000000 in
theorem f_control_ReadKey_spec (a0 : List UInt8) (r : Int × Int) (h : f_control_ReadKey a0 = some r) : SpecX Try.prog 131 #[.string (bsOf a0)] .triv (EmpR) (fun v A' N => v = .tuple #[.int .i64 r.1, .int .i64 r.2] ∧ A' = EmpR ∧ N = []) := by
  refine enterA Try.func131 rfl Try.ntmps131 rfl ?_
  intro F w hX
  unfold f_control_ReadKey at h
  refine T.seq (T.region rfl ?_)
  refine TL.run ft_control_ok [0, 1] rfl rfl ?_
  refine TL.nil (X.seq (T.seq (T.region rfl ?_)))
  obtain ⟨st1, hx2, h⟩ := Option.bind_eq_some_iff.1 h
  refine TL.run ft_control_ok [0] rfl rfl ?_
  refine TL.cge rfl .u (.fn Try.call16 rfl) (gNew_spec a0 _ hx2) (fun _ hs => (RX.reads_triv _ _)) rfl ?_
  rintro _ _ _ ⟨b3, rfl, rfl, rfl⟩
  refine TL.sel [0, 0] rfl ?_
  refine TL.run ft_control_ok [2] rfl rfl ?_
  refine TL.nil (X.seq (T.seq (T.region rfl ?_)))
  obtain ⟨st4, hx5, h⟩ := Option.bind_eq_some_iff.1 h
  refine TL.run ft_control_ok [0] rfl rfl ?_
  refine TL.c0 rfl .u (.fn Try.call185 rfl) (f_control_version_spec b3 st1 _ hx5) (fun _ hs => (Src.triv _)) rfl ?_
  refine TL.nil (X.seq (T.seq (T.region rfl ?_)))
  obtain ⟨⟨x6, st7⟩, hx8, h⟩ := Option.bind_eq_some_iff.1 h
  try dsimp only at h
  refine TL.run ft_control_ok [0] rfl rfl ?_
  refine TL.c0 rfl .u (.fn Try.call83 rfl) (gInt_spec b3 st4 2 _ hx8) (fun _ hs => (Src.triv _)) rfl ?_
  refine TL.run ft_control_ok [2] rfl rfl ?_
  refine TL.nil (X.seq (T.seq (T.seq (T.region rfl ?_))))
  by_cases c9 : x6 = 0
  · replace h := ifT c9 h
    refine TL.run ft_control_ok [0, 1, 2] rfl rfl ?_
    refine TL.no rfl (.gn rfl rfl (bn_f (decide_eq_true c9))) rfl ?_
    refine TL.no rfl (.gn rfl rfl (bn_f (decide_eq_true c9))) rfl ?_
    refine TL.q rfl .u (Ex.pn rfl (bn_f (decide_eq_true c9)) rfl) rfl ?_
    refine TL.nil (X.seq ?_)
    refine T.no rfl rfl ?_
    refine T.skip (X.seq (T.seq (T.seq (T.region rfl ?_))))
    obtain ⟨⟨x10, st11⟩, hx12, h⟩ := Option.bind_eq_some_iff.1 h
    try dsimp only at h
    refine TL.run ft_control_ok [0] rfl rfl ?_
    refine TL.c0 rfl .u (.fn Try.call31 rfl) (gClose_spec b3 st7 _ hx12) (fun _ hs => (Src.triv _)) rfl ?_
    refine TL.run ft_control_ok [2] rfl rfl ?_
    refine TL.nil (X.seq (T.seq (T.region rfl ?_)))
    refine TL.run ft_control_ok [0, 1] rfl rfl ?_
    by_cases c13 : x10 = 0
    · replace h := ifT c13 h
      refine TL.nil (X.seq ?_)
      refine T.no rfl (bn_f (decide_eq_true c13)) ?_
      refine T.skip (X.seq (T.seq (T.region rfl ?_)))
      refine TL.run ft_control_ok [0, 1, 2] rfl rfl ?_
      obtain rfl := Option.some.inj h
      exact TL.nil (X.seq (T.ret (X.done2 [1] Try.results131 (RV.tm rfl) (RV.tm rfl) ⟨rfl, rfl, rfl⟩ (by rfl) (.inl rfl))))
    · replace h := ifF c13 h
      refine TL.nil (X.seq ?_)
      refine T.yes rfl (bn_t (decide_eq_false c13)) ?_
      refine T.seq (T.region rfl ?_)
      refine TL.run ft_control_ok [0, 1, 2] rfl rfl ?_
      obtain rfl := Option.some.inj h
      exact TL.nil (X.seq (T.ret (X.rs (X.done2 [1] Try.results131 (RV.tm rfl) (RV.tm rfl) ⟨rfl, rfl, rfl⟩ (by rfl) (.inl rfl)))))
  · replace h := ifF c9 h
    refine TL.run ft_control_ok [0, 1, 2] rfl rfl ?_
    refine TL.q rfl (.g rfl rfl (bn_t (decide_eq_false c9))) (Ex.ft ft_control_ok rfl) rfl ?_
    refine TL.q rfl (.g rfl rfl (bn_t (decide_eq_false c9))) (Ex.ft ft_control_ok rfl) rfl ?_
    refine TL.q rfl .u (Ex.py rfl (bn_t (decide_eq_false c9)) rfl) rfl ?_
    by_cases c14 : x6 = 1
    · replace h := ifT c14 h
      refine TL.nil (X.seq ?_)
      refine T.no rfl (bn_f (decide_eq_true c14)) ?_
      refine T.skip (X.seq (T.seq (T.seq (T.region rfl ?_))))
      obtain ⟨⟨x15, st16⟩, hx17, h⟩ := Option.bind_eq_some_iff.1 h
      try dsimp only at h
      refine TL.run ft_control_ok [0] rfl rfl ?_
      refine TL.c0 rfl .u (.fn Try.call31 rfl) (gClose_spec b3 st7 _ hx17) (fun _ hs => (Src.triv _)) rfl ?_
      refine TL.run ft_control_ok [2] rfl rfl ?_
      refine TL.nil (X.seq (T.seq (T.region rfl ?_)))
      refine TL.run ft_control_ok [0, 1] rfl rfl ?_
      by_cases c18 : x15 = 0
      · replace h := ifT c18 h
        refine TL.nil (X.seq ?_)
        refine T.no rfl (bn_f (decide_eq_true c18)) ?_
        refine T.skip (X.seq (T.seq (T.region rfl ?_)))
        refine TL.run ft_control_ok [0, 1, 2] rfl rfl ?_
        obtain rfl := Option.some.inj h
        exact TL.nil (X.seq (T.ret (X.done2 [1] Try.results131 (RV.tm rfl) (RV.tm rfl) ⟨rfl, rfl, rfl⟩ (by rfl) (.inl rfl))))
      · replace h := ifF c18 h
        refine TL.nil (X.seq ?_)
        refine T.yes rfl (bn_t (decide_eq_false c18)) ?_
        refine T.seq (T.region rfl ?_)
        refine TL.run ft_control_ok [0, 1, 2] rfl rfl ?_
        obtain rfl := Option.some.inj h
        exact TL.nil (X.seq (T.ret (X.rs (X.done2 [1] Try.results131 (RV.tm rfl) (RV.tm rfl) ⟨rfl, rfl, rfl⟩ (by rfl) (.inl rfl)))))
    · replace h := ifF c14 h
      refine TL.nil (X.seq ?_)
      refine T.yes rfl (bn_t (decide_eq_false c14)) ?_
      refine T.region rfl ?_
      obtain ⟨st19, hx20, h⟩ := Option.bind_eq_some_iff.1 h
      refine TL.run ft_control_ok [0] rfl rfl ?_
      refine TL.c0 rfl .u (.fn Try.call84 rfl) (gIFail_spec b3 st7 12 _ hx20) (fun _ hs => (Src.triv _)) rfl ?_
      refine TL.nil (X.seq (T.seq (T.seq (T.region rfl ?_))))
      obtain ⟨⟨x21, st22⟩, hx23, h⟩ := Option.bind_eq_some_iff.1 h
      try dsimp only at h
      refine TL.run ft_control_ok [0] rfl rfl ?_
      refine TL.c0 rfl .u (.fn Try.call31 rfl) (gClose_spec b3 st19 _ hx23) (fun _ hs => (Src.triv _)) rfl ?_
      refine TL.run ft_control_ok [2] rfl rfl ?_
      refine TL.nil (X.seq (T.seq (T.region rfl ?_)))
      refine TL.run ft_control_ok [0, 1] rfl rfl ?_
      by_cases c24 : x21 = 0
      · replace h := ifT c24 h
        refine TL.nil (X.seq ?_)
        refine T.no rfl (bn_f (decide_eq_true c24)) ?_
        refine T.skip (X.seq (T.seq (T.region rfl ?_)))
        refine TL.run ft_control_ok [0, 1, 2] rfl rfl ?_
        obtain rfl := Option.some.inj h
        exact TL.nil (X.seq (T.ret (X.done2 [1] Try.results131 (RV.tm rfl) (RV.tm rfl) ⟨rfl, rfl, rfl⟩ (by rfl) (.inl rfl))))
      · replace h := ifF c24 h
        refine TL.nil (X.seq ?_)
        refine T.yes rfl (bn_t (decide_eq_false c24)) ?_
        refine T.seq (T.region rfl ?_)
        refine TL.run ft_control_ok [0, 1, 2] rfl rfl ?_
        obtain rfl := Option.some.inj h
        exact TL.nil (X.seq (T.ret (X.rs (X.done2 [1] Try.results131 (RV.tm rfl) (RV.tm rfl) ⟨rfl, rfl, rfl⟩ (by rfl) (.inl rfl)))))
def f_control_ReadValue (a0 : List UInt8) : Option (Int × Int) := (gNew a0).bind fun st1 => (f_control_version st1).bind fun st4 => (gInt st4 4).bind fun (x6, st7) => if x6 < 0 then ((gIFail st7 11).bind fun st10 => (gClose st10).bind fun (x12, st13) => if x12 = 0 then some (x6, 0) else some (0, x12)) else ((gClose st7).bind fun (x16, st17) => if x16 = 0 then some (x6, 0) else some (0, x16))
set_option maxRecDepth 100000 in
set_option maxHeartbeats 4000000 in
theorem f_control_ReadValue_spec (a0 : List UInt8) (r : Int × Int) (h : f_control_ReadValue a0 = some r) : SpecX Try.prog 132 #[.string (bsOf a0)] .triv (EmpR) (fun v A' N => v = .tuple #[.int .i64 r.1, .int .i64 r.2] ∧ A' = EmpR ∧ N = []) := by
  refine enterA Try.func132 rfl Try.ntmps132 rfl ?_
  intro F w hX
  unfold f_control_ReadValue at h
  refine T.seq (T.region rfl ?_)
  refine TL.run ft_control_ok [0, 1] rfl rfl ?_
  refine TL.nil (X.seq (T.seq (T.region rfl ?_)))
  obtain ⟨st1, hx2, h⟩ := Option.bind_eq_some_iff.1 h
  refine TL.run ft_control_ok [0] rfl rfl ?_
  refine TL.cge rfl .u (.fn Try.call16 rfl) (gNew_spec a0 _ hx2) (fun _ hs => (RX.reads_triv _ _)) rfl ?_
  rintro _ _ _ ⟨b3, rfl, rfl, rfl⟩
  refine TL.sel [0, 0] rfl ?_
  refine TL.run ft_control_ok [2] rfl rfl ?_
  refine TL.nil (X.seq (T.seq (T.region rfl ?_)))
  obtain ⟨st4, hx5, h⟩ := Option.bind_eq_some_iff.1 h
  refine TL.run ft_control_ok [0] rfl rfl ?_
  refine TL.c0 rfl .u (.fn Try.call185 rfl) (f_control_version_spec b3 st1 _ hx5) (fun _ hs => (Src.triv _)) rfl ?_
  refine TL.nil (X.seq (T.seq (T.region rfl ?_)))
  obtain ⟨⟨x6, st7⟩, hx8, h⟩ := Option.bind_eq_some_iff.1 h
  try dsimp only at h
  refine TL.run ft_control_ok [0] rfl rfl ?_
  refine TL.c0 rfl .u (.fn Try.call83 rfl) (gInt_spec b3 st4 4 _ hx8) (fun _ hs => (Src.triv _)) rfl ?_
  refine TL.run ft_control_ok [2] rfl rfl ?_
  refine TL.nil (X.seq (T.seq (T.seq (T.region rfl ?_))))
  refine TL.run ft_control_ok [0, 1] rfl rfl ?_
  by_cases c9 : x6 < 0
  · replace h := ifT c9 h
    refine TL.nil (X.seq ?_)
    refine T.yes rfl (decide_eq_true c9) ?_
    refine T.region rfl ?_
    obtain ⟨st10, hx11, h⟩ := Option.bind_eq_some_iff.1 h
    refine TL.run ft_control_ok [0] rfl rfl ?_
    refine TL.c0 rfl .u (.fn Try.call84 rfl) (gIFail_spec b3 st7 11 _ hx11) (fun _ hs => (Src.triv _)) rfl ?_
    refine TL.nil (X.seq (T.seq (T.seq (T.region rfl ?_))))
    obtain ⟨⟨x12, st13⟩, hx14, h⟩ := Option.bind_eq_some_iff.1 h
    try dsimp only at h
    refine TL.run ft_control_ok [0] rfl rfl ?_
    refine TL.c0 rfl .u (.fn Try.call31 rfl) (gClose_spec b3 st10 _ hx14) (fun _ hs => (Src.triv _)) rfl ?_
    refine TL.run ft_control_ok [2] rfl rfl ?_
    refine TL.nil (X.seq (T.seq (T.region rfl ?_)))
    refine TL.run ft_control_ok [0, 1] rfl rfl ?_
    by_cases c15 : x12 = 0
    · replace h := ifT c15 h
      refine TL.nil (X.seq ?_)
      refine T.no rfl (bn_f (decide_eq_true c15)) ?_
      refine T.skip (X.seq (T.seq (T.region rfl ?_)))
      refine TL.run ft_control_ok [0, 1, 2] rfl rfl ?_
      obtain rfl := Option.some.inj h
      exact TL.nil (X.seq (T.ret (X.done2 [1] Try.results132 (RV.tm rfl) (RV.tm rfl) ⟨rfl, rfl, rfl⟩ (by rfl) (.inl rfl))))
    · replace h := ifF c15 h
      refine TL.nil (X.seq ?_)
      refine T.yes rfl (bn_t (decide_eq_false c15)) ?_
      refine T.seq (T.region rfl ?_)
      refine TL.run ft_control_ok [0, 1, 2] rfl rfl ?_
      obtain rfl := Option.some.inj h
      exact TL.nil (X.seq (T.ret (X.rs (X.done2 [1] Try.results132 (RV.tm rfl) (RV.tm rfl) ⟨rfl, rfl, rfl⟩ (by rfl) (.inl rfl)))))
  · replace h := ifF c9 h
    refine TL.nil (X.seq ?_)
    refine T.no rfl (decide_eq_false c9) ?_
    refine T.skip (X.seq (T.seq (T.seq (T.region rfl ?_))))
    obtain ⟨⟨x16, st17⟩, hx18, h⟩ := Option.bind_eq_some_iff.1 h
    try dsimp only at h
    refine TL.run ft_control_ok [0] rfl rfl ?_
    refine TL.c0 rfl .u (.fn Try.call31 rfl) (gClose_spec b3 st7 _ hx18) (fun _ hs => (Src.triv _)) rfl ?_
    refine TL.run ft_control_ok [2] rfl rfl ?_
    refine TL.nil (X.seq (T.seq (T.region rfl ?_)))
    refine TL.run ft_control_ok [0, 1] rfl rfl ?_
    by_cases c19 : x16 = 0
    · replace h := ifT c19 h
      refine TL.nil (X.seq ?_)
      refine T.no rfl (bn_f (decide_eq_true c19)) ?_
      refine T.skip (X.seq (T.seq (T.region rfl ?_)))
      refine TL.run ft_control_ok [0, 1, 2] rfl rfl ?_
      obtain rfl := Option.some.inj h
      exact TL.nil (X.seq (T.ret (X.done2 [1] Try.results132 (RV.tm rfl) (RV.tm rfl) ⟨rfl, rfl, rfl⟩ (by rfl) (.inl rfl))))
    · replace h := ifF c19 h
      refine TL.nil (X.seq ?_)
      refine T.yes rfl (bn_t (decide_eq_false c19)) ?_
      refine T.seq (T.region rfl ?_)
      refine TL.run ft_control_ok [0, 1, 2] rfl rfl ?_
      obtain rfl := Option.some.inj h
      exact TL.nil (X.seq (T.ret (X.rs (X.done2 [1] Try.results132 (RV.tm rfl) (RV.tm rfl) ⟨rfl, rfl, rfl⟩ (by rfl) (.inl rfl)))))
def f_control_Read (a0 : Rec) : Option (Int × Int × Int) := if a0.fKey.null = true then some (0, 0, 12) else (if a0.fValue.null = true then some (0, 0, 12) else (if (a0.fHeaders.length : Int) > 0 then some (0, 0, 12) else (if a0.fOffset = 0 then ((f_control_ReadKey a0.fKey.data).bind fun (x8, x9) => if x9 = 0 then ((f_control_ReadValue a0.fValue.data).bind fun (x12, x13) => if x13 = 0 then some (x8, x12, 0) else some (0, 0, x13)) else some (0, 0, x9)) else some (0, 0, 12))))
set_option maxRecDepth 100000 in
set_option maxHeartbeats 4000000 in
theorem f_control_Read_spec (a0 : Rec) (A1 : Option Addr) (c2 : Nat) (r : Int × Int × Int) (h : f_control_Read a0 = some r) : SpecX Try.prog 54 #[.agg #[.int .i64 a0.fTime, .int .i64 a0.fOffset, .bool a0.fKey.null, .string (bsOf a0.fKey.data), .bool a0.fValue.null, .string (bsOf a0.fValue.data), .slice A1 a0.fHeaders.length c2]] (RX.of (sliceRd 3 Hd_rd) [.slice A1 a0.fHeaders.length c2] a0.fHeaders) (EmpR) (fun v A' N => v = .tuple #[.int .i64 r.1, .int .i64 r.2.1, .int .i64 r.2.2] ∧ A' = EmpR ∧ N = []) := by
  refine enterA Try.func54 rfl Try.ntmps54 rfl ?_
  intro F w hX
  unfold f_control_Read at h
  refine T.seq (T.region rfl ?_)
  refine TL.box rfl .u rfl rfl (fun b3 => ?_)
  refine TL.run ft_control_ok [1, 2, 3] rfl rfl ?_
  refine TL.nil (X.seq (T.seq (T.seq (T.region rfl ?_))))
  refine TL.run ft_control_ok [0, 1] rfl rfl ?_
  refine TL.q rfl .u (Ex.b1 0 rfl Try.isAgg4 rfl rfl) rfl ?_
  by_cases c4 : a0.fKey.null = true
  · replace h := ifT c4 h
    refine TL.run ft_control_ok [3] rfl rfl ?_
    refine TL.no rfl (.gn rfl rfl c4) rfl ?_
    refine TL.no rfl (.gn rfl rfl c4) rfl ?_
    refine TL.no rfl (.gn rfl rfl c4) rfl ?_
    refine TL.q rfl .u (Ex.py rfl c4 rfl) rfl ?_
    refine TL.run ft_control_ok [8] rfl rfl ?_
    refine TL.no rfl (.gn rfl rfl rfl) rfl ?_
    refine TL.no rfl (.gn rfl rfl rfl) rfl ?_
    refine TL.no rfl (.gn rfl rfl rfl) rfl ?_
    refine TL.no rfl (.gn rfl rfl rfl) rfl ?_
    refine TL.q rfl .u (Ex.py rfl rfl rfl) rfl ?_
    refine TL.run ft_control_ok [14] rfl rfl ?_
    refine TL.no rfl (.gn rfl rfl rfl) rfl ?_
    refine TL.no rfl (.gn rfl rfl rfl) rfl ?_
    refine TL.no rfl (.gn rfl rfl rfl) rfl ?_
    refine TL.q rfl .u (Ex.py rfl rfl rfl) rfl ?_
    refine TL.nil (X.seq ?_)
    refine T.yes rfl rfl ?_
    refine T.seq (T.region rfl ?_)
    refine TL.run ft_control_ok [0, 1, 2] rfl rfl ?_
    obtain rfl := Option.some.inj h
    exact TL.nil (X.seq (T.ret (X.rs (X.done3 [1] Try.results54 (RV.tm rfl) (RV.tm rfl) (RV.tm rfl) ⟨rfl, rfl, rfl⟩ (by rfl) (.inl rfl)))))
  · replace h := ifF c4 h
    replace c4 := eq_false_of_ne_true c4
    refine TL.run ft_control_ok [3] rfl rfl ?_
    refine TL.q rfl (.g rfl rfl c4) (Ex.ft ft_control_ok rfl) rfl ?_
    refine TL.q rfl (.g rfl rfl c4) (Ex.ft ft_control_ok rfl) rfl ?_
    refine TL.q rfl (.g rfl rfl c4) (Ex.b1 0 rfl Try.isAgg4 rfl rfl) rfl ?_
    refine TL.q rfl .u (Ex.pn rfl c4 rfl) rfl ?_
    by_cases c5 : a0.fValue.null = true
    · replace h := ifT c5 h
      refine TL.run ft_control_ok [8] rfl rfl ?_
      refine TL.no rfl (.gn rfl rfl c5) rfl ?_
      refine TL.no rfl (.gn rfl rfl c5) rfl ?_
      refine TL.no rfl (.gn rfl rfl c5) rfl ?_
      refine TL.no rfl (.gn rfl rfl c5) rfl ?_
      refine TL.q rfl .u (Ex.py rfl c5 rfl) rfl ?_
      refine TL.run ft_control_ok [14] rfl rfl ?_
      refine TL.no rfl (.gn rfl rfl rfl) rfl ?_
      refine TL.no rfl (.gn rfl rfl rfl) rfl ?_
      refine TL.no rfl (.gn rfl rfl rfl) rfl ?_
      refine TL.q rfl .u (Ex.py rfl rfl rfl) rfl ?_
      refine TL.nil (X.seq ?_)
      refine T.yes rfl rfl ?_
      refine T.seq (T.region rfl ?_)
      refine TL.run ft_control_ok [0, 1, 2] rfl rfl ?_
      obtain rfl := Option.some.inj h
      exact TL.nil (X.seq (T.ret (X.rs (X.done3 [1] Try.results54 (RV.tm rfl) (RV.tm rfl) (RV.tm rfl) ⟨rfl, rfl, rfl⟩ (by rfl) (.inl rfl)))))
    · replace h := ifF c5 h
      replace c5 := eq_false_of_ne_true c5
      refine TL.run ft_control_ok [8] rfl rfl ?_
      refine TL.q rfl (.g rfl rfl c5) (Ex.ft ft_control_ok rfl) rfl ?_
      refine TL.q rfl (.g rfl rfl c5) (Ex.b1 0 rfl Try.isAgg27 rfl rfl) rfl ?_
      refine TL.q rfl (.g rfl rfl c5) (Ex.lenS rfl Try.runUnderlying27) rfl ?_
      refine TL.q rfl (.g rfl rfl c5) (Ex.ft ft_control_ok rfl) rfl ?_
      refine TL.q rfl .u (Ex.pn rfl c5 rfl) rfl ?_
      by_cases c6 : (a0.fHeaders.length : Int) > 0
      · replace h := ifT c6 h
        refine TL.run ft_control_ok [14] rfl rfl ?_
        refine TL.no rfl (.gn rfl rfl (decide_eq_true c6)) rfl ?_
        refine TL.no rfl (.gn rfl rfl (decide_eq_true c6)) rfl ?_
        refine TL.no rfl (.gn rfl rfl (decide_eq_true c6)) rfl ?_
        refine TL.q rfl .u (Ex.py rfl (decide_eq_true c6) rfl) rfl ?_
        refine TL.nil (X.seq ?_)
        refine T.yes rfl rfl ?_
        refine T.seq (T.region rfl ?_)
        refine TL.run ft_control_ok [0, 1, 2] rfl rfl ?_
        obtain rfl := Option.some.inj h
        exact TL.nil (X.seq (T.ret (X.rs (X.done3 [1] Try.results54 (RV.tm rfl) (RV.tm rfl) (RV.tm rfl) ⟨rfl, rfl, rfl⟩ (by rfl) (.inl rfl)))))
      · replace h := ifF c6 h
        refine TL.run ft_control_ok [14] rfl rfl ?_
        refine TL.q rfl (.g rfl rfl (decide_eq_false c6)) (Ex.ft ft_control_ok rfl) rfl ?_
        refine TL.q rfl (.g rfl rfl (decide_eq_false c6)) (Ex.b1 0 rfl Try.isAgg3 rfl rfl) rfl ?_
        refine TL.q rfl (.g rfl rfl (decide_eq_false c6)) (Ex.ft ft_control_ok rfl) rfl ?_
        refine TL.q rfl .u (Ex.pn rfl (decide_eq_false c6) rfl) rfl ?_
        by_cases c7 : a0.fOffset = 0
        · replace h := ifT c7 h
          refine TL.nil (X.seq ?_)
          refine T.no rfl (bn_f (decide_eq_true c7)) ?_
          refine T.skip (X.seq (T.seq (T.seq (T.region rfl ?_))))
          refine TL.run ft_control_ok [0, 1] rfl rfl ?_
          refine TL.q rfl .u (Ex.b1 0 rfl Try.isAgg9 rfl rfl) rfl ?_
          obtain ⟨⟨x8, x9⟩, hx10, h⟩ := Option.bind_eq_some_iff.1 h
          try dsimp only at h
          refine TL.ce rfl .u (.fn Try.call131 rfl) (f_control_ReadKey_spec a0.fKey.data _ hx10) (fun _ hs => (RX.reads_triv _ _)) rfl ?_
          refine TL.run ft_control_ok [4, 5, 6, 7, 8] rfl rfl ?_
          refine TL.nil (X.seq (T.seq (T.region rfl ?_)))
          refine TL.run ft_control_ok [0, 1] rfl rfl ?_
          by_cases c11 : x9 = 0
          · replace h := ifT c11 h
            refine TL.nil (X.seq ?_)
            refine T.no rfl (bn_f (decide_eq_true c11)) ?_
            refine T.skip (X.seq (T.seq (T.seq (T.region rfl ?_))))
            refine TL.run ft_control_ok [0, 1] rfl rfl ?_
            refine TL.q rfl .u (Ex.b1 0 rfl Try.isAgg9 rfl rfl) rfl ?_
            obtain ⟨⟨x12, x13⟩, hx14, h⟩ := Option.bind_eq_some_iff.1 h
            try dsimp only at h
            refine TL.ce rfl .u (.fn Try.call132 rfl) (f_control_ReadValue_spec a0.fValue.data _ hx14) (fun _ hs => (RX.reads_triv _ _)) rfl ?_
            refine TL.run ft_control_ok [4, 5, 6, 7, 8] rfl rfl ?_
            refine TL.nil (X.seq (T.seq (T.region rfl ?_)))
            refine TL.run ft_control_ok [0, 1] rfl rfl ?_
            by_cases c15 : x13 = 0
            · replace h := ifT c15 h
              refine TL.nil (X.seq ?_)
              refine T.no rfl (bn_f (decide_eq_true c15)) ?_
              refine T.skip (X.seq (T.seq (T.region rfl ?_)))
              refine TL.run ft_control_ok [0, 1, 2, 3, 4] rfl rfl ?_
              obtain rfl := Option.some.inj h
              exact TL.nil (X.seq (T.ret (X.done3 [1] Try.results54 (RV.tm rfl) (RV.tm rfl) (RV.tm rfl) ⟨rfl, rfl, rfl⟩ (by rfl) (.inl rfl))))
            · replace h := ifF c15 h
              refine TL.nil (X.seq ?_)
              refine T.yes rfl (bn_t (decide_eq_false c15)) ?_
              refine T.seq (T.region rfl ?_)
              refine TL.run ft_control_ok [0, 1, 2, 3] rfl rfl ?_
              obtain rfl := Option.some.inj h
              exact TL.nil (X.seq (T.ret (X.rs (X.done3 [1] Try.results54 (RV.tm rfl) (RV.tm rfl) (RV.tm rfl) ⟨rfl, rfl, rfl⟩ (by rfl) (.inl rfl)))))
          · replace h := ifF c11 h
            refine TL.nil (X.seq ?_)
            refine T.yes rfl (bn_t (decide_eq_false c11)) ?_
            refine T.seq (T.region rfl ?_)
            refine TL.run ft_control_ok [0, 1, 2, 3] rfl rfl ?_
            obtain rfl := Option.some.inj h
            exact TL.nil (X.seq (T.ret (X.rs (X.done3 [1] Try.results54 (RV.tm rfl) (RV.tm rfl) (RV.tm rfl) ⟨rfl, rfl, rfl⟩ (by rfl) (.inl rfl)))))
        · replace h := ifF c7 h
          refine TL.nil (X.seq ?_)
          refine T.yes rfl (bn_t (decide_eq_false c7)) ?_
          refine T.seq (T.region rfl ?_)
          refine TL.run ft_control_ok [0, 1, 2] rfl rfl ?_
          obtain rfl := Option.some.inj h
          exact TL.nil (X.seq (T.ret (X.rs (X.done3 [1] Try.results54 (RV.tm rfl) (RV.tm rfl) (RV.tm rfl) ⟨rfl, rfl, rfl⟩ (by rfl) (.inl rfl)))))
end Go.Proofs.Ytagbblaegdedpaa.Sl
namespace Go.Proofs.Ytagbblaegdedpaa.Sl
open Go.RowKit
set_option linter.unusedVariables false
set_option linter.unusedSimpArgs false
set_option maxRecDepth 100000
def f_r08_ReadKey (a0 : List UInt8) : Option (Int × Int) := if (a0.length : Int) < 2 then some (0, 1) else (if 2 ≤ a0.length then ((gRInt (a0.take 2)).bind fun x3 => if x3 = 0 then (if (a0.length : Int) < 4 then some (0, 1) else (if 4 ≤ a0.length then ((gRInt ((a0.drop 2).take 2)).bind fun x8 => if x8 = 0 then (if (a0.length : Int) > 4 then some (0, 2) else some (x8, 0)) else (if x8 = 1 then (if (a0.length : Int) > 4 then some (0, 2) else some (x8, 0)) else some (0, 12))) else none)) else some (0, 7)) else none)
def f_r08_ReadValue (a0 : List UInt8) : Option (Int × Int) := if (a0.length : Int) < 2 then some (0, 1) else (if 2 ≤ a0.length then ((gRInt (a0.take 2)).bind fun x3 => if x3 = 0 then (if (a0.length : Int) < 6 then some (0, 1) else (if 6 ≤ a0.length then ((gRInt ((a0.drop 2).take 4)).bind fun x8 => if x8 < 0 then some (0, 11) else (if (a0.length : Int) > 6 then some (0, 2) else some (x8, 0))) else none)) else some (0, 7)) else none)
end Go.Proofs.Ytagbblaegdedpaa.Sl
namespace Go.Proofs.Ytagbblaegdedpaa.Sl
open Go.RowKit
set_option linter.unusedVariables false
set_option linter.unusedSimpArgs false
theorem iint_ok2 (l : List UInt8) (p : Nat) (h : 2 ≤ l.length) : iint ⟨l, p, 0⟩ 2 = (beInt (l.take 2), ⟨l.drop 2, p + 2, 0⟩) := iint_ok l p 2 (by decide) (by decide) h
theorem iint_ok4 (l : List UInt8) (p : Nat) (h : 4 ≤ l.length) : iint ⟨l, p, 0⟩ 4 = (beInt (l.take 4), ⟨l.drop 4, p + 4, 0⟩) := iint_ok l p 4 (by decide) (by decide) h
theorem iint_short2 (l : List UInt8) (p : Nat) (h : l.length < 2) : iint ⟨l, p, 0⟩ 2 = (0, ⟨l, p, 1⟩) := iint_short l p 2 (by decide) (by decide) (by omega)
theorem iint_short4 (l : List UInt8) (p : Nat) (h : l.length < 4) : iint ⟨l, p, 0⟩ 4 = (0, ⟨l, p, 1⟩) := iint_short l p 4 (by decide) (by decide) (by omega)
theorem iint_e (l : List UInt8) (p : Nat) (e n : Int) (h : e ≠ 0) : iint ⟨l, p, e⟩ n = (0, ⟨l, p, e⟩) := iint_err (st := ⟨l, p, e⟩) h n
theorem iclose_e (l : List UInt8) (p : Nat) (e : Int) (h : e ≠ 0) : iclose ⟨l, p, e⟩ = ⟨l, p, e⟩ := iclose_err (st := ⟨l, p, e⟩) h
theorem ifail_e (l : List UInt8) (p : Nat) (e f : Int) (h : e ≠ 0) : ifail ⟨l, p, e⟩ f = ⟨l, p, e⟩ := ifail_err (st := ⟨l, p, e⟩) h f
theorem ifail_0 (l : List UInt8) (p : Nat) (f : Int) : ifail ⟨l, p, 0⟩ f = ⟨l, p, f⟩ := by simp [ifail]
theorem iclose_0 (l : List UInt8) (p : Nat) : iclose ⟨l, p, 0⟩ = ⟨l, p, if l = [] then 0 else 2⟩ := by unfold iclose; split <;> simp_all [ifail]
theorem drop_nil_iff {l : List UInt8} {n : Nat} (h : n ≤ l.length) : l.drop n = [] ↔ ¬ (l.length : Int) > n := by rw [List.drop_eq_nil_iff]; omega
theorem read_key (l : List UInt8) (hl : l.length ≤ 9223372036854775807) : f_control_ReadKey l = f_r08_ReadKey l := by
  unfold f_control_ReadKey f_r08_ReadKey f_control_version
  simp only [gNew_eq l (by omega), gInt_eq, gClose_eq, gIFail_eq, Option.bind_some]
  by_cases h2 : l.length < 2
  · have h2i : (l.length : Int) < 2 := by omega
    simp [iint_short2 l 0 h2, iint_e, iclose_e, ifail_e, h2i]
  have h2i : ¬ (l.length : Int) < 2 := by omega
  have h2j : 2 ≤ (l.length : Int) := by omega
  rw [iint_ok2 l 0 (by omega), if_neg h2i, if_pos (show 2 ≤ l.length by omega), gRInt_eq _ (by simp; omega)]
  simp only [Option.bind_some]
  by_cases h0 : beInt (l.take 2) = 0
  · rw [if_pos h0, if_pos h0]
    simp only [Option.bind_some]
    by_cases h4 : l.length < 4
    · have h4i : (l.length : Int) < 4 := by omega
      simp [iint_short2 (l.drop 2) (0 + 2) (by simp; omega), iclose_e, h4i]
    have h4i : ¬ (l.length : Int) < 4 := by omega
    rw [iint_ok2 _ _ (by simp; omega), if_neg h4i, if_pos (show 4 ≤ l.length by omega), gRInt_eq _ (by simp; omega)]
    simp only [Option.bind_some, List.drop_drop, iclose_0, ifail_0]
    have hd := drop_nil_iff (l := l) (n := 4) (by omega)
    generalize beInt ((l.drop 2).take 2) = k
    by_cases h5 : (l.length : Int) > 4
    · have hd2 : ¬ l.drop (2 + 2) = [] := fun h => (hd.1 h) h5
      by_cases k0 : k = 0
      · simp [hd2, h5, iclose_e, k0]
      · by_cases k1 : k = 1 <;> simp [hd2, h5, iclose_e, k0, k1]
    · have hd2 : l.drop (2 + 2) = [] := hd.2 h5
      by_cases k0 : k = 0
      · simp [hd2, h5, iclose_e, k0]
      · by_cases k1 : k = 1 <;> simp [hd2, h5, iclose_e, k0, k1]
  · rw [if_neg h0, if_neg h0]
    simp [ifail_0, iint_e, iclose_e]
theorem read_value (l : List UInt8) (hl : l.length ≤ 9223372036854775807) : f_control_ReadValue l = f_r08_ReadValue l := by
  unfold f_control_ReadValue f_r08_ReadValue f_control_version
  simp only [gNew_eq l (by omega), gInt_eq, gClose_eq, gIFail_eq, Option.bind_some]
  by_cases h2 : l.length < 2
  · have h2i : (l.length : Int) < 2 := by omega
    simp [iint_short2 l 0 h2, iint_e, iclose_e, ifail_e, h2i]
  have h2i : ¬ (l.length : Int) < 2 := by omega
  have h2j : 2 ≤ (l.length : Int) := by omega
  rw [iint_ok2 l 0 (by omega), if_neg h2i, if_pos (show 2 ≤ l.length by omega), gRInt_eq _ (by simp; omega)]
  simp only [Option.bind_some]
  by_cases h0 : beInt (l.take 2) = 0
  · rw [if_pos h0, if_pos h0]
    simp only [Option.bind_some]
    by_cases h4 : l.length < 6
    · have h4i : (l.length : Int) < 6 := by omega
      simp [iint_short4 (l.drop 2) (0 + 2) (by simp; omega), iclose_e, h4i]
    have h4i : ¬ (l.length : Int) < 6 := by omega
    rw [iint_ok4 _ _ (by simp; omega), if_neg h4i, if_pos (show 6 ≤ l.length by omega), gRInt_eq _ (by simp; omega)]
    simp only [Option.bind_some, List.drop_drop, iclose_0, ifail_0]
    have hd := drop_nil_iff (l := l) (n := 6) (by omega)
    generalize beInt ((l.drop 2).take 4) = k
    by_cases h5 : (l.length : Int) > 6
    · have hd2 : ¬ l.drop (2 + 4) = [] := fun h => (hd.1 h) h5
      by_cases k0 : k < 0 <;> simp [hd2, h5, iclose_e, k0]
    · have hd2 : l.drop (2 + 4) = [] := hd.2 h5
      by_cases k0 : k < 0 <;> simp [hd2, h5, iclose_e, k0]
  · rw [if_neg h0, if_neg h0]
    simp [ifail_0, iint_e, iclose_e]
end Go.Proofs.Ytagbblaegdedpaa.Sl
namespace Go.Proofs.Ytagbblaegdedpaa.Sl
open Go.RowKit
set_option linter.unusedVariables false
set_option linter.unusedSimpArgs false
theorem ckey_one (k : Int) (h : k = 0 ∨ k = 1) : f_control_Key k = some ([0, 0] ++ be k 2, 0) := by
  rcases h with rfl | rfl <;> kernel_rfl
theorem ckey_none (k : Int) (h0 : k ≠ 0) (h1 : k ≠ 1) : f_control_Key k = some ([], 12) := by
  unfold f_control_Key
  rw [if_neg h0, if_neg h1]
theorem cval_ok (n : Int) (h0 : 0 ≤ n) (h1 : n ≤ 9223372036854775807) (hf : fits n 4 = true) : f_control_Value n = some ([0, 0] ++ be n 4, 0) := by
  unfold f_control_Value
  rw [if_neg (by omega), gOInt_eq _ _ _ (by simp)]
  simp only [Option.bind_some]
  rw [show oint ([], 0) 0 2 = ([0, 0], 0) by decide, gOInt_eq _ _ _ (by simp; omega)]
  simp only [Option.bind_some, gOText_eq]
  rw [show oint ([0, 0], 0) n 4 = ([0, 0] ++ be n 4, 0) by unfold oint; rw [if_pos hf]; rfl]
  rfl
theorem cval_none (n : Int) (hi : n ≤ 9223372036854775807) (h : n < 0 ∨ fits n 4 = false) : f_control_Value n = some ([], 11) := by
  unfold f_control_Value
  by_cases h0 : n < 0
  · rw [if_pos h0]
  rw [if_neg h0, gOInt_eq _ _ _ (by simp)]
  simp only [Option.bind_some]
  rw [show oint ([], 0) 0 2 = ([0, 0], 0) by decide, gOInt_eq _ _ _ (by simp; omega)]
  simp only [Option.bind_some, gOText_eq]
  have hf : fits n 4 = false := h.resolve_left h0
  rw [show oint ([0, 0], 0) n 4 = ([0, 0], 11) by unfold oint; rw [if_neg (by simp [hf])]; rfl]
  rfl
theorem rd_key (k : Int) (h : k = 0 ∨ k = 1) : f_control_ReadKey ([0, 0] ++ be k 2) = some (k, 0) := by
  rcases h with rfl | rfl <;> kernel_rfl
theorem rd_val (n : Int) (h0 : 0 ≤ n) (h1 : n ≤ 9223372036854775807) (hf : fits n 4 = true) : f_control_ReadValue ([0, 0] ++ be n 4) = some (n, 0) := by
  have hl := be_length n 4
  rw [read_value _ (by simp [hl])]
  unfold f_r08_ReadValue
  have hb := beInt_be n 4 (by omega) (by omega) hf
  generalize be n 4 = b at *
  rw [if_neg (by simp [hl]; try omega), if_pos (by simp [hl]; try omega), gRInt_eq _ (by simp)]
  simp only [Option.bind_some]
  rw [if_pos (by simp; decide), if_neg (by simp [hl]), if_pos (by simp [hl]), gRInt_eq _ (by simp; omega)]
  simp only [Option.bind_some]
  have hq : List.take 4 (List.drop 2 ([0, 0] ++ b)) = b := by simp [List.take_of_length_le, hl]
  rw [hq, hb, if_neg (by omega), if_neg (by simp [hl])]
end Go.Proofs.Ytagbblaegdedpaa.Sl
namespace Go.Proofs.Ytagbblaegdedpaa.Sl
open Go.RowKit
set_option linter.unusedVariables false
set_option linter.unusedSimpArgs false
section
variable {P : Program} {n : Nat} {F0 : Nat → Prop} {w0 : World} {e : Env} {Rs : List Res} {S : World → Prop} {d : Option Tmp} {ty : TypeId} {pos : String} {af : Array Edge} {gd : Option (Nat × Bool)} {v : Value} {x y ix : Operand} {t t' el : TypeId}
theorem Ex.ixP {g o m z k : Nat} {i : Int} {q : IntKind} (hx : e.ev x = some (.pointer (some ⟨g, o, none⟩))) (hi : e.ev ix = some (.int q i)) (hik : i = (k : Int)) (hu : ∀ w, (underlying t).run P w = .ok (.array m el) w) (hz : ∀ w, (sizeOf el).run P w = .ok z w) (hk : k < m) :
    Ex P n e S ⟨d, .indexAddr t x ix, ty, pos, af, gd⟩ (.pointer (some ⟨g, o + k * z, none⟩)) := by
  intro a w ha _
  subst hik
  have h1 : (0 : Int) ≤ (k : Int) ∧ (k : Int) < (m : Int) := by omega
  have h2 : (⟨g, o, none⟩ : Addr).add (k * z) = ⟨g, o + k * z, none⟩ := by unfold Addr.add; split <;> simp_all
  have h3 : (Instr.indexAt t (.pointer (some ⟨g, o, none⟩)) (.int q (k : Int))).run P w = .ok (.pointer (some ⟨g, o + k * z, none⟩)) w := by
    simp only [Instr.indexAt, asIntOf, Sem.run_bind, Sem.run_pure, Result.andThen_ok, hu, Instr.sureAddr]
    rw [if_pos h1]
    simp only [Sem.run_bind, hz, Result.andThen_ok, Int.toNat_natCast, h2, Sem.run_pure]
  simp [execOp, ha.ev hx, ha.ev hi, h3]
end
end Go.Proofs.Ytagbblaegdedpaa.Sl
namespace Go.Proofs.Ytagbblaegdedpaa.Sl
open Go.RowKit
set_option linter.unusedVariables false
set_option linter.unusedSimpArgs false
set_option maxRecDepth 100000
def ft_cursitortop : FTab := [(26, 1, 1), (29, 0, 0), (29, 2, 2), (29, 4, 6), (97, 4, 4), (105, 0, 0), (105, 1, 1), (105, 3, 3), (107, 0, 0), (109, 0, 0)]
theorem ft_cursitortop_ok : (ft_cursitortop).OK Try.prog := ⟨FOK.mk Try.runUnderlying26 rfl Try.sizeOf9 rfl, FOK.mk Try.runUnderlying29 rfl Try.sizeOf3 rfl, FOK.mk Try.runUnderlying29 rfl Try.sizeOf26 rfl, FOK.mk Try.runUnderlying29 rfl Try.sizeOf27 rfl, FOK.mk Try.runUnderlying97 rfl Try.sizeOf68 rfl, FOK.mk Try.runUnderlying105 rfl Try.sizeOf3 rfl, FOK.mk Try.runUnderlying105 rfl Try.sizeOf3 rfl, FOK.mk Try.runUnderlying105 rfl Try.sizeOf26 rfl, FOK.mk Try.runUnderlying107 rfl Try.sizeOf26 rfl, FOK.mk Try.runUnderlying109 rfl Try.sizeOf9 rfl, trivial⟩
theorem mix_cursitortop : Try.prog.follows .mixedOrders = true := by kernel_rfl
theorem bok_cursitortop_93 : BOK Try.prog 93 #[.string ⟨#[]⟩, .bool false, .string ⟨#[]⟩] [(0, 1), (1, 2)] := BOK.mk Try.zeroValue93 Try.runUnderlying93 (by intro w; simp)
theorem sok_cursitortop_27_1 : SOK Try.prog 27 93 1 3 #[.string ⟨#[]⟩, .bool false, .string ⟨#[]⟩] := SOK.mk Try.runUnderlying27 Try.sizeOf93 Try.zeroValue93 (by decide) (by kernel_rfl)
def f_top_WholeEnds (a0 : Int × Int) (a1 : Int) (a2 : List UInt8) : Option (Bool) := (f_control_Record 1 7).bind fun (x2, x5) => (if x5 = 0 then (if x2.fKey.data = [0, 0, 0, 1] then some false else some true) else some true).bind fun y9 => if y9 = true then none else ((f_control_Record a0.1 a0.2).bind fun (x14, x17) => (if x17 = 0 then (if (a2.length : Int) > 200 then some true else some false) else some true).bind fun y21 => if y21 = true then some true else ((f_record_Encode (⟨a1, x14.fOffset, x14.fKey, x14.fValue, x14.fHeaders⟩ : Rec)).bind fun (x26, x27) => (f_record_Decode x26).bind fun (x29, x32) => (f_control_Read x29).bind fun (x35, x36, x37) => (if x27 = 0 then (if x32 = 0 then (if x37 = 0 then (if x35 = a0.1 then (if x36 = a0.2 then (if x29.fTime = a1 then some false else some true) else some true) else some true) else some true) else some true) else some true).bind fun y44 => if y44 = true then none else ((f_record_Encode (⟨x29.fTime, x29.fOffset, x29.fKey, x29.fValue, [(⟨a2, (⟨false, []⟩ : Bl)⟩ : Hd)]⟩ : Rec)).bind fun (x54, x55) => (f_record_Decode x54).bind fun (x57, x60) => (f_control_Read x57).bind fun (x63, x64, x65) => (f_control_Read (⟨a1, x14.fOffset, (⟨x14.fKey.null, a2⟩ : Bl), x14.fValue, x14.fHeaders⟩ : Rec)).bind fun (x67, x68, x69) => (if x55 = 0 then (if x60 = 0 then (if x65 = 12 then (if a2 = [0, 0, 0, 0] then (if x69 = 0 then some true else some false) else (if x69 = 0 then (if a2 = [0, 0, 0, 1] then some true else some false) else (if a2 = [0, 0, 0, 1] then some false else some true))) else some false) else some false) else some false).bind fun y79 => some y79)))
set_option maxRecDepth 100000 in
set_option maxHeartbeats 4000000 in
theorem f_top_WholeEnds_spec (a0 : Int × Int) (a1 : Int) (a2 : List UInt8) (r : Bool) (h : f_top_WholeEnds a0 a1 a2 = some r) : SpecX Try.prog 10 #[.agg #[.int .i64 a0.1, .int .i64 a0.2], .int .i64 a1, .string (bsOf a2)] .triv (EmpR) (fun v A' N => v = .bool r ∧ A' = EmpR ∧ N = []) := by
  refine enterA Try.func10 rfl Try.ntmps10 rfl ?_
  intro F w hX
  unfold f_top_WholeEnds at h
  refine T.seq (T.region rfl ?_)
  refine TL.box rfl .u rfl rfl (fun b1 => ?_)
  refine TL.run ft_cursitortop_ok [1] rfl rfl ?_
  refine TL.nil (X.seq (T.seq (T.draw (.q 0 (.q 1 (.q 2 (.q 3 (.q 4 (.q 5 .nil)))))) [0, 0] rfl mix_cursitortop (NoP.seq np_post) (by kernel_rfl) ?_)))
  refine TD.q rfl .u (Ex.ixP (k := 0) rfl rfl rfl Try.runUnderlying88 Try.sizeOf3 (by decide)) rfl ?_
  refine TD.q rfl .u (Ex.b1 0 rfl Try.isAgg3 rfl rfl) rfl ?_
  refine TD.q rfl .u (Ex.ixP (k := 1) rfl rfl rfl Try.runUnderlying88 Try.sizeOf3 (by decide)) rfl ?_
  refine TD.q rfl .u (Ex.b1 0 rfl Try.isAgg3 rfl rfl) rfl ?_
  refine TD.run ft_cursitortop_ok [4, 5] rfl rfl ?_
  obtain ⟨⟨x2, x5⟩, hx6, h⟩ := Option.bind_eq_some_iff.1 h
  try dsimp only at h
  refine TD.nil (X.seq (T.seq (T.seq (T.region rfl ?_))))
  refine TL.cge rfl .u (.fn Try.call53 rfl) (f_control_Record_spec 1 7 _ hx6) (fun _ hs => (RX.reads_triv _ _)) rfl ?_
  rintro _ _ _ ⟨A3, c4, rfl, rfl, rfl⟩
  refine TL.sel [0, 0, 0] rfl ?_
  refine TL.run ft_cursitortop_ok [1, 2, 3] rfl rfl ?_
  refine TL.alloc rfl .u Try.zeroValue29 rfl (fun b7 => ?_)
  refine TL.st0 (cs' := #[.int .i64 x2.fTime, .int .i64 x2.fOffset, .bool x2.fKey.null, .string (bsOf x2.fKey.data), .bool x2.fValue.null, .string (bsOf x2.fValue.data), .slice A3 x2.fHeaders.length c4]) rfl .u rfl rfl Try.sizeOf29 rfl rfl rfl rfl ?_
  refine TL.run ft_cursitortop_ok [6] rfl rfl ?_
  refine TL.nil (X.seq (T.seq ?_))
  obtain ⟨y9, h, hk10⟩ := Option.bind_eq_some_iff.1 h
  refine T.jq (fun e Rs => e = [(1, .int .i64 a1), (2, .string (bsOf a2)), (6, .bool false), (7, .int .i64 a0.1), (8, .int .i64 a0.2), (45, .bool y9)] ∧ Rs = [BlkR b7 29 #[.int .i64 x2.fTime, .int .i64 x2.fOffset, .bool x2.fKey.null, .string (bsOf x2.fKey.data), .bool x2.fValue.null, .string (bsOf x2.fValue.data), .slice A3 x2.fHeaders.length c4], RdR (sliceRd 3 Hd_rd) [.slice A3 x2.fHeaders.length c4] x2.fHeaders, BlkR b1 88 #[.int .i64 a0.1, .int .i64 a0.2], EmpR]) ?_ ?_
  · clear hk10
    refine T.region rfl ?_
    by_cases c11 : x5 = 0
    · replace h := ifT c11 h
      refine TL.run ft_cursitortop_ok [0, 1, 2] rfl rfl ?_
      refine TL.q rfl (.g rfl rfl (bn_f (decide_eq_true c11))) (Ex.ft ft_cursitortop_ok rfl) rfl ?_
      refine TL.q rfl (.g rfl rfl (bn_f (decide_eq_true c11))) (Ex.ft ft_cursitortop_ok rfl) rfl ?_
      refine TL.q rfl (.g rfl rfl (bn_f (decide_eq_true c11))) (Ex.b1 0 rfl Try.isAgg9 rfl rfl) rfl ?_
      refine TL.q rfl (.g rfl rfl (bn_f (decide_eq_true c11))) (Ex.sNe rfl (m := [0, 0, 0, 1]) rfl) rfl ?_
      refine TL.q rfl .u (Ex.pn rfl (bn_f (decide_eq_true c11)) rfl) rfl ?_
      by_cases c12 : x2.fKey.data = [0, 0, 0, 1]
      · replace h := ifT c12 h
        cases h
        exact TL.nil (X.as (d := 45) (v' := .bool false) rfl (congrArg Value.bool (bn_f (decide_eq_true c12))) (X.jq [0, 0, 0, 0] ⟨rfl, rfl⟩ (by rfl) (by rfl)))
      · replace h := ifF c12 h
        cases h
        exact TL.nil (X.as (d := 45) (v' := .bool true) rfl (congrArg Value.bool (bn_t (decide_eq_false c12))) (X.jq [0, 0, 0, 0] ⟨rfl, rfl⟩ (by rfl) (by rfl)))
    · replace h := ifF c11 h
      refine TL.run ft_cursitortop_ok [0, 1, 2] rfl rfl ?_
      refine TL.no rfl (.gn rfl rfl (bn_t (decide_eq_false c11))) rfl ?_
      refine TL.no rfl (.gn rfl rfl (bn_t (decide_eq_false c11))) rfl ?_
      refine TL.no rfl (.gn rfl rfl (bn_t (decide_eq_false c11))) rfl ?_
      refine TL.no rfl (.gn rfl rfl (bn_t (decide_eq_false c11))) rfl ?_
      refine TL.q rfl .u (Ex.py rfl (bn_t (decide_eq_false c11)) rfl) rfl ?_
      cases h
      exact TL.nil (X.jq [0, 0, 0, 0] ⟨rfl, rfl⟩ (by rfl) (by rfl))
  · rintro _ _ ⟨rfl, rfl⟩
    clear h
    have h := hk10
    clear hk10
    try dsimp only at h
    by_cases c13 : y9 = true
    · replace h := ifT c13 h
      refine X.seq ?_
      refine T.yes rfl c13 ?_
      exact nomatch h
    · replace h := ifF c13 h
      replace c13 := eq_false_of_ne_true c13
      refine X.seq ?_
      refine T.no rfl c13 ?_
      refine T.skip (X.seq (T.seq (T.region rfl ?_)))
      obtain ⟨⟨x14, x17⟩, hx18, h⟩ := Option.bind_eq_some_iff.1 h
      try dsimp only at h
      refine TL.run ft_cursitortop_ok [0, 1] rfl rfl ?_
      refine TL.cge rfl .u (.fn Try.call53 rfl) (f_control_Record_spec a0.1 a0.2 _ hx18) (fun _ hs => (RX.reads_triv _ _)) rfl ?_
      rintro _ _ _ ⟨A15, c16, rfl, rfl, rfl⟩
      refine TL.sel [0, 0, 0, 0, 0] rfl ?_
      refine TL.run ft_cursitortop_ok [3, 4, 5] rfl rfl ?_
      refine TL.alloc rfl .u Try.zeroValue29 rfl (fun b19 => ?_)
      refine TL.st0 (cs' := #[.int .i64 x14.fTime, .int .i64 x14.fOffset, .bool x14.fKey.null, .string (bsOf x14.fKey.data), .bool x14.fValue.null, .string (bsOf x14.fValue.data), .slice A15 x14.fHeaders.length c16]) rfl .u rfl rfl Try.sizeOf29 rfl rfl rfl rfl ?_
      refine TL.run ft_cursitortop_ok [8] rfl rfl ?_
      refine TL.nil (X.seq (T.seq (T.seq ?_)))
      obtain ⟨y21, h, hk22⟩ := Option.bind_eq_some_iff.1 h
      refine T.jq (fun e Rs => e = [(1, .int .i64 a1), (2, .string (bsOf a2)), (6, .bool false), (7, .int .i64 a0.1), (8, .int .i64 a0.2), (11, .pointer (some ⟨b19, 0, none⟩)), (58, .bool y21)] ∧ Rs = [BlkR b19 29 #[.int .i64 x14.fTime, .int .i64 x14.fOffset, .bool x14.fKey.null, .string (bsOf x14.fKey.data), .bool x14.fValue.null, .string (bsOf x14.fValue.data), .slice A15 x14.fHeaders.length c16], RdR (sliceRd 3 Hd_rd) [.slice A15 x14.fHeaders.length c16] x14.fHeaders, BlkR b7 29 #[.int .i64 x2.fTime, .int .i64 x2.fOffset, .bool x2.fKey.null, .string (bsOf x2.fKey.data), .bool x2.fValue.null, .string (bsOf x2.fValue.data), .slice A3 x2.fHeaders.length c4], RdR (sliceRd 3 Hd_rd) [.slice A3 x2.fHeaders.length c4] x2.fHeaders, BlkR b1 88 #[.int .i64 a0.1, .int .i64 a0.2], EmpR]) ?_ ?_
      · clear hk22
        refine T.region rfl ?_
        by_cases c23 : x17 = 0
        · replace h := ifT c23 h
          refine TL.run ft_cursitortop_ok [0, 1, 2] rfl rfl ?_
          refine TL.q rfl (.g rfl rfl (bn_f (decide_eq_true c23))) (Ex.ft ft_cursitortop_ok rfl) rfl ?_
          refine TL.q rfl (.g rfl rfl (bn_f (decide_eq_true c23))) (Ex.lenB rfl Try.runUnderlying9) rfl ?_
          refine TL.q rfl (.g rfl rfl (bn_f (decide_eq_true c23))) (Ex.ft ft_cursitortop_ok rfl) rfl ?_
          refine TL.q rfl .u (Ex.pn rfl (bn_f (decide_eq_true c23)) rfl) rfl ?_
          by_cases c24 : (a2.length : Int) > 200
          · replace h := ifT c24 h
            cases h
            exact TL.nil (X.as (d := 58) (v' := .bool true) rfl (congrArg Value.bool (decide_eq_true c24)) (X.jq [0, 0, 0, 0, 0, 0] ⟨rfl, rfl⟩ (by rfl) (by rfl)))
          · replace h := ifF c24 h
            cases h
            exact TL.nil (X.as (d := 58) (v' := .bool false) rfl (congrArg Value.bool (decide_eq_false c24)) (X.jq [0, 0, 0, 0, 0, 0] ⟨rfl, rfl⟩ (by rfl) (by rfl)))
        · replace h := ifF c23 h
          refine TL.run ft_cursitortop_ok [0, 1, 2] rfl rfl ?_
          refine TL.no rfl (.gn rfl rfl (bn_t (decide_eq_false c23))) rfl ?_
          refine TL.no rfl (.gn rfl rfl (bn_t (decide_eq_false c23))) rfl ?_
          refine TL.no rfl (.gn rfl rfl (bn_t (decide_eq_false c23))) rfl ?_
          refine TL.q rfl .u (Ex.py rfl (bn_t (decide_eq_false c23)) rfl) rfl ?_
          cases h
          exact TL.nil (X.jq [0, 0, 0, 0, 0, 0] ⟨rfl, rfl⟩ (by rfl) (by rfl))
      · rintro _ _ ⟨rfl, rfl⟩
        clear h
        have h := hk22
        clear hk22
        try dsimp only at h
        by_cases c25 : y21 = true
        · replace h := ifT c25 h
          refine X.seq ?_
          refine T.yes rfl c25 ?_
          refine T.seq (T.region rfl ?_)
          refine TL.run ft_cursitortop_ok [0] rfl rfl ?_
          obtain rfl := Option.some.inj h
          exact TL.nil (X.seq (T.ret (X.rs (X.done1 [5] Try.results10 (RV.tm rfl) ⟨rfl, rfl, rfl⟩ (by rfl) (.inl rfl)))))
        · replace h := ifF c25 h
          replace c25 := eq_false_of_ne_true c25
          refine X.seq ?_
          refine T.no rfl c25 ?_
          refine T.skip (X.seq (T.seq (T.region rfl ?_)))
          refine TL.run ft_cursitortop_ok [0, 1] rfl rfl ?_
          refine TL.st0 (cs' := #[.int .i64 a1, .int .i64 x14.fOffset, .bool x14.fKey.null, .string (bsOf x14.fKey.data), .bool x14.fValue.null, .string (bsOf x14.fValue.data), .slice A15 x14.fHeaders.length c16]) rfl .u rfl rfl Try.sizeOf3 rfl rfl rfl rfl ?_
          refine TL.nil (X.seq (T.seq (T.region rfl ?_)))
          refine TL.q rfl .u (Ex.bS (us := [.int .i64 a1, .int .i64 x14.fOffset, .bool x14.fKey.null, .string (bsOf x14.fKey.data), .bool x14.fValue.null, .string (bsOf x14.fValue.data), .slice A15 x14.fHeaders.length c16]) 0 rfl Try.isAgg29 Try.sizeOf29 rfl rfl rfl) rfl ?_
          obtain ⟨⟨x26, x27⟩, hx28, h⟩ := Option.bind_eq_some_iff.1 h
          try dsimp only at h
          refine TL.ce rfl .u (.fn Try.call23 rfl) (f_record_Encode_spec (⟨a1, x14.fOffset, x14.fKey, x14.fValue, x14.fHeaders⟩ : Rec) _ _ _ hx28) (fun _ hs => (SrcE.res 1 hs rfl (fun w G h => rd_reads w G h))) rfl ?_
          refine TL.run ft_cursitortop_ok [2, 3, 4, 5, 6] rfl rfl ?_
          refine TL.nil (X.seq (T.seq (T.region rfl ?_)))
          obtain ⟨⟨x29, x32⟩, hx33, h⟩ := Option.bind_eq_some_iff.1 h
          try dsimp only at h
          refine TL.run ft_cursitortop_ok [0] rfl rfl ?_
          refine TL.cge rfl .u (.fn Try.call22 rfl) (f_record_Decode_spec x26 _ hx33) (fun _ hs => (RX.reads_triv _ _)) rfl ?_
          rintro _ _ _ ⟨A30, c31, rfl, rfl, rfl⟩
          refine TL.sel [0, 0, 0, 0, 0, 0, 0] rfl ?_
          refine TL.run ft_cursitortop_ok [2, 3, 4] rfl rfl ?_
          refine TL.alloc rfl .u Try.zeroValue29 rfl (fun b34 => ?_)
          refine TL.st0 (cs' := #[.int .i64 x29.fTime, .int .i64 x29.fOffset, .bool x29.fKey.null, .string (bsOf x29.fKey.data), .bool x29.fValue.null, .string (bsOf x29.fValue.data), .slice A30 x29.fHeaders.length c31]) rfl .u rfl rfl Try.sizeOf29 rfl rfl rfl rfl ?_
          refine TL.run ft_cursitortop_ok [7] rfl rfl ?_
          refine TL.nil (X.seq (T.seq (T.region rfl ?_)))
          refine TL.q rfl .u (Ex.bS (us := [.int .i64 x29.fTime, .int .i64 x29.fOffset, .bool x29.fKey.null, .string (bsOf x29.fKey.data), .bool x29.fValue.null, .string (bsOf x29.fValue.data), .slice A30 x29.fHeaders.length c31]) 0 rfl Try.isAgg29 Try.sizeOf29 rfl rfl rfl) rfl ?_
          obtain ⟨⟨x35, x36, x37⟩, hx38, h⟩ := Option.bind_eq_some_iff.1 h
          try dsimp only at h
          refine TL.ce rfl .u (.fn Try.call54 rfl) (f_control_Read_spec x29 _ _ _ hx38) (fun _ hs => (SrcE.res 1 hs rfl (fun w G h => rd_reads w G h))) rfl ?_
          refine TL.run ft_cursitortop_ok [2, 3, 4, 5, 6, 7, 8] rfl rfl ?_
          refine TL.nil (X.seq (T.seq (T.seq ?_)))
          obtain ⟨y44, h, hk45⟩ := Option.bind_eq_some_iff.1 h
          refine T.jq (fun e Rs => e = [(2, .string (bsOf a2)), (6, .bool false), (11, .pointer (some ⟨b19, 0, none⟩)), (15, .pointer (some ⟨b34, 0, none⟩)), (102, .bool y44)] ∧ Rs = [BlkR b34 29 #[.int .i64 x29.fTime, .int .i64 x29.fOffset, .bool x29.fKey.null, .string (bsOf x29.fKey.data), .bool x29.fValue.null, .string (bsOf x29.fValue.data), .slice A30 x29.fHeaders.length c31], RdR (sliceRd 3 Hd_rd) [.slice A30 x29.fHeaders.length c31] x29.fHeaders, BlkR b19 29 #[.int .i64 a1, .int .i64 x14.fOffset, .bool x14.fKey.null, .string (bsOf x14.fKey.data), .bool x14.fValue.null, .string (bsOf x14.fValue.data), .slice A15 x14.fHeaders.length c16], RdR (sliceRd 3 Hd_rd) [.slice A15 x14.fHeaders.length c16] x14.fHeaders, BlkR b7 29 #[.int .i64 x2.fTime, .int .i64 x2.fOffset, .bool x2.fKey.null, .string (bsOf x2.fKey.data), .bool x2.fValue.null, .string (bsOf x2.fValue.data), .slice A3 x2.fHeaders.length c4], RdR (sliceRd 3 Hd_rd) [.slice A3 x2.fHeaders.length c4] x2.fHeaders, BlkR b1 88 #[.int .i64 a0.1, .int .i64 a0.2], EmpR]) ?_ ?_
          · clear hk45
            refine T.region rfl ?_
            by_cases c46 : x27 = 0
            · replace h := ifT c46 h
              refine TL.run ft_cursitortop_ok [0, 1, 2] rfl rfl ?_
              refine TL.q rfl (.g rfl rfl (bn_f (decide_eq_true c46))) (Ex.ft ft_cursitortop_ok rfl) rfl ?_
              refine TL.q rfl (.g rfl rfl (bn_f (decide_eq_true c46))) (Ex.ft ft_cursitortop_ok rfl) rfl ?_
              refine TL.q rfl .u (Ex.pn rfl (bn_f (decide_eq_true c46)) rfl) rfl ?_
              by_cases c47 : x32 = 0
              · replace h := ifT c47 h
                refine TL.run ft_cursitortop_ok [6] rfl rfl ?_
                refine TL.q rfl (.g rfl rfl (bn_f (decide_eq_true c47))) (Ex.ft ft_cursitortop_ok rfl) rfl ?_
                refine TL.q rfl (.g rfl rfl (bn_f (decide_eq_true c47))) (Ex.ft ft_cursitortop_ok rfl) rfl ?_
                refine TL.q rfl .u (Ex.pn rfl (bn_f (decide_eq_true c47)) rfl) rfl ?_
                by_cases c48 : x37 = 0
                · replace h := ifT c48 h
                  refine TL.run ft_cursitortop_ok [10] rfl rfl ?_
                  refine TL.q rfl (.g rfl rfl (bn_f (decide_eq_true c48))) (Ex.ft ft_cursitortop_ok rfl) rfl ?_
                  refine TL.q rfl (.g rfl rfl (bn_f (decide_eq_true c48))) (Ex.ft ft_cursitortop_ok rfl) rfl ?_
                  refine TL.q rfl (.g rfl rfl (bn_f (decide_eq_true c48))) (Ex.ft ft_cursitortop_ok rfl) rfl ?_
                  refine TL.q rfl .u (Ex.pn rfl (bn_f (decide_eq_true c48)) rfl) rfl ?_
                  by_cases c49 : x35 = a0.1
                  · replace h := ifT c49 h
                    refine TL.run ft_cursitortop_ok [15] rfl rfl ?_
                    refine TL.q rfl (.g rfl rfl (bn_f (decide_eq_true c49))) (Ex.ft ft_cursitortop_ok rfl) rfl ?_
                    refine TL.q rfl (.g rfl rfl (bn_f (decide_eq_true c49))) (Ex.ft ft_cursitortop_ok rfl) rfl ?_
                    refine TL.q rfl (.g rfl rfl (bn_f (decide_eq_true c49))) (Ex.ft ft_cursitortop_ok rfl) rfl ?_
                    refine TL.q rfl .u (Ex.pn rfl (bn_f (decide_eq_true c49)) rfl) rfl ?_
                    by_cases c50 : x36 = a0.2
                    · replace h := ifT c50 h
                      refine TL.run ft_cursitortop_ok [20] rfl rfl ?_
                      refine TL.q rfl (.g rfl rfl (bn_f (decide_eq_true c50))) (Ex.ft ft_cursitortop_ok rfl) rfl ?_
                      refine TL.q rfl (.g rfl rfl (bn_f (decide_eq_true c50))) (Ex.b1 0 rfl Try.isAgg3 rfl rfl) rfl ?_
                      refine TL.q rfl (.g rfl rfl (bn_f (decide_eq_true c50))) (Ex.ft ft_cursitortop_ok rfl) rfl ?_
                      refine TL.q rfl (.g rfl rfl (bn_f (decide_eq_true c50))) (Ex.ft ft_cursitortop_ok rfl) rfl ?_
                      refine TL.q rfl .u (Ex.pn rfl (bn_f (decide_eq_true c50)) rfl) rfl ?_
                      by_cases c51 : x29.fTime = a1
                      · replace h := ifT c51 h
                        cases h
                        exact TL.nil (X.as (d := 102) (v' := .bool false) rfl (congrArg Value.bool (bn_f (decide_eq_true c51))) (X.jq [0, 0, 0, 0, 0, 0, 0, 0] ⟨rfl, rfl⟩ (by rfl) (by rfl)))
                      · replace h := ifF c51 h
                        cases h
                        exact TL.nil (X.as (d := 102) (v' := .bool true) rfl (congrArg Value.bool (bn_t (decide_eq_false c51))) (X.jq [0, 0, 0, 0, 0, 0, 0, 0] ⟨rfl, rfl⟩ (by rfl) (by rfl)))
                    · replace h := ifF c50 h
                      refine TL.run ft_cursitortop_ok [20] rfl rfl ?_
                      refine TL.no rfl (.gn rfl rfl (bn_t (decide_eq_false c50))) rfl ?_
                      refine TL.no rfl (.gn rfl rfl (bn_t (decide_eq_false c50))) rfl ?_
                      refine TL.no rfl (.gn rfl rfl (bn_t (decide_eq_false c50))) rfl ?_
                      refine TL.no rfl (.gn rfl rfl (bn_t (decide_eq_false c50))) rfl ?_
                      refine TL.q rfl .u (Ex.py rfl (bn_t (decide_eq_false c50)) rfl) rfl ?_
                      cases h
                      exact TL.nil (X.jq [0, 0, 0, 0, 0, 0, 0, 0] ⟨rfl, rfl⟩ (by rfl) (by rfl))
                  · replace h := ifF c49 h
                    refine TL.run ft_cursitortop_ok [15] rfl rfl ?_
                    refine TL.no rfl (.gn rfl rfl (bn_t (decide_eq_false c49))) rfl ?_
                    refine TL.no rfl (.gn rfl rfl (bn_t (decide_eq_false c49))) rfl ?_
                    refine TL.no rfl (.gn rfl rfl (bn_t (decide_eq_false c49))) rfl ?_
                    refine TL.q rfl .u (Ex.py rfl (bn_t (decide_eq_false c49)) rfl) rfl ?_
                    refine TL.run ft_cursitortop_ok [20] rfl rfl ?_
                    refine TL.no rfl (.gn rfl rfl rfl) rfl ?_
                    refine TL.no rfl (.gn rfl rfl rfl) rfl ?_
                    refine TL.no rfl (.gn rfl rfl rfl) rfl ?_
                    refine TL.no rfl (.gn rfl rfl rfl) rfl ?_
                    refine TL.q rfl .u (Ex.py rfl rfl rfl) rfl ?_
                    cases h
                    exact TL.nil (X.jq [0, 0, 0, 0, 0, 0, 0, 0] ⟨rfl, rfl⟩ (by rfl) (by rfl))
                · replace h := ifF c48 h
                  refine TL.run ft_cursitortop_ok [10] rfl rfl ?_
                  refine TL.no rfl (.gn rfl rfl (bn_t (decide_eq_false c48))) rfl ?_
                  refine TL.no rfl (.gn rfl rfl (bn_t (decide_eq_false c48))) rfl ?_
                  refine TL.no rfl (.gn rfl rfl (bn_t (decide_eq_false c48))) rfl ?_
                  refine TL.q rfl .u (Ex.py rfl (bn_t (decide_eq_false c48)) rfl) rfl ?_
                  refine TL.run ft_cursitortop_ok [15] rfl rfl ?_
                  refine TL.no rfl (.gn rfl rfl rfl) rfl ?_
                  refine TL.no rfl (.gn rfl rfl rfl) rfl ?_
                  refine TL.no rfl (.gn rfl rfl rfl) rfl ?_
                  refine TL.q rfl .u (Ex.py rfl rfl rfl) rfl ?_
                  refine TL.run ft_cursitortop_ok [20] rfl rfl ?_
                  refine TL.no rfl (.gn rfl rfl rfl) rfl ?_
                  refine TL.no rfl (.gn rfl rfl rfl) rfl ?_
                  refine TL.no rfl (.gn rfl rfl rfl) rfl ?_
                  refine TL.no rfl (.gn rfl rfl rfl) rfl ?_
                  refine TL.q rfl .u (Ex.py rfl rfl rfl) rfl ?_
                  cases h
                  exact TL.nil (X.jq [0, 0, 0, 0, 0, 0, 0, 0] ⟨rfl, rfl⟩ (by rfl) (by rfl))
              · replace h := ifF c47 h
                refine TL.run ft_cursitortop_ok [6] rfl rfl ?_
                refine TL.no rfl (.gn rfl rfl (bn_t (decide_eq_false c47))) rfl ?_
                refine TL.no rfl (.gn rfl rfl (bn_t (decide_eq_false c47))) rfl ?_
                refine TL.q rfl .u (Ex.py rfl (bn_t (decide_eq_false c47)) rfl) rfl ?_
                refine TL.run ft_cursitortop_ok [10] rfl rfl ?_
                refine TL.no rfl (.gn rfl rfl rfl) rfl ?_
                refine TL.no rfl (.gn rfl rfl rfl) rfl ?_
                refine TL.no rfl (.gn rfl rfl rfl) rfl ?_
                refine TL.q rfl .u (Ex.py rfl rfl rfl) rfl ?_
                refine TL.run ft_cursitortop_ok [15] rfl rfl ?_
                refine TL.no rfl (.gn rfl rfl rfl) rfl ?_
                refine TL.no rfl (.gn rfl rfl rfl) rfl ?_
                refine TL.no rfl (.gn rfl rfl rfl) rfl ?_
                refine TL.q rfl .u (Ex.py rfl rfl rfl) rfl ?_
                refine TL.run ft_cursitortop_ok [20] rfl rfl ?_
                refine TL.no rfl (.gn rfl rfl rfl) rfl ?_
                refine TL.no rfl (.gn rfl rfl rfl) rfl ?_
                refine TL.no rfl (.gn rfl rfl rfl) rfl ?_
                refine TL.no rfl (.gn rfl rfl rfl) rfl ?_
                refine TL.q rfl .u (Ex.py rfl rfl rfl) rfl ?_
                cases h
                exact TL.nil (X.jq [0, 0, 0, 0, 0, 0, 0, 0] ⟨rfl, rfl⟩ (by rfl) (by rfl))
            · replace h := ifF c46 h
              refine TL.run ft_cursitortop_ok [0, 1, 2] rfl rfl ?_
              refine TL.no rfl (.gn rfl rfl (bn_t (decide_eq_false c46))) rfl ?_
              refine TL.no rfl (.gn rfl rfl (bn_t (decide_eq_false c46))) rfl ?_
              refine TL.q rfl .u (Ex.py rfl (bn_t (decide_eq_false c46)) rfl) rfl ?_
              refine TL.run ft_cursitortop_ok [6] rfl rfl ?_
              refine TL.no rfl (.gn rfl rfl rfl) rfl ?_
              refine TL.no rfl (.gn rfl rfl rfl) rfl ?_
              refine TL.q rfl .u (Ex.py rfl rfl rfl) rfl ?_
              refine TL.run ft_cursitortop_ok [10] rfl rfl ?_
              refine TL.no rfl (.gn rfl rfl rfl) rfl ?_
              refine TL.no rfl (.gn rfl rfl rfl) rfl ?_
              refine TL.no rfl (.gn rfl rfl rfl) rfl ?_
              refine TL.q rfl .u (Ex.py rfl rfl rfl) rfl ?_
              refine TL.run ft_cursitortop_ok [15] rfl rfl ?_
              refine TL.no rfl (.gn rfl rfl rfl) rfl ?_
              refine TL.no rfl (.gn rfl rfl rfl) rfl ?_
              refine TL.no rfl (.gn rfl rfl rfl) rfl ?_
              refine TL.q rfl .u (Ex.py rfl rfl rfl) rfl ?_
              refine TL.run ft_cursitortop_ok [20] rfl rfl ?_
              refine TL.no rfl (.gn rfl rfl rfl) rfl ?_
              refine TL.no rfl (.gn rfl rfl rfl) rfl ?_
              refine TL.no rfl (.gn rfl rfl rfl) rfl ?_
              refine TL.no rfl (.gn rfl rfl rfl) rfl ?_
              refine TL.q rfl .u (Ex.py rfl rfl rfl) rfl ?_
              cases h
              exact TL.nil (X.jq [0, 0, 0, 0, 0, 0, 0, 0] ⟨rfl, rfl⟩ (by rfl) (by rfl))
          · rintro _ _ ⟨rfl, rfl⟩
            clear h
            have h := hk45
            clear hk45
            try dsimp only at h
            by_cases c52 : y44 = true
            · replace h := ifT c52 h
              refine X.seq ?_
              refine T.yes rfl c52 ?_
              exact nomatch h
            · replace h := ifF c52 h
              replace c52 := eq_false_of_ne_true c52
              refine X.seq ?_
              refine T.no rfl c52 ?_
              refine T.skip (X.seq (T.seq (T.region rfl ?_)))
              refine TL.run ft_cursitortop_ok [0] rfl rfl ?_
              refine TL.q rfl .u (Ex.bld (cells := #[.string (bsOf a2), .bool false, .string ⟨#[]⟩]) bok_cursitortop_93 rfl (by kernel_rfl)) rfl ?_
              refine TL.lit (cells := #[.string (bsOf a2), .bool false, .string ⟨#[]⟩]) rfl .u sok_cursitortop_27_1 rfl (by rfl) rfl (fun b53 => ?_)
              refine TL.rowOf (us := [.string (bsOf a2), .bool false, .string ⟨#[]⟩]) (xs := [(⟨a2, (⟨false, []⟩ : Bl)⟩ : Hd)]) (E := Hd_rd) (z := 3) rfl (Nat.le_of_ble_eq_true rfl) (fun _ => ⟨rfl, rfl, rfl⟩) ?_
              refine TL.run ft_cursitortop_ok [3] rfl rfl ?_
              refine TL.st1 (cs' := #[.int .i64 x29.fTime, .int .i64 x29.fOffset, .bool x29.fKey.null, .string (bsOf x29.fKey.data), .bool x29.fValue.null, .string (bsOf x29.fValue.data), .slice (some ⟨b53, 0, none⟩) 1 1]) rfl .u rfl rfl Try.sizeOf27 rfl rfl rfl rfl ?_
              refine TL.nil (X.seq (T.seq (T.region rfl ?_)))
              refine TL.q rfl .u (Ex.bS (us := [.int .i64 x29.fTime, .int .i64 x29.fOffset, .bool x29.fKey.null, .string (bsOf x29.fKey.data), .bool x29.fValue.null, .string (bsOf x29.fValue.data), .slice (some ⟨b53, 0, none⟩) 1 1]) 1 rfl Try.isAgg29 Try.sizeOf29 rfl rfl rfl) rfl ?_
              obtain ⟨⟨x54, x55⟩, hx56, h⟩ := Option.bind_eq_some_iff.1 h
              try dsimp only at h
              refine TL.ce rfl .u (.fn Try.call23 rfl) (f_record_Encode_spec (⟨x29.fTime, x29.fOffset, x29.fKey, x29.fValue, [(⟨a2, (⟨false, []⟩ : Bl)⟩ : Hd)]⟩ : Rec) _ _ _ hx56) (fun _ hs => (SrcE.res 0 hs rfl (fun w G h => own_reads (by decide) w G h))) rfl ?_
              refine TL.run ft_cursitortop_ok [2, 3, 4, 5, 6] rfl rfl ?_
              refine TL.nil (X.seq (T.seq (T.region rfl ?_)))
              obtain ⟨⟨x57, x60⟩, hx61, h⟩ := Option.bind_eq_some_iff.1 h
              try dsimp only at h
              refine TL.run ft_cursitortop_ok [0] rfl rfl ?_
              refine TL.cge rfl .u (.fn Try.call22 rfl) (f_record_Decode_spec x54 _ hx61) (fun _ hs => (RX.reads_triv _ _)) rfl ?_
              rintro _ _ _ ⟨A58, c59, rfl, rfl, rfl⟩
              refine TL.sel [0, 0, 0, 0, 0, 0, 0, 0, 0, 0] rfl ?_
              refine TL.run ft_cursitortop_ok [2, 3, 4] rfl rfl ?_
              refine TL.alloc rfl .u Try.zeroValue29 rfl (fun b62 => ?_)
              refine TL.st0 (cs' := #[.int .i64 x57.fTime, .int .i64 x57.fOffset, .bool x57.fKey.null, .string (bsOf x57.fKey.data), .bool x57.fValue.null, .string (bsOf x57.fValue.data), .slice A58 x57.fHeaders.length c59]) rfl .u rfl rfl Try.sizeOf29 rfl rfl rfl rfl ?_
              refine TL.run ft_cursitortop_ok [7] rfl rfl ?_
              refine TL.nil (X.seq (T.seq (T.region rfl ?_)))
              refine TL.q rfl .u (Ex.bS (us := [.int .i64 x57.fTime, .int .i64 x57.fOffset, .bool x57.fKey.null, .string (bsOf x57.fKey.data), .bool x57.fValue.null, .string (bsOf x57.fValue.data), .slice A58 x57.fHeaders.length c59]) 0 rfl Try.isAgg29 Try.sizeOf29 rfl rfl rfl) rfl ?_
              obtain ⟨⟨x63, x64, x65⟩, hx66, h⟩ := Option.bind_eq_some_iff.1 h
              try dsimp only at h
              refine TL.ce rfl .u (.fn Try.call54 rfl) (f_control_Read_spec x57 _ _ _ hx66) (fun _ hs => (SrcE.res 1 hs rfl (fun w G h => rd_reads w G h))) rfl ?_
              refine TL.run ft_cursitortop_ok [2, 3, 4, 5, 6, 7, 8] rfl rfl ?_
              refine TL.nil (X.seq (T.seq (T.region rfl ?_)))
              refine TL.run ft_cursitortop_ok [0, 1, 2] rfl rfl ?_
              refine TL.st5 (cs' := #[.int .i64 a1, .int .i64 x14.fOffset, .bool x14.fKey.null, .string (bsOf a2), .bool x14.fValue.null, .string (bsOf x14.fValue.data), .slice A15 x14.fHeaders.length c16]) rfl .u rfl rfl Try.sizeOf9 rfl rfl rfl rfl ?_
              refine TL.nil (X.seq (T.seq (T.region rfl ?_)))
              refine TL.q rfl .u (Ex.bS (us := [.int .i64 a1, .int .i64 x14.fOffset, .bool x14.fKey.null, .string (bsOf a2), .bool x14.fValue.null, .string (bsOf x14.fValue.data), .slice A15 x14.fHeaders.length c16]) 5 rfl Try.isAgg29 Try.sizeOf29 rfl rfl rfl) rfl ?_
              obtain ⟨⟨x67, x68, x69⟩, hx70, h⟩ := Option.bind_eq_some_iff.1 h
              try dsimp only at h
              refine TL.ce rfl .u (.fn Try.call54 rfl) (f_control_Read_spec (⟨a1, x14.fOffset, (⟨x14.fKey.null, a2⟩ : Bl), x14.fValue, x14.fHeaders⟩ : Rec) _ _ _ hx70) (fun _ hs => (SrcE.res 6 hs rfl (fun w G h => rd_reads w G h))) rfl ?_
              refine TL.run ft_cursitortop_ok [2, 3, 4, 5, 6, 7, 8] rfl rfl ?_
              refine TL.nil (X.seq (T.seq ?_))
              obtain ⟨y79, h, hk80⟩ := Option.bind_eq_some_iff.1 h
              refine T.jq (fun e Rs => e = [(6, .bool y79)] ∧ Rs = [BlkR b62 29 #[.int .i64 x57.fTime, .int .i64 x57.fOffset, .bool x57.fKey.null, .string (bsOf x57.fKey.data), .bool x57.fValue.null, .string (bsOf x57.fValue.data), .slice A58 x57.fHeaders.length c59], RdR (sliceRd 3 Hd_rd) [.slice A58 x57.fHeaders.length c59] x57.fHeaders, OwnR 93 3 Hd_rd (.slice (some ⟨b53, 0, none⟩) 1 1) [(⟨a2, (⟨false, []⟩ : Bl)⟩ : Hd)], BlkR b34 29 #[.int .i64 x29.fTime, .int .i64 x29.fOffset, .bool x29.fKey.null, .string (bsOf x29.fKey.data), .bool x29.fValue.null, .string (bsOf x29.fValue.data), .slice (some ⟨b53, 0, none⟩) 1 1], RdR (sliceRd 3 Hd_rd) [.slice A30 x29.fHeaders.length c31] x29.fHeaders, BlkR b19 29 #[.int .i64 a1, .int .i64 x14.fOffset, .bool x14.fKey.null, .string (bsOf a2), .bool x14.fValue.null, .string (bsOf x14.fValue.data), .slice A15 x14.fHeaders.length c16], RdR (sliceRd 3 Hd_rd) [.slice A15 x14.fHeaders.length c16] x14.fHeaders, BlkR b7 29 #[.int .i64 x2.fTime, .int .i64 x2.fOffset, .bool x2.fKey.null, .string (bsOf x2.fKey.data), .bool x2.fValue.null, .string (bsOf x2.fValue.data), .slice A3 x2.fHeaders.length c4], RdR (sliceRd 3 Hd_rd) [.slice A3 x2.fHeaders.length c4] x2.fHeaders, BlkR b1 88 #[.int .i64 a0.1, .int .i64 a0.2], EmpR]) ?_ ?_
              · clear hk80
                refine T.region rfl ?_
                by_cases c81 : x55 = 0
                · replace h := ifT c81 h
                  refine TL.run ft_cursitortop_ok [0, 1, 2] rfl rfl ?_
                  refine TL.q rfl (.g rfl rfl (decide_eq_true c81)) (Ex.ft ft_cursitortop_ok rfl) rfl ?_
                  refine TL.q rfl (.g rfl rfl (decide_eq_true c81)) (Ex.ft ft_cursitortop_ok rfl) rfl ?_
                  refine TL.q rfl .u (Ex.py rfl (decide_eq_true c81) rfl) rfl ?_
                  by_cases c82 : x60 = 0
                  · replace h := ifT c82 h
                    refine TL.run ft_cursitortop_ok [6] rfl rfl ?_
                    refine TL.q rfl (.g rfl rfl (decide_eq_true c82)) (Ex.ft ft_cursitortop_ok rfl) rfl ?_
                    refine TL.q rfl (.g rfl rfl (decide_eq_true c82)) (Ex.ft ft_cursitortop_ok rfl) rfl ?_
                    refine TL.q rfl .u (Ex.py rfl (decide_eq_true c82) rfl) rfl ?_
                    by_cases c83 : x65 = 12
                    · replace h := ifT c83 h
                      refine TL.run ft_cursitortop_ok [10] rfl rfl ?_
                      refine TL.q rfl (.g rfl rfl (decide_eq_true c83)) (Ex.ft ft_cursitortop_ok rfl) rfl ?_
                      refine TL.q rfl (.g rfl rfl (decide_eq_true c83)) (Ex.ft ft_cursitortop_ok rfl) rfl ?_
                      refine TL.q rfl (.g rfl rfl (decide_eq_true c83)) (Ex.ft ft_cursitortop_ok rfl) rfl ?_
                      refine TL.q rfl (.g rfl rfl (decide_eq_true c83)) (Ex.sEq rfl (m := [0, 0, 0, 0]) rfl) rfl ?_
                      refine TL.q rfl (.g rfl rfl (decide_eq_true c83)) (Ex.ft ft_cursitortop_ok rfl) rfl ?_
                      by_cases c84 : a2 = [0, 0, 0, 0]
                      · replace h := ifT c84 h
                        refine TL.no rfl (.gn rfl rfl (decide_eq_true c84)) rfl ?_
                        refine TL.no rfl (.gn rfl rfl (decide_eq_true c84)) rfl ?_
                        refine TL.q rfl (.g rfl rfl (decide_eq_true c83)) (Ex.py rfl (decide_eq_true c84) rfl) rfl ?_
                        by_cases c85 : x69 = 0
                        · replace h := ifT c85 h
                          refine TL.q rfl (.g rfl rfl (decide_eq_true c83)) (Ex.bEq rfl (decide_eq_true c85) rfl rfl Try.runUnderlying4) rfl ?_
                          refine TL.q rfl .u (Ex.py rfl (decide_eq_true c83) rfl) rfl ?_
                          refine TL.run ft_cursitortop_ok [21] rfl rfl ?_
                          cases h
                          exact TL.nil (X.jq [0, 0, 0, 0, 0, 0, 0, 0, 0, 0, 0] ⟨rfl, rfl⟩ (by rfl) (by rfl))
                        · replace h := ifF c85 h
                          refine TL.q rfl (.g rfl rfl (decide_eq_true c83)) (Ex.bEq rfl (decide_eq_false c85) rfl rfl Try.runUnderlying4) rfl ?_
                          refine TL.q rfl .u (Ex.py rfl (decide_eq_true c83) rfl) rfl ?_
                          refine TL.run ft_cursitortop_ok [21] rfl rfl ?_
                          cases h
                          exact TL.nil (X.jq [0, 0, 0, 0, 0, 0, 0, 0, 0, 0, 0] ⟨rfl, rfl⟩ (by rfl) (by rfl))
                      · replace h := ifF c84 h
                        refine TL.q rfl (.g rfl rfl (decide_eq_false c84)) (Ex.ft ft_cursitortop_ok rfl) rfl ?_
                        refine TL.q rfl (.g rfl rfl (decide_eq_false c84)) (Ex.sEq rfl (m := [0, 0, 0, 1]) rfl) rfl ?_
                        refine TL.q rfl (.g rfl rfl (decide_eq_true c83)) (Ex.pn rfl (decide_eq_false c84) rfl) rfl ?_
                        by_cases c86 : x69 = 0
                        · replace h := ifT c86 h
                          by_cases c87 : a2 = [0, 0, 0, 1]
                          · replace h := ifT c87 h
                            refine TL.q rfl (.g rfl rfl (decide_eq_true c83)) (Ex.bEq rfl (decide_eq_true c86) rfl (decide_eq_true c87) Try.runUnderlying4) rfl ?_
                            refine TL.q rfl .u (Ex.py rfl (decide_eq_true c83) rfl) rfl ?_
                            refine TL.run ft_cursitortop_ok [21] rfl rfl ?_
                            cases h
                            exact TL.nil (X.jq [0, 0, 0, 0, 0, 0, 0, 0, 0, 0, 0] ⟨rfl, rfl⟩ (by rfl) (by rfl))
                          · replace h := ifF c87 h
                            refine TL.q rfl (.g rfl rfl (decide_eq_true c83)) (Ex.bEq rfl (decide_eq_true c86) rfl (decide_eq_false c87) Try.runUnderlying4) rfl ?_
                            refine TL.q rfl .u (Ex.py rfl (decide_eq_true c83) rfl) rfl ?_
                            refine TL.run ft_cursitortop_ok [21] rfl rfl ?_
                            cases h
                            exact TL.nil (X.jq [0, 0, 0, 0, 0, 0, 0, 0, 0, 0, 0] ⟨rfl, rfl⟩ (by rfl) (by rfl))
                        · replace h := ifF c86 h
                          by_cases c88 : a2 = [0, 0, 0, 1]
                          · replace h := ifT c88 h
                            refine TL.q rfl (.g rfl rfl (decide_eq_true c83)) (Ex.bEq rfl (decide_eq_false c86) rfl (decide_eq_true c88) Try.runUnderlying4) rfl ?_
                            refine TL.q rfl .u (Ex.py rfl (decide_eq_true c83) rfl) rfl ?_
                            refine TL.run ft_cursitortop_ok [21] rfl rfl ?_
                            cases h
                            exact TL.nil (X.jq [0, 0, 0, 0, 0, 0, 0, 0, 0, 0, 0] ⟨rfl, rfl⟩ (by rfl) (by rfl))
                          · replace h := ifF c88 h
                            refine TL.q rfl (.g rfl rfl (decide_eq_true c83)) (Ex.bEq rfl (decide_eq_false c86) rfl (decide_eq_false c88) Try.runUnderlying4) rfl ?_
                            refine TL.q rfl .u (Ex.py rfl (decide_eq_true c83) rfl) rfl ?_
                            refine TL.run ft_cursitortop_ok [21] rfl rfl ?_
                            cases h
                            exact TL.nil (X.jq [0, 0, 0, 0, 0, 0, 0, 0, 0, 0, 0] ⟨rfl, rfl⟩ (by rfl) (by rfl))
                    · replace h := ifF c83 h
                      refine TL.run ft_cursitortop_ok [10] rfl rfl ?_
                      refine TL.no rfl (.gn rfl rfl (decide_eq_false c83)) rfl ?_
                      refine TL.no rfl (.gn rfl rfl (decide_eq_false c83)) rfl ?_
                      refine TL.no rfl (.gn rfl rfl (decide_eq_false c83)) rfl ?_
                      refine TL.no rfl (.gn rfl rfl (decide_eq_false c83)) rfl ?_
                      refine TL.no rfl (.gn rfl rfl (decide_eq_false c83)) rfl ?_
                      refine TL.no rfl (.gu rfl rfl) rfl ?_
                      refine TL.no rfl (.gu rfl rfl) rfl ?_
                      refine TL.no rfl (.gn rfl rfl (decide_eq_false c83)) rfl ?_
                      refine TL.no rfl (.gn rfl rfl (decide_eq_false c83)) rfl ?_
                      refine TL.q rfl .u (Ex.pn rfl (decide_eq_false c83) rfl) rfl ?_
                      refine TL.run ft_cursitortop_ok [21] rfl rfl ?_
                      cases h
                      exact TL.nil (X.jq [0, 0, 0, 0, 0, 0, 0, 0, 0, 0, 0] ⟨rfl, rfl⟩ (by rfl) (by rfl))
                  · replace h := ifF c82 h
                    refine TL.run ft_cursitortop_ok [6] rfl rfl ?_
                    refine TL.no rfl (.gn rfl rfl (decide_eq_false c82)) rfl ?_
                    refine TL.no rfl (.gn rfl rfl (decide_eq_false c82)) rfl ?_
                    refine TL.q rfl .u (Ex.pn rfl (decide_eq_false c82) rfl) rfl ?_
                    refine TL.run ft_cursitortop_ok [10] rfl rfl ?_
                    refine TL.no rfl (.gn rfl rfl rfl) rfl ?_
                    refine TL.no rfl (.gn rfl rfl rfl) rfl ?_
                    refine TL.no rfl (.gn rfl rfl rfl) rfl ?_
                    refine TL.no rfl (.gn rfl rfl rfl) rfl ?_
                    refine TL.no rfl (.gn rfl rfl rfl) rfl ?_
                    refine TL.no rfl (.gu rfl rfl) rfl ?_
                    refine TL.no rfl (.gu rfl rfl) rfl ?_
                    refine TL.no rfl (.gn rfl rfl rfl) rfl ?_
                    refine TL.no rfl (.gn rfl rfl rfl) rfl ?_
                    refine TL.q rfl .u (Ex.pn rfl rfl rfl) rfl ?_
                    refine TL.run ft_cursitortop_ok [21] rfl rfl ?_
                    cases h
                    exact TL.nil (X.jq [0, 0, 0, 0, 0, 0, 0, 0, 0, 0, 0] ⟨rfl, rfl⟩ (by rfl) (by rfl))
                · replace h := ifF c81 h
                  refine TL.run ft_cursitortop_ok [0, 1, 2] rfl rfl ?_
                  refine TL.no rfl (.gn rfl rfl (decide_eq_false c81)) rfl ?_
                  refine TL.no rfl (.gn rfl rfl (decide_eq_false c81)) rfl ?_
                  refine TL.q rfl .u (Ex.pn rfl (decide_eq_false c81) rfl) rfl ?_
                  refine TL.run ft_cursitortop_ok [6] rfl rfl ?_
                  refine TL.no rfl (.gn rfl rfl rfl) rfl ?_
                  refine TL.no rfl (.gn rfl rfl rfl) rfl ?_
                  refine TL.q rfl .u (Ex.pn rfl rfl rfl) rfl ?_
                  refine TL.run ft_cursitortop_ok [10] rfl rfl ?_
                  refine TL.no rfl (.gn rfl rfl rfl) rfl ?_
                  refine TL.no rfl (.gn rfl rfl rfl) rfl ?_
                  refine TL.no rfl (.gn rfl rfl rfl) rfl ?_
                  refine TL.no rfl (.gn rfl rfl rfl) rfl ?_
                  refine TL.no rfl (.gn rfl rfl rfl) rfl ?_
                  refine TL.no rfl (.gu rfl rfl) rfl ?_
                  refine TL.no rfl (.gu rfl rfl) rfl ?_
                  refine TL.no rfl (.gn rfl rfl rfl) rfl ?_
                  refine TL.no rfl (.gn rfl rfl rfl) rfl ?_
                  refine TL.q rfl .u (Ex.pn rfl rfl rfl) rfl ?_
                  refine TL.run ft_cursitortop_ok [21] rfl rfl ?_
                  cases h
                  exact TL.nil (X.jq [0, 0, 0, 0, 0, 0, 0, 0, 0, 0, 0] ⟨rfl, rfl⟩ (by rfl) (by rfl))
              · rintro _ _ ⟨rfl, rfl⟩
                clear h
                have h := hk80
                clear hk80
                try dsimp only at h
                obtain rfl := Option.some.inj h
                exact X.seq (T.ret (X.done1 [10] Try.results10 (RV.tm rfl) ⟨rfl, rfl, rfl⟩ (by rfl) (.inl rfl)))
end Go.Proofs.Ytagbblaegdedpaa.Sl
namespace Go.Proofs.Ytagbblaegdedpaa.Sl
open Go.RowKit
set_option linter.unusedVariables false
set_option linter.unusedSimpArgs false
theorem be2_of {l : List UInt8} {n : Int} (hl : l.length = 2) (h : beInt l = n) : l = be n 2 := by
  have := c_be_beInt l (fun h0 => by rw [h0] at hl; exact absurd hl (by decide))
  rw [hl, h] at this
  exact this.symm
theorem key_iff (l : List UInt8) (hl : l.length ≤ 1000) : ∃ x e, f_control_ReadKey l = some (x, e) ∧ (e = 0 ↔ l = [0, 0, 0, 0] ∨ l = [0, 0, 0, 1]) := by
  have hno : l.length ≠ 4 → ¬ (l = [0, 0, 0, 0] ∨ l = [0, 0, 0, 1]) := by
    rintro h (rfl | rfl) <;> exact h rfl
  rw [read_key l (by omega)]
  unfold f_r08_ReadKey
  by_cases h2 : (l.length : Int) < 2
  · rw [if_pos h2]
    exact ⟨0, 1, rfl, fun h => absurd h (by decide), fun h => absurd h (hno (by omega))⟩
  rw [if_neg h2, if_pos (by omega), gRInt_eq _ (by rw [List.length_take]; omega), Option.bind_some]
  by_cases h7 : beInt (l.take 2) = 0
  case neg =>
    rw [if_neg h7]
    refine ⟨0, 7, rfl, fun h => absurd h (by decide), ?_⟩
    rintro (rfl | rfl) <;> exact absurd (by decide) h7
  rw [if_pos h7]
  by_cases h4 : (l.length : Int) < 4
  · rw [if_pos h4]
    exact ⟨0, 1, rfl, fun h => absurd h (by decide), fun h => absurd h (hno (by omega))⟩
  rw [if_neg h4, if_pos (by omega), gRInt_eq _ (by rw [List.length_take]; omega), Option.bind_some]
  have e1 : l.take 2 = be 0 2 := be2_of (by rw [List.length_take]; omega) h7
  have hs : l.length = 4 → l = be 0 2 ++ (l.drop 2).take 2 := by
    intro h
    rw [← e1, List.take_of_length_le (l := l.drop 2) (by rw [List.length_drop]; omega), List.take_append_drop]
  have l2 : ((l.drop 2).take 2).length = 2 := by rw [List.length_take, List.length_drop]; omega
  have fin : ∀ k : Int, beInt ((l.drop 2).take 2) = k → (k = 0 ∨ k = 1) → ∃ x e, (if (l.length : Int) > 4 then some ((0 : Int), (2 : Int)) else some (k, 0)) = some (x, e) ∧ (e = 0 ↔ l = [0, 0, 0, 0] ∨ l = [0, 0, 0, 1]) := by
    intro k hk hkk
    by_cases h5 : (l.length : Int) > 4
    · rw [if_pos h5]
      exact ⟨0, 2, rfl, fun h => absurd h (by decide), fun h => absurd h (hno (by omega))⟩
    · rw [if_neg h5]
      refine ⟨k, 0, rfl, fun _ => ?_, fun _ => rfl⟩
      have := hs (by omega)
      rw [be2_of l2 hk] at this
      rcases hkk with rfl | rfl
      · exact .inl (this.trans (by decide))
      · exact .inr (this.trans (by decide))
  by_cases k0 : beInt ((l.drop 2).take 2) = 0
  · rw [if_pos k0]
    exact fin _ rfl (.inl k0)
  rw [if_neg k0]
  by_cases k1 : beInt ((l.drop 2).take 2) = 1
  · rw [if_pos k1]
    exact fin _ rfl (.inr k1)
  rw [if_neg k1]
  refine ⟨0, 12, rfl, fun h => absurd h (by decide), ?_⟩
  rintro (rfl | rfl)
  · exact absurd (by decide) k0
  · exact absurd (by decide) k1
theorem ctl17 : f_control_Record 1 7 = some (⟨0, 0, ⟨false, [0, 0, 0, 1]⟩, ⟨false, [0, 0, 0, 0, 0, 7]⟩, []⟩, 0) := by kernel_rfl
theorem ctl_record (k n : Int) (hn : wI n) : (∃ r e, f_control_Record k n = some (r, e) ∧ e ≠ 0) ∨ ((k = 0 ∨ k = 1) ∧ 0 ≤ n ∧ fits n 4 = true ∧ f_control_Record k n = some (⟨0, 0, ⟨false, [0, 0] ++ be k 2⟩, ⟨false, [0, 0] ++ be n 4⟩, []⟩, 0)) := by
  unfold f_control_Record
  by_cases hk : k = 0 ∨ k = 1
  · rw [ckey_one k hk, Option.bind_some]
    simp only [if_true]
    by_cases hb : 0 ≤ n ∧ fits n 4 = true
    · rw [cval_ok n hb.1 hn.2 hb.2, Option.bind_some]
      simp only [if_true]
      exact .inr ⟨hk, hb.1, hb.2, rfl⟩
    · rw [cval_none n hn.2 (by
        rcases Int.lt_or_le n 0 with h | h
        · exact .inl h
        · refine .inr ?_
          cases hf : fits n 4 with
          | false => rfl
          | true => exact absurd ⟨h, hf⟩ hb), Option.bind_some]
      exact .inl ⟨_, 11, rfl, by decide⟩
  · rw [ckey_none k (fun h => hk (.inl h)) (fun h => hk (.inr h)), Option.bind_some]
    exact .inl ⟨_, 12, rfl, by decide⟩
theorem pure_WholeEnds (a0 : Int × Int) (a1 : Int) (a2 : List UInt8) (w0 : (fun a : Int × Int => wI a.1 ∧ wI a.2) a0) (w1 : -9223372036854775808 ≤ a1 ∧ a1 ≤ 9223372036854775807) (w2 : a2.length ≤ 140737488351232) : f_top_WholeEnds a0 a1 a2 = some true := by
  obtain ⟨k, n⟩ := a0
  have w00 : wI 0 := ⟨by decide, by decide⟩
  unfold f_top_WholeEnds
  rw [ctl17, Option.bind_some]
  simp only [if_true]
  rw [Option.bind_some, if_neg (by decide)]
  rcases ctl_record k n w0.2 with ⟨r, e, hr, he⟩ | ⟨hk, hn, hf, hr⟩
  · rw [hr, Option.bind_some]
    simp only
    rw [if_neg he]
    rfl
  rw [hr, Option.bind_some]
  simp only [if_true]
  by_cases hl : (a2.length : Int) > 200
  · rw [if_pos hl]
    rfl
  have lk : ([0, 0] ++ be k 2).length = 4 := by simp [be_length]
  have ln : ([0, 0] ++ be n 4).length = 6 := by simp [be_length]
  have rdk := rd_key k hk
  have rdn := rd_val n hn w0.2.2 hf
  generalize hK : [0, 0] ++ be k 2 = K at lk rdk ⊢
  generalize hV : [0, 0] ++ be n 4 = V at ln rdn ⊢
  rw [if_neg hl, Option.bind_some, if_neg (by decide)]
  have hr0 : ∀ l : List Hd, (∀ h, h ∈ l → bright h.fValue = true) → rightR ⟨a1, 0, ⟨false, K⟩, ⟨false, V⟩, l⟩ = 0 := by
    intro l hh
    unfold rightR
    have : brAll l = true := List.all_eq_true.2 hh
    rw [if_neg (by simp only; omega), this]
    rfl
  have e1 := rec_encode ⟨a1, 0, ⟨false, K⟩, ⟨false, V⟩, []⟩ w1 w00 (by unfold rwt; simp only [lk, ln, hwts]; omega)
  have d1 := rec_decode ⟨a1, 0, ⟨false, K⟩, ⟨false, V⟩, []⟩ w1 w00 (hr0 [] (fun h hh => nomatch hh)) (by unfold rwt; simp only [lk, ln, hwts]; omega)
  rw [if_pos (hr0 [] (fun h hh => nomatch hh))] at e1
  rw [e1, Option.bind_some]
  simp only
  rw [d1, Option.bind_some]
  have c1 : f_control_Read ⟨a1, 0, ⟨false, K⟩, ⟨false, V⟩, []⟩ = some (k, n, 0) := by
    unfold f_control_Read
    dsimp only
    rw [if_neg (by decide), if_neg (by decide), if_neg (by simp), if_pos rfl, rdk, Option.bind_some]
    simp only [if_true]
    rw [rdn]
    rfl
  rw [c1, Option.bind_some]
  simp only [if_true]
  rw [Option.bind_some, if_neg (by decide)]
  have hw2 : rwt ⟨a1, 0, ⟨false, K⟩, ⟨false, V⟩, [⟨a2, ⟨false, []⟩⟩]⟩ ≤ 900000 := by
    unfold rwt
    simp only [lk, ln, hwts, hwt, List.length_nil]
    omega
  have hrr := hr0 [⟨a2, ⟨false, []⟩⟩] (fun h hh => by rw [List.mem_singleton.1 hh]; rfl)
  have e2 := rec_encode ⟨a1, 0, ⟨false, K⟩, ⟨false, V⟩, [⟨a2, ⟨false, []⟩⟩]⟩ w1 w00 hw2
  have d2 := rec_decode ⟨a1, 0, ⟨false, K⟩, ⟨false, V⟩, [⟨a2, ⟨false, []⟩⟩]⟩ w1 w00 hrr hw2
  rw [if_pos hrr] at e2
  rw [e2, Option.bind_some]
  simp only
  rw [d2, Option.bind_some]
  have c2 : f_control_Read ⟨a1, 0, ⟨false, K⟩, ⟨false, V⟩, [⟨a2, ⟨false, []⟩⟩]⟩ = some (0, 0, 12) := by
    unfold f_control_Read
    dsimp only
    rw [if_neg (by decide), if_neg (by decide), if_pos (by simp)]
  rw [c2, Option.bind_some]
  obtain ⟨x, e, hke, hiff⟩ := key_iff a2 (by omega)
  have c3 : ∃ x1 x2 x3, f_control_Read ⟨a1, 0, ⟨false, a2⟩, ⟨false, V⟩, []⟩ = some (x1, x2, x3) ∧ (x3 = 0 ↔ e = 0) := by
    unfold f_control_Read
    dsimp only
    rw [if_neg (by decide), if_neg (by decide), if_neg (by simp), if_pos rfl, hke, Option.bind_some]
    by_cases he : e = 0
    · simp only [he, if_true]
      rw [rdn]
      exact ⟨x, n, 0, rfl, by simp⟩
    · simp only [if_neg he]
      exact ⟨0, 0, e, rfl, by simp [he]⟩
  obtain ⟨x1, x2, x3, hc3, h3⟩ := c3
  rw [hc3, Option.bind_some]
  simp only [if_true]
  by_cases h00 : a2 = [0, 0, 0, 0]
  · rw [if_pos h00, if_pos (h3.2 (hiff.2 (.inl h00)))]
    rfl
  · rw [if_neg h00]
    by_cases h01 : a2 = [0, 0, 0, 1]
    · rw [if_pos (h3.2 (hiff.2 (.inr h01))), if_pos h01]
      rfl
    · rw [if_neg (fun h => (hiff.1 (h3.1 h)).elim h00 h01), if_neg h01]
      rfl
end Go.Proofs.Ytagbblaegdedpaa.Sl
namespace Go.Proofs.Ytagbblaegdedpaa.Sl
open Go.RowKit Go.Deep Go.ChangeShapes
set_option linter.unusedVariables false
def eqRd {α : Type} (f : α → List Value) : Rd α := ⟨fun _ _ cs a => cs = f a, fun h _ => h, fun h _ => h⟩
section
variable {H : Type} {enc : TypeId × Value → H} {P : Program} {α β : Type}
theorem op_arr {t e : TypeId} {E : Rd α} {W : α → Prop} (n : Nat) (g : α → Value) (mk : (Nat → α) → β) (cells : β → List Value) (Wb : β → Prop) (hn : 0 < n) (ht : P.underlying t = some (.array n e)) (hc : P.cellsOf e = 1) (hct : P.cellsOf t = n) (he : OpensW enc P e (andRd E W))
    (hE : ∀ w S cs x, E.P w S cs x → cs = [g x]) (hm : ∀ f, cells (mk f) = (List.range n).map (fun i => g (f i))) (hw : ∀ f, (∀ i, i < n → W (f i)) → Wb (mk f)) : OpensW enc P t (andRd (eqRd cells) Wb) := by
  intro w fuel cs x hx hwt
  obtain ⟨xs, m, rfl, rfl, hl, hxl, hf⟩ := DataW.trod_array ht hx
  have each : ∀ i : Fin n, ∃ y : α, (andRd E W).P w (fun k => k < w.heap.size) ((cs.drop i.val).take 1) y := by
    intro i
    have h1 := hf i.val i.isLt
    rw [hc, Nat.mul_one, List.getElem?_eq_getElem (by omega)] at h1
    refine he _ _ _ _ h1 (fun z hz => hwt z ?_)
    simp only [DataW.weights, ht]
    exact weightsAll_mem (d := xs[i.val].1) (List.mem_map.2 ⟨_, List.getElem_mem _, rfl⟩) hz
  obtain ⟨f, hff⟩ := Classical.axiomOfChoice each
  let f' : Nat → α := fun i => if h : i < n then f ⟨i, h⟩ else f ⟨0, hn⟩
  have hf' : ∀ i, i < n → (andRd E W).P w (fun k => k < w.heap.size) ((cs.drop i).take 1) (f' i) := by
    intro i hi
    have := hff ⟨i, hi⟩
    show (andRd E W).P _ _ _ (if h : i < n then f ⟨i, h⟩ else f ⟨0, hn⟩)
    rw [dif_pos hi]
    exact this
  refine ⟨mk f', ?_, hw f' (fun i hi => (hf' i hi).2)⟩
  show cs = cells (mk f')
  rw [hm]
  apply List.ext_getElem?
  intro i
  by_cases hi : i < n
  · have h1 := hE _ _ _ _ (hf' i hi).1
    have h2 : cs[i]? = ((cs.drop i).take 1)[0]? := by simp
    rw [h2, h1]
    simp [hi]
  · rw [List.getElem?_eq_none (by omega), List.getElem?_eq_none (by simp; omega)]
theorem opens_arg3 {t e : TypeId} {n : Nat} {E : Rd α} {r : Reach} {b0 : Nat} {w : World} {v : Value} {d : DataW H} {p : List MemPlace} (ht : P.underlying t = some (.array n e)) (hval : Value.okWide P w r b0 t v) (h : OpensW enc P t E)
    (hv : DataW.Trod enc P w 0 (fun _ => true) true t v d p) (hw : ∀ m, m ∈ d.weights P t → m ≤ reachBytes) : ∃ a cs, v = .agg cs ∧ E.P w (fun k => k < w.heap.size) cs.toList a := by
  have hv0 : ∃ cs, v = .agg cs := by
    simp only [Value.okWide, ht] at hval
    obtain ⟨cs, h1, _⟩ := hval
    exact ⟨cs, h1⟩
  obtain ⟨cs, rfl⟩ := hv0
  obtain ⟨fuel, hf⟩ := hv
  obtain ⟨a, ha⟩ := h _ _ _ _ hf hw
  exact ⟨a, cs, rfl, ha⟩
end
end Go.Proofs.Ytagbblaegdedpaa.Sl
namespace Go.Proofs.Ytagbblaegdedpaa.Sl
open Go.RowKit Go.Deep Go.ChangeShapes
set_option linter.unusedVariables false
theorem op_ar88 {H : Type} {enc : TypeId × Value → H} : OpensW enc Try.prog 88 (andRd (eqRd (fun a : Int × Int => [.int .i64 a.1, .int .i64 a.2])) (fun a : Int × Int => wI a.1 ∧ wI a.2)) :=
  op_arr 2 (fun x => .int .i64 x) (fun f => (f 0, f 1)) _ _ (by decide) Try.underlying88 (by kernel_rfl) (by kernel_rfl) (op_i64 Try.underlying3) (fun _ _ _ _ h => h) (fun f => rfl) (fun f h => ⟨h 0 (by decide), h 1 (by decide)⟩)
end Go.Proofs.Ytagbblaegdedpaa.Sl
namespace Go.Proofs.Ytagbblaegdedpaa.wholeEnds
open Go.ChangeShapes Go.WideShapes Go.ChangeAt Go.RowKit
open Go.ChangeMaps (open_string shut_string)
set_option linter.unusedVariables false
theorem own : ownKnob Try.prog.godebug = none := by kernel_rfl
theorem laidOut : laidOutB Try.prog = true := by kernel_rfl
set_option maxRecDepth 100000 in
set_option maxHeartbeats 1000000 in
theorem lifted (os : Os) (started : os.Started) (H : Type) (enc : TypeId × Value → H) :
    ReturnsInHanded {} Try.checked os 10 .any (Rows.wholeEndsSpec.pre6 enc Try.prog Try.f10 Rows.wholeEndsRow.domain false) (Rows.wholeEndsSpec.post enc Try.prog Try.f10 false true false false) := by
  refine returnsInHanded_of_change_sized (C := Try.checked) own started (by kernel_rfl) Try.func10
    (ChangeSpec.witness6 (enc := enc) (C := Try.checked) false ⟨#[], #[.agg #[.int .i64 0, .int .i64 0], .int .i64 0, .string ByteArray.empty], []⟩ 8 (by kernel_rfl) (by kernel_rfl) (by kernel_rfl) (by kernel_rfl)) ?_
  intro W base args ds gs before hval0 hW hcnd hsz0 _
  have hsz : (DataW.weightsEach Try.prog (Try.f10.params.toList ++ Rows.wholeEndsSpec.plain.varTypes Try.prog) (ds ++ gs)).all (· ≤ reachBytes) = true := hsz0
  have hval : ∀ (j : Nat) t v, Try.f10.params[j]? = some t → args[j]? = some v → Value.okWide Try.prog W .any base t v := hval0
  have hW' := hW
  obtain ⟨p, q, hA0, hV, rfl, hfz, hnd⟩ := hW
  have hA : DataW.TrodAll enc Try.prog W 0 (fun _ => true) true Try.f10.params.toList args.toList ds p := hA0
  rw [Try.params10] at hA hval hsz
  obtain ⟨v0, vs0, d0, ds0, p0, q0, hargs, rfl, rfl, h0, r0⟩ := trodAll_cons hA
  obtain ⟨v1, vs1, d1, ds1, p1, q1, rfl, rfl, rfl, h1, r1⟩ := trodAll_cons r0
  obtain ⟨v2, vs2, d2, ds2, p2, q2, rfl, rfl, rfl, h2, r2⟩ := trodAll_cons r1
  obtain ⟨rfl, rfl, rfl⟩ := trodAll_nil r2
  obtain rfl : args = #[v0, v1, v2] := by cases args; simp_all
  obtain ⟨rfl, rfl⟩ := trodVars_none hV
  have k0 := h0
  have lt0 : ∀ x ∈ p0, x.block < W.heap.size := by obtain ⟨m, hm⟩ := k0; exact DataW.trod_lt m _ _ _ hm
  obtain ⟨a0, cs0, rfl, r_0, w0⟩ := Sl.opens_arg3 Try.underlying88 (hval 0 88 v0 rfl rfl) Sl.op_ar88 h0 (fun x hx => of_decide_eq_true (List.all_eq_true.1 hsz x (Sl.weights_in 0 rfl rfl hx)))
  have e0 : cs0.toList = _ := r_0
  obtain rfl : cs0 = #[.int .i64 a0.1, .int .i64 a0.2] := by apply Array.toList_inj.1; exact e0
  obtain ⟨a1, rfl, rfl, rfl, u1⟩ := open_int Try.underlying3 (hval 1 3 v1 rfl rfl) h1
  have w1 := Go.bounds_i64 u1
  obtain ⟨s2, rfl, rfl, rfl, y2⟩ := open_string Try.underlying9 (hval 2 9 v2 rfl rfl) h2
  have z2 : s2.size ≤ 140737488351232 := by
    have z := sized_string hsz (j := 2) (t := 9) rfl rfl
    rw [Array.length_toList] at z
    exact z
  obtain ⟨a2, rfl⟩ := Sl.bsOf_of s2
  have w2 : a2.length ≤ 140737488351232 := by rwa [Sl.bsOf_size] at z2
  clear hA0 hval0 hsz0 hsz
  refine (Sl.f_top_WholeEnds_spec a0 a1 a2 true (Sl.pure_WholeEnds a0 a1 a2 w0 w1 w2) (fun _ => False) W (fun _ h => h) (Sl.RX.reads_triv _ _)).mono fun e W' hP => ?_
  obtain ⟨v, A', Ns, rfl, ⟨rfl, rfl, rfl⟩, hst⟩ := hP
  have bel := Sl.St.below hst
  exact ⟨_, rfl, _, _, _, [], _, [], hW', trodAll_mk1 (shut_bool Try.underlying4 _), (trodAll_cons_mk (Below.trod laidOut (by kernel_rfl) (of_decide_eq_true (by kernel_rfl)) k0 bel lt0) (trodAll_cons_mk (shut_int Try.underlying3 u1) (trodAll_cons_mk (shut_string Try.underlying9 y2) trodAll_mk0))), rfl, bel.frame _, fun h => by cases h⟩
theorem over : Rows.wholeEndsRow.holds Try.pinned (OpenSpec.ofChange Rows.wholeEndsSpec) :=
  OpenClaim.holds_of_wide 10 Try.f10 rfl rfl rfl rfl rfl rfl rfl ⟨rfl, rfl, rfl, rfl, rfl⟩ rfl rfl rfl rfl rfl (by kernel_rfl) Try.func10 (by kernel_rfl)
    (of_decide_eq_true (by kernel_rfl)) (by unfold Func.isWrapper; first | (rw [if_pos (by decide +kernel)]; kernel_rfl) | (rw [if_neg (by decide +kernel)]; exact ⟨rfl, rfl⟩))
    (fun os started H enc _ => lifted os started H enc)
theorem proved : Rows.WholeEndsSaid := over
end Go.Proofs.Ytagbblaegdedpaa.wholeEnds
namespace Go.Proofs.Ytagbblaegdedpaa
theorem wholeEnds_holds : Rows.WholeEndsSaid := wholeEnds.proved
end Go.Proofs.Ytagbblaegdedpaa
