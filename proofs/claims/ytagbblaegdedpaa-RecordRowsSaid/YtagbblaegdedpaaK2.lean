/- RecordRows: for every input the law returns true, and its arguments read behind the call as they did before. -/
import Derived.Test.YtagbblaegdedpaaRows
import Derived.WalkKit
import Derived.ProofKit
import Derived.OpenShut
import Derived.ShutString
import Derived.ChangeOld
import Derived.Below
import Derived.SizedLaws
import Derived.Test.YtagbblaegdedpaaK1
namespace Go.Proofs.Ytagbblaegdedpaa.Sl
open Go.RowKit
set_option linter.unusedVariables false
set_option linter.unusedSimpArgs false
set_option maxRecDepth 100000
def ft_record : FTab := [(29, 0, 0), (29, 1, 1), (29, 2, 2), (29, 3, 4), (29, 4, 6), (93, 1, 1)]
theorem ft_record_ok : (ft_record).OK Try.prog := ⟨FOK.mk Try.runUnderlying29 rfl Try.sizeOf3 rfl, FOK.mk Try.runUnderlying29 rfl Try.sizeOf3 rfl, FOK.mk Try.runUnderlying29 rfl Try.sizeOf26 rfl, FOK.mk Try.runUnderlying29 rfl Try.sizeOf26 rfl, FOK.mk Try.runUnderlying29 rfl Try.sizeOf27 rfl, FOK.mk Try.runUnderlying93 rfl Try.sizeOf26 rfl, trivial⟩
theorem mix_record : Try.prog.follows .mixedOrders = true := by kernel_rfl
theorem flat_record_26 : Flat Try.prog 2 26 [.bool, .string] true := (Flat.struct Try.isAgg26 Try.sizeOf26 rfl Try.underlying26 Try.stoodInHeld26 ⟨by decide, rfl, [.bool], [.string], false, rfl, (Flat.one_ Try.isAgg4 Try.sizeOf4 Try.underlying4), ⟨by decide, rfl, [.string], [], false, rfl, (Flat.one_ Try.isAgg9 Try.sizeOf9 Try.underlying9), rfl⟩⟩)
theorem flat_record_93 : Flat Try.prog 3 93 [.string, .bool, .string] true := (Flat.struct Try.isAgg93 Try.sizeOf93 rfl Try.underlying93 Try.stoodInHeld93 ⟨by decide, rfl, [.string], [.bool, .string], false, rfl, ((Flat.one_ Try.isAgg9 Try.sizeOf9 Try.underlying9).mono (by decide)), ⟨by decide, rfl, [.bool, .string], [], true, rfl, (Flat.struct Try.isAgg26 Try.sizeOf26 rfl Try.underlying26 Try.stoodInHeld26 ⟨by decide, rfl, [.bool], [.string], false, rfl, (Flat.one_ Try.isAgg4 Try.sizeOf4 Try.underlying4), ⟨by decide, rfl, [.string], [], false, rfl, (Flat.one_ Try.isAgg9 Try.sizeOf9 Try.underlying9), rfl⟩⟩), rfl⟩⟩)
theorem bok_record_29 : BOK Try.prog 29 #[.int .i64 0, .int .i64 0, .bool false, .string ⟨#[]⟩, .bool false, .string ⟨#[]⟩, .slice none 0 0] [(0, 1), (1, 1), (2, 2), (4, 2), (6, 1)] := BOK.mk Try.zeroValue29 Try.runUnderlying29 (by intro w; simp)
theorem sok_record_235_1 : SOK Try.prog 235 26 1 2 #[.bool false, .string ⟨#[]⟩] := SOK.mk Try.runUnderlying235 Try.sizeOf26 Try.zeroValue26 (by decide) (by kernel_rfl)
theorem sok_record_235_2 : SOK Try.prog 235 26 2 2 #[.bool false, .string ⟨#[]⟩, .bool false, .string ⟨#[]⟩] := SOK.mk Try.runUnderlying235 Try.sizeOf26 Try.zeroValue26 (by decide) (by kernel_rfl)
def f_record_Read (st : I)  : Option (Rec × I) := (gName st).bind fun (x2, st3) => (gErr st3).bind fun (x5, st6) => if x5 = 0 then ((gNew x2).bind fun st9 => (gInt st9 1).bind fun (x12, st13) => if x12 = 0 then ((gVLong st13).bind fun (x16, st17) => (gVInt st17).bind fun (x19, st20) => if x19 < 0 then ((gIFail st20 11).bind fun st24 => (gVaried st24).bind fun (x26, st27) => (gVaried st27).bind fun (x29, st30) => (f_header_Read st30).bind fun (x32, st35) => (gClose st35).bind fun (x37, st38) => if x37 = 0 then (some ((⟨x16, x19, x26, x29, x32⟩ : Rec), st6)) else ((gIFail st6 x37).bind fun st41 => some ((⟨0, 0, (⟨false, []⟩ : Bl), (⟨false, []⟩ : Bl), []⟩ : Rec), st41))) else ((gVaried st20).bind fun (x43, st44) => (gVaried st44).bind fun (x46, st47) => (f_header_Read st47).bind fun (x49, st52) => (gClose st52).bind fun (x54, st55) => if x54 = 0 then (some ((⟨x16, x19, x43, x46, x49⟩ : Rec), st6)) else ((gIFail st6 x54).bind fun st58 => some ((⟨0, 0, (⟨false, []⟩ : Bl), (⟨false, []⟩ : Bl), []⟩ : Rec), st58)))) else ((gIFail st13 8).bind fun st60 => (gVLong st60).bind fun (x62, st63) => (gVInt st63).bind fun (x65, st66) => if x65 < 0 then ((gIFail st66 11).bind fun st70 => (gVaried st70).bind fun (x72, st73) => (gVaried st73).bind fun (x75, st76) => (f_header_Read st76).bind fun (x78, st81) => (gClose st81).bind fun (x83, st84) => if x83 = 0 then (some ((⟨x62, x65, x72, x75, x78⟩ : Rec), st6)) else ((gIFail st6 x83).bind fun st87 => some ((⟨0, 0, (⟨false, []⟩ : Bl), (⟨false, []⟩ : Bl), []⟩ : Rec), st87))) else ((gVaried st66).bind fun (x89, st90) => (gVaried st90).bind fun (x92, st93) => (f_header_Read st93).bind fun (x95, st98) => (gClose st98).bind fun (x100, st101) => if x100 = 0 then (some ((⟨x62, x65, x89, x92, x95⟩ : Rec), st6)) else ((gIFail st6 x100).bind fun st104 => some ((⟨0, 0, (⟨false, []⟩ : Bl), (⟨false, []⟩ : Bl), []⟩ : Rec), st104))))) else (some ((⟨0, 0, (⟨false, []⟩ : Bl), (⟨false, []⟩ : Bl), []⟩ : Rec), st6))
set_option maxRecDepth 100000 in
set_option maxHeartbeats 4000000 in
theorem f_record_Read_spec (g : Nat) (st : I)  (r : Rec × I) (h : f_record_Read st  = some r) : SpecX Try.prog 17 #[.pointer (some ⟨g, 0, none⟩)] .triv (InR g st) (fun v A' N => ∃ (A106 : Option Addr) (c107 : Nat), v = .agg #[.int .i64 r.1.fTime, .int .i64 r.1.fOffset, .bool r.1.fKey.null, .string (bsOf r.1.fKey.data), .bool r.1.fValue.null, .string (bsOf r.1.fValue.data), .slice A106 r.1.fHeaders.length c107] ∧ A' = InR g r.2 ∧ N = [RdR (sliceRd 3 Hd_rd) [.slice A106 r.1.fHeaders.length c107] r.1.fHeaders]) := by
  refine enterA Try.func17 rfl Try.ntmps17 rfl ?_
  intro F w hX
  unfold f_record_Read at h
  refine T.seq (T.region rfl ?_)
  refine TL.alloc rfl .u Try.zeroValue29 rfl (fun b1 => ?_)
  refine TL.nil (X.seq (T.seq (T.region rfl ?_)))
  obtain ⟨⟨x2, st3⟩, hx4, h⟩ := Option.bind_eq_some_iff.1 h
  try dsimp only at h
  refine TL.run ft_record_ok [0] rfl rfl ?_
  refine TL.c1 rfl .u (.fn Try.call82 rfl) (gName_spec g st _ hx4) (fun _ hs => (Src.triv _)) rfl ?_
  refine TL.run ft_record_ok [2] rfl rfl ?_
  refine TL.nil (X.seq (T.seq (T.seq (T.region rfl ?_))))
  obtain ⟨⟨x5, st6⟩, hx7, h⟩ := Option.bind_eq_some_iff.1 h
  try dsimp only at h
  refine TL.run ft_record_ok [0] rfl rfl ?_
  refine TL.c1 rfl .u (.fn Try.call19 rfl) (gErr_spec g st3 _ hx7) (fun _ hs => (Src.triv _)) rfl ?_
  refine TL.run ft_record_ok [2] rfl rfl ?_
  by_cases c8 : x5 = 0
  · replace h := ifT c8 h
    refine TL.nil (X.seq ?_)
    refine T.no rfl (bn_f (decide_eq_true c8)) ?_
    refine T.skip (X.seq (T.seq (T.region rfl ?_)))
    obtain ⟨st9, hx10, h⟩ := Option.bind_eq_some_iff.1 h
    refine TL.run ft_record_ok [0] rfl rfl ?_
    refine TL.cge rfl .u (.fn Try.call16 rfl) (gNew_spec x2 _ hx10) (fun _ hs => (RX.reads_triv _ _)) rfl ?_
    rintro _ _ _ ⟨b11, rfl, rfl, rfl⟩
    refine TL.sel [0, 0, 0] rfl ?_
    refine TL.run ft_record_ok [2] rfl rfl ?_
    refine TL.nil (X.seq (T.seq (T.seq (T.region rfl ?_))))
    obtain ⟨⟨x12, st13⟩, hx14, h⟩ := Option.bind_eq_some_iff.1 h
    try dsimp only at h
    refine TL.run ft_record_ok [0] rfl rfl ?_
    refine TL.c0 rfl .u (.fn Try.call83 rfl) (gInt_spec b11 st9 1 _ hx14) (fun _ hs => (Src.triv _)) rfl ?_
    refine TL.run ft_record_ok [2] rfl rfl ?_
    by_cases c15 : x12 = 0
    · replace h := ifT c15 h
      refine TL.nil (X.seq ?_)
      refine T.no rfl (bn_f (decide_eq_true c15)) ?_
      refine T.skip (X.seq (T.seq (T.region rfl ?_)))
      obtain ⟨⟨x16, st17⟩, hx18, h⟩ := Option.bind_eq_some_iff.1 h
      try dsimp only at h
      refine TL.run ft_record_ok [0] rfl rfl ?_
      refine TL.c0 rfl .u (.fn Try.call85 rfl) (gVLong_spec b11 st13 _ hx18) (fun _ hs => (Src.triv _)) rfl ?_
      obtain ⟨⟨x19, st20⟩, hx21, h⟩ := Option.bind_eq_some_iff.1 h
      try dsimp only at h
      refine TL.run ft_record_ok [2] rfl rfl ?_
      refine TL.c0 rfl .u (.fn Try.call86 rfl) (gVInt_spec b11 st17 _ hx21) (fun _ hs => (Src.triv _)) rfl ?_
      refine TL.q rfl .u (Ex.bld (cells := #[.int .i64 x16, .int .i64 x19, .bool false, .string ⟨#[]⟩, .bool false, .string ⟨#[]⟩, .slice none 0 0]) bok_record_29 rfl (by kernel_rfl)) rfl ?_
      refine TL.alloc rfl .u Try.zeroValue29 rfl (fun b22 => ?_)
      refine TL.st0 (cs' := #[.int .i64 x16, .int .i64 x19, .bool false, .string ⟨#[]⟩, .bool false, .string ⟨#[]⟩, .slice none 0 0]) rfl .u rfl rfl Try.sizeOf29 rfl rfl rfl rfl ?_
      refine TL.nil (X.seq (T.seq (T.seq (T.region rfl ?_))))
      refine TL.run ft_record_ok [0] rfl rfl ?_
      refine TL.q rfl .u (Ex.b1 0 rfl Try.isAgg3 rfl rfl) rfl ?_
      refine TL.run ft_record_ok [2] rfl rfl ?_
      by_cases c23 : x19 < 0
      · replace h := ifT c23 h
        refine TL.nil (X.seq ?_)
        refine T.yes rfl (decide_eq_true c23) ?_
        refine T.region rfl ?_
        obtain ⟨st24, hx25, h⟩ := Option.bind_eq_some_iff.1 h
        refine TL.run ft_record_ok [0] rfl rfl ?_
        refine TL.c1 rfl .u (.fn Try.call84 rfl) (gIFail_spec b11 st20 11 _ hx25) (fun _ hs => (Src.triv _)) rfl ?_
        refine TL.nil (X.seq (T.seq (T.region rfl ?_)))
        obtain ⟨⟨x26, st27⟩, hx28, h⟩ := Option.bind_eq_some_iff.1 h
        try dsimp only at h
        refine TL.run ft_record_ok [0] rfl rfl ?_
        refine TL.c1 rfl .u (.fn Try.call87 rfl) (gVaried_spec b11 st24 _ hx28) (fun _ hs => (Src.triv _)) rfl ?_
        refine TL.run ft_record_ok [2] rfl rfl ?_
        refine TL.st0 (cs' := #[.int .i64 x16, .int .i64 x19, .bool x26.null, .string (bsOf x26.data), .bool false, .string ⟨#[]⟩, .slice none 0 0]) rfl .u rfl rfl Try.sizeOf26 rfl rfl rfl rfl ?_
        refine TL.nil (X.seq (T.seq (T.region rfl ?_)))
        obtain ⟨⟨x29, st30⟩, hx31, h⟩ := Option.bind_eq_some_iff.1 h
        try dsimp only at h
        refine TL.run ft_record_ok [0] rfl rfl ?_
        refine TL.c1 rfl .u (.fn Try.call87 rfl) (gVaried_spec b11 st27 _ hx31) (fun _ hs => (Src.triv _)) rfl ?_
        refine TL.run ft_record_ok [2] rfl rfl ?_
        refine TL.st0 (cs' := #[.int .i64 x16, .int .i64 x19, .bool x26.null, .string (bsOf x26.data), .bool x29.null, .string (bsOf x29.data), .slice none 0 0]) rfl .u rfl rfl Try.sizeOf26 rfl rfl rfl rfl ?_
        refine TL.nil (X.seq (T.seq (T.region rfl ?_)))
        obtain ⟨⟨x32, st35⟩, hx36, h⟩ := Option.bind_eq_some_iff.1 h
        try dsimp only at h
        refine TL.run ft_record_ok [0] rfl rfl ?_
        refine TL.cg1 rfl .u (.fn Try.call88 rfl) (f_header_Read_spec b11 st30 _ hx36) (fun _ hs => (Src.triv _)) rfl ?_
        rintro _ _ _ ⟨A33, c34, rfl, rfl, rfl⟩
        refine TL.sel [0, 0, 0, 0, 0] rfl ?_
        refine TL.run ft_record_ok [2] rfl rfl ?_
        refine TL.st1 (cs' := #[.int .i64 x16, .int .i64 x19, .bool x26.null, .string (bsOf x26.data), .bool x29.null, .string (bsOf x29.data), .slice A33 x32.length c34]) rfl .u rfl rfl Try.sizeOf27 rfl rfl rfl rfl ?_
        refine TL.nil (X.seq (T.seq (T.seq (T.region rfl ?_))))
        obtain ⟨⟨x37, st38⟩, hx39, h⟩ := Option.bind_eq_some_iff.1 h
        try dsimp only at h
        refine TL.run ft_record_ok [0] rfl rfl ?_
        refine TL.c2 rfl .u (.fn Try.call31 rfl) (gClose_spec b11 st35 _ hx39) (fun _ hs => (Src.triv _)) rfl ?_
        refine TL.run ft_record_ok [2] rfl rfl ?_
        refine TL.nil (X.seq (T.seq (T.region rfl ?_)))
        refine TL.run ft_record_ok [0, 1] rfl rfl ?_
        by_cases c40 : x37 = 0
        · replace h := ifT c40 h
          refine TL.nil (X.seq ?_)
          refine T.no rfl (bn_f (decide_eq_true c40)) ?_
          refine T.skip (X.seq (T.seq (T.region rfl ?_)))
          refine TL.q rfl .u (Ex.bS (us := [.int .i64 x16, .int .i64 x19, .bool x26.null, .string (bsOf x26.data), .bool x29.null, .string (bsOf x29.data), .slice A33 x32.length c34]) 1 rfl Try.isAgg29 Try.sizeOf29 rfl rfl rfl) rfl ?_
          refine TL.st3 (cs' := #[.int .i64 x16, .int .i64 x19, .bool x26.null, .string (bsOf x26.data), .bool x29.null, .string (bsOf x29.data), .slice A33 x32.length c34]) rfl .u rfl rfl Try.sizeOf29 rfl rfl rfl rfl ?_
          obtain rfl := Option.some.inj h
          exact TL.nil (X.seq (T.ret (X.done1 [4, 0] Try.results17 (RV.cS (us := #[.int .i64 x16, .int .i64 x19, .bool x26.null, .string (bsOf x26.data), .bool x29.null, .string (bsOf x29.data), .slice A33 x32.length c34]) 3 rfl Try.isAgg29 Try.sizeOf29 rfl rfl) ⟨_, _, rfl, rfl, rfl⟩ (by rfl) (.inl rfl))))
        · replace h := ifF c40 h
          refine TL.nil (X.seq ?_)
          refine T.yes rfl (bn_t (decide_eq_false c40)) ?_
          refine T.seq (T.region rfl ?_)
          obtain ⟨st41, hx42, h⟩ := Option.bind_eq_some_iff.1 h
          refine TL.run ft_record_ok [0, 1] rfl rfl ?_
          refine TL.c4 rfl .u (.fn Try.call84 rfl) (gIFail_spec g st6 x37 _ hx42) (fun _ hs => (Src.triv _)) rfl ?_
          refine TL.nil (X.seq (T.seq (T.region rfl ?_)))
          refine TL.q rfl .u (Ex.bld (cells := #[.int .i64 0, .int .i64 0, .bool false, .string ⟨#[]⟩, .bool false, .string ⟨#[]⟩, .slice none 0 0]) bok_record_29 rfl (by kernel_rfl)) rfl ?_
          refine TL.st3 (cs' := #[.int .i64 0, .int .i64 0, .bool false, .string ⟨#[]⟩, .bool false, .string ⟨#[]⟩, .slice none 0 0]) rfl .u rfl rfl Try.sizeOf29 rfl rfl rfl rfl ?_
          obtain rfl := Option.some.inj h
          refine TL.nil (X.seq (T.ret (X.rs ?_)))
          refine X.nilrd 3 Hd_rd ?_
          exact X.done1 [5, 0] Try.results17 (RV.cS (us := #[.int .i64 0, .int .i64 0, .bool false, .string ⟨#[]⟩, .bool false, .string ⟨#[]⟩, .slice none 0 0]) 4 rfl Try.isAgg29 Try.sizeOf29 rfl rfl) ⟨_, _, rfl, rfl, rfl⟩ (by rfl) (.inl rfl)
      · replace h := ifF c23 h
        refine TL.nil (X.seq ?_)
        refine T.no rfl (decide_eq_false c23) ?_
        refine T.skip (X.seq (T.seq (T.region rfl ?_)))
        obtain ⟨⟨x43, st44⟩, hx45, h⟩ := Option.bind_eq_some_iff.1 h
        try dsimp only at h
        refine TL.run ft_record_ok [0] rfl rfl ?_
        refine TL.c1 rfl .u (.fn Try.call87 rfl) (gVaried_spec b11 st20 _ hx45) (fun _ hs => (Src.triv _)) rfl ?_
        refine TL.run ft_record_ok [2] rfl rfl ?_
        refine TL.st0 (cs' := #[.int .i64 x16, .int .i64 x19, .bool x43.null, .string (bsOf x43.data), .bool false, .string ⟨#[]⟩, .slice none 0 0]) rfl .u rfl rfl Try.sizeOf26 rfl rfl rfl rfl ?_
        refine TL.nil (X.seq (T.seq (T.region rfl ?_)))
        obtain ⟨⟨x46, st47⟩, hx48, h⟩ := Option.bind_eq_some_iff.1 h
        try dsimp only at h
        refine TL.run ft_record_ok [0] rfl rfl ?_
        refine TL.c1 rfl .u (.fn Try.call87 rfl) (gVaried_spec b11 st44 _ hx48) (fun _ hs => (Src.triv _)) rfl ?_
        refine TL.run ft_record_ok [2] rfl rfl ?_
        refine TL.st0 (cs' := #[.int .i64 x16, .int .i64 x19, .bool x43.null, .string (bsOf x43.data), .bool x46.null, .string (bsOf x46.data), .slice none 0 0]) rfl .u rfl rfl Try.sizeOf26 rfl rfl rfl rfl ?_
        refine TL.nil (X.seq (T.seq (T.region rfl ?_)))
        obtain ⟨⟨x49, st52⟩, hx53, h⟩ := Option.bind_eq_some_iff.1 h
        try dsimp only at h
        refine TL.run ft_record_ok [0] rfl rfl ?_
        refine TL.cg1 rfl .u (.fn Try.call88 rfl) (f_header_Read_spec b11 st47 _ hx53) (fun _ hs => (Src.triv _)) rfl ?_
        rintro _ _ _ ⟨A50, c51, rfl, rfl, rfl⟩
        refine TL.sel [0, 0, 0, 0, 0] rfl ?_
        refine TL.run ft_record_ok [2] rfl rfl ?_
        refine TL.st1 (cs' := #[.int .i64 x16, .int .i64 x19, .bool x43.null, .string (bsOf x43.data), .bool x46.null, .string (bsOf x46.data), .slice A50 x49.length c51]) rfl .u rfl rfl Try.sizeOf27 rfl rfl rfl rfl ?_
        refine TL.nil (X.seq (T.seq (T.seq (T.region rfl ?_))))
        obtain ⟨⟨x54, st55⟩, hx56, h⟩ := Option.bind_eq_some_iff.1 h
        try dsimp only at h
        refine TL.run ft_record_ok [0] rfl rfl ?_
        refine TL.c2 rfl .u (.fn Try.call31 rfl) (gClose_spec b11 st52 _ hx56) (fun _ hs => (Src.triv _)) rfl ?_
        refine TL.run ft_record_ok [2] rfl rfl ?_
        refine TL.nil (X.seq (T.seq (T.region rfl ?_)))
        refine TL.run ft_record_ok [0, 1] rfl rfl ?_
        by_cases c57 : x54 = 0
        · replace h := ifT c57 h
          refine TL.nil (X.seq ?_)
          refine T.no rfl (bn_f (decide_eq_true c57)) ?_
          refine T.skip (X.seq (T.seq (T.region rfl ?_)))
          refine TL.q rfl .u (Ex.bS (us := [.int .i64 x16, .int .i64 x19, .bool x43.null, .string (bsOf x43.data), .bool x46.null, .string (bsOf x46.data), .slice A50 x49.length c51]) 1 rfl Try.isAgg29 Try.sizeOf29 rfl rfl rfl) rfl ?_
          refine TL.st3 (cs' := #[.int .i64 x16, .int .i64 x19, .bool x43.null, .string (bsOf x43.data), .bool x46.null, .string (bsOf x46.data), .slice A50 x49.length c51]) rfl .u rfl rfl Try.sizeOf29 rfl rfl rfl rfl ?_
          obtain rfl := Option.some.inj h
          exact TL.nil (X.seq (T.ret (X.done1 [4, 0] Try.results17 (RV.cS (us := #[.int .i64 x16, .int .i64 x19, .bool x43.null, .string (bsOf x43.data), .bool x46.null, .string (bsOf x46.data), .slice A50 x49.length c51]) 3 rfl Try.isAgg29 Try.sizeOf29 rfl rfl) ⟨_, _, rfl, rfl, rfl⟩ (by rfl) (.inl rfl))))
        · replace h := ifF c57 h
          refine TL.nil (X.seq ?_)
          refine T.yes rfl (bn_t (decide_eq_false c57)) ?_
          refine T.seq (T.region rfl ?_)
          obtain ⟨st58, hx59, h⟩ := Option.bind_eq_some_iff.1 h
          refine TL.run ft_record_ok [0, 1] rfl rfl ?_
          refine TL.c4 rfl .u (.fn Try.call84 rfl) (gIFail_spec g st6 x54 _ hx59) (fun _ hs => (Src.triv _)) rfl ?_
          refine TL.nil (X.seq (T.seq (T.region rfl ?_)))
          refine TL.q rfl .u (Ex.bld (cells := #[.int .i64 0, .int .i64 0, .bool false, .string ⟨#[]⟩, .bool false, .string ⟨#[]⟩, .slice none 0 0]) bok_record_29 rfl (by kernel_rfl)) rfl ?_
          refine TL.st3 (cs' := #[.int .i64 0, .int .i64 0, .bool false, .string ⟨#[]⟩, .bool false, .string ⟨#[]⟩, .slice none 0 0]) rfl .u rfl rfl Try.sizeOf29 rfl rfl rfl rfl ?_
          obtain rfl := Option.some.inj h
          refine TL.nil (X.seq (T.ret (X.rs ?_)))
          refine X.nilrd 3 Hd_rd ?_
          exact X.done1 [5, 0] Try.results17 (RV.cS (us := #[.int .i64 0, .int .i64 0, .bool false, .string ⟨#[]⟩, .bool false, .string ⟨#[]⟩, .slice none 0 0]) 4 rfl Try.isAgg29 Try.sizeOf29 rfl rfl) ⟨_, _, rfl, rfl, rfl⟩ (by rfl) (.inl rfl)
    · replace h := ifF c15 h
      refine TL.nil (X.seq ?_)
      refine T.yes rfl (bn_t (decide_eq_false c15)) ?_
      refine T.region rfl ?_
      obtain ⟨st60, hx61, h⟩ := Option.bind_eq_some_iff.1 h
      refine TL.run ft_record_ok [0] rfl rfl ?_
      refine TL.c0 rfl .u (.fn Try.call84 rfl) (gIFail_spec b11 st13 8 _ hx61) (fun _ hs => (Src.triv _)) rfl ?_
      refine TL.nil (X.seq (T.seq (T.region rfl ?_)))
      obtain ⟨⟨x62, st63⟩, hx64, h⟩ := Option.bind_eq_some_iff.1 h
      try dsimp only at h
      refine TL.run ft_record_ok [0] rfl rfl ?_
      refine TL.c0 rfl .u (.fn Try.call85 rfl) (gVLong_spec b11 st60 _ hx64) (fun _ hs => (Src.triv _)) rfl ?_
      obtain ⟨⟨x65, st66⟩, hx67, h⟩ := Option.bind_eq_some_iff.1 h
      try dsimp only at h
      refine TL.run ft_record_ok [2] rfl rfl ?_
      refine TL.c0 rfl .u (.fn Try.call86 rfl) (gVInt_spec b11 st63 _ hx67) (fun _ hs => (Src.triv _)) rfl ?_
      refine TL.q rfl .u (Ex.bld (cells := #[.int .i64 x62, .int .i64 x65, .bool false, .string ⟨#[]⟩, .bool false, .string ⟨#[]⟩, .slice none 0 0]) bok_record_29 rfl (by kernel_rfl)) rfl ?_
      refine TL.alloc rfl .u Try.zeroValue29 rfl (fun b68 => ?_)
      refine TL.st0 (cs' := #[.int .i64 x62, .int .i64 x65, .bool false, .string ⟨#[]⟩, .bool false, .string ⟨#[]⟩, .slice none 0 0]) rfl .u rfl rfl Try.sizeOf29 rfl rfl rfl rfl ?_
      refine TL.nil (X.seq (T.seq (T.seq (T.region rfl ?_))))
      refine TL.run ft_record_ok [0] rfl rfl ?_
      refine TL.q rfl .u (Ex.b1 0 rfl Try.isAgg3 rfl rfl) rfl ?_
      refine TL.run ft_record_ok [2] rfl rfl ?_
      by_cases c69 : x65 < 0
      · replace h := ifT c69 h
        refine TL.nil (X.seq ?_)
        refine T.yes rfl (decide_eq_true c69) ?_
        refine T.region rfl ?_
        obtain ⟨st70, hx71, h⟩ := Option.bind_eq_some_iff.1 h
        refine TL.run ft_record_ok [0] rfl rfl ?_
        refine TL.c1 rfl .u (.fn Try.call84 rfl) (gIFail_spec b11 st66 11 _ hx71) (fun _ hs => (Src.triv _)) rfl ?_
        refine TL.nil (X.seq (T.seq (T.region rfl ?_)))
        obtain ⟨⟨x72, st73⟩, hx74, h⟩ := Option.bind_eq_some_iff.1 h
        try dsimp only at h
        refine TL.run ft_record_ok [0] rfl rfl ?_
        refine TL.c1 rfl .u (.fn Try.call87 rfl) (gVaried_spec b11 st70 _ hx74) (fun _ hs => (Src.triv _)) rfl ?_
        refine TL.run ft_record_ok [2] rfl rfl ?_
        refine TL.st0 (cs' := #[.int .i64 x62, .int .i64 x65, .bool x72.null, .string (bsOf x72.data), .bool false, .string ⟨#[]⟩, .slice none 0 0]) rfl .u rfl rfl Try.sizeOf26 rfl rfl rfl rfl ?_
        refine TL.nil (X.seq (T.seq (T.region rfl ?_)))
        obtain ⟨⟨x75, st76⟩, hx77, h⟩ := Option.bind_eq_some_iff.1 h
        try dsimp only at h
        refine TL.run ft_record_ok [0] rfl rfl ?_
        refine TL.c1 rfl .u (.fn Try.call87 rfl) (gVaried_spec b11 st73 _ hx77) (fun _ hs => (Src.triv _)) rfl ?_
        refine TL.run ft_record_ok [2] rfl rfl ?_
        refine TL.st0 (cs' := #[.int .i64 x62, .int .i64 x65, .bool x72.null, .string (bsOf x72.data), .bool x75.null, .string (bsOf x75.data), .slice none 0 0]) rfl .u rfl rfl Try.sizeOf26 rfl rfl rfl rfl ?_
        refine TL.nil (X.seq (T.seq (T.region rfl ?_)))
        obtain ⟨⟨x78, st81⟩, hx82, h⟩ := Option.bind_eq_some_iff.1 h
        try dsimp only at h
        refine TL.run ft_record_ok [0] rfl rfl ?_
        refine TL.cg1 rfl .u (.fn Try.call88 rfl) (f_header_Read_spec b11 st76 _ hx82) (fun _ hs => (Src.triv _)) rfl ?_
        rintro _ _ _ ⟨A79, c80, rfl, rfl, rfl⟩
        refine TL.sel [0, 0, 0, 0, 0] rfl ?_
        refine TL.run ft_record_ok [2] rfl rfl ?_
        refine TL.st1 (cs' := #[.int .i64 x62, .int .i64 x65, .bool x72.null, .string (bsOf x72.data), .bool x75.null, .string (bsOf x75.data), .slice A79 x78.length c80]) rfl .u rfl rfl Try.sizeOf27 rfl rfl rfl rfl ?_
        refine TL.nil (X.seq (T.seq (T.seq (T.region rfl ?_))))
        obtain ⟨⟨x83, st84⟩, hx85, h⟩ := Option.bind_eq_some_iff.1 h
        try dsimp only at h
        refine TL.run ft_record_ok [0] rfl rfl ?_
        refine TL.c2 rfl .u (.fn Try.call31 rfl) (gClose_spec b11 st81 _ hx85) (fun _ hs => (Src.triv _)) rfl ?_
        refine TL.run ft_record_ok [2] rfl rfl ?_
        refine TL.nil (X.seq (T.seq (T.region rfl ?_)))
        refine TL.run ft_record_ok [0, 1] rfl rfl ?_
        by_cases c86 : x83 = 0
        · replace h := ifT c86 h
          refine TL.nil (X.seq ?_)
          refine T.no rfl (bn_f (decide_eq_true c86)) ?_
          refine T.skip (X.seq (T.seq (T.region rfl ?_)))
          refine TL.q rfl .u (Ex.bS (us := [.int .i64 x62, .int .i64 x65, .bool x72.null, .string (bsOf x72.data), .bool x75.null, .string (bsOf x75.data), .slice A79 x78.length c80]) 1 rfl Try.isAgg29 Try.sizeOf29 rfl rfl rfl) rfl ?_
          refine TL.st3 (cs' := #[.int .i64 x62, .int .i64 x65, .bool x72.null, .string (bsOf x72.data), .bool x75.null, .string (bsOf x75.data), .slice A79 x78.length c80]) rfl .u rfl rfl Try.sizeOf29 rfl rfl rfl rfl ?_
          obtain rfl := Option.some.inj h
          exact TL.nil (X.seq (T.ret (X.done1 [4, 0] Try.results17 (RV.cS (us := #[.int .i64 x62, .int .i64 x65, .bool x72.null, .string (bsOf x72.data), .bool x75.null, .string (bsOf x75.data), .slice A79 x78.length c80]) 3 rfl Try.isAgg29 Try.sizeOf29 rfl rfl) ⟨_, _, rfl, rfl, rfl⟩ (by rfl) (.inl rfl))))
        · replace h := ifF c86 h
          refine TL.nil (X.seq ?_)
          refine T.yes rfl (bn_t (decide_eq_false c86)) ?_
          refine T.seq (T.region rfl ?_)
          obtain ⟨st87, hx88, h⟩ := Option.bind_eq_some_iff.1 h
          refine TL.run ft_record_ok [0, 1] rfl rfl ?_
          refine TL.c4 rfl .u (.fn Try.call84 rfl) (gIFail_spec g st6 x83 _ hx88) (fun _ hs => (Src.triv _)) rfl ?_
          refine TL.nil (X.seq (T.seq (T.region rfl ?_)))
          refine TL.q rfl .u (Ex.bld (cells := #[.int .i64 0, .int .i64 0, .bool false, .string ⟨#[]⟩, .bool false, .string ⟨#[]⟩, .slice none 0 0]) bok_record_29 rfl (by kernel_rfl)) rfl ?_
          refine TL.st3 (cs' := #[.int .i64 0, .int .i64 0, .bool false, .string ⟨#[]⟩, .bool false, .string ⟨#[]⟩, .slice none 0 0]) rfl .u rfl rfl Try.sizeOf29 rfl rfl rfl rfl ?_
          obtain rfl := Option.some.inj h
          refine TL.nil (X.seq (T.ret (X.rs ?_)))
          refine X.nilrd 3 Hd_rd ?_
          exact X.done1 [5, 0] Try.results17 (RV.cS (us := #[.int .i64 0, .int .i64 0, .bool false, .string ⟨#[]⟩, .bool false, .string ⟨#[]⟩, .slice none 0 0]) 4 rfl Try.isAgg29 Try.sizeOf29 rfl rfl) ⟨_, _, rfl, rfl, rfl⟩ (by rfl) (.inl rfl)
      · replace h := ifF c69 h
        refine TL.nil (X.seq ?_)
        refine T.no rfl (decide_eq_false c69) ?_
        refine T.skip (X.seq (T.seq (T.region rfl ?_)))
        obtain ⟨⟨x89, st90⟩, hx91, h⟩ := Option.bind_eq_some_iff.1 h
        try dsimp only at h
        refine TL.run ft_record_ok [0] rfl rfl ?_
        refine TL.c1 rfl .u (.fn Try.call87 rfl) (gVaried_spec b11 st66 _ hx91) (fun _ hs => (Src.triv _)) rfl ?_
        refine TL.run ft_record_ok [2] rfl rfl ?_
        refine TL.st0 (cs' := #[.int .i64 x62, .int .i64 x65, .bool x89.null, .string (bsOf x89.data), .bool false, .string ⟨#[]⟩, .slice none 0 0]) rfl .u rfl rfl Try.sizeOf26 rfl rfl rfl rfl ?_
        refine TL.nil (X.seq (T.seq (T.region rfl ?_)))
        obtain ⟨⟨x92, st93⟩, hx94, h⟩ := Option.bind_eq_some_iff.1 h
        try dsimp only at h
        refine TL.run ft_record_ok [0] rfl rfl ?_
        refine TL.c1 rfl .u (.fn Try.call87 rfl) (gVaried_spec b11 st90 _ hx94) (fun _ hs => (Src.triv _)) rfl ?_
        refine TL.run ft_record_ok [2] rfl rfl ?_
        refine TL.st0 (cs' := #[.int .i64 x62, .int .i64 x65, .bool x89.null, .string (bsOf x89.data), .bool x92.null, .string (bsOf x92.data), .slice none 0 0]) rfl .u rfl rfl Try.sizeOf26 rfl rfl rfl rfl ?_
        refine TL.nil (X.seq (T.seq (T.region rfl ?_)))
        obtain ⟨⟨x95, st98⟩, hx99, h⟩ := Option.bind_eq_some_iff.1 h
        try dsimp only at h
        refine TL.run ft_record_ok [0] rfl rfl ?_
        refine TL.cg1 rfl .u (.fn Try.call88 rfl) (f_header_Read_spec b11 st93 _ hx99) (fun _ hs => (Src.triv _)) rfl ?_
        rintro _ _ _ ⟨A96, c97, rfl, rfl, rfl⟩
        refine TL.sel [0, 0, 0, 0, 0] rfl ?_
        refine TL.run ft_record_ok [2] rfl rfl ?_
        refine TL.st1 (cs' := #[.int .i64 x62, .int .i64 x65, .bool x89.null, .string (bsOf x89.data), .bool x92.null, .string (bsOf x92.data), .slice A96 x95.length c97]) rfl .u rfl rfl Try.sizeOf27 rfl rfl rfl rfl ?_
        refine TL.nil (X.seq (T.seq (T.seq (T.region rfl ?_))))
        obtain ⟨⟨x100, st101⟩, hx102, h⟩ := Option.bind_eq_some_iff.1 h
        try dsimp only at h
        refine TL.run ft_record_ok [0] rfl rfl ?_
        refine TL.c2 rfl .u (.fn Try.call31 rfl) (gClose_spec b11 st98 _ hx102) (fun _ hs => (Src.triv _)) rfl ?_
        refine TL.run ft_record_ok [2] rfl rfl ?_
        refine TL.nil (X.seq (T.seq (T.region rfl ?_)))
        refine TL.run ft_record_ok [0, 1] rfl rfl ?_
        by_cases c103 : x100 = 0
        · replace h := ifT c103 h
          refine TL.nil (X.seq ?_)
          refine T.no rfl (bn_f (decide_eq_true c103)) ?_
          refine T.skip (X.seq (T.seq (T.region rfl ?_)))
          refine TL.q rfl .u (Ex.bS (us := [.int .i64 x62, .int .i64 x65, .bool x89.null, .string (bsOf x89.data), .bool x92.null, .string (bsOf x92.data), .slice A96 x95.length c97]) 1 rfl Try.isAgg29 Try.sizeOf29 rfl rfl rfl) rfl ?_
          refine TL.st3 (cs' := #[.int .i64 x62, .int .i64 x65, .bool x89.null, .string (bsOf x89.data), .bool x92.null, .string (bsOf x92.data), .slice A96 x95.length c97]) rfl .u rfl rfl Try.sizeOf29 rfl rfl rfl rfl ?_
          obtain rfl := Option.some.inj h
          exact TL.nil (X.seq (T.ret (X.done1 [4, 0] Try.results17 (RV.cS (us := #[.int .i64 x62, .int .i64 x65, .bool x89.null, .string (bsOf x89.data), .bool x92.null, .string (bsOf x92.data), .slice A96 x95.length c97]) 3 rfl Try.isAgg29 Try.sizeOf29 rfl rfl) ⟨_, _, rfl, rfl, rfl⟩ (by rfl) (.inl rfl))))
        · replace h := ifF c103 h
          refine TL.nil (X.seq ?_)
          refine T.yes rfl (bn_t (decide_eq_false c103)) ?_
          refine T.seq (T.region rfl ?_)
          obtain ⟨st104, hx105, h⟩ := Option.bind_eq_some_iff.1 h
          refine TL.run ft_record_ok [0, 1] rfl rfl ?_
          refine TL.c4 rfl .u (.fn Try.call84 rfl) (gIFail_spec g st6 x100 _ hx105) (fun _ hs => (Src.triv _)) rfl ?_
          refine TL.nil (X.seq (T.seq (T.region rfl ?_)))
          refine TL.q rfl .u (Ex.bld (cells := #[.int .i64 0, .int .i64 0, .bool false, .string ⟨#[]⟩, .bool false, .string ⟨#[]⟩, .slice none 0 0]) bok_record_29 rfl (by kernel_rfl)) rfl ?_
          refine TL.st3 (cs' := #[.int .i64 0, .int .i64 0, .bool false, .string ⟨#[]⟩, .bool false, .string ⟨#[]⟩, .slice none 0 0]) rfl .u rfl rfl Try.sizeOf29 rfl rfl rfl rfl ?_
          obtain rfl := Option.some.inj h
          refine TL.nil (X.seq (T.ret (X.rs ?_)))
          refine X.nilrd 3 Hd_rd ?_
          exact X.done1 [5, 0] Try.results17 (RV.cS (us := #[.int .i64 0, .int .i64 0, .bool false, .string ⟨#[]⟩, .bool false, .string ⟨#[]⟩, .slice none 0 0]) 4 rfl Try.isAgg29 Try.sizeOf29 rfl rfl) ⟨_, _, rfl, rfl, rfl⟩ (by rfl) (.inl rfl)
  · replace h := ifF c8 h
    refine TL.nil (X.seq ?_)
    refine T.yes rfl (bn_t (decide_eq_false c8)) ?_
    refine T.seq (T.region rfl ?_)
    refine TL.q rfl .u (Ex.bld (cells := #[.int .i64 0, .int .i64 0, .bool false, .string ⟨#[]⟩, .bool false, .string ⟨#[]⟩, .slice none 0 0]) bok_record_29 rfl (by kernel_rfl)) rfl ?_
    refine TL.st0 (cs' := #[.int .i64 0, .int .i64 0, .bool false, .string ⟨#[]⟩, .bool false, .string ⟨#[]⟩, .slice none 0 0]) rfl .u rfl rfl Try.sizeOf29 rfl rfl rfl rfl ?_
    obtain rfl := Option.some.inj h
    refine TL.nil (X.seq (T.ret (X.rs ?_)))
    refine X.nilrd 3 Hd_rd ?_
    exact X.done1 [2, 0] Try.results17 (RV.cS (us := #[.int .i64 0, .int .i64 0, .bool false, .string ⟨#[]⟩, .bool false, .string ⟨#[]⟩, .slice none 0 0]) 1 rfl Try.isAgg29 Try.sizeOf29 rfl rfl) ⟨_, _, rfl, rfl, rfl⟩ (by rfl) (.inl rfl)
def f_record_Decode (a0 : List UInt8) : Option (Rec × Int) := (gNew a0).bind fun st2 => (f_record_Read st2).bind fun (x5, st8) => (gClose st8).bind fun (x11, st12) => if x11 = 0 then some (x5, 0) else (some ((⟨0, 0, (⟨false, []⟩ : Bl), (⟨false, []⟩ : Bl), []⟩ : Rec), x11))
set_option maxRecDepth 100000 in
set_option maxHeartbeats 4000000 in
theorem f_record_Decode_spec (a0 : List UInt8) (r : Rec × Int) (h : f_record_Decode a0 = some r) : SpecX Try.prog 22 #[.string (bsOf a0)] .triv (EmpR) (fun v A' N => ∃ (A15 : Option Addr) (c16 : Nat), v = .tuple #[.agg #[.int .i64 r.1.fTime, .int .i64 r.1.fOffset, .bool r.1.fKey.null, .string (bsOf r.1.fKey.data), .bool r.1.fValue.null, .string (bsOf r.1.fValue.data), .slice A15 r.1.fHeaders.length c16], .int .i64 r.2] ∧ A' = EmpR ∧ N = [RdR (sliceRd 3 Hd_rd) [.slice A15 r.1.fHeaders.length c16] r.1.fHeaders]) := by
  refine enterA Try.func22 rfl Try.ntmps22 rfl ?_
  intro F w hX
  unfold f_record_Decode at h
  refine T.seq (T.region rfl ?_)
  refine TL.alloc rfl .u Try.zeroValue29 rfl (fun b1 => ?_)
  refine TL.run ft_record_ok [1] rfl rfl ?_
  refine TL.nil (X.seq (T.seq (T.region rfl ?_)))
  obtain ⟨st2, hx3, h⟩ := Option.bind_eq_some_iff.1 h
  refine TL.run ft_record_ok [0] rfl rfl ?_
  refine TL.cge rfl .u (.fn Try.call16 rfl) (gNew_spec a0 _ hx3) (fun _ hs => (RX.reads_triv _ _)) rfl ?_
  rintro _ _ _ ⟨b4, rfl, rfl, rfl⟩
  refine TL.sel [0, 0, 0] rfl ?_
  refine TL.run ft_record_ok [2] rfl rfl ?_
  refine TL.nil (X.seq (T.seq (T.region rfl ?_)))
  obtain ⟨⟨x5, st8⟩, hx9, h⟩ := Option.bind_eq_some_iff.1 h
  try dsimp only at h
  refine TL.run ft_record_ok [0] rfl rfl ?_
  refine TL.cg0 rfl .u (.fn Try.call17 rfl) (f_record_Read_spec b4 st2 _ hx9) (fun _ hs => (Src.triv _)) rfl ?_
  rintro _ _ _ ⟨A6, c7, rfl, rfl, rfl⟩
  refine TL.sel [0, 0, 0, 0] rfl ?_
  refine TL.alloc rfl .u Try.zeroValue29 rfl (fun b10 => ?_)
  refine TL.st0 (cs' := #[.int .i64 x5.fTime, .int .i64 x5.fOffset, .bool x5.fKey.null, .string (bsOf x5.fKey.data), .bool x5.fValue.null, .string (bsOf x5.fValue.data), .slice A6 x5.fHeaders.length c7]) rfl .u rfl rfl Try.sizeOf29 rfl rfl rfl rfl ?_
  refine TL.nil (X.seq (T.seq (T.seq (T.region rfl ?_))))
  obtain ⟨⟨x11, st12⟩, hx13, h⟩ := Option.bind_eq_some_iff.1 h
  try dsimp only at h
  refine TL.run ft_record_ok [0] rfl rfl ?_
  refine TL.c2 rfl .u (.fn Try.call31 rfl) (gClose_spec b4 st8 _ hx13) (fun _ hs => (Src.triv _)) rfl ?_
  refine TL.run ft_record_ok [2] rfl rfl ?_
  refine TL.nil (X.seq (T.seq (T.region rfl ?_)))
  refine TL.run ft_record_ok [0, 1] rfl rfl ?_
  by_cases c14 : x11 = 0
  · replace h := ifT c14 h
    refine TL.nil (X.seq ?_)
    refine T.no rfl (bn_f (decide_eq_true c14)) ?_
    refine T.skip (X.seq (T.seq (T.region rfl ?_)))
    refine TL.q rfl .u (Ex.bS (us := [.int .i64 x5.fTime, .int .i64 x5.fOffset, .bool x5.fKey.null, .string (bsOf x5.fKey.data), .bool x5.fValue.null, .string (bsOf x5.fValue.data), .slice A6 x5.fHeaders.length c7]) 0 rfl Try.isAgg29 Try.sizeOf29 rfl rfl rfl) rfl ?_
    refine TL.st3 (cs' := #[.int .i64 x5.fTime, .int .i64 x5.fOffset, .bool x5.fKey.null, .string (bsOf x5.fKey.data), .bool x5.fValue.null, .string (bsOf x5.fValue.data), .slice A6 x5.fHeaders.length c7]) rfl .u rfl rfl Try.sizeOf29 rfl rfl rfl rfl ?_
    refine TL.run ft_record_ok [2] rfl rfl ?_
    obtain rfl := Option.some.inj h
    exact TL.nil (X.seq (T.ret (X.done2 [4, 1] Try.results22 (RV.cS (us := #[.int .i64 x5.fTime, .int .i64 x5.fOffset, .bool x5.fKey.null, .string (bsOf x5.fKey.data), .bool x5.fValue.null, .string (bsOf x5.fValue.data), .slice A6 x5.fHeaders.length c7]) 3 rfl Try.isAgg29 Try.sizeOf29 rfl rfl) (RV.tm rfl) ⟨_, _, rfl, rfl, rfl⟩ (by rfl) (.inl rfl))))
  · replace h := ifF c14 h
    refine TL.nil (X.seq ?_)
    refine T.yes rfl (bn_t (decide_eq_false c14)) ?_
    refine T.seq (T.region rfl ?_)
    refine TL.q rfl .u (Ex.bld (cells := #[.int .i64 0, .int .i64 0, .bool false, .string ⟨#[]⟩, .bool false, .string ⟨#[]⟩, .slice none 0 0]) bok_record_29 rfl (by kernel_rfl)) rfl ?_
    refine TL.run ft_record_ok [1] rfl rfl ?_
    refine TL.st3 (cs' := #[.int .i64 0, .int .i64 0, .bool false, .string ⟨#[]⟩, .bool false, .string ⟨#[]⟩, .slice none 0 0]) rfl .u rfl rfl Try.sizeOf29 rfl rfl rfl rfl ?_
    refine TL.run ft_record_ok [3] rfl rfl ?_
    obtain rfl := Option.some.inj h
    refine TL.nil (X.seq (T.ret (X.rs ?_)))
    refine X.nilrd 3 Hd_rd ?_
    exact X.done2 [5, 0] Try.results22 (RV.cS (us := #[.int .i64 0, .int .i64 0, .bool false, .string ⟨#[]⟩, .bool false, .string ⟨#[]⟩, .slice none 0 0]) 4 rfl Try.isAgg29 Try.sizeOf29 rfl rfl) (RV.tm rfl) ⟨_, _, rfl, rfl, rfl⟩ (by rfl) (.inl rfl)
def f_record_rights_l1 : List Bl → Bool → Option (Lp Bool Bool)
  | [], y3 => some (Lp.go y3)
  | x9 :: xs, y3 => (gRight x9).bind fun x14 => if x14 = true then (f_record_rights_l1 xs y3) else some (Lp.ret false)
def f_record_rights (a0 : List Bl) : Option (Bool) := (f_record_rights_l1 a0 false).bind fun e => match e with | .ret r => some r | .go y17 => some true
set_option maxRecDepth 100000 in
set_option maxHeartbeats 4000000 in
theorem f_record_rights_spec (a0 : List Bl) (A1 : Option Addr) (c2 : Nat) (r : Bool) (h : f_record_rights a0 = some r) : SpecX Try.prog 97 #[.slice A1 a0.length c2] (RX.of (sliceRd 2 Bl_rd) [.slice A1 a0.length c2] a0) (EmpR) (fun v A' N => v = .bool r ∧ A' = EmpR ∧ N = []) := by
  refine enterA Try.func97 rfl Try.ntmps97 rfl ?_
  intro F w hX
  unfold f_record_rights at h
  refine T.seq (T.region rfl ?_)
  refine TL.run ft_record_ok [0] rfl rfl ?_
  refine TL.nil (X.seq (T.seq (T.seq (T.region rfl ?_))))
  refine TL.run ft_record_ok [0] rfl rfl ?_
  refine TL.q rfl .u (Ex.lenS rfl Try.runUnderlying235) rfl ?_
  refine TL.run ft_record_ok [2] rfl rfl ?_
  refine TL.nil (X.seq (T.block ?_))
  obtain ⟨E5, hE6, hO7⟩ := Option.bind_eq_some_iff.1 h
  have hk11len := RX.len_le hX
  refine T.lp (fun m e Rs => ∃ (y3 : Bool) (k4 : Nat), k4 + m = a0.length ∧ e = [(2, .bool y3), (5, .slice A1 a0.length c2), (6, .int .i64 (a0.length : Int)), (7, .int .i64 (k4 : Int))] ∧ Rs = [EmpR] ∧ f_record_rights_l1 (a0.drop k4) y3 = some E5) (a0.length) [0] ⟨false, 0, by simp, rfl, rfl, by rw [List.drop_zero]; exact hE6⟩ (by rfl) (by rfl) ?_
  rintro m8 _ _ ⟨y3, k4, hk11, rfl, rfl, hl10⟩
  clear hE6 h
  cases m8 with
  | zero =>
    have h := hl10
    clear hl10
    rw [List.drop_of_length_le (by omega), f_record_rights_l1] at h
    have hk11ge : ¬ ((k4 : Int) < (a0.length : Int)) := by omega
    refine T.seq (T.region rfl ?_)
    refine TL.run ft_record_ok [0] rfl rfl ?_
    refine TL.nil (X.seq (T.seq ?_))
    refine T.no rfl (decide_eq_false hk11ge) ?_
    obtain rfl := Option.some.inj h
    replace h := hO7
    clear hO7
    try dsimp only at h
    refine T.exit (X.exs (X.exs (X.ex (X.seq (T.seq (T.region rfl ?_))))))
    refine TL.run ft_record_ok [0] rfl rfl ?_
    obtain rfl := Option.some.inj h
    exact TL.nil (X.seq (T.ret (X.done1 [0] Try.results97 (RV.tm rfl) ⟨rfl, rfl, rfl⟩ (by rfl) (.inl rfl))))
  | succ m8 =>
    have h := hl10
    clear hl10
    obtain ⟨x9, hxx9⟩ : ∃ x, a0[k4]? = some x := ⟨_, List.getElem?_eq_getElem (by omega)⟩
    rw [drop_cons hxx9, f_record_rights_l1] at h
    have hk11lt : (k4 : Int) < (a0.length : Int) := by omega
    refine T.seq (T.region rfl ?_)
    refine TL.run ft_record_ok [0] rfl rfl ?_
    refine TL.nil (X.seq (T.seq ?_))
    refine T.yes rfl (decide_eq_true hk11lt) ?_
    obtain ⟨gz12, oz12, rfl, z12cs, z12cl, z12cc, z12nf, z12r⟩ := RX.elem (by decide) hX hxx9
    obtain ⟨z12S, z12r, z12rr⟩ := z12r
    obtain rfl : z12cs = [.bool x9.null, .string (bsOf x9.data)] := z12r
    refine T.skip (X.seq (T.seq (T.block (T.seq (T.region rfl ?_)))))
    refine TL.q rfl .u (Ex.ixS (k := k4) rfl rfl rfl Try.runUnderlying235 Try.sizeOf26 (List.getElem?_eq_some_iff.1 hxx9).1) rfl ?_
    refine TL.q rfl .u (Ex.oS (us := [.bool x9.null, .string (bsOf x9.data)]) 0 rfl Try.isAgg26 Try.sizeOf26 z12nf z12cc rfl rfl rfl) rfl ?_
    refine TL.alloc rfl .u Try.zeroValue26 rfl (fun b13 => ?_)
    refine TL.st0 (cs' := #[.bool x9.null, .string (bsOf x9.data)]) rfl .u rfl rfl Try.sizeOf26 rfl rfl rfl rfl ?_
    refine TL.nil (X.seq (T.seq (T.region rfl ?_)))
    refine TL.q rfl .u (Ex.bS (us := [.bool x9.null, .string (bsOf x9.data)]) 0 rfl Try.isAgg26 Try.sizeOf26 rfl rfl rfl) rfl ?_
    obtain ⟨x14, hx15, h⟩ := Option.bind_eq_some_iff.1 h
    refine TL.ce rfl .u (.fn Try.call138 rfl) (gRight_spec x9 _ hx15) (fun _ hs => (RX.reads_triv _ _)) rfl ?_
    refine TL.run ft_record_ok [2] rfl rfl ?_
    by_cases c16 : x14 = true
    · replace h := ifT c16 h
      refine TL.nil (X.seq ?_)
      refine T.no rfl (bn_f c16) ?_
      refine T.skip (X.blk (X.seq (T.region rfl ?_)))
      refine TL.q rfl .u (Ex.add rfl rfl (by omega)) rfl ?_
      refine TL.run ft_record_ok [1] rfl rfl ?_
      exact TL.nil (X.back (m' := m8) [1] (by omega) ⟨y3, k4 + 1, by omega, rfl, rfl, h⟩ (by rfl) (by rfl))
    · replace h := ifF c16 h
      replace c16 := eq_false_of_ne_true c16
      refine TL.nil (X.seq ?_)
      refine T.yes rfl (bn_t c16) ?_
      refine T.seq (T.region rfl ?_)
      refine TL.run ft_record_ok [0] rfl rfl ?_
      obtain rfl := Option.some.inj h
      replace h := hO7
      clear hO7
      try dsimp only at h
      obtain rfl := Option.some.inj h
      exact TL.nil (X.seq (T.ret (X.rb (X.rs (X.rs (X.rb (X.rs (X.done1 [1] Try.results97 (RV.tm rfl) ⟨rfl, rfl, rfl⟩ (by rfl) (.inl rfl)))))))))
def f_record_Right_l1 : List Hd → Int → Option (Lp Int Int)
  | [], y12 => some (Lp.go y12)
  | x18 :: xs, y12 => (f_record_rights [x18.fValue]).bind fun x24 => if x24 = true then (f_record_Right_l1 xs y12) else some (Lp.ret 4)
def f_record_Right (a0 : Rec) : Option (Int) := if a0.fOffset < 0 then some 11 else ((gFits a0.fOffset 4).bind fun x5 => if x5 = true then ((f_record_rights [a0.fKey, a0.fValue]).bind fun x9 => if x9 = true then ((f_record_Right_l1 a0.fHeaders 0).bind fun e => match e with | .ret r => some r | .go y27 => some 0) else some 4) else some 11)
set_option maxRecDepth 100000 in
set_option maxHeartbeats 4000000 in
theorem f_record_Right_spec (a0 : Rec) (A1 : Option Addr) (c2 : Nat) (r : Int) (h : f_record_Right a0 = some r) : SpecX Try.prog 26 #[.agg #[.int .i64 a0.fTime, .int .i64 a0.fOffset, .bool a0.fKey.null, .string (bsOf a0.fKey.data), .bool a0.fValue.null, .string (bsOf a0.fValue.data), .slice A1 a0.fHeaders.length c2]] (RX.of (sliceRd 3 Hd_rd) [.slice A1 a0.fHeaders.length c2] a0.fHeaders) (EmpR) (fun v A' N => v = .int .i64 r ∧ A' = EmpR ∧ N = []) := by
  refine enterA Try.func26 rfl Try.ntmps26 rfl ?_
  intro F w hX
  unfold f_record_Right at h
  refine T.seq (T.region rfl ?_)
  refine TL.box rfl .u rfl rfl (fun b3 => ?_)
  refine TL.run ft_record_ok [1] rfl rfl ?_
  refine TL.nil (X.seq (T.seq (T.seq (T.region rfl ?_))))
  refine TL.run ft_record_ok [0] rfl rfl ?_
  refine TL.q rfl .u (Ex.b1 0 rfl Try.isAgg3 rfl rfl) rfl ?_
  by_cases c4 : a0.fOffset < 0
  · replace h := ifT c4 h
    refine TL.run ft_record_ok [2, 3] rfl rfl ?_
    refine TL.no rfl (.gn rfl rfl (decide_eq_true c4)) rfl ?_
    refine TL.no rfl (.gn rfl rfl (decide_eq_true c4)) rfl ?_
    refine TL.no rfl (.gn rfl rfl (decide_eq_true c4)) rfl ?_
    refine TL.no rfl (.gn rfl rfl (decide_eq_true c4)) rfl ?_
    refine TL.q rfl .u (Ex.py rfl (decide_eq_true c4) rfl) rfl ?_
    refine TL.nil (X.seq ?_)
    refine T.yes rfl rfl ?_
    refine T.seq (T.region rfl ?_)
    refine TL.run ft_record_ok [0] rfl rfl ?_
    obtain rfl := Option.some.inj h
    exact TL.nil (X.seq (T.ret (X.rs (X.done1 [1] Try.results26 (RV.tm rfl) ⟨rfl, rfl, rfl⟩ (by rfl) (.inl rfl)))))
  · replace h := ifF c4 h
    refine TL.run ft_record_ok [2, 3] rfl rfl ?_
    refine TL.q rfl (.g rfl rfl (decide_eq_false c4)) (Ex.ft ft_record_ok rfl) rfl ?_
    refine TL.q rfl (.g rfl rfl (decide_eq_false c4)) (Ex.b1 0 rfl Try.isAgg3 rfl rfl) rfl ?_
    obtain ⟨x5, hx6, h⟩ := Option.bind_eq_some_iff.1 h
    refine TL.ce rfl (.g rfl rfl (decide_eq_false c4)) (.fn Try.call96 rfl) (SpecX.pure (fun w => gFits_spec a0.fOffset 4 _ hx6 w)) (fun _ _ => RX.reads_triv _ _) rfl ?_
    refine TL.q rfl (.g rfl rfl (decide_eq_false c4)) (Ex.ft ft_record_ok rfl) rfl ?_
    refine TL.q rfl .u (Ex.pn rfl (decide_eq_false c4) rfl) rfl ?_
    by_cases c7 : x5 = true
    · replace h := ifT c7 h
      refine TL.nil (X.seq ?_)
      refine T.no rfl (bn_f c7) ?_
      refine T.skip (X.seq (T.seq (T.seq (T.region rfl ?_))))
      refine TL.run ft_record_ok [0] rfl rfl ?_
      refine TL.q rfl .u (Ex.bS (us := [.bool a0.fKey.null, .string (bsOf a0.fKey.data)]) 0 rfl Try.isAgg26 Try.sizeOf26 rfl rfl rfl) rfl ?_
      refine TL.run ft_record_ok [2] rfl rfl ?_
      refine TL.q rfl .u (Ex.bS (us := [.bool a0.fValue.null, .string (bsOf a0.fValue.data)]) 0 rfl Try.isAgg26 Try.sizeOf26 rfl rfl rfl) rfl ?_
      refine TL.lit (cells := #[.bool a0.fKey.null, .string (bsOf a0.fKey.data), .bool a0.fValue.null, .string (bsOf a0.fValue.data)]) rfl .u sok_record_235_2 rfl (by rfl) rfl (fun b8 => ?_)
      refine TL.rowOf (us := [.bool a0.fKey.null, .string (bsOf a0.fKey.data), .bool a0.fValue.null, .string (bsOf a0.fValue.data)]) (xs := [a0.fKey, a0.fValue]) (E := Bl_rd) (z := 2) rfl (Nat.le_of_ble_eq_true rfl) (fun _ => ⟨rfl, rfl, ⟨rfl, rfl, rfl⟩⟩) ?_
      obtain ⟨x9, hx10, h⟩ := Option.bind_eq_some_iff.1 h
      refine TL.ce rfl .u (.fn Try.call97 rfl) (f_record_rights_spec [a0.fKey, a0.fValue] _ _ _ hx10) (fun _ hs => (SrcE.res 0 hs rfl (fun w G h => own_reads (by decide) w G h))) rfl ?_
      refine TL.run ft_record_ok [6] rfl rfl ?_
      by_cases c11 : x9 = true
      · replace h := ifT c11 h
        refine TL.nil (X.seq ?_)
        refine T.no rfl (bn_f c11) ?_
        refine T.skip (X.seq (T.seq (T.seq (T.region rfl ?_))))
        refine TL.run ft_record_ok [0] rfl rfl ?_
        refine TL.q rfl .u (Ex.b1 1 rfl Try.isAgg27 rfl rfl) rfl ?_
        refine TL.q rfl .u (Ex.lenS rfl Try.runUnderlying27) rfl ?_
        refine TL.run ft_record_ok [3] rfl rfl ?_
        refine TL.nil (X.seq (T.block ?_))
        obtain ⟨E14, hE15, hO16⟩ := Option.bind_eq_some_iff.1 h
        have hk20len := RX.len_le hX
        refine T.lp (fun m e Rs => ∃ (y12 : Int) (k13 : Nat), k13 + m = a0.fHeaders.length ∧ e = [(2, .int .i64 y12), (22, .slice A1 a0.fHeaders.length c2), (23, .int .i64 (a0.fHeaders.length : Int)), (24, .int .i64 (k13 : Int))] ∧ Rs = [OwnR 26 2 Bl_rd (.slice (some ⟨b8, 0, none⟩) 2 2) [a0.fKey, a0.fValue], BlkR b3 29 #[.int .i64 a0.fTime, .int .i64 a0.fOffset, .bool a0.fKey.null, .string (bsOf a0.fKey.data), .bool a0.fValue.null, .string (bsOf a0.fValue.data), .slice A1 a0.fHeaders.length c2], EmpR] ∧ f_record_Right_l1 (a0.fHeaders.drop k13) y12 = some E14) (a0.fHeaders.length) [0, 0, 0] ⟨0, 0, by simp, rfl, rfl, by rw [List.drop_zero]; exact hE15⟩ (by rfl) (by rfl) ?_
        rintro m17 _ _ ⟨y12, k13, hk20, rfl, rfl, hl19⟩
        clear hE15 h
        cases m17 with
        | zero =>
          have h := hl19
          clear hl19
          rw [List.drop_of_length_le (by omega), f_record_Right_l1] at h
          have hk20ge : ¬ ((k13 : Int) < (a0.fHeaders.length : Int)) := by omega
          refine T.seq (T.region rfl ?_)
          refine TL.run ft_record_ok [0] rfl rfl ?_
          refine TL.nil (X.seq (T.seq ?_))
          refine T.no rfl (decide_eq_false hk20ge) ?_
          obtain rfl := Option.some.inj h
          replace h := hO16
          clear hO16
          try dsimp only at h
          refine T.exit (X.exs (X.exs (X.ex (X.seq (T.seq (T.region rfl ?_))))))
          refine TL.run ft_record_ok [0] rfl rfl ?_
          obtain rfl := Option.some.inj h
          exact TL.nil (X.seq (T.ret (X.done1 [2] Try.results26 (RV.tm rfl) ⟨rfl, rfl, rfl⟩ (by rfl) (.inl rfl))))
        | succ m17 =>
          have h := hl19
          clear hl19
          obtain ⟨x18, hxx18⟩ : ∃ x, a0.fHeaders[k13]? = some x := ⟨_, List.getElem?_eq_getElem (by omega)⟩
          rw [drop_cons hxx18, f_record_Right_l1] at h
          have hk20lt : (k13 : Int) < (a0.fHeaders.length : Int) := by omega
          refine T.seq (T.region rfl ?_)
          refine TL.run ft_record_ok [0] rfl rfl ?_
          refine TL.nil (X.seq (T.seq ?_))
          refine T.yes rfl (decide_eq_true hk20lt) ?_
          obtain ⟨gz21, oz21, rfl, z21cs, z21cl, z21cc, z21nf, z21r⟩ := RX.elem (by decide) hX hxx18
          obtain ⟨z21S, z21r, z21rr⟩ := z21r
          obtain rfl : z21cs = [.string (bsOf x18.fKey), .bool x18.fValue.null, .string (bsOf x18.fValue.data)] := z21r
          refine T.skip (X.seq (T.seq (T.block (T.seq (T.region rfl ?_)))))
          refine TL.q rfl .u (Ex.ixS (k := k13) rfl rfl rfl Try.runUnderlying27 Try.sizeOf93 (List.getElem?_eq_some_iff.1 hxx18).1) rfl ?_
          refine TL.q rfl .u (Ex.oS (us := [.string (bsOf x18.fKey), .bool x18.fValue.null, .string (bsOf x18.fValue.data)]) 0 rfl Try.isAgg93 Try.sizeOf93 z21nf z21cc rfl rfl rfl) rfl ?_
          refine TL.alloc rfl .u Try.zeroValue93 rfl (fun b22 => ?_)
          refine TL.st0 (cs' := #[.string (bsOf x18.fKey), .bool x18.fValue.null, .string (bsOf x18.fValue.data)]) rfl .u rfl rfl Try.sizeOf93 rfl rfl rfl rfl ?_
          refine TL.nil (X.seq (T.seq (T.region rfl ?_)))
          refine TL.run ft_record_ok [0] rfl rfl ?_
          refine TL.q rfl .u (Ex.bS (us := [.bool x18.fValue.null, .string (bsOf x18.fValue.data)]) 0 rfl Try.isAgg26 Try.sizeOf26 rfl rfl rfl) rfl ?_
          refine TL.lit (cells := #[.bool x18.fValue.null, .string (bsOf x18.fValue.data)]) rfl .u sok_record_235_1 rfl (by rfl) rfl (fun b23 => ?_)
          refine TL.rowOf (us := [.bool x18.fValue.null, .string (bsOf x18.fValue.data)]) (xs := [x18.fValue]) (E := Bl_rd) (z := 2) rfl (Nat.le_of_ble_eq_true rfl) (fun _ => ⟨rfl, rfl, rfl⟩) ?_
          obtain ⟨x24, hx25, h⟩ := Option.bind_eq_some_iff.1 h
          refine TL.ce rfl .u (.fn Try.call97 rfl) (f_record_rights_spec [x18.fValue] _ _ _ hx25) (fun _ hs => (SrcE.res 0 hs rfl (fun w G h => own_reads (by decide) w G h))) rfl ?_
          refine TL.run ft_record_ok [4] rfl rfl ?_
          by_cases c26 : x24 = true
          · replace h := ifT c26 h
            refine TL.nil (X.seq ?_)
            refine T.no rfl (bn_f c26) ?_
            refine T.skip (X.blk (X.seq (T.region rfl ?_)))
            refine TL.q rfl .u (Ex.add rfl rfl (by omega)) rfl ?_
            refine TL.run ft_record_ok [1] rfl rfl ?_
            exact TL.nil (X.back (m' := m17) [2, 2, 2] (by omega) ⟨y12, k13 + 1, by omega, rfl, rfl, h⟩ (by rfl) (by rfl))
          · replace h := ifF c26 h
            replace c26 := eq_false_of_ne_true c26
            refine TL.nil (X.seq ?_)
            refine T.yes rfl (bn_t c26) ?_
            refine T.seq (T.region rfl ?_)
            refine TL.run ft_record_ok [0] rfl rfl ?_
            obtain rfl := Option.some.inj h
            replace h := hO16
            clear hO16
            try dsimp only at h
            obtain rfl := Option.some.inj h
            exact TL.nil (X.seq (T.ret (X.rb (X.rs (X.rs (X.rb (X.rs (X.done1 [4] Try.results26 (RV.tm rfl) ⟨rfl, rfl, rfl⟩ (by rfl) (.inl rfl)))))))))
      · replace h := ifF c11 h
        replace c11 := eq_false_of_ne_true c11
        refine TL.nil (X.seq ?_)
        refine T.yes rfl (bn_t c11) ?_
        refine T.seq (T.region rfl ?_)
        refine TL.run ft_record_ok [0] rfl rfl ?_
        obtain rfl := Option.some.inj h
        exact TL.nil (X.seq (T.ret (X.rs (X.done1 [2] Try.results26 (RV.tm rfl) ⟨rfl, rfl, rfl⟩ (by rfl) (.inl rfl)))))
    · replace h := ifF c7 h
      replace c7 := eq_false_of_ne_true c7
      refine TL.nil (X.seq ?_)
      refine T.yes rfl (bn_t c7) ?_
      refine T.seq (T.region rfl ?_)
      refine TL.run ft_record_ok [0] rfl rfl ?_
      obtain rfl := Option.some.inj h
      exact TL.nil (X.seq (T.ret (X.rs (X.done1 [1] Try.results26 (RV.tm rfl) ⟨rfl, rfl, rfl⟩ (by rfl) (.inl rfl)))))
def f_record_body (a0 : Rec) : Option (List UInt8 × Int) := (gOByte ([], 0) 0).bind fun st5 => (gPutLong st5 a0.fTime).bind fun st7 => (gPutInt st7 a0.fOffset).bind fun st9 => (gPutVaried st9 a0.fKey).bind fun st11 => (gPutVaried st11 a0.fValue).bind fun st13 => (f_header_Write st13 a0.fHeaders).bind fun st15 => (gOText st15).bind fun (x17, x18, st19) => some (x17, x18)
set_option maxRecDepth 100000 in
set_option maxHeartbeats 4000000 in
theorem f_record_body_spec (a0 : Rec) (A1 : Option Addr) (c2 : Nat) (r : List UInt8 × Int) (h : f_record_body a0 = some r) : SpecX Try.prog 102 #[.agg #[.int .i64 a0.fTime, .int .i64 a0.fOffset, .bool a0.fKey.null, .string (bsOf a0.fKey.data), .bool a0.fValue.null, .string (bsOf a0.fValue.data), .slice A1 a0.fHeaders.length c2]] (RX.of (sliceRd 3 Hd_rd) [.slice A1 a0.fHeaders.length c2] a0.fHeaders) (EmpR) (fun v A' N => v = .tuple #[.string (bsOf r.1), .int .i64 r.2] ∧ A' = EmpR ∧ N = []) := by
  refine enterA Try.func102 rfl Try.ntmps102 rfl ?_
  intro F w hX
  unfold f_record_body at h
  refine T.seq (T.region rfl ?_)
  refine TL.box rfl .u rfl rfl (fun b3 => ?_)
  refine TL.run ft_record_ok [1, 2] rfl rfl ?_
  refine TL.nil (X.seq (T.seq (T.region rfl ?_)))
  refine TL.newout rfl .u Try.zeroValue50 rfl (fun b4 => ?_)
  obtain ⟨st5, hx6, h⟩ := Option.bind_eq_some_iff.1 h
  refine TL.nil (X.seq (T.seq (T.region rfl ?_)))
  refine TL.c0 rfl .u (.fn Try.call174 rfl) (gOByte_spec b4 ([], 0) 0 _ hx6) (fun _ hs => (Src.triv _)) rfl ?_
  refine TL.nil (X.seq (T.seq (T.region rfl ?_)))
  refine TL.run ft_record_ok [0] rfl rfl ?_
  refine TL.q rfl .u (Ex.b1 1 rfl Try.isAgg3 rfl rfl) rfl ?_
  obtain ⟨st7, hx8, h⟩ := Option.bind_eq_some_iff.1 h
  refine TL.c0 rfl .u (.fn Try.call175 rfl) (gPutLong_spec b4 st5 a0.fTime _ hx8) (fun _ hs => (Src.triv _)) rfl ?_
  refine TL.nil (X.seq (T.seq (T.region rfl ?_)))
  refine TL.run ft_record_ok [0] rfl rfl ?_
  refine TL.q rfl .u (Ex.b1 1 rfl Try.isAgg3 rfl rfl) rfl ?_
  obtain ⟨st9, hx10, h⟩ := Option.bind_eq_some_iff.1 h
  refine TL.c0 rfl .u (.fn Try.call176 rfl) (gPutInt_spec b4 st7 a0.fOffset _ hx10) (fun _ hs => (Src.triv _)) rfl ?_
  refine TL.nil (X.seq (T.seq (T.region rfl ?_)))
  refine TL.run ft_record_ok [0] rfl rfl ?_
  refine TL.q rfl .u (Ex.bS (us := [.bool a0.fKey.null, .string (bsOf a0.fKey.data)]) 1 rfl Try.isAgg26 Try.sizeOf26 rfl rfl rfl) rfl ?_
  obtain ⟨st11, hx12, h⟩ := Option.bind_eq_some_iff.1 h
  refine TL.c0 rfl .u (.fn Try.call177 rfl) (gPutVaried_spec b4 st9 a0.fKey _ hx12) (fun _ hs => (Src.triv _)) rfl ?_
  refine TL.nil (X.seq (T.seq (T.region rfl ?_)))
  refine TL.run ft_record_ok [0] rfl rfl ?_
  refine TL.q rfl .u (Ex.bS (us := [.bool a0.fValue.null, .string (bsOf a0.fValue.data)]) 1 rfl Try.isAgg26 Try.sizeOf26 rfl rfl rfl) rfl ?_
  obtain ⟨st13, hx14, h⟩ := Option.bind_eq_some_iff.1 h
  refine TL.c0 rfl .u (.fn Try.call177 rfl) (gPutVaried_spec b4 st11 a0.fValue _ hx14) (fun _ hs => (Src.triv _)) rfl ?_
  refine TL.nil (X.seq (T.seq (T.region rfl ?_)))
  refine TL.run ft_record_ok [0] rfl rfl ?_
  refine TL.q rfl .u (Ex.b1 1 rfl Try.isAgg27 rfl rfl) rfl ?_
  obtain ⟨st15, hx16, h⟩ := Option.bind_eq_some_iff.1 h
  refine TL.c0 rfl .u (.fn Try.call178 rfl) (f_header_Write_spec b4 st13 a0.fHeaders _ _ _ hx16) (fun _ hs => (Src.old hs hX)) rfl ?_
  obtain ⟨⟨x17, x18, st19⟩, hx20, h⟩ := Option.bind_eq_some_iff.1 h
  try dsimp only at h
  refine TL.nil (X.seq (T.seq (T.region rfl ?_)))
  refine TL.c0 rfl .u (.fn Try.call30 rfl) (gOText_spec b4 st15 _ hx20) (fun _ hs => (Src.triv _)) rfl ?_
  refine TL.run ft_record_ok [1, 2, 3, 4] rfl rfl ?_
  obtain rfl := Option.some.inj h
  exact TL.nil (X.seq (T.ret (X.done2 [2] Try.results102 (RV.tm rfl) (RV.tm rfl) ⟨rfl, rfl, rfl⟩ (by rfl) (.inl rfl))))
def f_record_Write (st : List UInt8 × Int) (a1 : Rec) : Option (List UInt8 × Int) := (f_record_Right a1).bind fun x4 => if x4 = 0 then ((f_record_body a1).bind fun (x7, x8) => if x8 = 0 then ((gPutName st x7).bind fun st11 => some st11) else ((gOFail st x8).bind fun st13 => some st13)) else ((gOFail st x4).bind fun st15 => some st15)
set_option maxRecDepth 100000 in
set_option maxHeartbeats 4000000 in
theorem f_record_Write_spec (g : Nat) (st : List UInt8 × Int) (a1 : Rec) (A1 : Option Addr) (c2 : Nat) (r : List UInt8 × Int) (h : f_record_Write st a1 = some r) : SpecX Try.prog 29 #[.pointer (some ⟨g, 0, none⟩), .agg #[.int .i64 a1.fTime, .int .i64 a1.fOffset, .bool a1.fKey.null, .string (bsOf a1.fKey.data), .bool a1.fValue.null, .string (bsOf a1.fValue.data), .slice A1 a1.fHeaders.length c2]] (RX.of (sliceRd 3 Hd_rd) [.slice A1 a1.fHeaders.length c2] a1.fHeaders) (OutR g st) (fun v A' N => v = .tuple #[] ∧ A' = OutR g r ∧ N = []) := by
  refine enterA Try.func29 rfl Try.ntmps29 rfl ?_
  intro F w hX
  unfold f_record_Write at h
  refine T.seq (T.region rfl ?_)
  refine TL.box rfl .u rfl rfl (fun b3 => ?_)
  refine TL.nil (X.seq (T.seq (T.seq (T.region rfl ?_))))
  refine TL.q rfl .u (Ex.bS (us := [.int .i64 a1.fTime, .int .i64 a1.fOffset, .bool a1.fKey.null, .string (bsOf a1.fKey.data), .bool a1.fValue.null, .string (bsOf a1.fValue.data), .slice A1 a1.fHeaders.length c2]) 0 rfl Try.isAgg29 Try.sizeOf29 rfl rfl rfl) rfl ?_
  obtain ⟨x4, hx5, h⟩ := Option.bind_eq_some_iff.1 h
  refine TL.ce rfl .u (.fn Try.call26 rfl) (f_record_Right_spec a1 _ _ _ hx5) (fun _ hs => (SrcE.old hs hX)) rfl ?_
  refine TL.run ft_record_ok [2] rfl rfl ?_
  refine TL.nil (X.seq (T.seq (T.region rfl ?_)))
  refine TL.run ft_record_ok [0, 1] rfl rfl ?_
  by_cases c6 : x4 = 0
  · replace h := ifT c6 h
    refine TL.nil (X.seq ?_)
    refine T.no rfl (bn_f (decide_eq_true c6)) ?_
    refine T.skip (X.seq (T.seq (T.region rfl ?_)))
    refine TL.q rfl .u (Ex.bS (us := [.int .i64 a1.fTime, .int .i64 a1.fOffset, .bool a1.fKey.null, .string (bsOf a1.fKey.data), .bool a1.fValue.null, .string (bsOf a1.fValue.data), .slice A1 a1.fHeaders.length c2]) 0 rfl Try.isAgg29 Try.sizeOf29 rfl rfl rfl) rfl ?_
    obtain ⟨⟨x7, x8⟩, hx9, h⟩ := Option.bind_eq_some_iff.1 h
    try dsimp only at h
    refine TL.ce rfl .u (.fn Try.call102 rfl) (f_record_body_spec a1 _ _ _ hx9) (fun _ hs => (SrcE.old hs hX)) rfl ?_
    refine TL.run ft_record_ok [2, 3, 4, 5, 6] rfl rfl ?_
    refine TL.nil (X.seq (T.seq (T.seq (T.region rfl ?_))))
    refine TL.run ft_record_ok [0, 1] rfl rfl ?_
    by_cases c10 : x8 = 0
    · replace h := ifT c10 h
      refine TL.nil (X.seq ?_)
      refine T.no rfl (bn_f (decide_eq_true c10)) ?_
      refine T.skip (X.seq (T.region rfl ?_))
      obtain ⟨st11, hx12, h⟩ := Option.bind_eq_some_iff.1 h
      refine TL.run ft_record_ok [0, 1] rfl rfl ?_
      refine TL.c1 rfl .u (.fn Try.call103 rfl) (gPutName_spec g st x7 _ hx12) (fun _ hs => (Src.triv _)) rfl ?_
      obtain rfl := Option.some.inj h
      exact TL.nil (X.done0 [1] Try.results29 ⟨rfl, rfl, rfl⟩ (by rfl) (.inr rfl))
    · replace h := ifF c10 h
      refine TL.nil (X.seq ?_)
      refine T.yes rfl (bn_t (decide_eq_false c10)) ?_
      refine T.seq (T.region rfl ?_)
      obtain ⟨st13, hx14, h⟩ := Option.bind_eq_some_iff.1 h
      refine TL.run ft_record_ok [0, 1] rfl rfl ?_
      refine TL.c1 rfl .u (.fn Try.call101 rfl) (gOFail_spec g st x8 _ hx14) (fun _ hs => (Src.triv _)) rfl ?_
      obtain rfl := Option.some.inj h
      exact TL.nil (X.seq (T.ret (X.rs (X.done0 [1] Try.results29 ⟨rfl, rfl, rfl⟩ (by rfl) (.inl rfl)))))
  · replace h := ifF c6 h
    refine TL.nil (X.seq ?_)
    refine T.yes rfl (bn_t (decide_eq_false c6)) ?_
    refine T.seq (T.region rfl ?_)
    obtain ⟨st15, hx16, h⟩ := Option.bind_eq_some_iff.1 h
    refine TL.run ft_record_ok [0, 1] rfl rfl ?_
    refine TL.c1 rfl .u (.fn Try.call101 rfl) (gOFail_spec g st x4 _ hx16) (fun _ hs => (Src.triv _)) rfl ?_
    obtain rfl := Option.some.inj h
    exact TL.nil (X.seq (T.ret (X.rs (X.done0 [1] Try.results29 ⟨rfl, rfl, rfl⟩ (by rfl) (.inl rfl)))))
def f_record_Encode (a0 : Rec) : Option (List UInt8 × Int) := (f_record_Write ([], 0) a0).bind fun st5 => (gOText st5).bind fun (x7, x8, st9) => some (x7, x8)
set_option maxRecDepth 100000 in
set_option maxHeartbeats 4000000 in
theorem f_record_Encode_spec (a0 : Rec) (A1 : Option Addr) (c2 : Nat) (r : List UInt8 × Int) (h : f_record_Encode a0 = some r) : SpecX Try.prog 23 #[.agg #[.int .i64 a0.fTime, .int .i64 a0.fOffset, .bool a0.fKey.null, .string (bsOf a0.fKey.data), .bool a0.fValue.null, .string (bsOf a0.fValue.data), .slice A1 a0.fHeaders.length c2]] (RX.of (sliceRd 3 Hd_rd) [.slice A1 a0.fHeaders.length c2] a0.fHeaders) (EmpR) (fun v A' N => v = .tuple #[.string (bsOf r.1), .int .i64 r.2] ∧ A' = EmpR ∧ N = []) := by
  refine enterA Try.func23 rfl Try.ntmps23 rfl ?_
  intro F w hX
  unfold f_record_Encode at h
  refine T.seq (T.region rfl ?_)
  refine TL.box rfl .u rfl rfl (fun b3 => ?_)
  refine TL.run ft_record_ok [1, 2] rfl rfl ?_
  refine TL.nil (X.seq (T.seq (T.region rfl ?_)))
  refine TL.newout rfl .u Try.zeroValue50 rfl (fun b4 => ?_)
  refine TL.nil (X.seq (T.seq (T.region rfl ?_)))
  refine TL.q rfl .u (Ex.bS (us := [.int .i64 a0.fTime, .int .i64 a0.fOffset, .bool a0.fKey.null, .string (bsOf a0.fKey.data), .bool a0.fValue.null, .string (bsOf a0.fValue.data), .slice A1 a0.fHeaders.length c2]) 1 rfl Try.isAgg29 Try.sizeOf29 rfl rfl rfl) rfl ?_
  obtain ⟨st5, hx6, h⟩ := Option.bind_eq_some_iff.1 h
  refine TL.c0 rfl .u (.fn Try.call29 rfl) (f_record_Write_spec b4 ([], 0) a0 _ _ _ hx6) (fun _ hs => (Src.old hs hX)) rfl ?_
  obtain ⟨⟨x7, x8, st9⟩, hx10, h⟩ := Option.bind_eq_some_iff.1 h
  try dsimp only at h
  refine TL.nil (X.seq (T.seq (T.region rfl ?_)))
  refine TL.c0 rfl .u (.fn Try.call30 rfl) (gOText_spec b4 st5 _ hx10) (fun _ hs => (Src.triv _)) rfl ?_
  refine TL.run ft_record_ok [1, 2, 3, 4] rfl rfl ?_
  obtain rfl := Option.some.inj h
  exact TL.nil (X.seq (T.ret (X.done2 [2] Try.results23 (RV.tm rfl) (RV.tm rfl) ⟨rfl, rfl, rfl⟩ (by rfl) (.inl rfl))))
def f_record_Same_l1 (a1 : Rec) : List Hd → Bool → Nat → Option (Lp Bool Bool)
  | [], y14, k15 => some (Lp.go y14)
  | x20 :: xs, y14, k15 => (a1.fHeaders[k15]?).bind fun x33 => if x33.fKey = x20.fKey then (if x33.fValue.null = x20.fValue.null then (if x33.fValue.data = x20.fValue.data then (f_record_Same_l1 a1 xs y14 (k15 + 1)) else some (Lp.ret false)) else some (Lp.ret false)) else some (Lp.ret false)
def f_record_Same (a0 : Rec) (a1 : Rec) : Option (Bool) := if a0.fTime = a1.fTime then (if a0.fOffset = a1.fOffset then (if a0.fKey.null = a1.fKey.null then (if a0.fKey.data = a1.fKey.data then (if a0.fValue.null = a1.fValue.null then (if a0.fValue.data = a1.fValue.data then (if (a0.fHeaders.length : Int) = (a1.fHeaders.length : Int) then ((f_record_Same_l1 a1 a0.fHeaders false 0).bind fun e => match e with | .ret r => some r | .go y39 => some true) else some false) else some false) else some false) else some false) else some false) else some false) else some false
set_option maxRecDepth 100000 in
set_option maxHeartbeats 4000000 in
theorem f_record_Same_spec (a0 : Rec) (A1 : Option Addr) (c2 : Nat) (a1 : Rec) (A3 : Option Addr) (c4 : Nat) (r : Bool) (h : f_record_Same a0 a1 = some r) : SpecX Try.prog 28 #[.agg #[.int .i64 a0.fTime, .int .i64 a0.fOffset, .bool a0.fKey.null, .string (bsOf a0.fKey.data), .bool a0.fValue.null, .string (bsOf a0.fValue.data), .slice A1 a0.fHeaders.length c2], .agg #[.int .i64 a1.fTime, .int .i64 a1.fOffset, .bool a1.fKey.null, .string (bsOf a1.fKey.data), .bool a1.fValue.null, .string (bsOf a1.fValue.data), .slice A3 a1.fHeaders.length c4]] (RX.and (RX.of (sliceRd 3 Hd_rd) [.slice A1 a0.fHeaders.length c2] a0.fHeaders) (RX.of (sliceRd 3 Hd_rd) [.slice A3 a1.fHeaders.length c4] a1.fHeaders)) (EmpR) (fun v A' N => v = .bool r ∧ A' = EmpR ∧ N = []) := by
  refine enterA Try.func28 rfl Try.ntmps28 rfl ?_
  intro F w hX
  unfold f_record_Same at h
  refine T.seq (T.region rfl ?_)
  refine TL.box rfl .u rfl rfl (fun b5 => ?_)
  refine TL.box rfl .u rfl rfl (fun b6 => ?_)
  refine TL.run ft_record_ok [2] rfl rfl ?_
  refine TL.nil (X.seq (T.seq (T.seq (T.region rfl ?_))))
  refine TL.run ft_record_ok [0] rfl rfl ?_
  refine TL.q rfl .u (Ex.b1 1 rfl Try.isAgg3 rfl rfl) rfl ?_
  refine TL.run ft_record_ok [2] rfl rfl ?_
  refine TL.q rfl .u (Ex.b1 0 rfl Try.isAgg3 rfl rfl) rfl ?_
  by_cases c7 : a0.fTime = a1.fTime
  · replace h := ifT c7 h
    refine TL.run ft_record_ok [4, 5] rfl rfl ?_
    refine TL.q rfl (.g rfl rfl (bn_f (decide_eq_true c7))) (Ex.ft ft_record_ok rfl) rfl ?_
    refine TL.q rfl (.g rfl rfl (bn_f (decide_eq_true c7))) (Ex.b1 1 rfl Try.isAgg3 rfl rfl) rfl ?_
    refine TL.q rfl (.g rfl rfl (bn_f (decide_eq_true c7))) (Ex.ft ft_record_ok rfl) rfl ?_
    refine TL.q rfl (.g rfl rfl (bn_f (decide_eq_true c7))) (Ex.b1 0 rfl Try.isAgg3 rfl rfl) rfl ?_
    refine TL.q rfl (.g rfl rfl (bn_f (decide_eq_true c7))) (Ex.ft ft_record_ok rfl) rfl ?_
    refine TL.q rfl .u (Ex.pn rfl (bn_f (decide_eq_true c7)) rfl) rfl ?_
    by_cases c8 : a0.fOffset = a1.fOffset
    · replace h := ifT c8 h
      refine TL.run ft_record_ok [12] rfl rfl ?_
      refine TL.q rfl (.g rfl rfl (bn_f (decide_eq_true c8))) (Ex.ft ft_record_ok rfl) rfl ?_
      refine TL.q rfl (.g rfl rfl (bn_f (decide_eq_true c8))) (Ex.bS (us := [.bool a0.fKey.null, .string (bsOf a0.fKey.data)]) 1 rfl Try.isAgg26 Try.sizeOf26 rfl rfl rfl) rfl ?_
      refine TL.q rfl (.g rfl rfl (bn_f (decide_eq_true c8))) (Ex.ft ft_record_ok rfl) rfl ?_
      refine TL.q rfl (.g rfl rfl (bn_f (decide_eq_true c8))) (Ex.bS (us := [.bool a1.fKey.null, .string (bsOf a1.fKey.data)]) 0 rfl Try.isAgg26 Try.sizeOf26 rfl rfl rfl) rfl ?_
      by_cases c9 : a0.fKey.null = a1.fKey.null
      · replace h := ifT c9 h
        by_cases c10 : a0.fKey.data = a1.fKey.data
        · replace h := ifT c10 h
          refine TL.q rfl (.g rfl rfl (bn_f (decide_eq_true c8))) (Ex.aNe (us := [.bool a0.fKey.null, .string (bsOf a0.fKey.data)]) (vs := [.bool a1.fKey.null, .string (bsOf a1.fKey.data)]) flat_record_26 rfl Try.eqGuardType26 rfl rfl rfl rfl (eqL_t (eqV_b c9) (eqL_t (eqV_s (l := a0.fKey.data) (m := a1.fKey.data) c10) rfl))) rfl ?_
          refine TL.q rfl .u (Ex.pn rfl (bn_f (decide_eq_true c8)) rfl) rfl ?_
          refine TL.run ft_record_ok [19] rfl rfl ?_
          refine TL.q rfl (.g rfl rfl rfl) (Ex.ft ft_record_ok rfl) rfl ?_
          refine TL.q rfl (.g rfl rfl rfl) (Ex.bS (us := [.bool a0.fValue.null, .string (bsOf a0.fValue.data)]) 1 rfl Try.isAgg26 Try.sizeOf26 rfl rfl rfl) rfl ?_
          refine TL.q rfl (.g rfl rfl rfl) (Ex.ft ft_record_ok rfl) rfl ?_
          refine TL.q rfl (.g rfl rfl rfl) (Ex.bS (us := [.bool a1.fValue.null, .string (bsOf a1.fValue.data)]) 0 rfl Try.isAgg26 Try.sizeOf26 rfl rfl rfl) rfl ?_
          by_cases c11 : a0.fValue.null = a1.fValue.null
          · replace h := ifT c11 h
            by_cases c12 : a0.fValue.data = a1.fValue.data
            · replace h := ifT c12 h
              refine TL.q rfl (.g rfl rfl rfl) (Ex.aNe (us := [.bool a0.fValue.null, .string (bsOf a0.fValue.data)]) (vs := [.bool a1.fValue.null, .string (bsOf a1.fValue.data)]) flat_record_26 rfl Try.eqGuardType26 rfl rfl rfl rfl (eqL_t (eqV_b c11) (eqL_t (eqV_s (l := a0.fValue.data) (m := a1.fValue.data) c12) rfl))) rfl ?_
              refine TL.q rfl .u (Ex.pn rfl rfl rfl) rfl ?_
              refine TL.run ft_record_ok [26] rfl rfl ?_
              refine TL.q rfl (.g rfl rfl rfl) (Ex.ft ft_record_ok rfl) rfl ?_
              refine TL.q rfl (.g rfl rfl rfl) (Ex.b1 1 rfl Try.isAgg27 rfl rfl) rfl ?_
              refine TL.q rfl (.g rfl rfl rfl) (Ex.lenS rfl Try.runUnderlying27) rfl ?_
              refine TL.q rfl (.g rfl rfl rfl) (Ex.ft ft_record_ok rfl) rfl ?_
              refine TL.q rfl (.g rfl rfl rfl) (Ex.b1 0 rfl Try.isAgg27 rfl rfl) rfl ?_
              refine TL.q rfl (.g rfl rfl rfl) (Ex.lenS rfl Try.runUnderlying27) rfl ?_
              refine TL.q rfl (.g rfl rfl rfl) (Ex.ft ft_record_ok rfl) rfl ?_
              refine TL.q rfl .u (Ex.pn rfl rfl rfl) rfl ?_
              by_cases c13 : (a0.fHeaders.length : Int) = (a1.fHeaders.length : Int)
              · replace h := ifT c13 h
                refine TL.nil (X.seq ?_)
                refine T.no rfl (bn_f (decide_eq_true c13)) ?_
                refine T.skip (X.seq (T.seq (T.seq (T.region rfl ?_))))
                refine TL.run ft_record_ok [0] rfl rfl ?_
                refine TL.q rfl .u (Ex.b1 1 rfl Try.isAgg27 rfl rfl) rfl ?_
                refine TL.q rfl .u (Ex.lenS rfl Try.runUnderlying27) rfl ?_
                refine TL.run ft_record_ok [3] rfl rfl ?_
                refine TL.nil (X.seq (T.block ?_))
                obtain ⟨E16, hE17, hO18⟩ := Option.bind_eq_some_iff.1 h
                have hk22len := RX.len_le (RX.reads_left hX)
                refine T.lp (fun m e Rs => ∃ (y14 : Bool) (k15 : Nat), k15 + m = a0.fHeaders.length ∧ e = [(3, .pointer (some ⟨b6, 0, none⟩)), (4, .bool y14), (43, .slice A1 a0.fHeaders.length c2), (44, .int .i64 (a0.fHeaders.length : Int)), (45, .int .i64 (k15 : Int))] ∧ Rs = [BlkR b6 29 #[.int .i64 a1.fTime, .int .i64 a1.fOffset, .bool a1.fKey.null, .string (bsOf a1.fKey.data), .bool a1.fValue.null, .string (bsOf a1.fValue.data), .slice A3 a1.fHeaders.length c4], BlkR b5 29 #[.int .i64 a0.fTime, .int .i64 a0.fOffset, .bool a0.fKey.null, .string (bsOf a0.fKey.data), .bool a0.fValue.null, .string (bsOf a0.fValue.data), .slice A1 a0.fHeaders.length c2], EmpR] ∧ f_record_Same_l1 a1 (a0.fHeaders.drop k15) y14 k15 = some E16) (a0.fHeaders.length) [0, 0, 0] ⟨false, 0, by simp, rfl, rfl, by rw [List.drop_zero]; exact hE17⟩ (by rfl) (by rfl) ?_
                rintro m19 _ _ ⟨y14, k15, hk22, rfl, rfl, hl21⟩
                clear hE17 h
                cases m19 with
                | zero =>
                  have h := hl21
                  clear hl21
                  rw [List.drop_of_length_le (by omega), f_record_Same_l1] at h
                  have hk22ge : ¬ ((k15 : Int) < (a0.fHeaders.length : Int)) := by omega
                  refine T.seq (T.region rfl ?_)
                  refine TL.run ft_record_ok [0] rfl rfl ?_
                  refine TL.nil (X.seq (T.seq ?_))
                  refine T.no rfl (decide_eq_false hk22ge) ?_
                  obtain rfl := Option.some.inj h
                  replace h := hO18
                  clear hO18
                  try dsimp only at h
                  refine T.exit (X.exs (X.exs (X.ex (X.seq (T.seq (T.region rfl ?_))))))
                  refine TL.run ft_record_ok [0] rfl rfl ?_
                  obtain rfl := Option.some.inj h
                  exact TL.nil (X.seq (T.ret (X.done1 [2] Try.results28 (RV.tm rfl) ⟨rfl, rfl, rfl⟩ (by rfl) (.inl rfl))))
                | succ m19 =>
                  have h := hl21
                  clear hl21
                  obtain ⟨x20, hxx20⟩ : ∃ x, a0.fHeaders[k15]? = some x := ⟨_, List.getElem?_eq_getElem (by omega)⟩
                  rw [drop_cons hxx20, f_record_Same_l1] at h
                  have hk22lt : (k15 : Int) < (a0.fHeaders.length : Int) := by omega
                  refine T.seq (T.region rfl ?_)
                  refine TL.run ft_record_ok [0] rfl rfl ?_
                  refine TL.nil (X.seq (T.seq ?_))
                  refine T.yes rfl (decide_eq_true hk22lt) ?_
                  refine T.skip (X.seq (T.seq (T.block (T.seq (T.region rfl ?_)))))
                  obtain ⟨gz31, oz31, rfl, z31cs, z31cl, z31cc, z31nf, z31r⟩ := RX.elem (by decide) (RX.reads_left hX) hxx20
                  obtain ⟨z31S, z31r, z31rr⟩ := z31r
                  obtain rfl : z31cs = [.string (bsOf x20.fKey), .bool x20.fValue.null, .string (bsOf x20.fValue.data)] := z31r
                  refine TL.run ft_record_ok [0] rfl rfl ?_
                  refine TL.q rfl .u (Ex.ixS (k := k15) rfl rfl rfl Try.runUnderlying27 Try.sizeOf93 (List.getElem?_eq_some_iff.1 hxx20).1) rfl ?_
                  refine TL.q rfl .u (Ex.oS (us := [.string (bsOf x20.fKey), .bool x20.fValue.null, .string (bsOf x20.fValue.data)]) 0 rfl Try.isAgg93 Try.sizeOf93 z31nf z31cc rfl rfl rfl) rfl ?_
                  refine TL.alloc rfl .u Try.zeroValue93 rfl (fun b32 => ?_)
                  refine TL.run ft_record_ok [4] rfl rfl ?_
                  refine TL.st0 (cs' := #[.string (bsOf x20.fKey), .bool x20.fValue.null, .string (bsOf x20.fValue.data)]) rfl .u rfl rfl Try.sizeOf93 rfl rfl rfl rfl ?_
                  refine TL.nil (X.seq (T.seq (T.draw (.q 0 (.q 1 (.q 2 (.q 3 (.q 4 (.q 5 (.q 6 .nil))))))) [0, 0, 0, 0] rfl mix_record (NoP.seq (NoP.blk (NoP.seq (NoP.seq (NoP.blk (NoP.seq np_post)))))) (by kernel_rfl) ?_)))
                  refine TD.run ft_record_ok [0] rfl rfl ?_
                  refine TD.q rfl .u (Ex.b1 1 rfl Try.isAgg27 rfl rfl) rfl ?_
                  obtain ⟨x33, hx34, h⟩ := Option.bind_eq_some_iff.1 h
                  obtain ⟨gz35, oz35, rfl, z35cs, z35cl, z35cc, z35nf, z35r⟩ := RX.elem (by decide) (RX.reads_right hX) hx34
                  obtain ⟨z35S, z35r, z35rr⟩ := z35r
                  obtain rfl : z35cs = [.string (bsOf x33.fKey), .bool x33.fValue.null, .string (bsOf x33.fValue.data)] := z35r
                  refine TD.run ft_record_ok [2] rfl rfl ?_
                  refine TD.q rfl .u (Ex.ixS (k := k15) rfl rfl rfl Try.runUnderlying27 Try.sizeOf93 (List.getElem?_eq_some_iff.1 hx34).1) rfl ?_
                  refine TD.q rfl .u (Ex.oS (us := [.string (bsOf x33.fKey), .bool x33.fValue.null, .string (bsOf x33.fValue.data)]) 0 rfl Try.isAgg93 Try.sizeOf93 z35nf z35cc rfl rfl rfl) rfl ?_
                  refine TD.q rfl .u (Ex.bS (us := [.string (bsOf x20.fKey), .bool x20.fValue.null, .string (bsOf x20.fValue.data)]) 0 rfl Try.isAgg93 Try.sizeOf93 rfl rfl rfl) rfl ?_
                  by_cases c36 : x33.fKey = x20.fKey
                  · replace h := ifT c36 h
                    by_cases c37 : x33.fValue.null = x20.fValue.null
                    · replace h := ifT c37 h
                      by_cases c38 : x33.fValue.data = x20.fValue.data
                      · replace h := ifT c38 h
                        refine TD.q rfl .u (Ex.aNe (us := [.string (bsOf x33.fKey), .bool x33.fValue.null, .string (bsOf x33.fValue.data)]) (vs := [.string (bsOf x20.fKey), .bool x20.fValue.null, .string (bsOf x20.fValue.data)]) flat_record_93 rfl Try.eqGuardType93 rfl rfl rfl rfl (eqL_t (eqV_s (l := x33.fKey) (m := x20.fKey) c36) (eqL_t (eqV_b c37) (eqL_t (eqV_s (l := x33.fValue.data) (m := x20.fValue.data) c38) rfl)))) rfl ?_
                        refine TD.nil (X.seq ?_)
                        refine T.no rfl rfl ?_
                        refine T.skip (X.blk (X.seq (T.region rfl ?_)))
                        refine TL.q rfl .u (Ex.add rfl rfl (by omega)) rfl ?_
                        refine TL.run ft_record_ok [1] rfl rfl ?_
                        exact TL.nil (X.back (m' := m19) [1, 1, 1] (by omega) ⟨y14, k15 + 1, by omega, rfl, rfl, h⟩ (by rfl) (by rfl))
                      · replace h := ifF c38 h
                        refine TD.q rfl .u (Ex.aNe (us := [.string (bsOf x33.fKey), .bool x33.fValue.null, .string (bsOf x33.fValue.data)]) (vs := [.string (bsOf x20.fKey), .bool x20.fValue.null, .string (bsOf x20.fValue.data)]) flat_record_93 rfl Try.eqGuardType93 rfl rfl rfl rfl (eqL_t (eqV_s (l := x33.fKey) (m := x20.fKey) c36) (eqL_t (eqV_b c37) (eqL_f (eqV_sn (l := x33.fValue.data) (m := x20.fValue.data) c38))))) rfl ?_
                        refine TD.nil (X.seq ?_)
                        refine T.yes rfl rfl ?_
                        refine T.seq (T.region rfl ?_)
                        refine TL.run ft_record_ok [0] rfl rfl ?_
                        obtain rfl := Option.some.inj h
                        replace h := hO18
                        clear hO18
                        try dsimp only at h
                        obtain rfl := Option.some.inj h
                        exact TL.nil (X.seq (T.ret (X.rb (X.rs (X.rs (X.rb (X.rs (X.done1 [3] Try.results28 (RV.tm rfl) ⟨rfl, rfl, rfl⟩ (by rfl) (.inl rfl)))))))))
                    · replace h := ifF c37 h
                      refine TD.q rfl .u (Ex.aNe (us := [.string (bsOf x33.fKey), .bool x33.fValue.null, .string (bsOf x33.fValue.data)]) (vs := [.string (bsOf x20.fKey), .bool x20.fValue.null, .string (bsOf x20.fValue.data)]) flat_record_93 rfl Try.eqGuardType93 rfl rfl rfl rfl (eqL_t (eqV_s (l := x33.fKey) (m := x20.fKey) c36) (eqL_f (eqV_bn c37)))) rfl ?_
                      refine TD.nil (X.seq ?_)
                      refine T.yes rfl rfl ?_
                      refine T.seq (T.region rfl ?_)
                      refine TL.run ft_record_ok [0] rfl rfl ?_
                      obtain rfl := Option.some.inj h
                      replace h := hO18
                      clear hO18
                      try dsimp only at h
                      obtain rfl := Option.some.inj h
                      exact TL.nil (X.seq (T.ret (X.rb (X.rs (X.rs (X.rb (X.rs (X.done1 [3] Try.results28 (RV.tm rfl) ⟨rfl, rfl, rfl⟩ (by rfl) (.inl rfl)))))))))
                  · replace h := ifF c36 h
                    refine TD.q rfl .u (Ex.aNe (us := [.string (bsOf x33.fKey), .bool x33.fValue.null, .string (bsOf x33.fValue.data)]) (vs := [.string (bsOf x20.fKey), .bool x20.fValue.null, .string (bsOf x20.fValue.data)]) flat_record_93 rfl Try.eqGuardType93 rfl rfl rfl rfl (eqL_f (eqV_sn (l := x33.fKey) (m := x20.fKey) c36))) rfl ?_
                    refine TD.nil (X.seq ?_)
                    refine T.yes rfl rfl ?_
                    refine T.seq (T.region rfl ?_)
                    refine TL.run ft_record_ok [0] rfl rfl ?_
                    obtain rfl := Option.some.inj h
                    replace h := hO18
                    clear hO18
                    try dsimp only at h
                    obtain rfl := Option.some.inj h
                    exact TL.nil (X.seq (T.ret (X.rb (X.rs (X.rs (X.rb (X.rs (X.done1 [3] Try.results28 (RV.tm rfl) ⟨rfl, rfl, rfl⟩ (by rfl) (.inl rfl)))))))))
              · replace h := ifF c13 h
                refine TL.nil (X.seq ?_)
                refine T.yes rfl (bn_t (decide_eq_false c13)) ?_
                refine T.seq (T.region rfl ?_)
                refine TL.run ft_record_ok [0] rfl rfl ?_
                obtain rfl := Option.some.inj h
                exact TL.nil (X.seq (T.ret (X.rs (X.done1 [2] Try.results28 (RV.tm rfl) ⟨rfl, rfl, rfl⟩ (by rfl) (.inl rfl)))))
            · replace h := ifF c12 h
              refine TL.q rfl (.g rfl rfl rfl) (Ex.aNe (us := [.bool a0.fValue.null, .string (bsOf a0.fValue.data)]) (vs := [.bool a1.fValue.null, .string (bsOf a1.fValue.data)]) flat_record_26 rfl Try.eqGuardType26 rfl rfl rfl rfl (eqL_t (eqV_b c11) (eqL_f (eqV_sn (l := a0.fValue.data) (m := a1.fValue.data) c12)))) rfl ?_
              refine TL.q rfl .u (Ex.pn rfl rfl rfl) rfl ?_
              refine TL.run ft_record_ok [26] rfl rfl ?_
              refine TL.no rfl (.gn rfl rfl rfl) rfl ?_
              refine TL.no rfl (.gn rfl rfl rfl) rfl ?_
              refine TL.no rfl (.gn rfl rfl rfl) rfl ?_
              refine TL.no rfl (.gn rfl rfl rfl) rfl ?_
              refine TL.no rfl (.gn rfl rfl rfl) rfl ?_
              refine TL.no rfl (.gn rfl rfl rfl) rfl ?_
              refine TL.no rfl (.gn rfl rfl rfl) rfl ?_
              refine TL.q rfl .u (Ex.py rfl rfl rfl) rfl ?_
              refine TL.nil (X.seq ?_)
              refine T.yes rfl rfl ?_
              refine T.seq (T.region rfl ?_)
              refine TL.run ft_record_ok [0] rfl rfl ?_
              obtain rfl := Option.some.inj h
              exact TL.nil (X.seq (T.ret (X.rs (X.done1 [2] Try.results28 (RV.tm rfl) ⟨rfl, rfl, rfl⟩ (by rfl) (.inl rfl)))))
          · replace h := ifF c11 h
            refine TL.q rfl (.g rfl rfl rfl) (Ex.aNe (us := [.bool a0.fValue.null, .string (bsOf a0.fValue.data)]) (vs := [.bool a1.fValue.null, .string (bsOf a1.fValue.data)]) flat_record_26 rfl Try.eqGuardType26 rfl rfl rfl rfl (eqL_f (eqV_bn c11))) rfl ?_
            refine TL.q rfl .u (Ex.pn rfl rfl rfl) rfl ?_
            refine TL.run ft_record_ok [26] rfl rfl ?_
            refine TL.no rfl (.gn rfl rfl rfl) rfl ?_
            refine TL.no rfl (.gn rfl rfl rfl) rfl ?_
            refine TL.no rfl (.gn rfl rfl rfl) rfl ?_
            refine TL.no rfl (.gn rfl rfl rfl) rfl ?_
            refine TL.no rfl (.gn rfl rfl rfl) rfl ?_
            refine TL.no rfl (.gn rfl rfl rfl) rfl ?_
            refine TL.no rfl (.gn rfl rfl rfl) rfl ?_
            refine TL.q rfl .u (Ex.py rfl rfl rfl) rfl ?_
            refine TL.nil (X.seq ?_)
            refine T.yes rfl rfl ?_
            refine T.seq (T.region rfl ?_)
            refine TL.run ft_record_ok [0] rfl rfl ?_
            obtain rfl := Option.some.inj h
            exact TL.nil (X.seq (T.ret (X.rs (X.done1 [2] Try.results28 (RV.tm rfl) ⟨rfl, rfl, rfl⟩ (by rfl) (.inl rfl)))))
        · replace h := ifF c10 h
          refine TL.q rfl (.g rfl rfl (bn_f (decide_eq_true c8))) (Ex.aNe (us := [.bool a0.fKey.null, .string (bsOf a0.fKey.data)]) (vs := [.bool a1.fKey.null, .string (bsOf a1.fKey.data)]) flat_record_26 rfl Try.eqGuardType26 rfl rfl rfl rfl (eqL_t (eqV_b c9) (eqL_f (eqV_sn (l := a0.fKey.data) (m := a1.fKey.data) c10)))) rfl ?_
          refine TL.q rfl .u (Ex.pn rfl (bn_f (decide_eq_true c8)) rfl) rfl ?_
          refine TL.run ft_record_ok [19] rfl rfl ?_
          refine TL.no rfl (.gn rfl rfl rfl) rfl ?_
          refine TL.no rfl (.gn rfl rfl rfl) rfl ?_
          refine TL.no rfl (.gn rfl rfl rfl) rfl ?_
          refine TL.no rfl (.gn rfl rfl rfl) rfl ?_
          refine TL.no rfl (.gn rfl rfl rfl) rfl ?_
          refine TL.q rfl .u (Ex.py rfl rfl rfl) rfl ?_
          refine TL.run ft_record_ok [26] rfl rfl ?_
          refine TL.no rfl (.gn rfl rfl rfl) rfl ?_
          refine TL.no rfl (.gn rfl rfl rfl) rfl ?_
          refine TL.no rfl (.gn rfl rfl rfl) rfl ?_
          refine TL.no rfl (.gn rfl rfl rfl) rfl ?_
          refine TL.no rfl (.gn rfl rfl rfl) rfl ?_
          refine TL.no rfl (.gn rfl rfl rfl) rfl ?_
          refine TL.no rfl (.gn rfl rfl rfl) rfl ?_
          refine TL.q rfl .u (Ex.py rfl rfl rfl) rfl ?_
          refine TL.nil (X.seq ?_)
          refine T.yes rfl rfl ?_
          refine T.seq (T.region rfl ?_)
          refine TL.run ft_record_ok [0] rfl rfl ?_
          obtain rfl := Option.some.inj h
          exact TL.nil (X.seq (T.ret (X.rs (X.done1 [2] Try.results28 (RV.tm rfl) ⟨rfl, rfl, rfl⟩ (by rfl) (.inl rfl)))))
      · replace h := ifF c9 h
        refine TL.q rfl (.g rfl rfl (bn_f (decide_eq_true c8))) (Ex.aNe (us := [.bool a0.fKey.null, .string (bsOf a0.fKey.data)]) (vs := [.bool a1.fKey.null, .string (bsOf a1.fKey.data)]) flat_record_26 rfl Try.eqGuardType26 rfl rfl rfl rfl (eqL_f (eqV_bn c9))) rfl ?_
        refine TL.q rfl .u (Ex.pn rfl (bn_f (decide_eq_true c8)) rfl) rfl ?_
        refine TL.run ft_record_ok [19] rfl rfl ?_
        refine TL.no rfl (.gn rfl rfl rfl) rfl ?_
        refine TL.no rfl (.gn rfl rfl rfl) rfl ?_
        refine TL.no rfl (.gn rfl rfl rfl) rfl ?_
        refine TL.no rfl (.gn rfl rfl rfl) rfl ?_
        refine TL.no rfl (.gn rfl rfl rfl) rfl ?_
        refine TL.q rfl .u (Ex.py rfl rfl rfl) rfl ?_
        refine TL.run ft_record_ok [26] rfl rfl ?_
        refine TL.no rfl (.gn rfl rfl rfl) rfl ?_
        refine TL.no rfl (.gn rfl rfl rfl) rfl ?_
        refine TL.no rfl (.gn rfl rfl rfl) rfl ?_
        refine TL.no rfl (.gn rfl rfl rfl) rfl ?_
        refine TL.no rfl (.gn rfl rfl rfl) rfl ?_
        refine TL.no rfl (.gn rfl rfl rfl) rfl ?_
        refine TL.no rfl (.gn rfl rfl rfl) rfl ?_
        refine TL.q rfl .u (Ex.py rfl rfl rfl) rfl ?_
        refine TL.nil (X.seq ?_)
        refine T.yes rfl rfl ?_
        refine T.seq (T.region rfl ?_)
        refine TL.run ft_record_ok [0] rfl rfl ?_
        obtain rfl := Option.some.inj h
        exact TL.nil (X.seq (T.ret (X.rs (X.done1 [2] Try.results28 (RV.tm rfl) ⟨rfl, rfl, rfl⟩ (by rfl) (.inl rfl)))))
    · replace h := ifF c8 h
      refine TL.run ft_record_ok [12] rfl rfl ?_
      refine TL.no rfl (.gn rfl rfl (bn_t (decide_eq_false c8))) rfl ?_
      refine TL.no rfl (.gn rfl rfl (bn_t (decide_eq_false c8))) rfl ?_
      refine TL.no rfl (.gn rfl rfl (bn_t (decide_eq_false c8))) rfl ?_
      refine TL.no rfl (.gn rfl rfl (bn_t (decide_eq_false c8))) rfl ?_
      refine TL.no rfl (.gn rfl rfl (bn_t (decide_eq_false c8))) rfl ?_
      refine TL.q rfl .u (Ex.py rfl (bn_t (decide_eq_false c8)) rfl) rfl ?_
      refine TL.run ft_record_ok [19] rfl rfl ?_
      refine TL.no rfl (.gn rfl rfl rfl) rfl ?_
      refine TL.no rfl (.gn rfl rfl rfl) rfl ?_
      refine TL.no rfl (.gn rfl rfl rfl) rfl ?_
      refine TL.no rfl (.gn rfl rfl rfl) rfl ?_
      refine TL.no rfl (.gn rfl rfl rfl) rfl ?_
      refine TL.q rfl .u (Ex.py rfl rfl rfl) rfl ?_
      refine TL.run ft_record_ok [26] rfl rfl ?_
      refine TL.no rfl (.gn rfl rfl rfl) rfl ?_
      refine TL.no rfl (.gn rfl rfl rfl) rfl ?_
      refine TL.no rfl (.gn rfl rfl rfl) rfl ?_
      refine TL.no rfl (.gn rfl rfl rfl) rfl ?_
      refine TL.no rfl (.gn rfl rfl rfl) rfl ?_
      refine TL.no rfl (.gn rfl rfl rfl) rfl ?_
      refine TL.no rfl (.gn rfl rfl rfl) rfl ?_
      refine TL.q rfl .u (Ex.py rfl rfl rfl) rfl ?_
      refine TL.nil (X.seq ?_)
      refine T.yes rfl rfl ?_
      refine T.seq (T.region rfl ?_)
      refine TL.run ft_record_ok [0] rfl rfl ?_
      obtain rfl := Option.some.inj h
      exact TL.nil (X.seq (T.ret (X.rs (X.done1 [2] Try.results28 (RV.tm rfl) ⟨rfl, rfl, rfl⟩ (by rfl) (.inl rfl)))))
  · replace h := ifF c7 h
    refine TL.run ft_record_ok [4, 5] rfl rfl ?_
    refine TL.no rfl (.gn rfl rfl (bn_t (decide_eq_false c7))) rfl ?_
    refine TL.no rfl (.gn rfl rfl (bn_t (decide_eq_false c7))) rfl ?_
    refine TL.no rfl (.gn rfl rfl (bn_t (decide_eq_false c7))) rfl ?_
    refine TL.no rfl (.gn rfl rfl (bn_t (decide_eq_false c7))) rfl ?_
    refine TL.no rfl (.gn rfl rfl (bn_t (decide_eq_false c7))) rfl ?_
    refine TL.q rfl .u (Ex.py rfl (bn_t (decide_eq_false c7)) rfl) rfl ?_
    refine TL.run ft_record_ok [12] rfl rfl ?_
    refine TL.no rfl (.gn rfl rfl rfl) rfl ?_
    refine TL.no rfl (.gn rfl rfl rfl) rfl ?_
    refine TL.no rfl (.gn rfl rfl rfl) rfl ?_
    refine TL.no rfl (.gn rfl rfl rfl) rfl ?_
    refine TL.no rfl (.gn rfl rfl rfl) rfl ?_
    refine TL.q rfl .u (Ex.py rfl rfl rfl) rfl ?_
    refine TL.run ft_record_ok [19] rfl rfl ?_
    refine TL.no rfl (.gn rfl rfl rfl) rfl ?_
    refine TL.no rfl (.gn rfl rfl rfl) rfl ?_
    refine TL.no rfl (.gn rfl rfl rfl) rfl ?_
    refine TL.no rfl (.gn rfl rfl rfl) rfl ?_
    refine TL.no rfl (.gn rfl rfl rfl) rfl ?_
    refine TL.q rfl .u (Ex.py rfl rfl rfl) rfl ?_
    refine TL.run ft_record_ok [26] rfl rfl ?_
    refine TL.no rfl (.gn rfl rfl rfl) rfl ?_
    refine TL.no rfl (.gn rfl rfl rfl) rfl ?_
    refine TL.no rfl (.gn rfl rfl rfl) rfl ?_
    refine TL.no rfl (.gn rfl rfl rfl) rfl ?_
    refine TL.no rfl (.gn rfl rfl rfl) rfl ?_
    refine TL.no rfl (.gn rfl rfl rfl) rfl ?_
    refine TL.no rfl (.gn rfl rfl rfl) rfl ?_
    refine TL.q rfl .u (Ex.py rfl rfl rfl) rfl ?_
    refine TL.nil (X.seq ?_)
    refine T.yes rfl rfl ?_
    refine T.seq (T.region rfl ?_)
    refine TL.run ft_record_ok [0] rfl rfl ?_
    obtain rfl := Option.some.inj h
    exact TL.nil (X.seq (T.ret (X.rs (X.done1 [2] Try.results28 (RV.tm rfl) ⟨rfl, rfl, rfl⟩ (by rfl) (.inl rfl)))))
end Go.Proofs.Ytagbblaegdedpaa.Sl
namespace Go.Proofs.Ytagbblaegdedpaa.Sl
open Go.RowKit
set_option linter.unusedVariables false
set_option linter.unusedSimpArgs false
set_option maxRecDepth 100000
def ft_cursitorref07 : FTab := [(26, 0, 0), (26, 1, 1), (29, 0, 0), (29, 1, 1), (29, 2, 2), (29, 3, 4), (29, 4, 6), (32, 1, 7), (147, 0, 0), (147, 1, 2), (147, 2, 3)]
theorem ft_cursitorref07_ok : (ft_cursitorref07).OK Try.prog := ⟨FOK.mk Try.runUnderlying26 rfl Try.sizeOf4 rfl, FOK.mk Try.runUnderlying26 rfl Try.sizeOf9 rfl, FOK.mk Try.runUnderlying29 rfl Try.sizeOf3 rfl, FOK.mk Try.runUnderlying29 rfl Try.sizeOf3 rfl, FOK.mk Try.runUnderlying29 rfl Try.sizeOf26 rfl, FOK.mk Try.runUnderlying29 rfl Try.sizeOf26 rfl, FOK.mk Try.runUnderlying29 rfl Try.sizeOf27 rfl, FOK.mk Try.runUnderlying32 rfl Try.sizeOf3 rfl, FOK.mk Try.runUnderlying147 rfl Try.sizeOf26 rfl, FOK.mk Try.runUnderlying147 rfl Try.sizeOf3 rfl, FOK.mk Try.runUnderlying147 rfl Try.sizeOf3 rfl, trivial⟩
theorem flat_cursitorref07_26 : Flat Try.prog 2 26 [.bool, .string] true := (Flat.struct Try.isAgg26 Try.sizeOf26 rfl Try.underlying26 Try.stoodInHeld26 ⟨by decide, rfl, [.bool], [.string], false, rfl, (Flat.one_ Try.isAgg4 Try.sizeOf4 Try.underlying4), ⟨by decide, rfl, [.string], [], false, rfl, (Flat.one_ Try.isAgg9 Try.sizeOf9 Try.underlying9), rfl⟩⟩)
def f_r07_Same (a0 : Rec) (a1 : Rec) : Option (Bool) := if a0.fTime = a1.fTime then (if a0.fOffset = a1.fOffset then (if a0.fKey.null = a1.fKey.null then (if a0.fKey.data = a1.fKey.data then (if a0.fValue.null = a1.fValue.null then (if a0.fValue.data = a1.fValue.data then ((f_r06_Same a0.fHeaders a1.fHeaders).bind fun x13 => some x13) else some false) else some false) else some false) else some false) else some false) else some false
set_option maxRecDepth 100000 in
set_option maxHeartbeats 4000000 in
theorem f_r07_Same_spec (a0 : Rec) (A1 : Option Addr) (c2 : Nat) (a1 : Rec) (A3 : Option Addr) (c4 : Nat) (r : Bool) (h : f_r07_Same a0 a1 = some r) : SpecX Try.prog 20 #[.agg #[.int .i64 a0.fTime, .int .i64 a0.fOffset, .bool a0.fKey.null, .string (bsOf a0.fKey.data), .bool a0.fValue.null, .string (bsOf a0.fValue.data), .slice A1 a0.fHeaders.length c2], .agg #[.int .i64 a1.fTime, .int .i64 a1.fOffset, .bool a1.fKey.null, .string (bsOf a1.fKey.data), .bool a1.fValue.null, .string (bsOf a1.fValue.data), .slice A3 a1.fHeaders.length c4]] (RX.and (RX.of (sliceRd 3 Hd_rd) [.slice A1 a0.fHeaders.length c2] a0.fHeaders) (RX.of (sliceRd 3 Hd_rd) [.slice A3 a1.fHeaders.length c4] a1.fHeaders)) (EmpR) (fun v A' N => v = .bool r ∧ A' = EmpR ∧ N = []) := by
  refine enterA Try.func20 rfl Try.ntmps20 rfl ?_
  intro F w hX
  unfold f_r07_Same at h
  refine T.seq (T.region rfl ?_)
  refine TL.box rfl .u rfl rfl (fun b5 => ?_)
  refine TL.box rfl .u rfl rfl (fun b6 => ?_)
  refine TL.run ft_cursitorref07_ok [2] rfl rfl ?_
  refine TL.nil (X.seq (T.seq (T.region rfl ?_)))
  refine TL.run ft_cursitorref07_ok [0] rfl rfl ?_
  refine TL.q rfl .u (Ex.b1 1 rfl Try.isAgg3 rfl rfl) rfl ?_
  refine TL.run ft_cursitorref07_ok [2] rfl rfl ?_
  refine TL.q rfl .u (Ex.b1 0 rfl Try.isAgg3 rfl rfl) rfl ?_
  by_cases c7 : a0.fTime = a1.fTime
  · replace h := ifT c7 h
    refine TL.run ft_cursitorref07_ok [4, 5] rfl rfl ?_
    refine TL.q rfl (.g rfl rfl (decide_eq_true c7)) (Ex.ft ft_cursitorref07_ok rfl) rfl ?_
    refine TL.q rfl (.g rfl rfl (decide_eq_true c7)) (Ex.b1 1 rfl Try.isAgg3 rfl rfl) rfl ?_
    refine TL.q rfl (.g rfl rfl (decide_eq_true c7)) (Ex.ft ft_cursitorref07_ok rfl) rfl ?_
    refine TL.q rfl (.g rfl rfl (decide_eq_true c7)) (Ex.b1 0 rfl Try.isAgg3 rfl rfl) rfl ?_
    refine TL.q rfl (.g rfl rfl (decide_eq_true c7)) (Ex.ft ft_cursitorref07_ok rfl) rfl ?_
    refine TL.q rfl .u (Ex.py rfl (decide_eq_true c7) rfl) rfl ?_
    by_cases c8 : a0.fOffset = a1.fOffset
    · replace h := ifT c8 h
      refine TL.run ft_cursitorref07_ok [12] rfl rfl ?_
      refine TL.q rfl (.g rfl rfl (decide_eq_true c8)) (Ex.ft ft_cursitorref07_ok rfl) rfl ?_
      refine TL.q rfl (.g rfl rfl (decide_eq_true c8)) (Ex.bS (us := [.bool a0.fKey.null, .string (bsOf a0.fKey.data)]) 1 rfl Try.isAgg26 Try.sizeOf26 rfl rfl rfl) rfl ?_
      refine TL.q rfl (.g rfl rfl (decide_eq_true c8)) (Ex.ft ft_cursitorref07_ok rfl) rfl ?_
      refine TL.q rfl (.g rfl rfl (decide_eq_true c8)) (Ex.bS (us := [.bool a1.fKey.null, .string (bsOf a1.fKey.data)]) 0 rfl Try.isAgg26 Try.sizeOf26 rfl rfl rfl) rfl ?_
      by_cases c9 : a0.fKey.null = a1.fKey.null
      · replace h := ifT c9 h
        by_cases c10 : a0.fKey.data = a1.fKey.data
        · replace h := ifT c10 h
          refine TL.q rfl (.g rfl rfl (decide_eq_true c8)) (Ex.aEq (us := [.bool a0.fKey.null, .string (bsOf a0.fKey.data)]) (vs := [.bool a1.fKey.null, .string (bsOf a1.fKey.data)]) flat_cursitorref07_26 rfl Try.eqGuardType26 rfl rfl rfl rfl (eqL_t (eqV_b c9) (eqL_t (eqV_s (l := a0.fKey.data) (m := a1.fKey.data) c10) rfl))) rfl ?_
          refine TL.q rfl .u (Ex.py rfl (decide_eq_true c8) rfl) rfl ?_
          refine TL.run ft_cursitorref07_ok [19] rfl rfl ?_
          refine TL.q rfl (.g rfl rfl rfl) (Ex.ft ft_cursitorref07_ok rfl) rfl ?_
          refine TL.q rfl (.g rfl rfl rfl) (Ex.bS (us := [.bool a0.fValue.null, .string (bsOf a0.fValue.data)]) 1 rfl Try.isAgg26 Try.sizeOf26 rfl rfl rfl) rfl ?_
          refine TL.q rfl (.g rfl rfl rfl) (Ex.ft ft_cursitorref07_ok rfl) rfl ?_
          refine TL.q rfl (.g rfl rfl rfl) (Ex.bS (us := [.bool a1.fValue.null, .string (bsOf a1.fValue.data)]) 0 rfl Try.isAgg26 Try.sizeOf26 rfl rfl rfl) rfl ?_
          by_cases c11 : a0.fValue.null = a1.fValue.null
          · replace h := ifT c11 h
            by_cases c12 : a0.fValue.data = a1.fValue.data
            · replace h := ifT c12 h
              refine TL.q rfl (.g rfl rfl rfl) (Ex.aEq (us := [.bool a0.fValue.null, .string (bsOf a0.fValue.data)]) (vs := [.bool a1.fValue.null, .string (bsOf a1.fValue.data)]) flat_cursitorref07_26 rfl Try.eqGuardType26 rfl rfl rfl rfl (eqL_t (eqV_b c11) (eqL_t (eqV_s (l := a0.fValue.data) (m := a1.fValue.data) c12) rfl))) rfl ?_
              refine TL.q rfl .u (Ex.py rfl rfl rfl) rfl ?_
              refine TL.run ft_cursitorref07_ok [26] rfl rfl ?_
              refine TL.q rfl (.g rfl rfl rfl) (Ex.ft ft_cursitorref07_ok rfl) rfl ?_
              refine TL.q rfl (.g rfl rfl rfl) (Ex.b1 1 rfl Try.isAgg27 rfl rfl) rfl ?_
              refine TL.q rfl (.g rfl rfl rfl) (Ex.ft ft_cursitorref07_ok rfl) rfl ?_
              refine TL.q rfl (.g rfl rfl rfl) (Ex.b1 0 rfl Try.isAgg27 rfl rfl) rfl ?_
              obtain ⟨x13, hx14, h⟩ := Option.bind_eq_some_iff.1 h
              refine TL.ce rfl (.g rfl rfl rfl) (.fn Try.call92 rfl) (f_r06_Same_spec a0.fHeaders _ _ a1.fHeaders _ _ _ hx14) (fun _ hs => (RX.reads_and (SrcE.old hs (RX.reads_left hX)) (SrcE.old hs (RX.reads_right hX)))) rfl ?_
              refine TL.q rfl .u (Ex.py rfl rfl rfl) rfl ?_
              refine TL.run ft_cursitorref07_ok [33] rfl rfl ?_
              obtain rfl := Option.some.inj h
              exact TL.nil (X.seq (T.ret (X.done1 [2] Try.results20 (RV.tm rfl) ⟨rfl, rfl, rfl⟩ (by rfl) (.inl rfl))))
            · replace h := ifF c12 h
              refine TL.q rfl (.g rfl rfl rfl) (Ex.aEq (us := [.bool a0.fValue.null, .string (bsOf a0.fValue.data)]) (vs := [.bool a1.fValue.null, .string (bsOf a1.fValue.data)]) flat_cursitorref07_26 rfl Try.eqGuardType26 rfl rfl rfl rfl (eqL_t (eqV_b c11) (eqL_f (eqV_sn (l := a0.fValue.data) (m := a1.fValue.data) c12)))) rfl ?_
              refine TL.q rfl .u (Ex.py rfl rfl rfl) rfl ?_
              refine TL.run ft_cursitorref07_ok [26] rfl rfl ?_
              refine TL.no rfl (.gn rfl rfl rfl) rfl ?_
              refine TL.no rfl (.gn rfl rfl rfl) rfl ?_
              refine TL.no rfl (.gn rfl rfl rfl) rfl ?_
              refine TL.no rfl (.gn rfl rfl rfl) rfl ?_
              refine TL.no rfl (.gn rfl rfl rfl) rfl ?_
              refine TL.q rfl .u (Ex.pn rfl rfl rfl) rfl ?_
              refine TL.run ft_cursitorref07_ok [33] rfl rfl ?_
              obtain rfl := Option.some.inj h
              exact TL.nil (X.seq (T.ret (X.done1 [2] Try.results20 (RV.tm rfl) ⟨rfl, rfl, rfl⟩ (by rfl) (.inl rfl))))
          · replace h := ifF c11 h
            refine TL.q rfl (.g rfl rfl rfl) (Ex.aEq (us := [.bool a0.fValue.null, .string (bsOf a0.fValue.data)]) (vs := [.bool a1.fValue.null, .string (bsOf a1.fValue.data)]) flat_cursitorref07_26 rfl Try.eqGuardType26 rfl rfl rfl rfl (eqL_f (eqV_bn c11))) rfl ?_
            refine TL.q rfl .u (Ex.py rfl rfl rfl) rfl ?_
            refine TL.run ft_cursitorref07_ok [26] rfl rfl ?_
            refine TL.no rfl (.gn rfl rfl rfl) rfl ?_
            refine TL.no rfl (.gn rfl rfl rfl) rfl ?_
            refine TL.no rfl (.gn rfl rfl rfl) rfl ?_
            refine TL.no rfl (.gn rfl rfl rfl) rfl ?_
            refine TL.no rfl (.gn rfl rfl rfl) rfl ?_
            refine TL.q rfl .u (Ex.pn rfl rfl rfl) rfl ?_
            refine TL.run ft_cursitorref07_ok [33] rfl rfl ?_
            obtain rfl := Option.some.inj h
            exact TL.nil (X.seq (T.ret (X.done1 [2] Try.results20 (RV.tm rfl) ⟨rfl, rfl, rfl⟩ (by rfl) (.inl rfl))))
        · replace h := ifF c10 h
          refine TL.q rfl (.g rfl rfl (decide_eq_true c8)) (Ex.aEq (us := [.bool a0.fKey.null, .string (bsOf a0.fKey.data)]) (vs := [.bool a1.fKey.null, .string (bsOf a1.fKey.data)]) flat_cursitorref07_26 rfl Try.eqGuardType26 rfl rfl rfl rfl (eqL_t (eqV_b c9) (eqL_f (eqV_sn (l := a0.fKey.data) (m := a1.fKey.data) c10)))) rfl ?_
          refine TL.q rfl .u (Ex.py rfl (decide_eq_true c8) rfl) rfl ?_
          refine TL.run ft_cursitorref07_ok [19] rfl rfl ?_
          refine TL.no rfl (.gn rfl rfl rfl) rfl ?_
          refine TL.no rfl (.gn rfl rfl rfl) rfl ?_
          refine TL.no rfl (.gn rfl rfl rfl) rfl ?_
          refine TL.no rfl (.gn rfl rfl rfl) rfl ?_
          refine TL.no rfl (.gn rfl rfl rfl) rfl ?_
          refine TL.q rfl .u (Ex.pn rfl rfl rfl) rfl ?_
          refine TL.run ft_cursitorref07_ok [26] rfl rfl ?_
          refine TL.no rfl (.gn rfl rfl rfl) rfl ?_
          refine TL.no rfl (.gn rfl rfl rfl) rfl ?_
          refine TL.no rfl (.gn rfl rfl rfl) rfl ?_
          refine TL.no rfl (.gn rfl rfl rfl) rfl ?_
          refine TL.no rfl (.gn rfl rfl rfl) rfl ?_
          refine TL.q rfl .u (Ex.pn rfl rfl rfl) rfl ?_
          refine TL.run ft_cursitorref07_ok [33] rfl rfl ?_
          obtain rfl := Option.some.inj h
          exact TL.nil (X.seq (T.ret (X.done1 [2] Try.results20 (RV.tm rfl) ⟨rfl, rfl, rfl⟩ (by rfl) (.inl rfl))))
      · replace h := ifF c9 h
        refine TL.q rfl (.g rfl rfl (decide_eq_true c8)) (Ex.aEq (us := [.bool a0.fKey.null, .string (bsOf a0.fKey.data)]) (vs := [.bool a1.fKey.null, .string (bsOf a1.fKey.data)]) flat_cursitorref07_26 rfl Try.eqGuardType26 rfl rfl rfl rfl (eqL_f (eqV_bn c9))) rfl ?_
        refine TL.q rfl .u (Ex.py rfl (decide_eq_true c8) rfl) rfl ?_
        refine TL.run ft_cursitorref07_ok [19] rfl rfl ?_
        refine TL.no rfl (.gn rfl rfl rfl) rfl ?_
        refine TL.no rfl (.gn rfl rfl rfl) rfl ?_
        refine TL.no rfl (.gn rfl rfl rfl) rfl ?_
        refine TL.no rfl (.gn rfl rfl rfl) rfl ?_
        refine TL.no rfl (.gn rfl rfl rfl) rfl ?_
        refine TL.q rfl .u (Ex.pn rfl rfl rfl) rfl ?_
        refine TL.run ft_cursitorref07_ok [26] rfl rfl ?_
        refine TL.no rfl (.gn rfl rfl rfl) rfl ?_
        refine TL.no rfl (.gn rfl rfl rfl) rfl ?_
        refine TL.no rfl (.gn rfl rfl rfl) rfl ?_
        refine TL.no rfl (.gn rfl rfl rfl) rfl ?_
        refine TL.no rfl (.gn rfl rfl rfl) rfl ?_
        refine TL.q rfl .u (Ex.pn rfl rfl rfl) rfl ?_
        refine TL.run ft_cursitorref07_ok [33] rfl rfl ?_
        obtain rfl := Option.some.inj h
        exact TL.nil (X.seq (T.ret (X.done1 [2] Try.results20 (RV.tm rfl) ⟨rfl, rfl, rfl⟩ (by rfl) (.inl rfl))))
    · replace h := ifF c8 h
      refine TL.run ft_cursitorref07_ok [12] rfl rfl ?_
      refine TL.no rfl (.gn rfl rfl (decide_eq_false c8)) rfl ?_
      refine TL.no rfl (.gn rfl rfl (decide_eq_false c8)) rfl ?_
      refine TL.no rfl (.gn rfl rfl (decide_eq_false c8)) rfl ?_
      refine TL.no rfl (.gn rfl rfl (decide_eq_false c8)) rfl ?_
      refine TL.no rfl (.gn rfl rfl (decide_eq_false c8)) rfl ?_
      refine TL.q rfl .u (Ex.pn rfl (decide_eq_false c8) rfl) rfl ?_
      refine TL.run ft_cursitorref07_ok [19] rfl rfl ?_
      refine TL.no rfl (.gn rfl rfl rfl) rfl ?_
      refine TL.no rfl (.gn rfl rfl rfl) rfl ?_
      refine TL.no rfl (.gn rfl rfl rfl) rfl ?_
      refine TL.no rfl (.gn rfl rfl rfl) rfl ?_
      refine TL.no rfl (.gn rfl rfl rfl) rfl ?_
      refine TL.q rfl .u (Ex.pn rfl rfl rfl) rfl ?_
      refine TL.run ft_cursitorref07_ok [26] rfl rfl ?_
      refine TL.no rfl (.gn rfl rfl rfl) rfl ?_
      refine TL.no rfl (.gn rfl rfl rfl) rfl ?_
      refine TL.no rfl (.gn rfl rfl rfl) rfl ?_
      refine TL.no rfl (.gn rfl rfl rfl) rfl ?_
      refine TL.no rfl (.gn rfl rfl rfl) rfl ?_
      refine TL.q rfl .u (Ex.pn rfl rfl rfl) rfl ?_
      refine TL.run ft_cursitorref07_ok [33] rfl rfl ?_
      obtain rfl := Option.some.inj h
      exact TL.nil (X.seq (T.ret (X.done1 [2] Try.results20 (RV.tm rfl) ⟨rfl, rfl, rfl⟩ (by rfl) (.inl rfl))))
  · replace h := ifF c7 h
    refine TL.run ft_cursitorref07_ok [4, 5] rfl rfl ?_
    refine TL.no rfl (.gn rfl rfl (decide_eq_false c7)) rfl ?_
    refine TL.no rfl (.gn rfl rfl (decide_eq_false c7)) rfl ?_
    refine TL.no rfl (.gn rfl rfl (decide_eq_false c7)) rfl ?_
    refine TL.no rfl (.gn rfl rfl (decide_eq_false c7)) rfl ?_
    refine TL.no rfl (.gn rfl rfl (decide_eq_false c7)) rfl ?_
    refine TL.q rfl .u (Ex.pn rfl (decide_eq_false c7) rfl) rfl ?_
    refine TL.run ft_cursitorref07_ok [12] rfl rfl ?_
    refine TL.no rfl (.gn rfl rfl rfl) rfl ?_
    refine TL.no rfl (.gn rfl rfl rfl) rfl ?_
    refine TL.no rfl (.gn rfl rfl rfl) rfl ?_
    refine TL.no rfl (.gn rfl rfl rfl) rfl ?_
    refine TL.no rfl (.gn rfl rfl rfl) rfl ?_
    refine TL.q rfl .u (Ex.pn rfl rfl rfl) rfl ?_
    refine TL.run ft_cursitorref07_ok [19] rfl rfl ?_
    refine TL.no rfl (.gn rfl rfl rfl) rfl ?_
    refine TL.no rfl (.gn rfl rfl rfl) rfl ?_
    refine TL.no rfl (.gn rfl rfl rfl) rfl ?_
    refine TL.no rfl (.gn rfl rfl rfl) rfl ?_
    refine TL.no rfl (.gn rfl rfl rfl) rfl ?_
    refine TL.q rfl .u (Ex.pn rfl rfl rfl) rfl ?_
    refine TL.run ft_cursitorref07_ok [26] rfl rfl ?_
    refine TL.no rfl (.gn rfl rfl rfl) rfl ?_
    refine TL.no rfl (.gn rfl rfl rfl) rfl ?_
    refine TL.no rfl (.gn rfl rfl rfl) rfl ?_
    refine TL.no rfl (.gn rfl rfl rfl) rfl ?_
    refine TL.no rfl (.gn rfl rfl rfl) rfl ?_
    refine TL.q rfl .u (Ex.pn rfl rfl rfl) rfl ?_
    refine TL.run ft_cursitorref07_ok [33] rfl rfl ?_
    obtain rfl := Option.some.inj h
    exact TL.nil (X.seq (T.ret (X.done1 [2] Try.results20 (RV.tm rfl) ⟨rfl, rfl, rfl⟩ (by rfl) (.inl rfl))))
def f_r07_odd (a0 : Bl) : Option (Bool) := if a0.null = true then (if a0.data = [] then some false else some true) else some false
set_option maxRecDepth 100000 in
set_option maxHeartbeats 4000000 in
theorem f_r07_odd_spec (a0 : Bl) (r : Bool) (h : f_r07_odd a0 = some r) : SpecX Try.prog 94 #[.agg #[.bool a0.null, .string (bsOf a0.data)]] .triv (EmpR) (fun v A' N => v = .bool r ∧ A' = EmpR ∧ N = []) := by
  refine enterA Try.func94 rfl Try.ntmps94 rfl ?_
  intro F w hX
  unfold f_r07_odd at h
  refine T.seq (T.region rfl ?_)
  refine TL.box rfl .u rfl rfl (fun b1 => ?_)
  refine TL.run ft_cursitorref07_ok [1] rfl rfl ?_
  refine TL.nil (X.seq (T.seq (T.region rfl ?_)))
  refine TL.run ft_cursitorref07_ok [0] rfl rfl ?_
  refine TL.q rfl .u (Ex.b1 0 rfl Try.isAgg4 rfl rfl) rfl ?_
  by_cases c2 : a0.null = true
  · replace h := ifT c2 h
    refine TL.run ft_cursitorref07_ok [2] rfl rfl ?_
    refine TL.q rfl (.g rfl rfl c2) (Ex.ft ft_cursitorref07_ok rfl) rfl ?_
    refine TL.q rfl (.g rfl rfl c2) (Ex.b1 0 rfl Try.isAgg9 rfl rfl) rfl ?_
    refine TL.q rfl (.g rfl rfl c2) (Ex.sNe rfl (m := []) rfl) rfl ?_
    refine TL.q rfl .u (Ex.py rfl c2 rfl) rfl ?_
    refine TL.run ft_cursitorref07_ok [7] rfl rfl ?_
    by_cases c3 : a0.data = []
    · replace h := ifT c3 h
      obtain rfl := Option.some.inj h
      exact TL.nil (X.seq (T.ret (X.done1 [1] Try.results94 (RV.tm (v := .bool false) (congrArg (fun b => some (Value.bool b)) (bn_f (decide_eq_true c3)))) ⟨rfl, rfl, rfl⟩ (by rfl) (.inl rfl))))
    · replace h := ifF c3 h
      obtain rfl := Option.some.inj h
      exact TL.nil (X.seq (T.ret (X.done1 [1] Try.results94 (RV.tm (v := .bool true) (congrArg (fun b => some (Value.bool b)) (bn_t (decide_eq_false c3)))) ⟨rfl, rfl, rfl⟩ (by rfl) (.inl rfl))))
  · replace h := ifF c2 h
    replace c2 := eq_false_of_ne_true c2
    refine TL.run ft_cursitorref07_ok [2] rfl rfl ?_
    refine TL.no rfl (.gn rfl rfl c2) rfl ?_
    refine TL.no rfl (.gn rfl rfl c2) rfl ?_
    refine TL.no rfl (.gn rfl rfl c2) rfl ?_
    refine TL.q rfl .u (Ex.pn rfl c2 rfl) rfl ?_
    refine TL.run ft_cursitorref07_ok [7] rfl rfl ?_
    obtain rfl := Option.some.inj h
    exact TL.nil (X.seq (T.ret (X.done1 [1] Try.results94 (RV.tm rfl) ⟨rfl, rfl, rfl⟩ (by rfl) (.inl rfl))))
def f_r07_Right (a0 : Rec) : Option (Int) := if a0.fOffset < 0 then some 11 else (if a0.fOffset > 2147483647 then some 11 else ((f_r07_odd a0.fKey).bind fun x6 => if x6 = true then some 4 else ((f_r07_odd a0.fValue).bind fun x9 => if x9 = true then some 4 else ((f_r06_Right a0.fHeaders).bind fun x12 => if x12 = true then some 0 else some 4))))
set_option maxRecDepth 100000 in
set_option maxHeartbeats 4000000 in
theorem f_r07_Right_spec (a0 : Rec) (A1 : Option Addr) (c2 : Nat) (r : Int) (h : f_r07_Right a0 = some r) : SpecX Try.prog 25 #[.agg #[.int .i64 a0.fTime, .int .i64 a0.fOffset, .bool a0.fKey.null, .string (bsOf a0.fKey.data), .bool a0.fValue.null, .string (bsOf a0.fValue.data), .slice A1 a0.fHeaders.length c2]] (RX.of (sliceRd 3 Hd_rd) [.slice A1 a0.fHeaders.length c2] a0.fHeaders) (EmpR) (fun v A' N => v = .int .i64 r ∧ A' = EmpR ∧ N = []) := by
  refine enterA Try.func25 rfl Try.ntmps25 rfl ?_
  intro F w hX
  unfold f_r07_Right at h
  refine T.seq (T.region rfl ?_)
  refine TL.box rfl .u rfl rfl (fun b3 => ?_)
  refine TL.run ft_cursitorref07_ok [1] rfl rfl ?_
  refine TL.nil (X.seq (T.seq (T.seq (T.region rfl ?_))))
  refine TL.run ft_cursitorref07_ok [0] rfl rfl ?_
  refine TL.q rfl .u (Ex.b1 0 rfl Try.isAgg3 rfl rfl) rfl ?_
  by_cases c4 : a0.fOffset < 0
  · replace h := ifT c4 h
    refine TL.run ft_cursitorref07_ok [2, 3] rfl rfl ?_
    refine TL.no rfl (.gn rfl rfl (decide_eq_true c4)) rfl ?_
    refine TL.no rfl (.gn rfl rfl (decide_eq_true c4)) rfl ?_
    refine TL.no rfl (.gn rfl rfl (decide_eq_true c4)) rfl ?_
    refine TL.q rfl .u (Ex.py rfl (decide_eq_true c4) rfl) rfl ?_
    refine TL.nil (X.seq ?_)
    refine T.yes rfl rfl ?_
    refine T.seq (T.region rfl ?_)
    refine TL.run ft_cursitorref07_ok [0] rfl rfl ?_
    obtain rfl := Option.some.inj h
    exact TL.nil (X.seq (T.ret (X.rs (X.done1 [1] Try.results25 (RV.tm rfl) ⟨rfl, rfl, rfl⟩ (by rfl) (.inl rfl)))))
  · replace h := ifF c4 h
    refine TL.run ft_cursitorref07_ok [2, 3] rfl rfl ?_
    refine TL.q rfl (.g rfl rfl (decide_eq_false c4)) (Ex.ft ft_cursitorref07_ok rfl) rfl ?_
    refine TL.q rfl (.g rfl rfl (decide_eq_false c4)) (Ex.b1 0 rfl Try.isAgg3 rfl rfl) rfl ?_
    refine TL.q rfl (.g rfl rfl (decide_eq_false c4)) (Ex.ft ft_cursitorref07_ok rfl) rfl ?_
    refine TL.q rfl .u (Ex.pn rfl (decide_eq_false c4) rfl) rfl ?_
    by_cases c5 : a0.fOffset > 2147483647
    · replace h := ifT c5 h
      refine TL.nil (X.seq ?_)
      refine T.yes rfl (decide_eq_true c5) ?_
      refine T.seq (T.region rfl ?_)
      refine TL.run ft_cursitorref07_ok [0] rfl rfl ?_
      obtain rfl := Option.some.inj h
      exact TL.nil (X.seq (T.ret (X.rs (X.done1 [1] Try.results25 (RV.tm rfl) ⟨rfl, rfl, rfl⟩ (by rfl) (.inl rfl)))))
    · replace h := ifF c5 h
      refine TL.nil (X.seq ?_)
      refine T.no rfl (decide_eq_false c5) ?_
      refine T.skip (X.seq (T.seq (T.seq (T.region rfl ?_))))
      refine TL.run ft_cursitorref07_ok [0] rfl rfl ?_
      refine TL.q rfl .u (Ex.bS (us := [.bool a0.fKey.null, .string (bsOf a0.fKey.data)]) 0 rfl Try.isAgg26 Try.sizeOf26 rfl rfl rfl) rfl ?_
      obtain ⟨x6, hx7, h⟩ := Option.bind_eq_some_iff.1 h
      refine TL.ce rfl .u (.fn Try.call94 rfl) (f_r07_odd_spec a0.fKey _ hx7) (fun _ hs => (RX.reads_triv _ _)) rfl ?_
      by_cases c8 : x6 = true
      · replace h := ifT c8 h
        refine TL.run ft_cursitorref07_ok [3] rfl rfl ?_
        refine TL.no rfl (.gn rfl rfl c8) rfl ?_
        refine TL.no rfl (.gn rfl rfl c8) rfl ?_
        refine TL.no rfl (.gn rfl rfl c8) rfl ?_
        refine TL.q rfl .u (Ex.py rfl c8 rfl) rfl ?_
        refine TL.run ft_cursitorref07_ok [8] rfl rfl ?_
        refine TL.no rfl (.gn rfl rfl rfl) rfl ?_
        refine TL.no rfl (.gn rfl rfl rfl) rfl ?_
        refine TL.no rfl (.gn rfl rfl rfl) rfl ?_
        refine TL.no rfl (.gn rfl rfl rfl) rfl ?_
        refine TL.q rfl .u (Ex.py rfl rfl rfl) rfl ?_
        refine TL.nil (X.seq ?_)
        refine T.yes rfl rfl ?_
        refine T.seq (T.region rfl ?_)
        refine TL.run ft_cursitorref07_ok [0] rfl rfl ?_
        obtain rfl := Option.some.inj h
        exact TL.nil (X.seq (T.ret (X.rs (X.done1 [1] Try.results25 (RV.tm rfl) ⟨rfl, rfl, rfl⟩ (by rfl) (.inl rfl)))))
      · replace h := ifF c8 h
        replace c8 := eq_false_of_ne_true c8
        refine TL.run ft_cursitorref07_ok [3] rfl rfl ?_
        refine TL.q rfl (.g rfl rfl c8) (Ex.ft ft_cursitorref07_ok rfl) rfl ?_
        refine TL.q rfl (.g rfl rfl c8) (Ex.bS (us := [.bool a0.fValue.null, .string (bsOf a0.fValue.data)]) 0 rfl Try.isAgg26 Try.sizeOf26 rfl rfl rfl) rfl ?_
        obtain ⟨x9, hx10, h⟩ := Option.bind_eq_some_iff.1 h
        refine TL.ce rfl (.g rfl rfl c8) (.fn Try.call94 rfl) (f_r07_odd_spec a0.fValue _ hx10) (fun _ hs => (RX.reads_triv _ _)) rfl ?_
        refine TL.q rfl .u (Ex.pn rfl c8 rfl) rfl ?_
        by_cases c11 : x9 = true
        · replace h := ifT c11 h
          refine TL.run ft_cursitorref07_ok [8] rfl rfl ?_
          refine TL.no rfl (.gn rfl rfl c11) rfl ?_
          refine TL.no rfl (.gn rfl rfl c11) rfl ?_
          refine TL.no rfl (.gn rfl rfl c11) rfl ?_
          refine TL.no rfl (.gn rfl rfl c11) rfl ?_
          refine TL.q rfl .u (Ex.py rfl c11 rfl) rfl ?_
          refine TL.nil (X.seq ?_)
          refine T.yes rfl rfl ?_
          refine T.seq (T.region rfl ?_)
          refine TL.run ft_cursitorref07_ok [0] rfl rfl ?_
          obtain rfl := Option.some.inj h
          exact TL.nil (X.seq (T.ret (X.rs (X.done1 [1] Try.results25 (RV.tm rfl) ⟨rfl, rfl, rfl⟩ (by rfl) (.inl rfl)))))
        · replace h := ifF c11 h
          replace c11 := eq_false_of_ne_true c11
          refine TL.run ft_cursitorref07_ok [8] rfl rfl ?_
          refine TL.q rfl (.g rfl rfl c11) (Ex.ft ft_cursitorref07_ok rfl) rfl ?_
          refine TL.q rfl (.g rfl rfl c11) (Ex.b1 0 rfl Try.isAgg27 rfl rfl) rfl ?_
          obtain ⟨x12, hx13, h⟩ := Option.bind_eq_some_iff.1 h
          refine TL.ce rfl (.g rfl rfl c11) (.fn Try.call95 rfl) (f_r06_Right_spec a0.fHeaders _ _ _ hx13) (fun _ hs => (SrcE.old hs hX)) rfl ?_
          refine TL.q rfl (.g rfl rfl c11) (Ex.ft ft_cursitorref07_ok rfl) rfl ?_
          refine TL.q rfl .u (Ex.pn rfl c11 rfl) rfl ?_
          by_cases c14 : x12 = true
          · replace h := ifT c14 h
            refine TL.nil (X.seq ?_)
            refine T.no rfl (bn_f c14) ?_
            refine T.skip (X.seq (T.seq (T.region rfl ?_)))
            refine TL.run ft_cursitorref07_ok [0] rfl rfl ?_
            obtain rfl := Option.some.inj h
            exact TL.nil (X.seq (T.ret (X.done1 [1] Try.results25 (RV.tm rfl) ⟨rfl, rfl, rfl⟩ (by rfl) (.inl rfl))))
          · replace h := ifF c14 h
            replace c14 := eq_false_of_ne_true c14
            refine TL.nil (X.seq ?_)
            refine T.yes rfl (bn_t c14) ?_
            refine T.seq (T.region rfl ?_)
            refine TL.run ft_cursitorref07_ok [0] rfl rfl ?_
            obtain rfl := Option.some.inj h
            exact TL.nil (X.seq (T.ret (X.rs (X.done1 [1] Try.results25 (RV.tm rfl) ⟨rfl, rfl, rfl⟩ (by rfl) (.inl rfl)))))
end Go.Proofs.Ytagbblaegdedpaa.Sl
namespace Go.Proofs.Ytagbblaegdedpaa.Sl
open Go.RowKit
set_option linter.unusedVariables false
set_option linter.unusedSimpArgs false
theorem Q_vlong : CQ gVLong (pVint 64) 0 := (CR_vint 64 (.inr rfl)).cq (Sp_vint 64 (.inr rfl))
theorem gVLong_d {st : I} (h : st.err ≠ 0) : gVLong st = some (0, st) := Q_vlong.dead st h
theorem c_gClose_d {st : I} (h : st.err ≠ 0) : gClose st = some (st.err, st) := by rw [gClose_eq, iclose_err h]
def pStop : Pr Unit := fun s q => if q = s.length then .ok ((), q) else .error 2
def zRec : Rec := ⟨0, 0, ⟨false, []⟩, ⟨false, []⟩, []⟩
def pBody : Pr Rec := (pInt 1).bind fun z => if z = 0 then (pVint 64).bind fun t => (pVint 32).bind fun o => if o < 0 then .err 11 else pVaried.bind fun k => pVaried.bind fun v => pHds.bind fun h => pStop.bind fun _ => .ret ⟨t, o, k, v, h⟩ else .err 8
def bodyOp (st9 : I) : Option (Rec × Int) := (gInt st9 1).bind fun (x12, st13) => if x12 = 0 then ((gVLong st13).bind fun (x16, st17) => (gVInt st17).bind fun (x19, st20) => if x19 < 0 then ((gIFail st20 11).bind fun st24 => (gVaried st24).bind fun (x26, st27) => (gVaried st27).bind fun (x29, st30) => (f_header_Read st30).bind fun (x32, st35) => (gClose st35).bind fun (x37, st38) => some ((⟨x16, x19, x26, x29, x32⟩ : Rec), x37)) else ((gVaried st20).bind fun (x43, st44) => (gVaried st44).bind fun (x46, st47) => (f_header_Read st47).bind fun (x49, st52) => (gClose st52).bind fun (x54, st55) => some ((⟨x16, x19, x43, x46, x49⟩ : Rec), x54))) else ((gIFail st13 8).bind fun st60 => (gVLong st60).bind fun (x62, st63) => (gVInt st63).bind fun (x65, st66) => if x65 < 0 then ((gIFail st66 11).bind fun st70 => (gVaried st70).bind fun (x72, st73) => (gVaried st73).bind fun (x75, st76) => (f_header_Read st76).bind fun (x78, st81) => (gClose st81).bind fun (x83, st84) => some ((⟨x62, x65, x72, x75, x78⟩ : Rec), x83)) else ((gVaried st66).bind fun (x89, st90) => (gVaried st90).bind fun (x92, st93) => (f_header_Read st93).bind fun (x95, st98) => (gClose st98).bind fun (x100, st101) => some ((⟨x62, x65, x89, x92, x95⟩ : Rec), x100)))
theorem body_run (s : List UInt8) (hs : s.length ≤ 1000000) : (∃ e x, pBody s 0 = .error e ∧ bodyOp ⟨s, 0, 0⟩ = some (x, e) ∧ e ≠ 0) ∨ (∃ x, pBody s 0 = .ok (x, s.length) ∧ bodyOp ⟨s, 0, 0⟩ = some (x, 0)) := by
  unfold bodyOp pBody
  have r0 := Q1.run s 0 (Nat.zero_le _)
  rw [List.drop_zero] at r0
  have hB := B_hds
  rcases r0 with ⟨e, st, p0, g0, x0, y0⟩ | ⟨z, q0, p0, g0, n0, l0⟩
  · refine .inl ⟨e, ⟨0, 0, ⟨false, []⟩, ⟨false, []⟩, []⟩, Pr.bind_err p0, ?_, by rw [← x0]; exact y0⟩
    rw [g0]
    simp only [Option.bind_some, if_true, gVLong_d y0, gVInt_d y0, gVaried_d y0, hB.dead _ y0, c_gClose_d y0, x0, show ¬ (0 : Int) < 0 by decide, if_false]
  rw [g0, Option.bind_some]
  simp only
  by_cases hz : z = 0
  · rw [if_pos hz, Pr.bind_of p0, if_pos hz]
    rcases Q_vlong.run s q0 l0 with ⟨e, st, p1, g1, x1, y1⟩ | ⟨a, q1, p1, g1, n1, l1⟩
    · refine .inl ⟨e, ⟨0, 0, ⟨false, []⟩, ⟨false, []⟩, []⟩, Pr.bind_err p1, ?_, by rw [← x1]; exact y1⟩
      rw [g1]
      simp only [Option.bind_some, if_true, gVInt_d y1, gVaried_d y1, hB.dead _ y1, c_gClose_d y1, x1, show ¬ (0 : Int) < 0 by decide, if_false]
    rw [g1, Option.bind_some, Pr.bind_of p1]
    simp only
    rcases Q_vint.run s q1 l1 with ⟨e, st, p2, g2, x2, y2⟩ | ⟨o, q2, p2, g2, n2, l2⟩
    · refine .inl ⟨e, ⟨a, 0, ⟨false, []⟩, ⟨false, []⟩, []⟩, Pr.bind_err p2, ?_, by rw [← x2]; exact y2⟩
      rw [g2]
      simp only [Option.bind_some, if_true, gVaried_d y2, hB.dead _ y2, c_gClose_d y2, x2, show ¬ (0 : Int) < 0 by decide, if_false]
    rw [g2, Option.bind_some, Pr.bind_of p2]
    simp only
    by_cases ho : o < 0
    · rw [if_pos ho, if_pos ho, gIFail_eq, Option.bind_some, ifail_z]
      have y : (⟨s.drop q2, q2, 11⟩ : I).err ≠ 0 := by simp
      refine .inl ⟨11, ⟨a, o, ⟨false, []⟩, ⟨false, []⟩, []⟩, rfl, ?_, by decide⟩
      simp only [Option.bind_some, gVaried_d y, hB.dead _ y, c_gClose_d y]
    rw [if_neg ho, if_neg ho]
    rcases QV.run s q2 l2 with ⟨e, st, p3, g3, x3, y3⟩ | ⟨k, q3, p3, g3, n3, l3⟩
    · refine .inl ⟨e, ⟨a, o, ⟨false, []⟩, ⟨false, []⟩, []⟩, Pr.bind_err p3, ?_, by rw [← x3]; exact y3⟩
      rw [g3]
      simp only [Option.bind_some, gVaried_d y3, hB.dead _ y3, c_gClose_d y3, x3]
    rw [g3, Option.bind_some, Pr.bind_of p3]
    simp only
    rcases QV.run s q3 l3 with ⟨e, st, p4, g4, x4, y4⟩ | ⟨v, q4, p4, g4, n4, l4⟩
    · refine .inl ⟨e, ⟨a, o, k, ⟨false, []⟩, []⟩, Pr.bind_err p4, ?_, by rw [← x4]; exact y4⟩
      rw [g4]
      simp only [Option.bind_some, hB.dead _ y4, c_gClose_d y4, x4]
    rw [g4, Option.bind_some, Pr.bind_of p4]
    simp only
    rcases hB.run s q4 hs l4 with ⟨e, st, p5, g5, x5, y5⟩ | ⟨h, q5, p5, g5, n5, l5⟩
    · refine .inl ⟨e, ⟨a, o, k, v, []⟩, Pr.bind_err p5, ?_, by rw [← x5]; exact y5⟩
      rw [g5]
      simp only [Option.bind_some, c_gClose_d y5, x5]
    rw [g5, Option.bind_some, Pr.bind_of p5]
    simp only
    rw [gClose_eq, Option.bind_some]
    simp only
    by_cases hq : q5 = s.length
    · have he : pStop s q5 = .ok ((), q5) := by unfold pStop; rw [if_pos hq]
      have hi : (iclose ⟨s.drop q5, q5, 0⟩).err = 0 := by rw [hq, List.drop_length]; rfl
      rw [Pr.bind_of he, hi]
      exact .inr ⟨⟨a, o, k, v, h⟩, by rw [hq]; rfl, rfl⟩
    · have he : pStop s q5 = .error 2 := by unfold pStop; rw [if_neg hq]
      have hi : (iclose ⟨s.drop q5, q5, 0⟩).err = 2 := by
        unfold iclose
        rw [if_neg]
        · rfl
        · intro h0
          have := List.drop_eq_nil_iff.1 h0
          omega
      rw [Pr.bind_err he, hi]
      exact .inl ⟨2, _, rfl, rfl, by decide⟩
  · rw [if_neg hz, Pr.bind_of p0, if_neg hz, gIFail_eq, Option.bind_some, ifail_z]
    have y : (⟨s.drop q0, q0, 8⟩ : I).err ≠ 0 := by simp
    refine .inl ⟨8, ⟨0, 0, ⟨false, []⟩, ⟨false, []⟩, []⟩, rfl, ?_, by decide⟩
    simp only [Option.bind_some, if_true, gVLong_d y, gVInt_d y, gVaried_d y, hB.dead _ y, c_gClose_d y, show ¬ (0 : Int) < 0 by decide, if_false]
def pRec : Pr Rec := fun s q => match pName s q with
  | .error e => .error e
  | .ok (d, r) => match pBody d 0 with
    | .error e => .error e
    | .ok (x, _) => .ok (x, r)
theorem read_body (st9 st6 : I) (x : Rec) (e : Int) (h : bodyOp st9 = some (x, e)) : ((gInt st9 1).bind fun (x12, st13) => if x12 = 0 then ((gVLong st13).bind fun (x16, st17) => (gVInt st17).bind fun (x19, st20) => if x19 < 0 then ((gIFail st20 11).bind fun st24 => (gVaried st24).bind fun (x26, st27) => (gVaried st27).bind fun (x29, st30) => (f_header_Read st30).bind fun (x32, st35) => (gClose st35).bind fun (x37, st38) => if x37 = 0 then (some ((⟨x16, x19, x26, x29, x32⟩ : Rec), st6)) else ((gIFail st6 x37).bind fun st41 => some (zRec, st41))) else ((gVaried st20).bind fun (x43, st44) => (gVaried st44).bind fun (x46, st47) => (f_header_Read st47).bind fun (x49, st52) => (gClose st52).bind fun (x54, st55) => if x54 = 0 then (some ((⟨x16, x19, x43, x46, x49⟩ : Rec), st6)) else ((gIFail st6 x54).bind fun st58 => some (zRec, st58)))) else ((gIFail st13 8).bind fun st60 => (gVLong st60).bind fun (x62, st63) => (gVInt st63).bind fun (x65, st66) => if x65 < 0 then ((gIFail st66 11).bind fun st70 => (gVaried st70).bind fun (x72, st73) => (gVaried st73).bind fun (x75, st76) => (f_header_Read st76).bind fun (x78, st81) => (gClose st81).bind fun (x83, st84) => if x83 = 0 then (some ((⟨x62, x65, x72, x75, x78⟩ : Rec), st6)) else ((gIFail st6 x83).bind fun st87 => some (zRec, st87))) else ((gVaried st66).bind fun (x89, st90) => (gVaried st90).bind fun (x92, st93) => (f_header_Read st93).bind fun (x95, st98) => (gClose st98).bind fun (x100, st101) => if x100 = 0 then (some ((⟨x62, x65, x89, x92, x95⟩ : Rec), st6)) else ((gIFail st6 x100).bind fun st104 => some (zRec, st104))))) = if e = 0 then some (x, st6) else some (zRec, ifail st6 e) := by
  unfold bodyOp at h
  revert h
  have hop : ∀ (o : Option (List Hd × I)) (f : List Hd → Rec), ((o.bind fun (a, s1) => (gClose s1).bind fun (b, s2) => some (f a, b)) = some (x, e)) → (o.bind fun (a, s1) => (gClose s1).bind fun (b, s2) => if b = 0 then some (f a, st6) else (gIFail st6 b).bind fun s3 => some (zRec, s3)) = if e = 0 then some (x, st6) else some (zRec, ifail st6 e) := by
    intro o f h
    cases o with
    | none => exact nomatch h
    | some y =>
      rw [Option.bind_some] at h ⊢
      simp only [gClose_eq, Option.bind_some] at h ⊢
      injection h with h
      obtain ⟨rfl, rfl⟩ := Prod.mk.inj h
      by_cases hz : (iclose y.2).err = 0
      · rw [if_pos hz, if_pos hz]
      · rw [if_neg hz, if_neg hz]
        rfl
  simp only [gInt_eq, gVLong_eq, gVInt_eq, gVaried_eq, gIFail_eq, Option.bind_some]
  intro h
  split at h
  · rename_i h1
    rw [if_pos h1]
    split at h
    · rename_i h2
      rw [if_pos h2]
      exact hop _ (fun a => ⟨_, _, _, _, a⟩) h
    · rename_i h2
      rw [if_neg h2]
      exact hop _ (fun a => ⟨_, _, _, _, a⟩) h
  · rename_i h1
    rw [if_neg h1]
    split at h
    · rename_i h2
      rw [if_pos h2]
      exact hop _ (fun a => ⟨_, _, _, _, a⟩) h
    · rename_i h2
      rw [if_neg h2]
      exact hop _ (fun a => ⟨_, _, _, _, a⟩) h
theorem B_rec : CB f_record_Read pRec zRec := by
  refine ⟨fun st h => ?_, fun s q hs hq => ?_⟩
  · unfold f_record_Read
    rw [gName_d h, Option.bind_some]
    simp only
    rw [gErr_eq, Option.bind_some]
    simp only
    rw [if_neg h]
    rfl
  · unfold f_record_Read pRec
    rcases QN.run s q hq with ⟨e, st, p1, g1, x1, y1⟩ | ⟨d, r, p1, g1, n1, l1⟩
    · refine .inl ⟨e, st, by rw [p1], ?_, x1, y1⟩
      rw [g1, Option.bind_some]
      simp only
      rw [gErr_eq, Option.bind_some]
      simp only
      rw [if_neg y1]
      rfl
    · have hsp := Sp_name.spell _ _ _ _ hq p1
      have hdl : d.length ≤ 1000000 := by
        have := hsp.2.2.1
        rw [List.length_append] at this
        omega
      rw [g1, p1, Option.bind_some]
      simp only
      rw [gErr_eq, Option.bind_some]
      simp only [if_true]
      rw [gNew_eq _ (by omega), Option.bind_some]
      rcases body_run d hdl with ⟨e, x, b1, b2, b3⟩ | ⟨x, b1, b2⟩
      · have hb := read_body ⟨d, 0, 0⟩ ⟨s.drop r, r, 0⟩ x e b2
        rw [if_neg b3] at hb
        rw [b1]
        exact .inl ⟨e, _, rfl, hb, rfl, b3⟩
      · have hb := read_body ⟨d, 0, 0⟩ ⟨s.drop r, r, 0⟩ x 0 b2
        rw [if_pos rfl] at hb
        rw [b1]
        exact .inr ⟨x, r, rfl, hb, n1, l1⟩
end Go.Proofs.Ytagbblaegdedpaa.Sl
namespace Go.Proofs.Ytagbblaegdedpaa.Sl
open Go.RowKit
set_option linter.unusedVariables false
set_option linter.unusedSimpArgs false
def encBl (b : Bl) : List UInt8 := vput (vfold (blen b)) ++ b.data
def encHs (l : List Hd) : List UInt8 := vput (vfold (l.length : Int)) ++ encs encHd l
def encBody (x : Rec) : List UInt8 := be 0 1 ++ (vput (vfold x.fTime) ++ (vput (vfold x.fOffset) ++ (encBl x.fKey ++ (encBl x.fValue ++ encHs x.fHeaders))))
def okBl (b : Bl) : Prop := vfold (blen b) < 2 ^ (32 : Int).toNat ∧ bright b = true
def okHs (l : List Hd) : Prop := vfold (l.length : Int) < 2 ^ (32 : Int).toNat ∧ ∀ h, h ∈ l → okHd h
def okRec (x : Rec) : Prop := vfold x.fTime < 2 ^ (64 : Int).toNat ∧ (vfold x.fOffset < 2 ^ (32 : Int).toNat ∧ 0 ≤ x.fOffset) ∧ okBl x.fKey ∧ okBl x.fValue ∧ okHs x.fHeaders
theorem body_spell {s : List UInt8} {x : Rec} {r : Nat} (h : pBody s 0 = .ok (x, r)) : s = encBody x ∧ okRec x := by
  obtain ⟨z, q0, h0, h⟩ := Pr.bind_ok h
  split at h
  · rename_i hz
    subst hz
    obtain ⟨t, q1, h1, h⟩ := Pr.bind_ok h
    obtain ⟨o, q2, h2, h⟩ := Pr.bind_ok h
    split at h
    · exact nomatch h
    · rename_i ho
      obtain ⟨k, q3, h3, h⟩ := Pr.bind_ok h
      obtain ⟨v, q4, h4, h⟩ := Pr.bind_ok h
      obtain ⟨hs, q5, h5, h⟩ := Pr.bind_ok h
      obtain ⟨u, q6, h6, h⟩ := Pr.bind_ok h
      injection h with h
      obtain ⟨rfl, rfl⟩ := Prod.mk.inj h
      obtain ⟨-, a2, -, a4, a5⟩ := (Sp_int 1 (by decide) (by decide)).spell _ _ _ _ (Nat.zero_le _) h0
      obtain ⟨-, b2, -, b4, b5⟩ := (Sp_vint 64 (.inr rfl)).spell _ _ _ _ a2 h1
      obtain ⟨-, c2, -, c4, c5⟩ := (Sp_vint 32 (.inl rfl)).spell _ _ _ _ b2 h2
      obtain ⟨-, d2, -, d4, d5⟩ := Sp_varied.spell _ _ _ _ c2 h3
      obtain ⟨-, e2, -, e4, e5⟩ := Sp_varied.spell _ _ _ _ d2 h4
      obtain ⟨-, f2, -, f4, f5⟩ := Sp_hds.spell _ _ _ _ e2 h5
      have hq : q5 = s.length := by
        unfold pStop at h6
        split at h6
        · rename_i hh; exact hh
        · exact nomatch h6
      refine ⟨?_, b5, ⟨c5, by simp only; omega⟩, d5, e5, f5⟩
      have hs2 : s = s.take q5 := by rw [hq, List.take_length]
      rw [hs2, f4, e4, d4, c4, b4, a4]
      simp only [encBody, encBl, encHs, List.append_assoc, List.take_zero, List.nil_append]
  · exact nomatch h
theorem SpV : Sp pVaried encBl okBl := Sp_varied
theorem SpH : Sp pHds encHs okHs := Sp_hds
theorem body_back {x : Rec} (h : okRec x) : pBody (encBody x) 0 = .ok (x, (encBody x).length) := by
  obtain ⟨h1, ⟨h2, h3⟩, h4, h5, h6⟩ := h
  have hd : (encBody x).drop 0 = encBody x := rfl
  have hlen : (encBody x).length = 1 + ((vput (vfold x.fTime)).length + ((vput (vfold x.fOffset)).length + ((encBl x.fKey).length + ((encBl x.fValue).length + (encHs x.fHeaders).length)))) := by
    simp only [encBody, List.length_append, be_length]
  generalize hE : encBody x = E at hd hlen ⊢
  have hh : E.drop 0 = be 0 1 ++ (vput (vfold x.fTime) ++ (vput (vfold x.fOffset) ++ (encBl x.fKey ++ (encBl x.fValue ++ (encHs x.fHeaders ++ []))))) := by
    rw [hd, ← hE]
    simp only [encBody, List.append_nil]
  have g0 := (Sp_int 1 (by decide) (by decide)).back _ _ _ 0 (Nat.zero_le _) (by decide) hh
  have hh := drop_step hh
  rw [be_length] at hh g0
  have g1 := (Sp_vint 64 (.inr rfl)).back _ _ _ _ (by omega) h1 hh
  have hh := drop_step hh
  have g2 := (Sp_vint 32 (.inl rfl)).back _ _ _ _ (by omega) h2 hh
  have hh := drop_step hh
  have g3 := SpV.back _ _ _ _ (by omega) h4 hh
  have hh := drop_step hh
  have g4 := SpV.back _ _ _ _ (by omega) h5 hh
  have hh := drop_step hh
  have g5 := SpH.back _ _ _ _ (by omega) h6 hh
  rw [pBody, Pr.bind_of g0, if_pos rfl, Pr.bind_of g1, Pr.bind_of g2, if_neg (by omega), Pr.bind_of g3, Pr.bind_of g4, Pr.bind_of g5]
  have he : 0 + 1 + (vput (vfold x.fTime)).length + (vput (vfold x.fOffset)).length + (encBl x.fKey).length + (encBl x.fValue).length + (encHs x.fHeaders).length = E.length := by omega
  rw [he, Pr.bind_of (a := ()) (r := E.length) (by unfold pStop; rw [if_pos rfl])]
  rfl
def encRec (x : Rec) : List UInt8 := vput (vfold ((encBody x).length : Int)) ++ encBody x
theorem Sp_rec : Sp pRec encRec (fun x => okRec x ∧ vfold ((encBody x).length : Int) < 2 ^ (32 : Int).toNat) := by
  refine ⟨fun s q a r hq h => ?_, fun s t q a hq ha h => ?_⟩
  · unfold pRec at h
    cases hp : pName s q with
    | error e => rw [hp] at h; exact nomatch h
    | ok y =>
      obtain ⟨d, r'⟩ := y
      rw [hp] at h
      simp only at h
      obtain ⟨a1, a2, a3, a4, a5⟩ := Sp_name.spell _ _ _ _ hq hp
      cases hb : pBody d 0 with
      | error e => rw [hb] at h; exact nomatch h
      | ok z =>
        rw [hb] at h
        injection h with h
        obtain ⟨rfl, rfl⟩ := Prod.mk.inj h
        obtain ⟨b1, b2⟩ := body_spell (x := z.1) (r := z.2) hb
        unfold encRec
        rw [← b1]
        exact ⟨a1, a2, a3, a4, b2, a5.1⟩
  · have g1 := Sp_name.back s t q (encBody a) hq ⟨ha.2, rfl⟩ h
    unfold pRec
    rw [g1]
    simp only
    rw [body_back ha.1]
    rfl
end Go.Proofs.Ytagbblaegdedpaa.Sl
namespace Go.Proofs.Ytagbblaegdedpaa.Sl
open Go.RowKit
set_option linter.unusedVariables false
set_option linter.unusedSimpArgs false
def rwt (x : Rec) : Nat := x.fKey.data.length + x.fValue.data.length + hwts x.fHeaders
theorem encBl_len (b : Bl) (h : b.data.length ≤ 1000000) : (encBl b).length ≤ 10 + b.data.length := by
  have hb := blen_small b (by omega)
  have := vput_small32 (blen b) hb.1 hb.2
  rw [encBl, List.length_append]
  omega
theorem encHs_len (l : List Hd) (h : hwts l ≤ 1000000) : (encHs l).length ≤ 10 + hwts l := by
  have hn := hwts_len l
  have h1 := vput_small32 (l.length : Int) (by omega) (by omega)
  have h2 := encHds_len l h
  rw [encHs, List.length_append]
  omega
theorem encBody_len (x : Rec) (ht : wI x.fTime) (ho : wI x.fOffset) (hw : rwt x ≤ 900000) : (encBody x).length ≤ 51 + rwt x := by
  unfold rwt at hw ⊢
  have h1 := vput_ten _ (vfold_lt x.fTime ht.1 ht.2)
  have h2 := vput_ten _ (vfold_lt x.fOffset ho.1 ho.2)
  have h3 := encBl_len x.fKey (by omega)
  have h4 := encBl_len x.fValue (by omega)
  have h5 := encHs_len x.fHeaders (by omega)
  simp only [encBody, List.length_append, be_length]
  omega
theorem body_write (x : Rec) (ht : wI x.fTime) (ho : 0 ≤ x.fOffset ∧ x.fOffset ≤ 2147483647) (hk : bright x.fKey = true) (hv : bright x.fValue = true) (hh : ∀ h, h ∈ x.fHeaders → bright h.fValue = true) (hw : rwt x ≤ 900000) : f_record_body x = some (encBody x, 0) := by
  unfold rwt at hw
  have h1 := vput_ten _ (vfold_lt x.fTime ht.1 ht.2)
  have h2 := vput_ten _ (vfold_lt x.fOffset (by omega) (by omega))
  have h3 := encBl_len x.fKey (by omega)
  have h4 := encBl_len x.fValue (by omega)
  unfold encBl at h3 h4
  unfold f_record_body
  rw [gOByte_eq _ _ (by simp), Option.bind_some, show oput ([], 0) [UInt8.ofNat (0 : Int).toNat] = (be 0 1, 0) from by decide]
  have l1 : (be 0 1).length = 1 := be_length 0 1
  generalize hb0 : be 0 1 = b0 at l1
  rw [gPutLong_eq _ _ ⟨ht, by simp only; omega⟩, Option.bind_some, oput_z]
  have l2 : (b0 ++ vput (vfold x.fTime)).length ≤ 11 := by rw [List.length_append]; omega
  generalize hB1 : b0 ++ vput (vfold x.fTime) = B1 at l2
  rw [gPutInt_eq _ _ ⟨by omega, by simp only; omega⟩, Option.bind_some]
  unfold vputInt
  rw [if_pos (by omega), oput_z]
  have l3 : (B1 ++ vput (vfold x.fOffset)).length ≤ 21 := by rw [List.length_append]; omega
  generalize hB2 : B1 ++ vput (vfold x.fOffset) = B2 at l3
  rw [gPutVaried_z hk (by omega) (by omega), Option.bind_some]
  have l4 : (B2 ++ (vput (vfold (blen x.fKey)) ++ x.fKey.data)).length ≤ 31 + x.fKey.data.length := by rw [List.length_append]; omega
  generalize hB3 : B2 ++ (vput (vfold (blen x.fKey)) ++ x.fKey.data) = B3 at l4
  rw [gPutVaried_z hv (by omega) (by omega), Option.bind_some]
  have l5 : (B3 ++ (vput (vfold (blen x.fValue)) ++ x.fValue.data)).length ≤ 41 + x.fKey.data.length + x.fValue.data.length := by rw [List.length_append]; omega
  generalize hB4 : B3 ++ (vput (vfold (blen x.fValue)) ++ x.fValue.data) = B4 at l5
  rw [hwrite_z _ _ hh (by omega), Option.bind_some, gOText_eq, Option.bind_some, otx_z]
  rw [← hB4, ← hB3, ← hB2, ← hB1, ← hb0]
  simp only [encBody, encBl, encHs, List.append_assoc]
end Go.Proofs.Ytagbblaegdedpaa.Sl
namespace Go.Proofs.Ytagbblaegdedpaa.Sl
open Go.RowKit
set_option linter.unusedVariables false
set_option linter.unusedSimpArgs false
theorem b_at_drop {α : Type} {l : List α} {k : Nat} {x : α} {t : List α} (h : l.drop k = x :: t) : l[k]? = some x ∧ l.drop (k + 1) = t ∧ l.length = k + 1 + t.length := by
  have hl := congrArg List.length h
  rw [List.length_drop, List.length_cons] at hl
  refine ⟨?_, ?_, by omega⟩
  · have := congrArg (fun z => z[0]?) h
    simpa using this
  · rw [← List.drop_drop, h]
    rfl
theorem b_nil_drop {α : Type} {l : List α} {k : Nat} (h : l.drop k = []) : l.length ≤ k := List.drop_eq_nil_iff.1 h
def brAll (l : List Hd) : Bool := l.all fun h => bright h.fValue
def rightR (r : Rec) : Int := if r.fOffset < 0 ∨ r.fOffset > 2147483647 then 11 else if (bright r.fKey && bright r.fValue && brAll r.fHeaders) = true then 0 else 4
theorem rights_loop (y : Bool) : ∀ l : List Bl, f_record_rights_l1 l y = some (if l.all bright = true then .go y else .ret false)
  | [] => rfl
  | b :: l => by
    rw [f_record_rights_l1, gRight_eq, Option.bind_some, List.all_cons, rights_loop y l]
    cases bright b <;> rfl
theorem rights_eq (l : List Bl) : f_record_rights l = some (l.all bright) := by
  unfold f_record_rights
  rw [rights_loop]
  cases l.all bright <;> rfl
theorem rightH_loop (y : Int) : ∀ l : List Hd, f_record_Right_l1 l y = some (if brAll l = true then .go y else .ret 4)
  | [] => rfl
  | h :: l => by
    rw [f_record_Right_l1, rights_eq, Option.bind_some, rightH_loop y l]
    unfold brAll
    rw [List.all_cons, List.all_cons, List.all_nil, Bool.and_true]
    cases bright h.fValue <;> rfl
theorem record_right (r : Rec) (hw : wI r.fOffset) : f_record_Right r = some (rightR r) := by
  unfold f_record_Right rightR
  by_cases h : r.fOffset < 0
  · rw [if_pos h, if_pos (.inl h)]
  rw [if_neg h, gFits_eq _ _ hw, fits_4, Option.bind_some]
  by_cases h2 : r.fOffset > 2147483647
  · rw [if_neg (by simp; omega), if_pos (.inr h2)]
  rw [if_pos (by simp; omega), if_neg (by omega), rights_eq, Option.bind_some, rightH_loop]
  simp only [List.all_cons, List.all_nil, Bool.and_true]
  cases bright r.fKey <;> cases bright r.fValue <;> cases brAll r.fHeaders <;> rfl
theorem odd_eq (b : Bl) : f_r07_odd b = some (!bright b) := by
  unfold f_r07_odd bright
  obtain ⟨n, d⟩ := b
  cases n
  · rfl
  · cases d <;> simp
theorem r06_loop (a0 : List Hd) (hb : a0.length ≤ 1000000) (y : Bool) : ∀ (l : List Hd) (k fuel : Nat), a0.drop k = l → l.length < fuel → ∃ z, f_r06_Right_l1 a0 fuel y k = some (if brAll l = true then .go (y, z) else .ret false)
  | [], k, fuel + 1, h, hf => by
    have := b_nil_drop h
    exact ⟨k, by rw [f_r06_Right_l1, if_neg (by omega)]; rfl⟩
  | x :: l, k, fuel + 1, h, hf => by
    obtain ⟨h1, h2, h3⟩ := b_at_drop h
    rw [List.length_cons] at hf
    obtain ⟨z, hz⟩ := r06_loop a0 hb y l (k + 1) fuel h2 (by omega)
    rw [f_r06_Right_l1, if_pos (by omega), h1, Option.bind_some]
    have e : brAll (x :: l) = (bright x.fValue && brAll l) := rfl
    rw [e]
    by_cases hn : x.fValue.null = true
    · rw [if_pos hn]
      by_cases hd : x.fValue.data = []
      · rw [if_pos hd, if_pos (by omega), hz]
        have : bright x.fValue = true := by unfold bright; rw [hd]; simp
        rw [this, Bool.true_and]
        exact ⟨z, rfl⟩
      · rw [if_neg hd]
        have : bright x.fValue = false := by unfold bright; rw [hn]; simp [hd]
        rw [this]
        exact ⟨0, rfl⟩
    · rw [if_neg hn, if_pos (by omega), hz]
      have : bright x.fValue = true := by unfold bright; simp [hn]
      rw [this, Bool.true_and]
      exact ⟨z, rfl⟩
theorem r06_right (a0 : List Hd) (hb : a0.length ≤ 1000000) : f_r06_Right a0 = some (brAll a0) := by
  unfold f_r06_Right
  obtain ⟨z, hz⟩ := r06_loop a0 hb false a0 0 (((a0.length : Int)).toNat + 1) rfl (by omega)
  rw [hz]
  cases brAll a0 <;> rfl
theorem r07_right (r : Rec) (hb : r.fHeaders.length ≤ 1000000) : f_r07_Right r = some (rightR r) := by
  unfold f_r07_Right rightR
  by_cases h : r.fOffset < 0
  · rw [if_pos h, if_pos (.inl h)]
  rw [if_neg h]
  by_cases h2 : r.fOffset > 2147483647
  · rw [if_pos h2, if_pos (.inr h2)]
  rw [if_neg h2, if_neg (by omega), odd_eq, odd_eq, r06_right _ hb]
  cases bright r.fKey <;> cases bright r.fValue <;> cases brAll r.fHeaders <;> rfl
end Go.Proofs.Ytagbblaegdedpaa.Sl
namespace Go.Proofs.Ytagbblaegdedpaa.Sl
open Go.RowKit
set_option linter.unusedVariables false
set_option linter.unusedSimpArgs false
theorem right_zero {x : Rec} (h : rightR x = 0) : (0 ≤ x.fOffset ∧ x.fOffset ≤ 2147483647) ∧ bright x.fKey = true ∧ bright x.fValue = true ∧ ∀ h, h ∈ x.fHeaders → bright h.fValue = true := by
  unfold rightR at h
  split at h
  · exact absurd h (by decide)
  · rename_i h1
    split at h
    · rename_i h2
      simp only [Bool.and_eq_true] at h2
      exact ⟨by omega, h2.1.1, h2.1.2, fun y hy => List.all_eq_true.1 h2.2 y hy⟩
    · exact absurd h (by decide)
theorem rec_write (x : Rec) (t : List UInt8) (ht : wI x.fTime) (ho : wI x.fOffset) (hw : rwt x ≤ 900000) (hl : t.length ≤ 100000000) : f_record_Write (t, 0) x = some (if rightR x = 0 then (t ++ encRec x, 0) else (t, rightR x)) := by
  unfold f_record_Write
  rw [record_right x ho, Option.bind_some]
  by_cases hr : rightR x = 0
  · obtain ⟨h1, h2, h3, h4⟩ := right_zero hr
    have hb := encBody_len x ht ho hw
    rw [if_pos hr, if_pos hr, body_write x ht h1 h2 h3 h4 hw, Option.bind_some]
    simp only [if_true]
    rw [gPutName_z (by omega) (by omega), Option.bind_some]
    rfl
  · rw [if_neg hr, if_neg hr, gOFail_eq, Option.bind_some, ofail_z]
end Go.Proofs.Ytagbblaegdedpaa.Sl
namespace Go.Proofs.Ytagbblaegdedpaa.Sl
open Go.RowKit
set_option linter.unusedVariables false
set_option linter.unusedSimpArgs false
def sameH (a b : Hd) : Bool := decide (a.fKey = b.fKey) && decide (a.fValue.null = b.fValue.null) && decide (a.fValue.data = b.fValue.data)
def sameHs : List Hd → List Hd → Bool
  | [], [] => true
  | a :: l, b :: m => sameH a b && sameHs l m
  | _, _ => false
theorem sameHs_refl : ∀ l : List Hd, sameHs l l = true
  | [] => rfl
  | a :: l => by rw [sameHs, sameHs_refl l]; simp [sameH]
theorem sameHs_len : ∀ (l m : List Hd), sameHs l m = true → l.length = m.length
  | [], [], h => rfl
  | [], b :: m, h => nomatch h
  | a :: l, [], h => nomatch h
  | a :: l, b :: m, h => by
    rw [sameHs, Bool.and_eq_true] at h
    rw [List.length_cons, List.length_cons, sameHs_len l m h.2]
theorem r06s_loop (a b : List Hd) (ha : a.length ≤ 1000000) (y : Bool) : ∀ (t u : List Hd) (k fuel : Nat), a.drop k = t → b.drop k = u → t.length = u.length → t.length < fuel → ∃ z, f_r06_Same_l1 a b fuel y k = some (if sameHs t u = true then .go (y, z) else .ret false)
  | [], [], k, fuel + 1, ht, hu, hl, hf => by
    have := b_nil_drop ht
    exact ⟨k, by rw [f_r06_Same_l1, if_neg (by omega)]; rfl⟩
  | [], d :: u, k, fuel, ht, hu, hl, hf => by simp at hl
  | c :: t, [], k, fuel, ht, hu, hl, hf => by simp at hl
  | c :: t, d :: u, k, fuel + 1, ht, hu, hl, hf => by
    obtain ⟨t1, t2, t3⟩ := b_at_drop ht
    obtain ⟨u1, u2, u3⟩ := b_at_drop hu
    simp only [List.length_cons] at hl hf
    obtain ⟨z, hz⟩ := r06s_loop a b ha y t u (k + 1) fuel t2 u2 (by omega) (by omega)
    rw [f_r06_Same_l1, if_pos (by omega), t1, Option.bind_some, u1, Option.bind_some, sameHs, sameH]
    by_cases h1 : c.fKey = d.fKey
    · rw [if_pos h1, decide_eq_true h1]
      by_cases h2 : c.fValue.null = d.fValue.null
      · rw [if_pos h2, decide_eq_true h2]
        by_cases h3 : c.fValue.data = d.fValue.data
        · rw [if_pos h3, decide_eq_true h3, if_pos (by omega)]
          exact ⟨z, hz⟩
        · rw [if_neg h3, decide_eq_false h3]
          exact ⟨0, rfl⟩
      · rw [if_neg h2, decide_eq_false h2]
        exact ⟨0, rfl⟩
    · rw [if_neg h1, decide_eq_false h1]
      exact ⟨0, rfl⟩
theorem r06_same (a b : List Hd) (ha : a.length ≤ 1000000) : f_r06_Same a b = some (sameHs a b) := by
  unfold f_r06_Same
  by_cases hl : (a.length : Int) = (b.length : Int)
  · obtain ⟨z, hz⟩ := r06s_loop a b ha false a b 0 (((a.length : Int)).toNat + 1) rfl rfl (by omega) (by omega)
    rw [if_pos hl, hz]
    cases sameHs a b <;> rfl
  · rw [if_neg hl]
    have : sameHs a b = false := by
      cases h : sameHs a b with
      | false => rfl
      | true => exact absurd (congrArg Int.ofNat (sameHs_len a b h)) hl
    rw [this]
end Go.Proofs.Ytagbblaegdedpaa.Sl
namespace Go.Proofs.Ytagbblaegdedpaa.Sl
open Go.RowKit
set_option linter.unusedVariables false
set_option linter.unusedSimpArgs false
set_option maxRecDepth 100000
def ft_cursitorlaw07 : FTab := [(26, 0, 0), (26, 1, 1), (29, 2, 2), (29, 3, 4), (29, 4, 6), (32, 0, 0), (32, 1, 7), (32, 2, 8)]
theorem ft_cursitorlaw07_ok : (ft_cursitorlaw07).OK Try.prog := ⟨FOK.mk Try.runUnderlying26 rfl Try.sizeOf4 rfl, FOK.mk Try.runUnderlying26 rfl Try.sizeOf9 rfl, FOK.mk Try.runUnderlying29 rfl Try.sizeOf26 rfl, FOK.mk Try.runUnderlying29 rfl Try.sizeOf26 rfl, FOK.mk Try.runUnderlying29 rfl Try.sizeOf27 rfl, FOK.mk Try.runUnderlying32 rfl Try.sizeOf29 rfl, FOK.mk Try.runUnderlying32 rfl Try.sizeOf3 rfl, FOK.mk Try.runUnderlying32 rfl Try.sizeOf3 rfl, trivial⟩
theorem mix_cursitorlaw07 : Try.prog.follows .mixedOrders = true := by kernel_rfl
theorem bok_cursitorlaw07_26 : BOK Try.prog 26 #[.bool false, .string ⟨#[]⟩] [(0, 1), (1, 1)] := BOK.mk Try.zeroValue26 Try.runUnderlying26 (by intro w; simp)
theorem bok_cursitorlaw07_29 : BOK Try.prog 29 #[.int .i64 0, .int .i64 0, .bool false, .string ⟨#[]⟩, .bool false, .string ⟨#[]⟩, .slice none 0 0] [(0, 1), (1, 1), (2, 2), (4, 2), (6, 1)] := BOK.mk Try.zeroValue29 Try.runUnderlying29 (by intro w; simp)
def f_l07_speaks  : Option (Bool) := (f_record_Encode (⟨0, 0, (⟨true, []⟩ : Bl), (⟨true, []⟩ : Bl), []⟩ : Rec)).bind fun (x2, x3) => (f_record_Decode x2).bind fun (x5, x8) => if x2.length + [0].length ≤ 9223372036854775807 then ((f_record_Decode (x2 ++ [0])).bind fun (x12, x15) => if x3 = 0 then (if x2 = [12, 0, 0, 0, 1, 1, 0] then (if x8 = 0 then (if x5.fKey.null = true then (if x15 = 2 then some true else some false) else some false) else some false) else some false) else some false) else none
set_option maxRecDepth 100000 in
set_option maxHeartbeats 4000000 in
theorem f_l07_speaks_spec  (r : Bool) (h : f_l07_speaks  = some r) : SpecX Try.prog 15 #[] .triv (EmpR) (fun v A' N => v = .bool r ∧ A' = EmpR ∧ N = []) := by
  refine enterA Try.func15 rfl Try.ntmps15 rfl ?_
  intro F w hX
  unfold f_l07_speaks at h
  refine T.seq (T.region rfl ?_)
  refine TL.run ft_cursitorlaw07_ok [0] rfl rfl ?_
  refine TL.nil (X.seq (T.seq (T.region rfl ?_)))
  refine TL.q rfl .u (Ex.bld (cells := #[.bool true, .string ⟨#[]⟩]) bok_cursitorlaw07_26 rfl (by kernel_rfl)) rfl ?_
  refine TL.alloc rfl .u Try.zeroValue26 rfl (fun b1 => ?_)
  refine TL.st0 (cs' := #[.bool true, .string ⟨#[]⟩]) rfl .u rfl rfl Try.sizeOf26 rfl rfl rfl rfl ?_
  refine TL.nil (X.seq (T.seq (T.region rfl ?_)))
  refine TL.q rfl .u (Ex.bS (us := [.bool true, .string ⟨#[]⟩]) 0 rfl Try.isAgg26 Try.sizeOf26 rfl rfl rfl) rfl ?_
  refine TL.q rfl .u (Ex.bS (us := [.bool true, .string ⟨#[]⟩]) 0 rfl Try.isAgg26 Try.sizeOf26 rfl rfl rfl) rfl ?_
  refine TL.q rfl .u (Ex.bld (cells := #[.int .i64 0, .int .i64 0, .bool true, .string ⟨#[]⟩, .bool true, .string ⟨#[]⟩, .slice none 0 0]) bok_cursitorlaw07_29 rfl (by kernel_rfl)) rfl ?_
  obtain ⟨⟨x2, x3⟩, hx4, h⟩ := Option.bind_eq_some_iff.1 h
  try dsimp only at h
  refine TL.ce rfl .u (.fn Try.call23 rfl) (f_record_Encode_spec (⟨0, 0, (⟨true, []⟩ : Bl), (⟨true, []⟩ : Bl), []⟩ : Rec) _ _ _ hx4) (fun _ hs => slice_nil_reads) rfl ?_
  refine TL.run ft_cursitorlaw07_ok [4, 5, 6, 7, 8] rfl rfl ?_
  refine TL.nil (X.seq (T.seq (T.region rfl ?_)))
  obtain ⟨⟨x5, x8⟩, hx9, h⟩ := Option.bind_eq_some_iff.1 h
  try dsimp only at h
  refine TL.run ft_cursitorlaw07_ok [0] rfl rfl ?_
  refine TL.cge rfl .u (.fn Try.call22 rfl) (f_record_Decode_spec x2 _ hx9) (fun _ hs => (RX.reads_triv _ _)) rfl ?_
  rintro _ _ _ ⟨A6, c7, rfl, rfl, rfl⟩
  refine TL.sel [0, 0, 0] rfl ?_
  refine TL.run ft_cursitorlaw07_ok [2, 3, 4] rfl rfl ?_
  refine TL.alloc rfl .u Try.zeroValue29 rfl (fun b10 => ?_)
  refine TL.st0 (cs' := #[.int .i64 x5.fTime, .int .i64 x5.fOffset, .bool x5.fKey.null, .string (bsOf x5.fKey.data), .bool x5.fValue.null, .string (bsOf x5.fValue.data), .slice A6 x5.fHeaders.length c7]) rfl .u rfl rfl Try.sizeOf29 rfl rfl rfl rfl ?_
  refine TL.run ft_cursitorlaw07_ok [7] rfl rfl ?_
  refine TL.nil (X.seq (T.seq (T.region rfl ?_)))
  replace h := guard_some h
  obtain ⟨c11, h⟩ := h
  refine TL.run ft_cursitorlaw07_ok [0] rfl rfl ?_
  refine TL.q rfl .u (Ex.sAdd rfl (m := [0]) rfl c11) rfl ?_
  obtain ⟨⟨x12, x15⟩, hx16, h⟩ := Option.bind_eq_some_iff.1 h
  try dsimp only at h
  refine TL.cge rfl .u (.fn Try.call22 rfl) (f_record_Decode_spec (x2 ++ [0]) _ hx16) (fun _ hs => (RX.reads_triv _ _)) rfl ?_
  rintro _ _ _ ⟨A13, c14, rfl, rfl, rfl⟩
  refine TL.sel [0, 0, 0, 0, 0] rfl ?_
  refine TL.run ft_cursitorlaw07_ok [3, 4, 5] rfl rfl ?_
  refine TL.alloc rfl .u Try.zeroValue29 rfl (fun b17 => ?_)
  refine TL.st0 (cs' := #[.int .i64 x12.fTime, .int .i64 x12.fOffset, .bool x12.fKey.null, .string (bsOf x12.fKey.data), .bool x12.fValue.null, .string (bsOf x12.fValue.data), .slice A13 x12.fHeaders.length c14]) rfl .u rfl rfl Try.sizeOf29 rfl rfl rfl rfl ?_
  refine TL.run ft_cursitorlaw07_ok [8] rfl rfl ?_
  refine TL.nil (X.seq (T.seq (T.region rfl ?_)))
  by_cases c18 : x3 = 0
  · replace h := ifT c18 h
    refine TL.run ft_cursitorlaw07_ok [0, 1, 2] rfl rfl ?_
    refine TL.q rfl (.g rfl rfl (decide_eq_true c18)) (Ex.ft ft_cursitorlaw07_ok rfl) rfl ?_
    refine TL.q rfl (.g rfl rfl (decide_eq_true c18)) (Ex.sEq rfl (m := [12, 0, 0, 0, 1, 1, 0]) rfl) rfl ?_
    refine TL.q rfl .u (Ex.py rfl (decide_eq_true c18) rfl) rfl ?_
    by_cases c19 : x2 = [12, 0, 0, 0, 1, 1, 0]
    · replace h := ifT c19 h
      refine TL.run ft_cursitorlaw07_ok [6] rfl rfl ?_
      refine TL.q rfl (.g rfl rfl (decide_eq_true c19)) (Ex.ft ft_cursitorlaw07_ok rfl) rfl ?_
      refine TL.q rfl (.g rfl rfl (decide_eq_true c19)) (Ex.ft ft_cursitorlaw07_ok rfl) rfl ?_
      refine TL.q rfl .u (Ex.py rfl (decide_eq_true c19) rfl) rfl ?_
      by_cases c20 : x8 = 0
      · replace h := ifT c20 h
        refine TL.run ft_cursitorlaw07_ok [10] rfl rfl ?_
        refine TL.q rfl (.g rfl rfl (decide_eq_true c20)) (Ex.ft ft_cursitorlaw07_ok rfl) rfl ?_
        refine TL.q rfl (.g rfl rfl (decide_eq_true c20)) (Ex.ft ft_cursitorlaw07_ok rfl) rfl ?_
        refine TL.q rfl (.g rfl rfl (decide_eq_true c20)) (Ex.b1 2 rfl Try.isAgg4 rfl rfl) rfl ?_
        refine TL.q rfl .u (Ex.py rfl (decide_eq_true c20) rfl) rfl ?_
        by_cases c21 : x5.fKey.null = true
        · replace h := ifT c21 h
          refine TL.run ft_cursitorlaw07_ok [15] rfl rfl ?_
          refine TL.q rfl (.g rfl rfl c21) (Ex.ft ft_cursitorlaw07_ok rfl) rfl ?_
          refine TL.q rfl (.g rfl rfl c21) (Ex.ft ft_cursitorlaw07_ok rfl) rfl ?_
          refine TL.q rfl .u (Ex.py rfl c21 rfl) rfl ?_
          refine TL.run ft_cursitorlaw07_ok [19] rfl rfl ?_
          by_cases c22 : x15 = 2
          · replace h := ifT c22 h
            obtain rfl := Option.some.inj h
            exact TL.nil (X.seq (T.ret (X.done1 [5] Try.results15 (RV.tm (v := .bool true) (congrArg (fun b => some (Value.bool b)) (decide_eq_true c22))) ⟨rfl, rfl, rfl⟩ (by rfl) (.inl rfl))))
          · replace h := ifF c22 h
            obtain rfl := Option.some.inj h
            exact TL.nil (X.seq (T.ret (X.done1 [5] Try.results15 (RV.tm (v := .bool false) (congrArg (fun b => some (Value.bool b)) (decide_eq_false c22))) ⟨rfl, rfl, rfl⟩ (by rfl) (.inl rfl))))
        · replace h := ifF c21 h
          replace c21 := eq_false_of_ne_true c21
          refine TL.run ft_cursitorlaw07_ok [15] rfl rfl ?_
          refine TL.no rfl (.gn rfl rfl c21) rfl ?_
          refine TL.no rfl (.gn rfl rfl c21) rfl ?_
          refine TL.q rfl .u (Ex.pn rfl c21 rfl) rfl ?_
          refine TL.run ft_cursitorlaw07_ok [19] rfl rfl ?_
          obtain rfl := Option.some.inj h
          exact TL.nil (X.seq (T.ret (X.done1 [5] Try.results15 (RV.tm rfl) ⟨rfl, rfl, rfl⟩ (by rfl) (.inl rfl))))
      · replace h := ifF c20 h
        refine TL.run ft_cursitorlaw07_ok [10] rfl rfl ?_
        refine TL.no rfl (.gn rfl rfl (decide_eq_false c20)) rfl ?_
        refine TL.no rfl (.gn rfl rfl (decide_eq_false c20)) rfl ?_
        refine TL.no rfl (.gn rfl rfl (decide_eq_false c20)) rfl ?_
        refine TL.q rfl .u (Ex.pn rfl (decide_eq_false c20) rfl) rfl ?_
        refine TL.run ft_cursitorlaw07_ok [15] rfl rfl ?_
        refine TL.no rfl (.gn rfl rfl rfl) rfl ?_
        refine TL.no rfl (.gn rfl rfl rfl) rfl ?_
        refine TL.q rfl .u (Ex.pn rfl rfl rfl) rfl ?_
        refine TL.run ft_cursitorlaw07_ok [19] rfl rfl ?_
        obtain rfl := Option.some.inj h
        exact TL.nil (X.seq (T.ret (X.done1 [5] Try.results15 (RV.tm rfl) ⟨rfl, rfl, rfl⟩ (by rfl) (.inl rfl))))
    · replace h := ifF c19 h
      refine TL.run ft_cursitorlaw07_ok [6] rfl rfl ?_
      refine TL.no rfl (.gn rfl rfl (decide_eq_false c19)) rfl ?_
      refine TL.no rfl (.gn rfl rfl (decide_eq_false c19)) rfl ?_
      refine TL.q rfl .u (Ex.pn rfl (decide_eq_false c19) rfl) rfl ?_
      refine TL.run ft_cursitorlaw07_ok [10] rfl rfl ?_
      refine TL.no rfl (.gn rfl rfl rfl) rfl ?_
      refine TL.no rfl (.gn rfl rfl rfl) rfl ?_
      refine TL.no rfl (.gn rfl rfl rfl) rfl ?_
      refine TL.q rfl .u (Ex.pn rfl rfl rfl) rfl ?_
      refine TL.run ft_cursitorlaw07_ok [15] rfl rfl ?_
      refine TL.no rfl (.gn rfl rfl rfl) rfl ?_
      refine TL.no rfl (.gn rfl rfl rfl) rfl ?_
      refine TL.q rfl .u (Ex.pn rfl rfl rfl) rfl ?_
      refine TL.run ft_cursitorlaw07_ok [19] rfl rfl ?_
      obtain rfl := Option.some.inj h
      exact TL.nil (X.seq (T.ret (X.done1 [5] Try.results15 (RV.tm rfl) ⟨rfl, rfl, rfl⟩ (by rfl) (.inl rfl))))
  · replace h := ifF c18 h
    refine TL.run ft_cursitorlaw07_ok [0, 1, 2] rfl rfl ?_
    refine TL.no rfl (.gn rfl rfl (decide_eq_false c18)) rfl ?_
    refine TL.no rfl (.gn rfl rfl (decide_eq_false c18)) rfl ?_
    refine TL.q rfl .u (Ex.pn rfl (decide_eq_false c18) rfl) rfl ?_
    refine TL.run ft_cursitorlaw07_ok [6] rfl rfl ?_
    refine TL.no rfl (.gn rfl rfl rfl) rfl ?_
    refine TL.no rfl (.gn rfl rfl rfl) rfl ?_
    refine TL.q rfl .u (Ex.pn rfl rfl rfl) rfl ?_
    refine TL.run ft_cursitorlaw07_ok [10] rfl rfl ?_
    refine TL.no rfl (.gn rfl rfl rfl) rfl ?_
    refine TL.no rfl (.gn rfl rfl rfl) rfl ?_
    refine TL.no rfl (.gn rfl rfl rfl) rfl ?_
    refine TL.q rfl .u (Ex.pn rfl rfl rfl) rfl ?_
    refine TL.run ft_cursitorlaw07_ok [15] rfl rfl ?_
    refine TL.no rfl (.gn rfl rfl rfl) rfl ?_
    refine TL.no rfl (.gn rfl rfl rfl) rfl ?_
    refine TL.q rfl .u (Ex.pn rfl rfl rfl) rfl ?_
    refine TL.run ft_cursitorlaw07_ok [19] rfl rfl ?_
    obtain rfl := Option.some.inj h
    exact TL.nil (X.seq (T.ret (X.done1 [5] Try.results15 (RV.tm rfl) ⟨rfl, rfl, rfl⟩ (by rfl) (.inl rfl))))
def f_l07_Small (a0 : Rec) : Option (Int) := if (a0.fKey.data.length : Int) > 500 then some 0 else (if (a0.fValue.data.length : Int) > 500 then some 0 else ((f_l06_Small a0.fHeaders).bind fun x6 => some x6))
set_option maxRecDepth 100000 in
set_option maxHeartbeats 4000000 in
theorem f_l07_Small_spec (a0 : Rec) (A1 : Option Addr) (c2 : Nat) (r : Int) (h : f_l07_Small a0 = some r) : SpecX Try.prog 24 #[.agg #[.int .i64 a0.fTime, .int .i64 a0.fOffset, .bool a0.fKey.null, .string (bsOf a0.fKey.data), .bool a0.fValue.null, .string (bsOf a0.fValue.data), .slice A1 a0.fHeaders.length c2]] (RX.of (sliceRd 3 Hd_rd) [.slice A1 a0.fHeaders.length c2] a0.fHeaders) (EmpR) (fun v A' N => v = .int .i64 r ∧ A' = EmpR ∧ N = []) := by
  refine enterA Try.func24 rfl Try.ntmps24 rfl ?_
  intro F w hX
  unfold f_l07_Small at h
  refine T.seq (T.region rfl ?_)
  refine TL.box rfl .u rfl rfl (fun b3 => ?_)
  refine TL.run ft_cursitorlaw07_ok [1] rfl rfl ?_
  refine TL.nil (X.seq (T.seq (T.seq (T.region rfl ?_))))
  refine TL.run ft_cursitorlaw07_ok [0, 1] rfl rfl ?_
  refine TL.q rfl .u (Ex.b1 0 rfl Try.isAgg9 rfl rfl) rfl ?_
  refine TL.q rfl .u (Ex.lenB rfl Try.runUnderlying9) rfl ?_
  by_cases c4 : (a0.fKey.data.length : Int) > 500
  · replace h := ifT c4 h
    refine TL.run ft_cursitorlaw07_ok [4, 5] rfl rfl ?_
    refine TL.no rfl (.gn rfl rfl (decide_eq_true c4)) rfl ?_
    refine TL.no rfl (.gn rfl rfl (decide_eq_true c4)) rfl ?_
    refine TL.no rfl (.gn rfl rfl (decide_eq_true c4)) rfl ?_
    refine TL.no rfl (.gn rfl rfl (decide_eq_true c4)) rfl ?_
    refine TL.no rfl (.gn rfl rfl (decide_eq_true c4)) rfl ?_
    refine TL.q rfl .u (Ex.py rfl (decide_eq_true c4) rfl) rfl ?_
    refine TL.nil (X.seq ?_)
    refine T.yes rfl rfl ?_
    refine T.seq (T.region rfl ?_)
    refine TL.run ft_cursitorlaw07_ok [0] rfl rfl ?_
    obtain rfl := Option.some.inj h
    exact TL.nil (X.seq (T.ret (X.rs (X.done1 [1] Try.results24 (RV.tm rfl) ⟨rfl, rfl, rfl⟩ (by rfl) (.inl rfl)))))
  · replace h := ifF c4 h
    refine TL.run ft_cursitorlaw07_ok [4, 5] rfl rfl ?_
    refine TL.q rfl (.g rfl rfl (decide_eq_false c4)) (Ex.ft ft_cursitorlaw07_ok rfl) rfl ?_
    refine TL.q rfl (.g rfl rfl (decide_eq_false c4)) (Ex.ft ft_cursitorlaw07_ok rfl) rfl ?_
    refine TL.q rfl (.g rfl rfl (decide_eq_false c4)) (Ex.b1 0 rfl Try.isAgg9 rfl rfl) rfl ?_
    refine TL.q rfl (.g rfl rfl (decide_eq_false c4)) (Ex.lenB rfl Try.runUnderlying9) rfl ?_
    refine TL.q rfl (.g rfl rfl (decide_eq_false c4)) (Ex.ft ft_cursitorlaw07_ok rfl) rfl ?_
    refine TL.q rfl .u (Ex.pn rfl (decide_eq_false c4) rfl) rfl ?_
    by_cases c5 : (a0.fValue.data.length : Int) > 500
    · replace h := ifT c5 h
      refine TL.nil (X.seq ?_)
      refine T.yes rfl (decide_eq_true c5) ?_
      refine T.seq (T.region rfl ?_)
      refine TL.run ft_cursitorlaw07_ok [0] rfl rfl ?_
      obtain rfl := Option.some.inj h
      exact TL.nil (X.seq (T.ret (X.rs (X.done1 [1] Try.results24 (RV.tm rfl) ⟨rfl, rfl, rfl⟩ (by rfl) (.inl rfl)))))
    · replace h := ifF c5 h
      refine TL.nil (X.seq ?_)
      refine T.no rfl (decide_eq_false c5) ?_
      refine T.skip (X.seq (T.seq (T.region rfl ?_)))
      refine TL.run ft_cursitorlaw07_ok [0] rfl rfl ?_
      refine TL.q rfl .u (Ex.b1 0 rfl Try.isAgg27 rfl rfl) rfl ?_
      obtain ⟨x6, hx7, h⟩ := Option.bind_eq_some_iff.1 h
      refine TL.ce rfl .u (.fn Try.call93 rfl) (f_l06_Small_spec a0.fHeaders _ _ _ hx7) (fun _ hs => (SrcE.old hs hX)) rfl ?_
      refine TL.run ft_cursitorlaw07_ok [3] rfl rfl ?_
      obtain rfl := Option.some.inj h
      exact TL.nil (X.seq (T.ret (X.done1 [1] Try.results24 (RV.tm rfl) ⟨rfl, rfl, rfl⟩ (by rfl) (.inl rfl))))
def f_l07_RecordRows_l1 : List Rec → Bool → (List UInt8 × Int) → Option (Lp Bool (Bool × (List UInt8 × Int)))
  | [], y8, st10 => some (Lp.go (y8, st10))
  | x15 :: xs, y8, st10 => (f_l07_Small x15).bind fun x23 => if x23 = 0 then some (Lp.ret true) else ((f_r07_Right x15).bind fun x26 => if x26 = 0 then ((f_record_Write st10 x15).bind fun st29 => f_l07_RecordRows_l1 xs y8 st29) else some (Lp.ret true))
def f_l07_RecordRows_l2 (a0 : List Rec) : List Rec → Bool → I → Option (Lp Bool (Bool × I))
  | [], y98, st100 => some (Lp.go (y98, st100))
  | x105 :: xs, y98, st100 => (f_record_Read st100).bind fun (x113, st116) => (f_r07_Same x113 x105).bind fun x119 => if x119 = true then ((a0[0]?).bind fun x122 => (f_record_Same x113 x122).bind fun x128 => (f_r07_Same x105 x122).bind fun x130 => if x128 = true then (if x130 = true then (f_l07_RecordRows_l2 a0 xs y98 st116) else none) else (if x130 = true then none else (f_l07_RecordRows_l2 a0 xs y98 st116))) else none
def f_l07_RecordRows (a0 : List Rec) : Option (Bool) := (f_l07_speaks).bind fun x3 => if x3 = true then (if (a0.length : Int) > 20 then some true else ((f_l07_RecordRows_l1 a0 false ([], 0)).bind fun e => match e with | .ret r => some r | .go (y31, st33) => ((gOText st33).bind fun (x34, x35, st36) => (gNew x34).bind fun st38 => (f_l07_RecordRows_l2 a0 a0 y31 st38).bind fun e => match e with | .ret r => some r | .go (y78, st80) => (if x35 = 0 then ((gClose st80).bind fun (x82, st83) => if x82 = 0 then some true else none) else none)))) else none
set_option maxRecDepth 100000 in
set_option maxHeartbeats 4000000 in
theorem f_l07_RecordRows_spec (a0 : List Rec) (A1 : Option Addr) (c2 : Nat) (r : Bool) (h : f_l07_RecordRows a0 = some r) : SpecX Try.prog 5 #[.slice A1 a0.length c2] (RX.of (sliceRd 7 Rec_rd) [.slice A1 a0.length c2] a0) (EmpR) (fun v A' N => v = .bool r ∧ A' = EmpR ∧ N = []) := by
  refine enterA Try.func5 rfl Try.ntmps5 rfl ?_
  intro F w hX
  unfold f_l07_RecordRows at h
  refine T.seq (T.region rfl ?_)
  refine TL.run ft_cursitorlaw07_ok [0] rfl rfl ?_
  obtain ⟨x3, hx4, h⟩ := Option.bind_eq_some_iff.1 h
  refine TL.nil (X.seq (T.seq (T.seq (T.region rfl ?_))))
  refine TL.ce rfl .u (.fn Try.call15 rfl) (f_l07_speaks_spec _ hx4) (fun _ hs => (RX.reads_triv _ _)) rfl ?_
  refine TL.run ft_cursitorlaw07_ok [1] rfl rfl ?_
  by_cases c5 : x3 = true
  · replace h := ifT c5 h
    refine TL.nil (X.seq ?_)
    refine T.no rfl (bn_f c5) ?_
    refine T.skip (X.seq (T.seq (T.seq (T.region rfl ?_))))
    refine TL.run ft_cursitorlaw07_ok [0] rfl rfl ?_
    refine TL.q rfl .u (Ex.lenS rfl Try.runUnderlying47) rfl ?_
    refine TL.run ft_cursitorlaw07_ok [2] rfl rfl ?_
    by_cases c6 : (a0.length : Int) > 20
    · replace h := ifT c6 h
      refine TL.nil (X.seq ?_)
      refine T.yes rfl (decide_eq_true c6) ?_
      refine T.seq (T.region rfl ?_)
      refine TL.run ft_cursitorlaw07_ok [0] rfl rfl ?_
      obtain rfl := Option.some.inj h
      exact TL.nil (X.seq (T.ret (X.rs (X.done1 [0] Try.results5 (RV.tm rfl) ⟨rfl, rfl, rfl⟩ (by rfl) (.inl rfl)))))
    · replace h := ifF c6 h
      refine TL.nil (X.seq ?_)
      refine T.no rfl (decide_eq_false c6) ?_
      refine T.skip (X.seq (T.seq (T.region rfl ?_)))
      refine TL.newout rfl .u Try.zeroValue50 rfl (fun b7 => ?_)
      refine TL.nil (X.seq (T.seq (T.seq (T.region rfl ?_))))
      refine TL.run ft_cursitorlaw07_ok [0] rfl rfl ?_
      refine TL.q rfl .u (Ex.lenS rfl Try.runUnderlying47) rfl ?_
      refine TL.run ft_cursitorlaw07_ok [2] rfl rfl ?_
      refine TL.nil (X.seq (T.block ?_))
      obtain ⟨E11, hE12, hO13⟩ := Option.bind_eq_some_iff.1 h
      have hk17len := RX.len_le hX
      refine T.lp (fun m e Rs => ∃ (y8 : Bool) (k9 : Nat) (st10 : List UInt8 × Int), k9 + m = a0.length ∧ e = [(0, .slice A1 a0.length c2), (2, .bool y8), (3, .pointer (some ⟨b7, 0, none⟩)), (17, .slice A1 a0.length c2), (18, .int .i64 (a0.length : Int)), (19, .int .i64 (k9 : Int))] ∧ Rs = [OutR b7 st10, EmpR] ∧ f_l07_RecordRows_l1 (a0.drop k9) y8 st10 = some E11) (a0.length) [0, 0] ⟨false, 0, ([], 0), by simp, rfl, rfl, by rw [List.drop_zero]; exact hE12⟩ (by rfl) (by rfl) ?_
      rintro m14 _ _ ⟨y8, k9, st10, hk17, rfl, rfl, hl16⟩
      clear hE12 h
      cases m14 with
      | zero =>
        have h := hl16
        clear hl16
        rw [List.drop_of_length_le (by omega), f_l07_RecordRows_l1] at h
        have hk17ge : ¬ ((k9 : Int) < (a0.length : Int)) := by omega
        refine T.seq (T.region rfl ?_)
        refine TL.run ft_cursitorlaw07_ok [0] rfl rfl ?_
        refine TL.nil (X.seq (T.seq ?_))
        refine T.no rfl (decide_eq_false hk17ge) ?_
        obtain rfl := Option.some.inj h
        replace h := hO13
        clear hO13
        try dsimp only at h
        obtain ⟨⟨x91, x92, st93⟩, hx94, h⟩ := Option.bind_eq_some_iff.1 h
        try dsimp only at h
        refine T.exit (X.exs (X.exs (X.ex (X.seq (T.seq (T.region rfl ?_))))))
        refine TL.c0 rfl .u (.fn Try.call30 rfl) (gOText_spec b7 st10 _ hx94) (fun _ hs => (Src.triv _)) rfl ?_
        refine TL.run ft_cursitorlaw07_ok [1, 2, 3, 4, 5] rfl rfl ?_
        refine TL.nil (X.seq (T.seq (T.region rfl ?_)))
        obtain ⟨st95, hx96, h⟩ := Option.bind_eq_some_iff.1 h
        refine TL.run ft_cursitorlaw07_ok [0] rfl rfl ?_
        refine TL.cge rfl .u (.fn Try.call16 rfl) (gNew_spec x91 _ hx96) (fun _ hs => (RX.reads_triv _ _)) rfl ?_
        rintro _ _ _ ⟨b97, rfl, rfl, rfl⟩
        refine TL.sel [0, 0, 0] rfl ?_
        refine TL.run ft_cursitorlaw07_ok [2] rfl rfl ?_
        refine TL.nil (X.seq (T.seq (T.seq (T.region rfl ?_))))
        refine TL.run ft_cursitorlaw07_ok [0] rfl rfl ?_
        refine TL.q rfl .u (Ex.lenS rfl Try.runUnderlying47) rfl ?_
        refine TL.run ft_cursitorlaw07_ok [2] rfl rfl ?_
        refine TL.nil (X.seq (T.block ?_))
        obtain ⟨E101, hE102, hO103⟩ := Option.bind_eq_some_iff.1 h
        have hk107len := RX.len_le hX
        refine T.lp (fun m e Rs => ∃ (y98 : Bool) (k99 : Nat) (st100 : I), k99 + m = a0.length ∧ e = [(0, .slice A1 a0.length c2), (2, .bool y98), (7, .int .i64 x92), (8, .pointer (some ⟨b97, 0, none⟩)), (40, .slice A1 a0.length c2), (41, .int .i64 (a0.length : Int)), (42, .int .i64 (k99 : Int))] ∧ Rs = [InR b97 st100, OutR b7 st93, EmpR] ∧ f_l07_RecordRows_l2 a0 (a0.drop k99) y98 st100 = some E101) (a0.length) [0, 0, 0] ⟨y8, 0, st95, by simp, rfl, rfl, by rw [List.drop_zero]; exact hE102⟩ (by rfl) (by rfl) ?_
        rintro m104 _ _ ⟨y98, k99, st100, hk107, rfl, rfl, hl106⟩
        clear hE102 h
        cases m104 with
        | zero =>
          have h := hl106
          clear hl106
          rw [List.drop_of_length_le (by omega), f_l07_RecordRows_l2] at h
          have hk107ge : ¬ ((k99 : Int) < (a0.length : Int)) := by omega
          refine T.seq (T.region rfl ?_)
          refine TL.run ft_cursitorlaw07_ok [0] rfl rfl ?_
          refine TL.nil (X.seq (T.seq ?_))
          refine T.no rfl (decide_eq_false hk107ge) ?_
          obtain rfl := Option.some.inj h
          replace h := hO103
          clear hO103
          try dsimp only at h
          refine T.exit (X.exs (X.exs (X.ex (X.seq (T.seq (T.region rfl ?_))))))
          by_cases c143 : x92 = 0
          · replace h := ifT c143 h
            refine TL.run ft_cursitorlaw07_ok [0, 1, 2] rfl rfl ?_
            refine TL.q rfl (.g rfl rfl (decide_eq_true c143)) (Ex.ft ft_cursitorlaw07_ok rfl) rfl ?_
            obtain ⟨⟨x144, st145⟩, hx146, h⟩ := Option.bind_eq_some_iff.1 h
            try dsimp only at h
            refine TL.c0 rfl (.g rfl rfl (decide_eq_true c143)) (.fn Try.call31 rfl) (gClose_spec b97 st100 _ hx146) (fun _ hs => (Src.triv _)) rfl ?_
            refine TL.q rfl (.g rfl rfl (decide_eq_true c143)) (Ex.ft ft_cursitorlaw07_ok rfl) rfl ?_
            refine TL.q rfl .u (Ex.py rfl (decide_eq_true c143) rfl) rfl ?_
            refine TL.run ft_cursitorlaw07_ok [7] rfl rfl ?_
            by_cases c147 : x144 = 0
            · replace h := ifT c147 h
              obtain rfl := Option.some.inj h
              exact TL.nil (X.seq (T.ret (X.done1 [2] Try.results5 (RV.tm (v := .bool true) (congrArg (fun b => some (Value.bool b)) (decide_eq_true c147))) ⟨rfl, rfl, rfl⟩ (by rfl) (.inl rfl))))
            · replace h := ifF c147 h
              exact nomatch h
          · replace h := ifF c143 h
            refine TL.run ft_cursitorlaw07_ok [0, 1, 2] rfl rfl ?_
            refine TL.no rfl (.gn rfl rfl (decide_eq_false c143)) rfl ?_
            refine TL.no rfl (.gn rfl rfl (decide_eq_false c143)) rfl ?_
            refine TL.no rfl (.gn rfl rfl (decide_eq_false c143)) rfl ?_
            exact nomatch h
        | succ m104 =>
          have h := hl106
          clear hl106
          obtain ⟨x105, hxx105⟩ : ∃ x, a0[k99]? = some x := ⟨_, List.getElem?_eq_getElem (by omega)⟩
          rw [drop_cons hxx105, f_l07_RecordRows_l2] at h
          have hk107lt : (k99 : Int) < (a0.length : Int) := by omega
          refine T.seq (T.region rfl ?_)
          refine TL.run ft_cursitorlaw07_ok [0] rfl rfl ?_
          refine TL.nil (X.seq (T.seq ?_))
          refine T.yes rfl (decide_eq_true hk107lt) ?_
          refine T.skip (X.seq (T.seq (T.block (T.seq (T.region rfl ?_)))))
          obtain ⟨gz108, oz108, rfl, z108cs, z108cl, z108cc, z108nf, z108r⟩ := RX.elem (by decide) hX hxx105
          obtain ⟨z108S, z108r, z108rr⟩ := z108r
          obtain ⟨A109, c110, rfl, z108s0⟩ := z108r
          have hX111 : (RX.of (sliceRd 3 Hd_rd) [.slice A109 x105.fHeaders.length c110] x105.fHeaders).reads w F := ⟨z108S, z108s0, z108rr⟩
          refine TL.run ft_cursitorlaw07_ok [0] rfl rfl ?_
          refine TL.q rfl .u (Ex.ixS (k := k99) rfl rfl rfl Try.runUnderlying47 Try.sizeOf29 (List.getElem?_eq_some_iff.1 hxx105).1) rfl ?_
          refine TL.q rfl .u (Ex.oS (us := [.int .i64 x105.fTime, .int .i64 x105.fOffset, .bool x105.fKey.null, .string (bsOf x105.fKey.data), .bool x105.fValue.null, .string (bsOf x105.fValue.data), .slice A109 x105.fHeaders.length c110]) 0 rfl Try.isAgg29 Try.sizeOf29 z108nf z108cc rfl rfl rfl) rfl ?_
          refine TL.alloc rfl .u Try.zeroValue29 rfl (fun b112 => ?_)
          refine TL.run ft_cursitorlaw07_ok [4] rfl rfl ?_
          refine TL.st0 (cs' := #[.int .i64 x105.fTime, .int .i64 x105.fOffset, .bool x105.fKey.null, .string (bsOf x105.fKey.data), .bool x105.fValue.null, .string (bsOf x105.fValue.data), .slice A109 x105.fHeaders.length c110]) rfl .u rfl rfl Try.sizeOf29 rfl rfl rfl rfl ?_
          refine TL.nil (X.seq (T.seq (T.region rfl ?_)))
          obtain ⟨⟨x113, st116⟩, hx117, h⟩ := Option.bind_eq_some_iff.1 h
          try dsimp only at h
          refine TL.run ft_cursitorlaw07_ok [0] rfl rfl ?_
          refine TL.cg1 rfl .u (.fn Try.call17 rfl) (f_record_Read_spec b97 st100 _ hx117) (fun _ hs => (Src.triv _)) rfl ?_
          rintro _ _ _ ⟨A114, c115, rfl, rfl, rfl⟩
          refine TL.sel [0, 0, 0, 0, 0] rfl ?_
          refine TL.alloc rfl .u Try.zeroValue29 rfl (fun b118 => ?_)
          refine TL.st0 (cs' := #[.int .i64 x113.fTime, .int .i64 x113.fOffset, .bool x113.fKey.null, .string (bsOf x113.fKey.data), .bool x113.fValue.null, .string (bsOf x113.fValue.data), .slice A114 x113.fHeaders.length c115]) rfl .u rfl rfl Try.sizeOf29 rfl rfl rfl rfl ?_
          refine TL.nil (X.seq (T.seq (T.draw (.q 0 (.q 1 (.e 2 (.q 3 (.q 4 (.q 5 (.q 6 (.q 7 (.q 8 (.q 10 (.q 11 (.q 12 (.q 13 (.q 14 (.q 15 (.q 16 (.e 9 (.e 17 (.q 18 (.q 19 .nil)))))))))))))))))))) [0, 0, 0, 0, 0, 0] rfl mix_cursitorlaw07 (NoP.seq (NoP.blk (NoP.seq (NoP.seq (NoP.blk (NoP.seq np_post)))))) (by kernel_rfl) ?_)))
          refine TD.q rfl .u (Ex.bS (us := [.int .i64 x113.fTime, .int .i64 x113.fOffset, .bool x113.fKey.null, .string (bsOf x113.fKey.data), .bool x113.fValue.null, .string (bsOf x113.fValue.data), .slice A114 x113.fHeaders.length c115]) 0 rfl Try.isAgg29 Try.sizeOf29 rfl rfl rfl) rfl ?_
          refine TD.q rfl .u (Ex.bS (us := [.int .i64 x105.fTime, .int .i64 x105.fOffset, .bool x105.fKey.null, .string (bsOf x105.fKey.data), .bool x105.fValue.null, .string (bsOf x105.fValue.data), .slice A109 x105.fHeaders.length c110]) 2 rfl Try.isAgg29 Try.sizeOf29 rfl rfl rfl) rfl ?_
          obtain ⟨x119, hx120, h⟩ := Option.bind_eq_some_iff.1 h
          refine TD.ce rfl .u (.fn Try.call20 rfl) (f_r07_Same_spec x113 _ _ x105 _ _ _ hx120) (fun _ hs => (RX.reads_and (SrcE.res 1 hs rfl (fun w G h => rd_reads w G h)) (SrcE.old hs hX111))) rfl [0, 0, 0, 0, 0, 0] (rfl) ?_
          by_cases c121 : x119 = true
          · replace h := ifT c121 h
            refine TD.run ft_cursitorlaw07_ok [3, 4] rfl rfl ?_
            refine TD.q rfl (.g rfl rfl (bn_f c121)) (Ex.bS (us := [.int .i64 x113.fTime, .int .i64 x113.fOffset, .bool x113.fKey.null, .string (bsOf x113.fKey.data), .bool x113.fValue.null, .string (bsOf x113.fValue.data), .slice A114 x113.fHeaders.length c115]) 0 rfl Try.isAgg29 Try.sizeOf29 rfl rfl rfl) rfl ?_
            refine TD.q rfl (.g rfl rfl (bn_f c121)) (Ex.ft ft_cursitorlaw07_ok rfl) rfl ?_
            obtain ⟨x122, hx123, h⟩ := Option.bind_eq_some_iff.1 h
            obtain ⟨z124cs, z124cl, z124cc, z124nf, z124r⟩ := RX.elem' (by decide) hX hx123
            obtain ⟨z124S, z124r, z124rr⟩ := z124r
            obtain ⟨A125, c126, rfl, z124s0⟩ := z124r
            have hX127 : (RX.of (sliceRd 3 Hd_rd) [.slice A125 x122.fHeaders.length c126] x122.fHeaders).reads w F := ⟨z124S, z124s0, z124rr⟩
            refine TD.q rfl (.g rfl rfl (bn_f c121)) (Ex.ixS (k := 0) rfl rfl rfl Try.runUnderlying47 Try.sizeOf29 (List.getElem?_eq_some_iff.1 hx123).1) rfl ?_
            refine TD.q rfl (.g rfl rfl (bn_f c121)) (Ex.oS (us := [.int .i64 x122.fTime, .int .i64 x122.fOffset, .bool x122.fKey.null, .string (bsOf x122.fKey.data), .bool x122.fValue.null, .string (bsOf x122.fValue.data), .slice A125 x122.fHeaders.length c126]) 0 rfl Try.isAgg29 Try.sizeOf29 z124nf z124cc rfl rfl rfl) rfl ?_
            refine TD.q rfl (.g rfl rfl (bn_f c121)) (Ex.ft ft_cursitorlaw07_ok rfl) rfl ?_
            refine TD.q rfl (.g rfl rfl (bn_f c121)) (Ex.ft ft_cursitorlaw07_ok rfl) rfl ?_
            refine TD.q rfl (.g rfl rfl (bn_f c121)) (Ex.ixS (k := k99) rfl rfl rfl Try.runUnderlying47 Try.sizeOf29 (List.getElem?_eq_some_iff.1 hxx105).1) rfl ?_
            refine TD.q rfl (.g rfl rfl (bn_f c121)) (Ex.oS (us := [.int .i64 x105.fTime, .int .i64 x105.fOffset, .bool x105.fKey.null, .string (bsOf x105.fKey.data), .bool x105.fValue.null, .string (bsOf x105.fValue.data), .slice A109 x105.fHeaders.length c110]) 0 rfl Try.isAgg29 Try.sizeOf29 z108nf z108cc rfl rfl rfl) rfl ?_
            refine TD.q rfl (.g rfl rfl (bn_f c121)) (Ex.ft ft_cursitorlaw07_ok rfl) rfl ?_
            refine TD.q rfl (.g rfl rfl (bn_f c121)) (Ex.ixS (k := 0) rfl rfl rfl Try.runUnderlying47 Try.sizeOf29 (List.getElem?_eq_some_iff.1 hx123).1) rfl ?_
            refine TD.q rfl (.g rfl rfl (bn_f c121)) (Ex.oS (us := [.int .i64 x122.fTime, .int .i64 x122.fOffset, .bool x122.fKey.null, .string (bsOf x122.fKey.data), .bool x122.fValue.null, .string (bsOf x122.fValue.data), .slice A125 x122.fHeaders.length c126]) 0 rfl Try.isAgg29 Try.sizeOf29 z124nf z124cc rfl rfl rfl) rfl ?_
            obtain ⟨x128, hx129, h⟩ := Option.bind_eq_some_iff.1 h
            refine TD.ce rfl (.g rfl rfl (bn_f c121)) (.fn Try.call28 rfl) (f_record_Same_spec x113 _ _ x122 _ _ _ hx129) (fun _ hs => (RX.reads_and (SrcE.res 1 hs rfl (fun w G h => rd_reads w G h)) (SrcE.old hs hX127))) rfl [0, 0, 0, 0, 0, 0] (rfl) ?_
            obtain ⟨x130, hx131, h⟩ := Option.bind_eq_some_iff.1 h
            refine TD.ce rfl (.g rfl rfl (bn_f c121)) (.fn Try.call20 rfl) (f_r07_Same_spec x105 _ _ x122 _ _ _ hx131) (fun _ hs => (RX.reads_and (SrcE.old hs hX111) (SrcE.old hs hX127))) rfl [0, 0, 0, 0, 0, 0] (rfl) ?_
            by_cases c132 : x128 = true
            · replace h := ifT c132 h
              by_cases c133 : x130 = true
              · replace h := ifT c133 h
                refine TD.q rfl (.g rfl rfl (bn_f c121)) (Ex.bNe rfl c132 rfl c133 Try.runUnderlying4) rfl ?_
                refine TD.q rfl .u (Ex.pn rfl (bn_f c121) rfl) rfl ?_
                refine TD.nil (X.seq ?_)
                refine T.no rfl rfl ?_
                refine T.skip (X.blk (X.seq (T.region rfl ?_)))
                refine TL.q rfl .u (Ex.add rfl rfl (by omega)) rfl ?_
                refine TL.run ft_cursitorlaw07_ok [1] rfl rfl ?_
                exact TL.nil (X.back (m' := m104) [3, 3, 3] (by omega) ⟨y98, k99 + 1, st116, by omega, rfl, rfl, h⟩ (by rfl) (by rfl))
              · replace h := ifF c133 h
                replace c133 := eq_false_of_ne_true c133
                refine TD.q rfl (.g rfl rfl (bn_f c121)) (Ex.bNe rfl c132 rfl c133 Try.runUnderlying4) rfl ?_
                exact nomatch h
            · replace h := ifF c132 h
              replace c132 := eq_false_of_ne_true c132
              by_cases c134 : x130 = true
              · replace h := ifT c134 h
                refine TD.q rfl (.g rfl rfl (bn_f c121)) (Ex.bNe rfl c132 rfl c134 Try.runUnderlying4) rfl ?_
                exact nomatch h
              · replace h := ifF c134 h
                replace c134 := eq_false_of_ne_true c134
                refine TD.q rfl (.g rfl rfl (bn_f c121)) (Ex.bNe rfl c132 rfl c134 Try.runUnderlying4) rfl ?_
                refine TD.q rfl .u (Ex.pn rfl (bn_f c121) rfl) rfl ?_
                refine TD.nil (X.seq ?_)
                refine T.no rfl rfl ?_
                refine T.skip (X.blk (X.seq (T.region rfl ?_)))
                refine TL.q rfl .u (Ex.add rfl rfl (by omega)) rfl ?_
                refine TL.run ft_cursitorlaw07_ok [1] rfl rfl ?_
                exact TL.nil (X.back (m' := m104) [3, 3, 3] (by omega) ⟨y98, k99 + 1, st116, by omega, rfl, rfl, h⟩ (by rfl) (by rfl))
          · replace h := ifF c121 h
            replace c121 := eq_false_of_ne_true c121
            refine TD.run ft_cursitorlaw07_ok [3, 4] rfl rfl ?_
            refine TD.no rfl (.gn rfl rfl (bn_t c121)) rfl ?_
            refine TD.no rfl (.gn rfl rfl (bn_t c121)) rfl ?_
            refine TD.no rfl (.gn rfl rfl (bn_t c121)) rfl ?_
            refine TD.no rfl (.gn rfl rfl (bn_t c121)) rfl ?_
            refine TD.no rfl (.gn rfl rfl (bn_t c121)) rfl ?_
            refine TD.no rfl (.gn rfl rfl (bn_t c121)) rfl ?_
            refine TD.no rfl (.gn rfl rfl (bn_t c121)) rfl ?_
            refine TD.no rfl (.gn rfl rfl (bn_t c121)) rfl ?_
            refine TD.no rfl (.gn rfl rfl (bn_t c121)) rfl ?_
            refine TD.no rfl (.gn rfl rfl (bn_t c121)) rfl ?_
            refine TD.no rfl (.gn rfl rfl (bn_t c121)) rfl ?_
            refine TD.noe rfl (.gn rfl rfl (bn_t c121)) rfl [0, 0, 0, 0, 0, 0] rfl ?_
            refine TD.noe rfl (.gn rfl rfl (bn_t c121)) rfl [0, 0, 0, 0, 0, 0] rfl ?_
            refine TD.no rfl (.gn rfl rfl (bn_t c121)) rfl ?_
            exact nomatch h
      | succ m14 =>
        have h := hl16
        clear hl16
        obtain ⟨x15, hxx15⟩ : ∃ x, a0[k9]? = some x := ⟨_, List.getElem?_eq_getElem (by omega)⟩
        rw [drop_cons hxx15, f_l07_RecordRows_l1] at h
        have hk17lt : (k9 : Int) < (a0.length : Int) := by omega
        refine T.seq (T.region rfl ?_)
        refine TL.run ft_cursitorlaw07_ok [0] rfl rfl ?_
        refine TL.nil (X.seq (T.seq ?_))
        refine T.yes rfl (decide_eq_true hk17lt) ?_
        obtain ⟨gz18, oz18, rfl, z18cs, z18cl, z18cc, z18nf, z18r⟩ := RX.elem (by decide) hX hxx15
        obtain ⟨z18S, z18r, z18rr⟩ := z18r
        obtain ⟨A19, c20, rfl, z18s0⟩ := z18r
        have hX21 : (RX.of (sliceRd 3 Hd_rd) [.slice A19 x15.fHeaders.length c20] x15.fHeaders).reads w F := ⟨z18S, z18s0, z18rr⟩
        refine T.skip (X.seq (T.seq (T.block (T.seq (T.region rfl ?_)))))
        refine TL.q rfl .u (Ex.ixS (k := k9) rfl rfl rfl Try.runUnderlying47 Try.sizeOf29 (List.getElem?_eq_some_iff.1 hxx15).1) rfl ?_
        refine TL.q rfl .u (Ex.oS (us := [.int .i64 x15.fTime, .int .i64 x15.fOffset, .bool x15.fKey.null, .string (bsOf x15.fKey.data), .bool x15.fValue.null, .string (bsOf x15.fValue.data), .slice A19 x15.fHeaders.length c20]) 0 rfl Try.isAgg29 Try.sizeOf29 z18nf z18cc rfl rfl rfl) rfl ?_
        refine TL.alloc rfl .u Try.zeroValue29 rfl (fun b22 => ?_)
        refine TL.st0 (cs' := #[.int .i64 x15.fTime, .int .i64 x15.fOffset, .bool x15.fKey.null, .string (bsOf x15.fKey.data), .bool x15.fValue.null, .string (bsOf x15.fValue.data), .slice A19 x15.fHeaders.length c20]) rfl .u rfl rfl Try.sizeOf29 rfl rfl rfl rfl ?_
        refine TL.nil (X.seq (T.seq (T.seq (T.region rfl ?_))))
        refine TL.q rfl .u (Ex.bS (us := [.int .i64 x15.fTime, .int .i64 x15.fOffset, .bool x15.fKey.null, .string (bsOf x15.fKey.data), .bool x15.fValue.null, .string (bsOf x15.fValue.data), .slice A19 x15.fHeaders.length c20]) 0 rfl Try.isAgg29 Try.sizeOf29 rfl rfl rfl) rfl ?_
        obtain ⟨x23, hx24, h⟩ := Option.bind_eq_some_iff.1 h
        refine TL.ce rfl .u (.fn Try.call24 rfl) (f_l07_Small_spec x15 _ _ _ hx24) (fun _ hs => (SrcE.old hs hX21)) rfl ?_
        by_cases c25 : x23 = 0
        · replace h := ifT c25 h
          refine TL.run ft_cursitorlaw07_ok [2, 3] rfl rfl ?_
          refine TL.no rfl (.gn rfl rfl (decide_eq_true c25)) rfl ?_
          refine TL.no rfl (.gn rfl rfl (decide_eq_true c25)) rfl ?_
          refine TL.no rfl (.gn rfl rfl (decide_eq_true c25)) rfl ?_
          refine TL.q rfl .u (Ex.py rfl (decide_eq_true c25) rfl) rfl ?_
          refine TL.nil (X.seq ?_)
          refine T.yes rfl rfl ?_
          refine T.seq (T.region rfl ?_)
          refine TL.run ft_cursitorlaw07_ok [0] rfl rfl ?_
          obtain rfl := Option.some.inj h
          replace h := hO13
          clear hO13
          try dsimp only at h
          obtain rfl := Option.some.inj h
          exact TL.nil (X.seq (T.ret (X.rs (X.rb (X.rs (X.rs (X.rb (X.rs (X.done1 [2] Try.results5 (RV.tm rfl) ⟨rfl, rfl, rfl⟩ (by rfl) (.inl rfl))))))))))
        · replace h := ifF c25 h
          refine TL.run ft_cursitorlaw07_ok [2, 3] rfl rfl ?_
          refine TL.q rfl (.g rfl rfl (decide_eq_false c25)) (Ex.bS (us := [.int .i64 x15.fTime, .int .i64 x15.fOffset, .bool x15.fKey.null, .string (bsOf x15.fKey.data), .bool x15.fValue.null, .string (bsOf x15.fValue.data), .slice A19 x15.fHeaders.length c20]) 0 rfl Try.isAgg29 Try.sizeOf29 rfl rfl rfl) rfl ?_
          obtain ⟨x26, hx27, h⟩ := Option.bind_eq_some_iff.1 h
          refine TL.ce rfl (.g rfl rfl (decide_eq_false c25)) (.fn Try.call25 rfl) (f_r07_Right_spec x15 _ _ _ hx27) (fun _ hs => (SrcE.old hs hX21)) rfl ?_
          refine TL.q rfl (.g rfl rfl (decide_eq_false c25)) (Ex.ft ft_cursitorlaw07_ok rfl) rfl ?_
          refine TL.q rfl .u (Ex.pn rfl (decide_eq_false c25) rfl) rfl ?_
          by_cases c28 : x26 = 0
          · replace h := ifT c28 h
            refine TL.nil (X.seq ?_)
            refine T.no rfl (bn_f (decide_eq_true c28)) ?_
            refine T.skip (X.seq (T.region rfl ?_))
            refine TL.q rfl .u (Ex.bS (us := [.int .i64 x15.fTime, .int .i64 x15.fOffset, .bool x15.fKey.null, .string (bsOf x15.fKey.data), .bool x15.fValue.null, .string (bsOf x15.fValue.data), .slice A19 x15.fHeaders.length c20]) 0 rfl Try.isAgg29 Try.sizeOf29 rfl rfl rfl) rfl ?_
            obtain ⟨st29, hx30, h⟩ := Option.bind_eq_some_iff.1 h
            refine TL.c1 rfl .u (.fn Try.call29 rfl) (f_record_Write_spec b7 st10 x15 _ _ _ hx30) (fun _ hs => (Src.old hs hX21)) rfl ?_
            refine TL.nil (X.blk (X.seq (T.region rfl ?_)))
            refine TL.q rfl .u (Ex.add rfl rfl (by omega)) rfl ?_
            refine TL.run ft_cursitorlaw07_ok [1] rfl rfl ?_
            exact TL.nil (X.back (m' := m14) [1, 1] (by omega) ⟨y8, k9 + 1, st29, by omega, rfl, rfl, h⟩ (by rfl) (by rfl))
          · replace h := ifF c28 h
            refine TL.nil (X.seq ?_)
            refine T.yes rfl (bn_t (decide_eq_false c28)) ?_
            refine T.seq (T.region rfl ?_)
            refine TL.run ft_cursitorlaw07_ok [0] rfl rfl ?_
            obtain rfl := Option.some.inj h
            replace h := hO13
            clear hO13
            try dsimp only at h
            obtain rfl := Option.some.inj h
            exact TL.nil (X.seq (T.ret (X.rs (X.rb (X.rs (X.rs (X.rb (X.rs (X.done1 [2] Try.results5 (RV.tm rfl) ⟨rfl, rfl, rfl⟩ (by rfl) (.inl rfl))))))))))
  · replace h := ifF c5 h
    replace c5 := eq_false_of_ne_true c5
    refine TL.nil (X.seq ?_)
    refine T.yes rfl (bn_t c5) ?_
    exact nomatch h
end Go.Proofs.Ytagbblaegdedpaa.Sl
namespace Go.Proofs.Ytagbblaegdedpaa.Sl
open Go.RowKit
set_option linter.unusedVariables false
set_option linter.unusedSimpArgs false
def sameR (a b : Rec) : Bool := decide (a.fTime = b.fTime) && decide (a.fOffset = b.fOffset) && decide (a.fKey.null = b.fKey.null) && decide (a.fKey.data = b.fKey.data) && decide (a.fValue.null = b.fValue.null) && decide (a.fValue.data = b.fValue.data) && sameHs a.fHeaders b.fHeaders
theorem sameR_refl (a : Rec) : sameR a a = true := by simp [sameR, sameHs_refl]
theorem sameH_sym (a b : Hd) : sameH b a = sameH a b := by
  unfold sameH
  simp only [eq_comm]
theorem recs_loop (b : Rec) (y : Bool) : ∀ (l u : List Hd) (k : Nat), b.fHeaders.drop k = u → l.length = u.length → f_record_Same_l1 b l y k = some (if sameHs l u = true then .go y else .ret false)
  | [], [], k, hu, hl => rfl
  | [], d :: u, k, hu, hl => by simp at hl
  | c :: l, [], k, hu, hl => by simp at hl
  | c :: l, d :: u, k, hu, hl => by
    obtain ⟨u1, u2, u3⟩ := b_at_drop hu
    simp only [List.length_cons] at hl
    have ih := recs_loop b y l u (k + 1) u2 (by omega)
    rw [f_record_Same_l1, u1, Option.bind_some, sameHs, ← sameH_sym c d, sameH, ih]
    by_cases h1 : d.fKey = c.fKey
    · rw [if_pos h1, decide_eq_true h1]
      by_cases h2 : d.fValue.null = c.fValue.null
      · rw [if_pos h2, decide_eq_true h2]
        by_cases h3 : d.fValue.data = c.fValue.data
        · rw [if_pos h3, decide_eq_true h3]
          rfl
        · rw [if_neg h3, decide_eq_false h3]
          rfl
      · rw [if_neg h2, decide_eq_false h2]
        rfl
    · rw [if_neg h1, decide_eq_false h1]
      rfl
theorem r07_same (a b : Rec) (ha : a.fHeaders.length ≤ 1000000) : f_r07_Same a b = some (sameR a b) := by
  unfold f_r07_Same sameR
  rw [r06_same _ _ ha]
  by_cases h1 : a.fTime = b.fTime <;> by_cases h2 : a.fOffset = b.fOffset <;> by_cases h3 : a.fKey.null = b.fKey.null <;> by_cases h4 : a.fKey.data = b.fKey.data <;> by_cases h5 : a.fValue.null = b.fValue.null <;> by_cases h6 : a.fValue.data = b.fValue.data <;> simp [h1, h2, h3, h4, h5, h6]
theorem record_same (a b : Rec) : f_record_Same a b = some (sameR a b) := by
  unfold f_record_Same sameR
  have hh : (if (a.fHeaders.length : Int) = (b.fHeaders.length : Int) then ((f_record_Same_l1 b a.fHeaders false 0).bind fun e => match e with | .ret r => some r | .go y39 => some true) else some false) = some (sameHs a.fHeaders b.fHeaders) := by
    by_cases hl : (a.fHeaders.length : Int) = (b.fHeaders.length : Int)
    · rw [if_pos hl, recs_loop b false a.fHeaders b.fHeaders 0 rfl (by omega)]
      cases sameHs a.fHeaders b.fHeaders <;> rfl
    · rw [if_neg hl]
      have : sameHs a.fHeaders b.fHeaders = false := by
        cases h : sameHs a.fHeaders b.fHeaders with
        | false => rfl
        | true => exact absurd (congrArg Int.ofNat (sameHs_len _ _ h)) hl
      rw [this]
  by_cases h1 : a.fTime = b.fTime
  case neg => rw [if_neg h1, decide_eq_false h1]; simp
  rw [if_pos h1, decide_eq_true h1]
  by_cases h2 : a.fOffset = b.fOffset
  case neg => rw [if_neg h2, decide_eq_false h2]; simp
  rw [if_pos h2, decide_eq_true h2]
  by_cases h3 : a.fKey.null = b.fKey.null
  case neg => rw [if_neg h3, decide_eq_false h3]; simp
  rw [if_pos h3, decide_eq_true h3]
  by_cases h4 : a.fKey.data = b.fKey.data
  case neg => rw [if_neg h4, decide_eq_false h4]; simp
  rw [if_pos h4, decide_eq_true h4]
  by_cases h5 : a.fValue.null = b.fValue.null
  case neg => rw [if_neg h5, decide_eq_false h5]; simp
  rw [if_pos h5, decide_eq_true h5]
  by_cases h6 : a.fValue.data = b.fValue.data
  case neg => rw [if_neg h6, decide_eq_false h6]; simp
  rw [if_pos h6, decide_eq_true h6]
  simp only [Bool.true_and]
  exact hh
end Go.Proofs.Ytagbblaegdedpaa.Sl
namespace Go.Proofs.Ytagbblaegdedpaa.Sl
open Go.RowKit
set_option linter.unusedVariables false
set_option linter.unusedSimpArgs false
theorem speaks07_eq : f_l07_speaks = some true := by kernel_rfl
theorem small06_l (y : Int) : ∀ (l : List Hd) (acc : Int), (∀ h, h ∈ l → wf_Hd h) → 0 ≤ acc → acc ≤ 1000 → f_l06_Small_l1 l y acc = some (.ret 0) ∨ ∃ z, f_l06_Small_l1 l y acc = some (.go z) ∧ hwts l ≤ 20 * (1000 - acc).toNat
  | [], acc, hw, h0, h1 => .inr ⟨_, rfl, by simp [hwts]⟩
  | h :: l, acc, hw, h0, h1 => by
    have hh := hw h (.head _)
    have k1 : h.fKey.length ≤ 140737488351232 := hh.1
    have k2 : h.fValue.data.length ≤ 140737488351232 := hh.2.2
    rw [f_l06_Small_l1, if_pos (by omega), if_pos (by omega), if_pos (by omega)]
    by_cases hc : (acc + (((h.fKey.length : Int) + (h.fValue.data.length : Int)) + 1)) > 1000
    · rw [if_pos hc]
      exact .inl rfl
    · rw [if_neg hc]
      rcases small06_l y l _ (fun x hx => hw x (.tail _ hx)) (by omega) (show acc + (((h.fKey.length : Int) + (h.fValue.data.length : Int)) + 1) ≤ 1000 by omega) with g | ⟨z, g, g2⟩
      · exact .inl g
      · exact .inr ⟨z, g, by simp only [hwts, hwt]; omega⟩
theorem small07 (x : Rec) (hw : wf_Rec x) : f_l07_Small x = some 0 ∨ (f_l07_Small x = some 1 ∧ rwt x ≤ 21000) := by
  unfold f_l07_Small f_l06_Small
  by_cases h1 : (x.fKey.data.length : Int) > 500
  · rw [if_pos h1]
    exact .inl rfl
  rw [if_neg h1]
  by_cases h2 : (x.fValue.data.length : Int) > 500
  · rw [if_pos h2]
    exact .inl rfl
  rw [if_neg h2]
  rcases small06_l 0 x.fHeaders 0 hw.2.2.2.2.2 (by decide) (by decide) with g | ⟨z, g, g2⟩
  · rw [g]
    exact .inl rfl
  · rw [g]
    refine .inr ⟨rfl, ?_⟩
    unfold rwt
    have : (1000 - (0 : Int)).toNat = 1000 := rfl
    omega
theorem okRec_of {x : Rec} (ht : wI x.fTime) (hr : rightR x = 0) (hw : rwt x ≤ 900000) : okRec x ∧ vfold ((encBody x).length : Int) < 2 ^ (32 : Int).toNat := by
  obtain ⟨h1, h2, h3, h4⟩ := right_zero hr
  have hb := encBody_len x ht ⟨by omega, by omega⟩ hw
  unfold rwt at hw hb
  have hn := hwts_len x.fHeaders
  have bk := blen_small x.fKey (by omega)
  have bv := blen_small x.fValue (by omega)
  refine ⟨⟨?_, ⟨vfold_ok _ (by omega) h1.2, h1.1⟩, ⟨vfold_ok _ bk.1 bk.2, h2⟩, ⟨vfold_ok _ bv.1 bv.2, h3⟩, vfold_ok _ (by omega) (by omega), fun h hh => ?_⟩, vfold_ok _ (by omega) (by omega)⟩
  · rw [show 2 ^ (64 : Int).toNat = 18446744073709551616 by decide]
    exact vfold_lt _ ht.1 ht.2
  · have hm := hwts_mem _ _ hh
    unfold hwt at hm
    have b := blen_small h.fValue (by omega)
    exact ⟨vfold_ok _ (by omega) (by omega), vfold_ok _ b.1 b.2, h4 h hh⟩
theorem encRec_len (x : Rec) (ht : wI x.fTime) (ho : wI x.fOffset) (hw : rwt x ≤ 900000) : (encRec x).length ≤ 61 + rwt x := by
  have hb := encBody_len x ht ho hw
  have h6 := vput_ten _ (vfold_lt ((encBody x).length : Int) (by omega) (by omega))
  rw [encRec, List.length_append]
  omega
end Go.Proofs.Ytagbblaegdedpaa.Sl
namespace Go.Proofs.Ytagbblaegdedpaa.Sl
open Go.RowKit
set_option linter.unusedVariables false
set_option linter.unusedSimpArgs false
def okR (x : Rec) : Prop := wI x.fTime ∧ wI x.fOffset ∧ rightR x = 0 ∧ rwt x ≤ 25000
theorem encsRec_len : ∀ l : List Rec, (∀ x, x ∈ l → okR x) → (encs encRec l).length ≤ 26000 * l.length
  | [], _ => by simp [encs]
  | x :: l, h => by
    have h1 := h x (.head _)
    have h2 := encsRec_len l (fun y hy => h y (.tail _ hy))
    have h3 := encRec_len x h1.1 h1.2.1 (by have := h1.2.2.2; omega)
    have := h1.2.2.2
    rw [encs, List.length_append, List.length_cons]
    omega
theorem rrows_l1 (y : Bool) : ∀ (l : List Rec) (t : List UInt8), (∀ x, x ∈ l → wf_Rec x) → t.length + 26000 * l.length ≤ 1000000 →
    f_l07_RecordRows_l1 l y (t, 0) = some (.ret true) ∨ (f_l07_RecordRows_l1 l y (t, 0) = some (.go (y, (t ++ encs encRec l, 0))) ∧ ∀ x, x ∈ l → okR x)
  | [], t, _, _ => .inr ⟨by rw [encs, List.append_nil]; rfl, fun x h => nomatch h⟩
  | x :: l, t, hw, hl => by
    have w0 := hw x (.head _)
    rw [List.length_cons] at hl
    rw [f_l07_RecordRows_l1]
    rcases small07 x w0 with h | ⟨h, hs⟩
    · rw [h]
      exact .inl rfl
    have hs2 := hs
    unfold rwt at hs2
    have hn := hwts_len x.fHeaders
    rw [h, Option.bind_some, if_neg (by decide), r07_right x (by omega), Option.bind_some]
    by_cases hr : rightR x = 0
    · have hx : okR x := ⟨w0.1, w0.2.1, hr, by omega⟩
      have he := encRec_len x w0.1 w0.2.1 (by omega)
      rw [if_pos hr, rec_write x t w0.1 w0.2.1 (by omega) (by omega), if_pos hr, Option.bind_some]
      rcases rrows_l1 y l (t ++ encRec x) (fun z hz => hw z (.tail _ hz)) (by rw [List.length_append]; omega) with g | ⟨g, ho⟩
      · exact .inl g
      · refine .inr ⟨by rw [g, encs, List.append_assoc], fun z hz => ?_⟩
        rcases List.mem_cons.1 hz with rfl | hz
        · exact hx
        · exact ho z hz
    · rw [if_neg hr]
      exact .inl rfl
theorem rrows_l2 (a0 : List Rec) (y : Bool) (x0 : Rec) (h0 : a0[0]? = some x0) (s : List UInt8) (hs : s.length ≤ 1000000) : ∀ (l : List Rec) (q : Nat), (∀ x, x ∈ l → okR x) → q ≤ s.length → s.drop q = encs encRec l →
    f_l07_RecordRows_l2 a0 l y ⟨s.drop q, q, 0⟩ = some (.go (y, ⟨[], s.length, 0⟩))
  | [], q, _, hq, hd => by
    rw [encs] at hd
    have := List.drop_eq_nil_iff.1 hd
    rw [hd, f_l07_RecordRows_l2, show q = s.length by omega]
  | x :: l, q, ho, hq, hd => by
    have hx := ho x (.head _)
    rw [encs] at hd
    have hb := Sp_rec.back s _ q x hq (okRec_of hx.1 hx.2.2.1 (by have := hx.2.2.2; omega)) hd
    have hd2 := drop_step hd
    have hl := congrArg List.length hd
    rw [List.length_drop, List.length_append] at hl
    rw [f_l07_RecordRows_l2]
    rcases B_rec.run s q hs hq with ⟨e, st, p1, g1, x1, y1⟩ | ⟨b, r, p1, g1, n1, l1⟩
    · rw [hb] at p1
      exact nomatch p1
    · rw [hb] at p1
      injection p1 with p1
      obtain ⟨rfl, rfl⟩ := Prod.mk.inj p1
      have hn := hwts_len x.fHeaders
      have hw := hx.2.2.2
      unfold rwt at hw
      have ih := rrows_l2 a0 y x0 h0 s hs l (q + (encRec x).length) (fun z hz => ho z (.tail _ hz)) (by omega) hd2
      rw [g1, Option.bind_some]
      simp only
      rw [r07_same x x (by omega), Option.bind_some, sameR_refl, if_pos rfl, h0, Option.bind_some, record_same, Option.bind_some, r07_same x x0 (by omega), Option.bind_some]
      by_cases hc : sameR x x0 = true
      · rw [if_pos hc, if_pos hc, ih]
      · rw [if_neg hc, if_neg hc, ih]
theorem pure_RecordRows (a0 : List Rec) (w0 : wL wf_Rec a0) : f_l07_RecordRows a0 = some true := by
  unfold f_l07_RecordRows
  rw [speaks07_eq, Option.bind_some, if_pos rfl]
  by_cases hl : (a0.length : Int) > 20
  · rw [if_pos hl]
  rw [if_neg hl]
  rcases rrows_l1 false a0 [] w0.2 (by simp only [List.length_nil]; omega) with g | ⟨g, ho⟩
  · rw [g]
    rfl
  have he := encsRec_len a0 ho
  rw [g, Option.bind_some]
  simp only [List.nil_append]
  rw [gOText_eq, Option.bind_some, otx_z]
  simp only
  rw [gNew_eq _ (by omega), Option.bind_some]
  cases a0 with
  | nil => rfl
  | cons x0 l =>
    have h2 := rrows_l2 (x0 :: l) false x0 rfl (encs encRec (x0 :: l)) (by simp only [List.length_cons] at he hl ⊢; omega) (x0 :: l) 0 ho (Nat.zero_le _) (List.drop_zero)
    rw [List.drop_zero] at h2
    rw [h2, Option.bind_some]
    simp only [if_true]
    rw [gClose_z, Option.bind_some]
    rfl
end Go.Proofs.Ytagbblaegdedpaa.Sl
namespace Go.Proofs.Ytagbblaegdedpaa.Sl
open Go.RowKit Go.Deep Go.ChangeShapes
set_option linter.unusedVariables false
theorem op_Bl {H : Type} {enc : TypeId × Value → H} : OpensW enc Try.prog 26 (andRd Bl_rd wf_Bl) :=
  opensW_weak (fun x => ⟨x.1, x.2.1⟩) (opensW_struct Try.underlying26 (by kernel_rfl) (opensWFs_cons 1 (by kernel_rfl) (by kernel_rfl) (op_bool Try.underlying4) (opensWFs_cons 1 (by kernel_rfl) (by kernel_rfl) (op_str Try.underlying9) (opensWFs_nil _)))) (by
    rintro w S cs ⟨x0, x1, _⟩ ⟨_, _, rfl, ⟨p0, q0⟩, _, _, rfl, ⟨p1, q1⟩, rfl⟩
    obtain rfl := p0
    obtain rfl := p1
    exact ⟨rfl, q0, q1⟩)
theorem op_Hd {H : Type} {enc : TypeId × Value → H} : OpensW enc Try.prog 93 (andRd Hd_rd wf_Hd) :=
  opensW_weak (fun x => ⟨x.1, x.2.1⟩) (opensW_struct Try.underlying93 (by kernel_rfl) (opensWFs_cons 1 (by kernel_rfl) (by kernel_rfl) (op_str Try.underlying9) (opensWFs_cons 2 (by kernel_rfl) (by kernel_rfl) op_Bl (opensWFs_nil _)))) (by
    rintro w S cs ⟨x0, x1, _⟩ ⟨_, _, rfl, ⟨p0, q0⟩, _, _, rfl, ⟨p1, q1⟩, rfl⟩
    obtain rfl := p0
    obtain rfl := p1
    exact ⟨rfl, q0, q1⟩)
theorem op_Rec {H : Type} {enc : TypeId × Value → H} : OpensW enc Try.prog 29 (andRd Rec_rd wf_Rec) :=
  opensW_weak (fun x => ⟨x.1, x.2.1, x.2.2.1, x.2.2.2.1, x.2.2.2.2.1⟩) (opensW_struct Try.underlying29 (by kernel_rfl) (opensWFs_cons 1 (by kernel_rfl) (by kernel_rfl) (op_i64 Try.underlying3) (opensWFs_cons 1 (by kernel_rfl) (by kernel_rfl) (op_i64 Try.underlying3) (opensWFs_cons 2 (by kernel_rfl) (by kernel_rfl) op_Bl (opensWFs_cons 2 (by kernel_rfl) (by kernel_rfl) op_Bl (opensWFs_cons 1 (by kernel_rfl) (by kernel_rfl) (op_slice 3 40 Try.underlying27 (by kernel_rfl) (by kernel_rfl) (by decide) (by decide) op_Hd) (opensWFs_nil _))))))) (by
    rintro w S cs ⟨x0, x1, x2, x3, x4, _⟩ ⟨_, _, rfl, ⟨p0, q0⟩, _, _, rfl, ⟨p1, q1⟩, _, _, rfl, ⟨p2, q2⟩, _, _, rfl, ⟨p3, q3⟩, _, _, rfl, ⟨p4, q4⟩, rfl⟩
    obtain rfl := p0
    obtain rfl := p1
    obtain rfl := p2
    obtain rfl := p3
    obtain ⟨A4, c4, rfl⟩ := slice_cells p4
    exact ⟨⟨A4, c4, rfl, p4⟩, q0, q1, q2, q3, q4⟩)
end Go.Proofs.Ytagbblaegdedpaa.Sl
namespace Go.Proofs.Ytagbblaegdedpaa.recordRows
open Go.ChangeShapes Go.WideShapes Go.ChangeAt Go.RowKit
open Go.ChangeMaps (open_string shut_string)
set_option linter.unusedVariables false
theorem own : ownKnob Try.prog.godebug = none := by kernel_rfl
theorem laidOut : laidOutB Try.prog = true := by kernel_rfl
set_option maxRecDepth 100000 in
set_option maxHeartbeats 1000000 in
theorem lifted (os : Os) (started : os.Started) (H : Type) (enc : TypeId × Value → H) :
    ReturnsInHanded {} Try.checked os 5 .any (Rows.recordRowsSpec.pre6 enc Try.prog Try.f5 Rows.recordRowsRow.domain false) (Rows.recordRowsSpec.post enc Try.prog Try.f5 false true false false) := by
  refine returnsInHanded_of_change_sized (C := Try.checked) own started (by kernel_rfl) Try.func5
    (ChangeSpec.witness6 (enc := enc) (C := Try.checked) false ⟨#[], #[.slice none 0 0], []⟩ 8 (by kernel_rfl) (by kernel_rfl) (by kernel_rfl) (by kernel_rfl)) ?_
  intro W base args ds gs before hval0 hW hcnd hsz0 _
  have hsz : (DataW.weightsEach Try.prog (Try.f5.params.toList ++ Rows.recordRowsSpec.plain.varTypes Try.prog) (ds ++ gs)).all (· ≤ reachBytes) = true := hsz0
  have hval : ∀ (j : Nat) t v, Try.f5.params[j]? = some t → args[j]? = some v → Value.okWide Try.prog W .any base t v := hval0
  have hW' := hW
  obtain ⟨p, q, hA0, hV, rfl, hfz, hnd⟩ := hW
  have hA : DataW.TrodAll enc Try.prog W 0 (fun _ => true) true Try.f5.params.toList args.toList ds p := hA0
  rw [Try.params5] at hA hval hsz
  obtain ⟨v0, vs0, d0, ds0, p0, q0, hargs, rfl, rfl, h0, r0⟩ := trodAll_cons hA
  obtain ⟨rfl, rfl, rfl⟩ := trodAll_nil r0
  obtain rfl : args = #[v0] := by cases args; simp_all
  obtain ⟨rfl, rfl⟩ := trodVars_none hV
  have k0 := h0
  have lt0 : ∀ x ∈ p0, x.block < W.heap.size := by obtain ⟨m, hm⟩ := k0; exact DataW.trod_lt m _ _ _ hm
  obtain ⟨a0, r_0, w0⟩ := Sl.opens_arg1 Try.underlying47 (hval 0 47 v0 rfl rfl) (Sl.op_slice 7 88 Try.underlying47 (by kernel_rfl) (by kernel_rfl) (by decide) (by decide) Sl.op_Rec) h0 (fun x hx => of_decide_eq_true (List.all_eq_true.1 hsz x (Sl.weights_in 0 rfl rfl hx)))
  obtain ⟨A0, c0, e0⟩ := Sl.slice_cells r_0
  injection e0 with e0
  subst e0
  clear hA0 hval0 hsz0 hsz
  refine (Sl.f_l07_RecordRows_spec a0 A0 c0 true (Sl.pure_RecordRows a0 w0) (fun _ => False) W (fun _ h => h) (Sl.RX.reads_all r_0)).mono fun e W' hP => ?_
  obtain ⟨v, A', Ns, rfl, ⟨rfl, rfl, rfl⟩, hst⟩ := hP
  have bel := Sl.St.below hst
  exact ⟨_, rfl, _, _, _, [], _, [], hW', trodAll_mk1 (shut_bool Try.underlying4 _), (trodAll_cons_mk (Below.trod laidOut (by kernel_rfl) (of_decide_eq_true (by kernel_rfl)) k0 bel lt0) trodAll_mk0), rfl, bel.frame _, fun h => by cases h⟩
theorem over : Rows.recordRowsRow.holds Try.pinned (OpenSpec.ofChange Rows.recordRowsSpec) :=
  OpenClaim.holds_of_wide 5 Try.f5 rfl rfl rfl rfl rfl rfl rfl ⟨rfl, rfl, rfl, rfl, rfl⟩ rfl rfl rfl rfl rfl (by kernel_rfl) Try.func5 (by kernel_rfl)
    (of_decide_eq_true (by kernel_rfl)) (by unfold Func.isWrapper; first | (rw [if_pos (by decide +kernel)]; kernel_rfl) | (rw [if_neg (by decide +kernel)]; exact ⟨rfl, rfl⟩))
    (fun os started H enc _ => lifted os started H enc)
theorem proved : Rows.RecordRowsSaid := over
end Go.Proofs.Ytagbblaegdedpaa.recordRows
namespace Go.Proofs.Ytagbblaegdedpaa
theorem recordRows_holds : Rows.RecordRowsSaid := recordRows.proved
end Go.Proofs.Ytagbblaegdedpaa
