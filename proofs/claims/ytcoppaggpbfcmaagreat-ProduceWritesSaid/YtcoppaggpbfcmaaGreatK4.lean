/- produceWrites_holds: part 4. -/
import Derived.Test.YtcoppaggpbfcmaaGreatK3
set_option maxRecDepth 100000
set_option maxHeartbeats 4000000
set_option linter.defProp false
namespace Go.Proofs.YtcoppaggpbfcmaaGreat.Sl
open Go.RowKit
set_option linter.unusedVariables false
set_option linter.unusedSimpArgs false
def Di := @Tryz.sizeOf27
def Dl := @Tryz.runUnderlying25
def Dp := @Tryz.runUnderlying27
def Dr := @Tryz.runUnderlying82
def Dv := @Tryz.runUnderlying106
def Dx := @Tryz.isAgg27
def DA := @Tryz.isAgg25
def DY := @Tryz.results93
def D2 := @Tryz.eqGuardType224
def Ec := @Tryz.results129
def Es := @Tryz.results40
def Ey := @Tryz.results92
def EI := @Tryz.results95
def EZ := @Tryz.results110
def Fs := @Tryz.results49
def yX:fh := [(27,0,0),(27,1,1),(27,2,2),(27,3,3),(27,4,4),(27,5,5),(27,6,6),(27,7,7),(27,8,8),(27,9,9),(27,10,10),(27,11,11),(38,0,0),(38,1,1),(160,0,0),(160,1,1),(160,2,2),(160,3,3),(160,4,4),(160,5,5),(160,6,6),(160,7,7),(160,8,8),(160,9,9),(160,10,10),(160,11,11)]
theorem ae:(yX).OK Tryz.prog:=⟨FOK.mk Dp rfl De rfl,FOK.mk Dp rfl De rfl,FOK.mk Dp rfl DP rfl,FOK.mk Dp rfl DP rfl,FOK.mk Dp rfl DP rfl,FOK.mk Dp rfl De rfl,FOK.mk Dp rfl De rfl,FOK.mk Dp rfl De rfl,FOK.mk Dp rfl De rfl,FOK.mk Dp rfl De rfl,FOK.mk Dp rfl De rfl,FOK.mk Dp rfl Tryz.sizeOf25 rfl,FOK.mk Dw rfl De rfl,FOK.mk Dw rfl De rfl,FOK.mk Du rfl De rfl,FOK.mk Du rfl De rfl,FOK.mk Du rfl De rfl,FOK.mk Du rfl De rfl,FOK.mk Du rfl De rfl,FOK.mk Du rfl De rfl,FOK.mk Du rfl De rfl,FOK.mk Du rfl De rfl,FOK.mk Du rfl De rfl,FOK.mk Du rfl De rfl,FOK.mk Du rfl De rfl,FOK.mk Du rfl De rfl,trivial⟩
theorem gL:Tryz.prog.follows .mixedOrders=true:=by kernel_rfl
theorem bJ:dm Tryz.prog 2 224 [.int .i64,.int .i64,.int .i64,.int .i64,.int .i64,.int .i64,.int .i64,.int .i64,.bool,.bool,.bool] true:=(dm.struct Tryz.isAgg224 Tryz.sizeOf224 rfl Tryz.underlying224 Tryz.stoodInHeld224 ⟨by decide,rfl,[.int .i64],[.int .i64,.int .i64,.int .i64,.int .i64,.int .i64,.int .i64,.int .i64,.bool,.bool,.bool],false,rfl,(Bq Dc De Tryz.underlying3),⟨by decide,rfl,[.int .i64],[.int .i64,.int .i64,.int .i64,.int .i64,.int .i64,.int .i64,.bool,.bool,.bool],false,rfl,(Bq Dc De Tryz.underlying3),⟨by decide,rfl,[.int .i64],[.int .i64,.int .i64,.int .i64,.int .i64,.int .i64,.bool,.bool,.bool],false,rfl,(Bq Dc De Tryz.underlying3),⟨by decide,rfl,[.int .i64],[.int .i64,.int .i64,.int .i64,.int .i64,.bool,.bool,.bool],false,rfl,(Bq Dc De Tryz.underlying3),⟨by decide,rfl,[.int .i64],[.int .i64,.int .i64,.int .i64,.bool,.bool,.bool],false,rfl,(Bq Dc De Tryz.underlying3),⟨by decide,rfl,[.int .i64],[.int .i64,.int .i64,.bool,.bool,.bool],false,rfl,(Bq Dc De Tryz.underlying3),⟨by decide,rfl,[.int .i64],[.int .i64,.bool,.bool,.bool],false,rfl,(Bq Dc De Tryz.underlying3),⟨by decide,rfl,[.int .i64],[.bool,.bool,.bool],false,rfl,(Bq Dc De Tryz.underlying3),⟨by decide,rfl,[.bool],[.bool,.bool],false,rfl,(Bq Do DP Tryz.underlying4),⟨by decide,rfl,[.bool],[.bool],false,rfl,(Bq Do DP Tryz.underlying4),⟨by decide,rfl,[.bool],[],false,rfl,(Bq Do DP Tryz.underlying4),rfl⟩⟩⟩⟩⟩⟩⟩⟩⟩⟩⟩)
theorem dY:BOK Tryz.prog 27 #[.int .i64 0,.int .i64 0,.bool false,.bool false,.bool false,.int .i64 0,.int .i64 0,.int .i64 0,.int .i64 0,.int .i64 0,.int .i64 0,.slice none 0 0] [(0,1),(1,1),(2,1),(3,1),(4,1),(5,1),(6,1),(7,1),(8,1),(9,1),(10,1),(11,1)]:=BOK.mk Tryz.zeroValue27 Dp (by intro w; simp)
theorem s6:BOK Tryz.prog 66 #[.slice none 0 0,.int .i64 0] [(0,1),(1,1)]:=BOK.mk Tryz.zeroValue66 Tryz.runUnderlying66 (by intro w; simp)
theorem mm:BOK Tryz.prog 160 #[.int .i64 0,.int .i64 0,.int .i64 0,.int .i64 0,.int .i64 0,.int .i64 0,.int .i64 0,.int .i64 0,.int .i64 0,.int .i64 0,.int .i64 0,.int .i64 0] [(0,1),(1,1),(2,1),(3,1),(4,1),(5,1),(6,1),(7,1),(8,1),(9,1),(10,1),(11,1)]:=BOK.mk Tryz.zeroValue160 Du (by intro w; simp)
theorem rx:BOK Tryz.prog 224 #[.int .i64 0,.int .i64 0,.int .i64 0,.int .i64 0,.int .i64 0,.int .i64 0,.int .i64 0,.int .i64 0,.bool false,.bool false,.bool false] [(0,1),(1,1),(2,1),(3,1),(4,1),(5,1),(6,1),(7,1),(8,1),(9,1),(10,1)]:=BOK.mk Tryz.zeroValue224 Tryz.runUnderlying224 (by intro w; simp)
theorem ql:SOK Tryz.prog 25 38 1 7 #[.int .i64 0,.int .i64 0,.bool false,.string ⟨#[]⟩,.bool false,.string ⟨#[]⟩,.slice none 0 0]:=SOK.mk Dl Dj Tryz.zeroValue38 (by decide) (by kernel_rfl)
theorem fU:SOK Tryz.prog 206 9 2 1 #[.string ⟨#[]⟩,.string ⟨#[]⟩]:=SOK.mk Fk DT Tryz.zeroValue9 (by decide) (by kernel_rfl)
theorem s7:(Tryz.prog.info? 38).map (fun i=>(i.zero,i.size,i.bytes))=some (some (.agg #[.int .i64 0,.int .i64 0,.bool false,.string ⟨#[]⟩,.bool false,.string ⟨#[]⟩,.slice none 0 0]),7,88):=by kernel_rfl
def eT (a0:Bat):Option (Bool):=if a0.CP≥0 then (if a0.CI≥(-1) then ((j6 a0.CI 4).bind fun x6=>if x6=true then (if a0.CN≥0 then ((j6 a0.CN 4).bind fun x10=>if x10=true then (if (IntKind.i64.wrap (a0.CP+a0.CN))≥0 then (if a0.CH≥0 then (if a0.CW≥0 then some true else some false) else some false) else some false) else some false) else some false) else some false) else some false) else some false
theorem lv (a0:Bat) (A1:Option Addr) (c2:Nat) (r:Bool) (h:eT a0=some r):aA Tryz.prog 92 #[.agg #[jI a0.CP,jI a0.CI,.bool a0.CV,.bool a0.C0,.bool a0.CL,jI a0.CN,jI a0.CH,jI a0.CW,jI a0.CE,jI a0.CK,jI a0.CD,.slice A1 a0.Cy.length c2]] (RX.of (ar 7 aU) [.slice A1 a0.Cy.length c2] a0.Cy) (aD) (fun v A' N=>v= .bool r∧A'=aD∧N = []):=by
 refine aM Tryz.func92 Z Tryz.ntmps92 Z ?_
 intro F w hX
 unfold eT at h
 refine T.seq (T.region Z (TL.box Z .u Z Z (fun b3=>(TL.run ae [1] Z Z (TL.nil (X.seq (T.seq (T.region Z (TL.run ae [0] Z Z (TL.q Z .u (AH 0 Z Dc Z Z) Z ?_))))))))))
 rcases jF h with⟨c4,h⟩ | ⟨c4,h⟩
 ·refine TL.run ae [2,3] Z Z (TL.q Z (.g Z Z (C6 c4)) (AO ae Z) Z (TL.q Z (.g Z Z (C6 c4)) (AH 0 Z Dc Z Z) Z (TL.q Z (.g Z Z (C6 c4)) (AO ae Z) Z (TL.q Z .u (AP Z (C6 c4) Z) Z ?_))))
  rcases jF h with⟨c5,h⟩ | ⟨c5,h⟩
  ·refine TL.run ae [8] Z Z (TL.q Z (.g Z Z (C6 c5)) (AO ae Z) Z (TL.q Z (.g Z Z (C6 c5)) (AH 0 Z Dc Z Z) Z ?_))
   obtain⟨x6,hx7,h⟩:=C5 h
   refine Bc Z (.g Z Z (C6 c5)) (.fn Tryz.call78 Z) (BA (fun w=>eH a0.CI 4 _ hx7 w)) (fun _ _=>AQ _ _) Z (TL.q Z .u (AP Z (C6 c5) Z) Z ?_)
   rcases jF h with⟨c8,h⟩ | ⟨c8,h⟩
   ·refine TL.run ae [13] Z Z (TL.q Z (.g Z Z c8) (AO ae Z) Z (TL.q Z (.g Z Z c8) (AH 0 Z Dc Z Z) Z (TL.q Z (.g Z Z c8) (AO ae Z) Z (TL.q Z .u (AP Z c8 Z) Z ?_))))
    rcases jF h with⟨c9,h⟩ | ⟨c9,h⟩
    ·refine TL.run ae [18] Z Z (TL.q Z (.g Z Z (C6 c9)) (AO ae Z) Z (TL.q Z (.g Z Z (C6 c9)) (AH 0 Z Dc Z Z) Z ?_))
     obtain⟨x10,hx11,h⟩:=C5 h
     refine Bc Z (.g Z Z (C6 c9)) (.fn Tryz.call78 Z) (BA (fun w=>eH a0.CN 4 _ hx11 w)) (fun _ _=>AQ _ _) Z (TL.q Z .u (AP Z (C6 c9) Z) Z ?_)
     rcases jF h with⟨c12,h⟩ | ⟨c12,h⟩
     ·refine TL.run ae [23] Z Z (TL.q Z (.g Z Z c12) (AO ae Z) Z (TL.q Z (.g Z Z c12) (AH 0 Z Dc Z Z) Z (TL.q Z (.g Z Z c12) (AO ae Z) Z (TL.q Z (.g Z Z c12) (AH 0 Z Dc Z Z) Z (TL.q Z (.g Z Z c12) (Ex.addw Z Z) Z (TL.q Z (.g Z Z c12) (AO ae Z) Z (TL.q Z .u (AP Z c12 Z) Z ?_)))))))
      rcases jF h with⟨c13,h⟩ | ⟨c13,h⟩
      ·refine TL.run ae [31] Z Z (TL.q Z (.g Z Z (C6 c13)) (AO ae Z) Z (TL.q Z (.g Z Z (C6 c13)) (AH 0 Z Dc Z Z) Z (TL.q Z (.g Z Z (C6 c13)) (AO ae Z) Z (TL.q Z .u (AP Z (C6 c13) Z) Z ?_))))
       rcases jF h with⟨c14,h⟩ | ⟨c14,h⟩
       ·refine TL.run ae [36] Z Z (TL.q Z (.g Z Z (C6 c14)) (AO ae Z) Z (TL.q Z (.g Z Z (C6 c14)) (AH 0 Z Dc Z Z) Z (TL.q Z (.g Z Z (C6 c14)) (AO ae Z) Z (TL.q Z .u (AP Z (C6 c14) Z) Z (TL.run ae [41] Z Z ?_)))))
        rcases jF h with⟨c15,h⟩ | ⟨c15,h⟩
        ·obtain rfl:=C8 h
         exact TL.nil (X.seq (T.ret (AJ [1] Ey (AK (v:= .bool true) (congrArg (fun b=>some (Value.bool b)) (C6 c15))) ⟨Z,Z,Z⟩ (by rfl) (.inl Z))))
        ·obtain rfl:=C8 h
         exact TL.nil (X.seq (T.ret (AJ [1] Ey (AK (v:= .bool false) (congrArg (fun b=>some (Value.bool b)) (C7 c15))) ⟨Z,Z,Z⟩ (by rfl) (.inl Z))))
       ·refine TL.run ae [36] Z Z ?_
        iterate 3 refine AM Z (.gn Z Z (C7 c14)) Z ?_
        refine TL.q Z .u (AR Z (C7 c14) Z) Z (TL.run ae [41] Z Z ?_)
        obtain rfl:=C8 h
        exact TL.nil (X.seq (T.ret (AJ [1] Ey (AK Z) ⟨Z,Z,Z⟩ (by rfl) (.inl Z))))
      ·refine TL.run ae [31] Z Z ?_
       iterate 3 refine AM Z (.gn Z Z (C7 c13)) Z ?_
       refine TL.q Z .u (AR Z (C7 c13) Z) Z (TL.run ae [36] Z Z ?_)
       iterate 3 refine AM Z (.gn Z Z Z) Z ?_
       refine TL.q Z .u (AR Z Z Z) Z (TL.run ae [41] Z Z ?_)
       obtain rfl:=C8 h
       exact TL.nil (X.seq (T.ret (AJ [1] Ey (AK Z) ⟨Z,Z,Z⟩ (by rfl) (.inl Z))))
     ·replace c12:=Dd c12
      refine TL.run ae [23] Z Z ?_
      iterate 6 refine AM Z (.gn Z Z c12) Z ?_
      refine TL.q Z .u (AR Z c12 Z) Z (TL.run ae [31] Z Z ?_)
      iterate 3 refine AM Z (.gn Z Z Z) Z ?_
      refine TL.q Z .u (AR Z Z Z) Z (TL.run ae [36] Z Z ?_)
      iterate 3 refine AM Z (.gn Z Z Z) Z ?_
      refine TL.q Z .u (AR Z Z Z) Z (TL.run ae [41] Z Z ?_)
      obtain rfl:=C8 h
      exact TL.nil (X.seq (T.ret (AJ [1] Ey (AK Z) ⟨Z,Z,Z⟩ (by rfl) (.inl Z))))
    ·refine TL.run ae [18] Z Z ?_
     iterate 3 refine AM Z (.gn Z Z (C7 c9)) Z ?_
     refine TL.q Z .u (AR Z (C7 c9) Z) Z (TL.run ae [23] Z Z ?_)
     iterate 6 refine AM Z (.gn Z Z Z) Z ?_
     refine TL.q Z .u (AR Z Z Z) Z (TL.run ae [31] Z Z ?_)
     iterate 3 refine AM Z (.gn Z Z Z) Z ?_
     refine TL.q Z .u (AR Z Z Z) Z (TL.run ae [36] Z Z ?_)
     iterate 3 refine AM Z (.gn Z Z Z) Z ?_
     refine TL.q Z .u (AR Z Z Z) Z (TL.run ae [41] Z Z ?_)
     obtain rfl:=C8 h
     exact TL.nil (X.seq (T.ret (AJ [1] Ey (AK Z) ⟨Z,Z,Z⟩ (by rfl) (.inl Z))))
   ·replace c8:=Dd c8
    refine TL.run ae [13] Z Z ?_
    iterate 3 refine AM Z (.gn Z Z c8) Z ?_
    refine TL.q Z .u (AR Z c8 Z) Z (TL.run ae [18] Z Z ?_)
    iterate 3 refine AM Z (.gn Z Z Z) Z ?_
    refine TL.q Z .u (AR Z Z Z) Z (TL.run ae [23] Z Z ?_)
    iterate 6 refine AM Z (.gn Z Z Z) Z ?_
    refine TL.q Z .u (AR Z Z Z) Z (TL.run ae [31] Z Z ?_)
    iterate 3 refine AM Z (.gn Z Z Z) Z ?_
    refine TL.q Z .u (AR Z Z Z) Z (TL.run ae [36] Z Z ?_)
    iterate 3 refine AM Z (.gn Z Z Z) Z ?_
    refine TL.q Z .u (AR Z Z Z) Z (TL.run ae [41] Z Z ?_)
    obtain rfl:=C8 h
    exact TL.nil (X.seq (T.ret (AJ [1] Ey (AK Z) ⟨Z,Z,Z⟩ (by rfl) (.inl Z))))
  ·refine TL.run ae [8] Z Z ?_
   iterate 3 refine AM Z (.gn Z Z (C7 c5)) Z ?_
   refine TL.q Z .u (AR Z (C7 c5) Z) Z (TL.run ae [13] Z Z ?_)
   iterate 3 refine AM Z (.gn Z Z Z) Z ?_
   refine TL.q Z .u (AR Z Z Z) Z (TL.run ae [18] Z Z ?_)
   iterate 3 refine AM Z (.gn Z Z Z) Z ?_
   refine TL.q Z .u (AR Z Z Z) Z (TL.run ae [23] Z Z ?_)
   iterate 6 refine AM Z (.gn Z Z Z) Z ?_
   refine TL.q Z .u (AR Z Z Z) Z (TL.run ae [31] Z Z ?_)
   iterate 3 refine AM Z (.gn Z Z Z) Z ?_
   refine TL.q Z .u (AR Z Z Z) Z (TL.run ae [36] Z Z ?_)
   iterate 3 refine AM Z (.gn Z Z Z) Z ?_
   refine TL.q Z .u (AR Z Z Z) Z (TL.run ae [41] Z Z ?_)
   obtain rfl:=C8 h
   exact TL.nil (X.seq (T.ret (AJ [1] Ey (AK Z) ⟨Z,Z,Z⟩ (by rfl) (.inl Z))))
 ·refine TL.run ae [2,3] Z Z ?_
  iterate 3 refine AM Z (.gn Z Z (C7 c4)) Z ?_
  refine TL.q Z .u (AR Z (C7 c4) Z) Z (TL.run ae [8] Z Z ?_)
  iterate 3 refine AM Z (.gn Z Z Z) Z ?_
  refine TL.q Z .u (AR Z Z Z) Z (TL.run ae [13] Z Z ?_)
  iterate 3 refine AM Z (.gn Z Z Z) Z ?_
  refine TL.q Z .u (AR Z Z Z) Z (TL.run ae [18] Z Z ?_)
  iterate 3 refine AM Z (.gn Z Z Z) Z ?_
  refine TL.q Z .u (AR Z Z Z) Z (TL.run ae [23] Z Z ?_)
  iterate 6 refine AM Z (.gn Z Z Z) Z ?_
  refine TL.q Z .u (AR Z Z Z) Z (TL.run ae [31] Z Z ?_)
  iterate 3 refine AM Z (.gn Z Z Z) Z ?_
  refine TL.q Z .u (AR Z Z Z) Z (TL.run ae [36] Z Z ?_)
  iterate 3 refine AM Z (.gn Z Z Z) Z ?_
  refine TL.q Z .u (AR Z Z Z) Z (TL.run ae [41] Z Z ?_)
  obtain rfl:=C8 h
  exact TL.nil (X.seq (T.ret (AJ [1] Ey (AK Z) ⟨Z,Z,Z⟩ (by rfl) (.inl Z))))
def dJ (a0:Bat):Option (Bool):=if a0.CE=(-1) then (if a0.CK=(-1) then (if a0.CD=(-1) then (if a0.C0=true then some false else some true) else some false) else some false) else (if a0.CL=true then (if a0.CE≥0 then (if a0.CK≥0 then ((j6 a0.CK 2).bind fun x11=>if x11=true then (if a0.CD≥(-1) then ((j6 a0.CD 4).bind fun x15=>if x15=true then (if a0.CD=(-1) then some true else some false) else some false) else some false) else some false) else some false) else some false) else (if a0.CE≥0 then (if a0.CK≥0 then ((j6 a0.CK 2).bind fun x21=>if x21=true then (if a0.CD≥0 then ((j6 a0.CD 4).bind fun x25=>if x25=true then some true else some false) else some false) else some false) else some false) else some false))
theorem gE (a0:Bat) (A1:Option Addr) (c2:Nat) (r:Bool) (h:dJ a0=some r):aA Tryz.prog 93 #[.agg #[jI a0.CP,jI a0.CI,.bool a0.CV,.bool a0.C0,.bool a0.CL,jI a0.CN,jI a0.CH,jI a0.CW,jI a0.CE,jI a0.CK,jI a0.CD,.slice A1 a0.Cy.length c2]] (RX.of (ar 7 aU) [.slice A1 a0.Cy.length c2] a0.Cy) (aD) (fun v A' N=>v= .bool r∧A'=aD∧N = []):=by
 refine aM Tryz.func93 Z Tryz.ntmps93 Z ?_
 intro F w hX
 unfold dJ at h
 refine T.seq (T.region Z (TL.box Z .u Z Z (fun b3=>(TL.run ae [1] Z Z (TL.nil (X.seq (T.seq (T.seq (T.region Z (TL.run ae [0] Z Z (TL.q Z .u (AH 0 Z Dc Z Z) Z (TL.run ae [2] Z Z ?_))))))))))))
 rcases jF h with⟨c4,h⟩ | ⟨c4,h⟩
 ·refine TL.nil (X.seq (AN Z (C6 c4) (T.seq (T.region Z (TL.run ae [0] Z Z (TL.q Z .u (AH 0 Z Dc Z Z) Z ?_))))))
  rcases jF h with⟨c5,h⟩ | ⟨c5,h⟩
  ·refine TL.run ae [2,3] Z Z (TL.q Z (.g Z Z (C6 c5)) (AO ae Z) Z (TL.q Z (.g Z Z (C6 c5)) (AH 0 Z Dc Z Z) Z (TL.q Z (.g Z Z (C6 c5)) (AO ae Z) Z (TL.q Z .u (AP Z (C6 c5) Z) Z ?_))))
   rcases jF h with⟨c6,h⟩ | ⟨c6,h⟩
   ·refine TL.run ae [8] Z Z (TL.q Z (.g Z Z (C6 c6)) (AO ae Z) Z (TL.q Z (.g Z Z (C6 c6)) (AH 0 Z Do Z Z) Z (TL.q Z (.g Z Z (C6 c6)) (AO ae Z) Z (TL.q Z .u (AP Z (C6 c6) Z) Z (TL.run ae [13] Z Z ?_)))))
    rcases jF h with⟨c7,h⟩ | ⟨c7,h⟩
    ·obtain rfl:=C8 h
     exact TL.nil (X.seq (T.ret (AL (AJ [1] DY (AK (v:= .bool false) (congrArg (fun b=>some (Value.bool b)) (ax c7))) ⟨Z,Z,Z⟩ (by rfl) (.inl Z)))))
    ·replace c7:=Dd c7
     obtain rfl:=C8 h
     exact TL.nil (X.seq (T.ret (AL (AJ [1] DY (AK (v:= .bool true) (congrArg (fun b=>some (Value.bool b)) (aF c7))) ⟨Z,Z,Z⟩ (by rfl) (.inl Z)))))
   ·refine TL.run ae [8] Z Z ?_
    iterate 3 refine AM Z (.gn Z Z (C7 c6)) Z ?_
    refine TL.q Z .u (AR Z (C7 c6) Z) Z (TL.run ae [13] Z Z ?_)
    obtain rfl:=C8 h
    exact TL.nil (X.seq (T.ret (AL (AJ [1] DY (AK Z) ⟨Z,Z,Z⟩ (by rfl) (.inl Z)))))
  ·refine TL.run ae [2,3] Z Z ?_
   iterate 3 refine AM Z (.gn Z Z (C7 c5)) Z ?_
   refine TL.q Z .u (AR Z (C7 c5) Z) Z (TL.run ae [8] Z Z ?_)
   iterate 3 refine AM Z (.gn Z Z Z) Z ?_
   refine TL.q Z .u (AR Z Z Z) Z (TL.run ae [13] Z Z ?_)
   obtain rfl:=C8 h
   exact TL.nil (X.seq (T.ret (AL (AJ [1] DY (AK Z) ⟨Z,Z,Z⟩ (by rfl) (.inl Z)))))
 ·refine TL.nil (X.seq (AS Z (C7 c4) (T.skip (X.seq (T.seq (T.region Z (TL.run ae [0] Z Z (TL.nil (X.seq (T.seq (T.seq (T.region Z (TL.run ae [0] Z Z (TL.q Z .u (AH 0 Z Do Z Z) Z ?_))))))))))))))
  rcases jF h with⟨c8,h⟩ | ⟨c8,h⟩
  ·refine TL.nil (X.seq (AN Z c8 (T.region Z (TL.run ae [0] Z Z (TL.nil (X.seq (T.seq (T.region Z (TL.run ae [0] Z Z (TL.q Z .u (AH 0 Z Dc Z Z) Z ?_))))))))))
   rcases jF h with⟨c9,h⟩ | ⟨c9,h⟩
   ·refine TL.run ae [2,3] Z Z (TL.q Z (.g Z Z (C6 c9)) (AO ae Z) Z (TL.q Z (.g Z Z (C6 c9)) (AH 0 Z Dc Z Z) Z (TL.q Z (.g Z Z (C6 c9)) (AO ae Z) Z (TL.q Z .u (AP Z (C6 c9) Z) Z ?_))))
    rcases jF h with⟨c10,h⟩ | ⟨c10,h⟩
    ·refine TL.run ae [8] Z Z (TL.q Z (.g Z Z (C6 c10)) (AO ae Z) Z (TL.q Z (.g Z Z (C6 c10)) (AH 0 Z Dc Z Z) Z ?_))
     obtain⟨x11,hx12,h⟩:=C5 h
     refine Bc Z (.g Z Z (C6 c10)) (.fn Tryz.call78 Z) (BA (fun w=>eH a0.CK 2 _ hx12 w)) (fun _ _=>AQ _ _) Z (TL.q Z .u (AP Z (C6 c10) Z) Z ?_)
     rcases jF h with⟨c13,h⟩ | ⟨c13,h⟩
     ·refine TL.run ae [13] Z Z (TL.q Z (.g Z Z c13) (AO ae Z) Z (TL.q Z (.g Z Z c13) (AH 0 Z Dc Z Z) Z ?_))
      iterate 2 refine TL.q Z (.g Z Z c13) (AO ae Z) Z ?_
      refine TL.q Z .u (AP Z c13 Z) Z ?_
      rcases jF h with⟨c14,h⟩ | ⟨c14,h⟩
      ·refine TL.run ae [19] Z Z (TL.q Z (.g Z Z (C6 c14)) (AO ae Z) Z (TL.q Z (.g Z Z (C6 c14)) (AH 0 Z Dc Z Z) Z ?_))
       obtain⟨x15,hx16,h⟩:=C5 h
       refine Bc Z (.g Z Z (C6 c14)) (.fn Tryz.call78 Z) (BA (fun w=>eH a0.CD 4 _ hx16 w)) (fun _ _=>AQ _ _) Z (TL.q Z .u (AP Z (C6 c14) Z) Z ?_)
       rcases jF h with⟨c17,h⟩ | ⟨c17,h⟩
       ·refine TL.run ae [24] Z Z (TL.q Z (.g Z Z c17) (AO ae Z) Z (TL.q Z (.g Z Z c17) (AH 0 Z Do Z Z) Z ?_))
        iterate 2 refine TL.q Z (.g Z Z c17) (AO ae Z) Z ?_
        refine TL.q Z (.g Z Z (ax c8)) (AO ae Z) Z (TL.q Z (.g Z Z (ax c8)) (AH 0 Z Dc Z Z) Z (TL.q Z (.g Z Z (ax c8)) (AO ae Z) Z (TL.q Z (.g Z Z c17) (AR Z (ax c8) Z) Z (TL.q Z .u (AP Z c17 Z) Z (TL.run ae [34] Z Z ?_)))))
        rcases jF h with⟨c18,h⟩ | ⟨c18,h⟩
        ·obtain rfl:=C8 h
         exact TL.nil (X.seq (T.ret (AJ [1] DY (AK (v:= .bool true) (congrArg (fun b=>some (Value.bool b)) (C6 c18))) ⟨Z,Z,Z⟩ (by rfl) (.inl Z))))
        ·obtain rfl:=C8 h
         exact TL.nil (X.seq (T.ret (AJ [1] DY (AK (v:= .bool false) (congrArg (fun b=>some (Value.bool b)) (C7 c18))) ⟨Z,Z,Z⟩ (by rfl) (.inl Z))))
       ·replace c17:=Dd c17
        refine TL.run ae [24] Z Z ?_
        iterate 4 refine AM Z (.gn Z Z c17) Z ?_
        iterate 3 refine AM Z (.gu Z Z) Z ?_
        refine AM Z (.gn Z Z c17) Z (TL.q Z .u (AR Z c17 Z) Z (TL.run ae [34] Z Z ?_))
        obtain rfl:=C8 h
        exact TL.nil (X.seq (T.ret (AJ [1] DY (AK Z) ⟨Z,Z,Z⟩ (by rfl) (.inl Z))))
      ·refine TL.run ae [19] Z Z ?_
       iterate 3 refine AM Z (.gn Z Z (C7 c14)) Z ?_
       refine TL.q Z .u (AR Z (C7 c14) Z) Z (TL.run ae [24] Z Z ?_)
       iterate 4 refine AM Z (.gn Z Z Z) Z ?_
       iterate 3 refine AM Z (.gu Z Z) Z ?_
       refine AM Z (.gn Z Z Z) Z (TL.q Z .u (AR Z Z Z) Z (TL.run ae [34] Z Z ?_))
       obtain rfl:=C8 h
       exact TL.nil (X.seq (T.ret (AJ [1] DY (AK Z) ⟨Z,Z,Z⟩ (by rfl) (.inl Z))))
     ·replace c13:=Dd c13
      refine TL.run ae [13] Z Z ?_
      iterate 4 refine AM Z (.gn Z Z c13) Z ?_
      refine TL.q Z .u (AR Z c13 Z) Z (TL.run ae [19] Z Z ?_)
      iterate 3 refine AM Z (.gn Z Z Z) Z ?_
      refine TL.q Z .u (AR Z Z Z) Z (TL.run ae [24] Z Z ?_)
      iterate 4 refine AM Z (.gn Z Z Z) Z ?_
      iterate 3 refine AM Z (.gu Z Z) Z ?_
      refine AM Z (.gn Z Z Z) Z (TL.q Z .u (AR Z Z Z) Z (TL.run ae [34] Z Z ?_))
      obtain rfl:=C8 h
      exact TL.nil (X.seq (T.ret (AJ [1] DY (AK Z) ⟨Z,Z,Z⟩ (by rfl) (.inl Z))))
    ·refine TL.run ae [8] Z Z ?_
     iterate 3 refine AM Z (.gn Z Z (C7 c10)) Z ?_
     refine TL.q Z .u (AR Z (C7 c10) Z) Z (TL.run ae [13] Z Z ?_)
     iterate 4 refine AM Z (.gn Z Z Z) Z ?_
     refine TL.q Z .u (AR Z Z Z) Z (TL.run ae [19] Z Z ?_)
     iterate 3 refine AM Z (.gn Z Z Z) Z ?_
     refine TL.q Z .u (AR Z Z Z) Z (TL.run ae [24] Z Z ?_)
     iterate 4 refine AM Z (.gn Z Z Z) Z ?_
     iterate 3 refine AM Z (.gu Z Z) Z ?_
     refine AM Z (.gn Z Z Z) Z (TL.q Z .u (AR Z Z Z) Z (TL.run ae [34] Z Z ?_))
     obtain rfl:=C8 h
     exact TL.nil (X.seq (T.ret (AJ [1] DY (AK Z) ⟨Z,Z,Z⟩ (by rfl) (.inl Z))))
   ·refine TL.run ae [2,3] Z Z ?_
    iterate 3 refine AM Z (.gn Z Z (C7 c9)) Z ?_
    refine TL.q Z .u (AR Z (C7 c9) Z) Z (TL.run ae [8] Z Z ?_)
    iterate 3 refine AM Z (.gn Z Z Z) Z ?_
    refine TL.q Z .u (AR Z Z Z) Z (TL.run ae [13] Z Z ?_)
    iterate 4 refine AM Z (.gn Z Z Z) Z ?_
    refine TL.q Z .u (AR Z Z Z) Z (TL.run ae [19] Z Z ?_)
    iterate 3 refine AM Z (.gn Z Z Z) Z ?_
    refine TL.q Z .u (AR Z Z Z) Z (TL.run ae [24] Z Z ?_)
    iterate 4 refine AM Z (.gn Z Z Z) Z ?_
    iterate 3 refine AM Z (.gu Z Z) Z ?_
    refine AM Z (.gn Z Z Z) Z (TL.q Z .u (AR Z Z Z) Z (TL.run ae [34] Z Z ?_))
    obtain rfl:=C8 h
    exact TL.nil (X.seq (T.ret (AJ [1] DY (AK Z) ⟨Z,Z,Z⟩ (by rfl) (.inl Z))))
  ·replace c8:=Dd c8
   refine TL.nil (X.seq (AS Z c8 (T.skip (X.seq (T.seq (T.region Z (TL.run ae [0] Z Z (TL.q Z .u (AH 0 Z Dc Z Z) Z ?_))))))))
   rcases jF h with⟨c19,h⟩ | ⟨c19,h⟩
   ·refine TL.run ae [2,3] Z Z (TL.q Z (.g Z Z (C6 c19)) (AO ae Z) Z (TL.q Z (.g Z Z (C6 c19)) (AH 0 Z Dc Z Z) Z (TL.q Z (.g Z Z (C6 c19)) (AO ae Z) Z (TL.q Z .u (AP Z (C6 c19) Z) Z ?_))))
    rcases jF h with⟨c20,h⟩ | ⟨c20,h⟩
    ·refine TL.run ae [8] Z Z (TL.q Z (.g Z Z (C6 c20)) (AO ae Z) Z (TL.q Z (.g Z Z (C6 c20)) (AH 0 Z Dc Z Z) Z ?_))
     obtain⟨x21,hx22,h⟩:=C5 h
     refine Bc Z (.g Z Z (C6 c20)) (.fn Tryz.call78 Z) (BA (fun w=>eH a0.CK 2 _ hx22 w)) (fun _ _=>AQ _ _) Z (TL.q Z .u (AP Z (C6 c20) Z) Z ?_)
     rcases jF h with⟨c23,h⟩ | ⟨c23,h⟩
     ·refine TL.run ae [13] Z Z (TL.q Z (.g Z Z c23) (AO ae Z) Z (TL.q Z (.g Z Z c23) (AH 0 Z Dc Z Z) Z ?_))
      iterate 2 refine TL.q Z (.g Z Z c23) (AO ae Z) Z ?_
      refine TL.q Z .u (AP Z c23 Z) Z ?_
      rcases jF h with⟨c24,h⟩ | ⟨c24,h⟩
      ·refine TL.run ae [19] Z Z (TL.q Z (.g Z Z (C6 c24)) (AO ae Z) Z (TL.q Z (.g Z Z (C6 c24)) (AH 0 Z Dc Z Z) Z ?_))
       obtain⟨x25,hx26,h⟩:=C5 h
       refine Bc Z (.g Z Z (C6 c24)) (.fn Tryz.call78 Z) (BA (fun w=>eH a0.CD 4 _ hx26 w)) (fun _ _=>AQ _ _) Z (TL.q Z .u (AP Z (C6 c24) Z) Z ?_)
       rcases jF h with⟨c27,h⟩ | ⟨c27,h⟩
       ·refine TL.run ae [24] Z Z (TL.q Z (.g Z Z c27) (AO ae Z) Z (TL.q Z (.g Z Z c27) (AH 0 Z Do Z Z) Z ?_))
        iterate 2 refine TL.q Z (.g Z Z c27) (AO ae Z) Z ?_
        iterate 3 refine AM Z (.gn Z Z (aF c8)) Z ?_
        refine TL.q Z (.g Z Z c27) (AP Z (aF c8) Z) Z (TL.q Z .u (AP Z c27 Z) Z (TL.run ae [34] Z Z ?_))
        obtain rfl:=C8 h
        exact TL.nil (X.seq (T.ret (AJ [1] DY (AK Z) ⟨Z,Z,Z⟩ (by rfl) (.inl Z))))
       ·replace c27:=Dd c27
        refine TL.run ae [24] Z Z ?_
        iterate 4 refine AM Z (.gn Z Z c27) Z ?_
        iterate 3 refine AM Z (.gu Z Z) Z ?_
        refine AM Z (.gn Z Z c27) Z (TL.q Z .u (AR Z c27 Z) Z (TL.run ae [34] Z Z ?_))
        obtain rfl:=C8 h
        exact TL.nil (X.seq (T.ret (AJ [1] DY (AK Z) ⟨Z,Z,Z⟩ (by rfl) (.inl Z))))
      ·refine TL.run ae [19] Z Z ?_
       iterate 3 refine AM Z (.gn Z Z (C7 c24)) Z ?_
       refine TL.q Z .u (AR Z (C7 c24) Z) Z (TL.run ae [24] Z Z ?_)
       iterate 4 refine AM Z (.gn Z Z Z) Z ?_
       iterate 3 refine AM Z (.gu Z Z) Z ?_
       refine AM Z (.gn Z Z Z) Z (TL.q Z .u (AR Z Z Z) Z (TL.run ae [34] Z Z ?_))
       obtain rfl:=C8 h
       exact TL.nil (X.seq (T.ret (AJ [1] DY (AK Z) ⟨Z,Z,Z⟩ (by rfl) (.inl Z))))
     ·replace c23:=Dd c23
      refine TL.run ae [13] Z Z ?_
      iterate 4 refine AM Z (.gn Z Z c23) Z ?_
      refine TL.q Z .u (AR Z c23 Z) Z (TL.run ae [19] Z Z ?_)
      iterate 3 refine AM Z (.gn Z Z Z) Z ?_
      refine TL.q Z .u (AR Z Z Z) Z (TL.run ae [24] Z Z ?_)
      iterate 4 refine AM Z (.gn Z Z Z) Z ?_
      iterate 3 refine AM Z (.gu Z Z) Z ?_
      refine AM Z (.gn Z Z Z) Z (TL.q Z .u (AR Z Z Z) Z (TL.run ae [34] Z Z ?_))
      obtain rfl:=C8 h
      exact TL.nil (X.seq (T.ret (AJ [1] DY (AK Z) ⟨Z,Z,Z⟩ (by rfl) (.inl Z))))
    ·refine TL.run ae [8] Z Z ?_
     iterate 3 refine AM Z (.gn Z Z (C7 c20)) Z ?_
     refine TL.q Z .u (AR Z (C7 c20) Z) Z (TL.run ae [13] Z Z ?_)
     iterate 4 refine AM Z (.gn Z Z Z) Z ?_
     refine TL.q Z .u (AR Z Z Z) Z (TL.run ae [19] Z Z ?_)
     iterate 3 refine AM Z (.gn Z Z Z) Z ?_
     refine TL.q Z .u (AR Z Z Z) Z (TL.run ae [24] Z Z ?_)
     iterate 4 refine AM Z (.gn Z Z Z) Z ?_
     iterate 3 refine AM Z (.gu Z Z) Z ?_
     refine AM Z (.gn Z Z Z) Z (TL.q Z .u (AR Z Z Z) Z (TL.run ae [34] Z Z ?_))
     obtain rfl:=C8 h
     exact TL.nil (X.seq (T.ret (AJ [1] DY (AK Z) ⟨Z,Z,Z⟩ (by rfl) (.inl Z))))
   ·refine TL.run ae [2,3] Z Z ?_
    iterate 3 refine AM Z (.gn Z Z (C7 c19)) Z ?_
    refine TL.q Z .u (AR Z (C7 c19) Z) Z (TL.run ae [8] Z Z ?_)
    iterate 3 refine AM Z (.gn Z Z Z) Z ?_
    refine TL.q Z .u (AR Z Z Z) Z (TL.run ae [13] Z Z ?_)
    iterate 4 refine AM Z (.gn Z Z Z) Z ?_
    refine TL.q Z .u (AR Z Z Z) Z (TL.run ae [19] Z Z ?_)
    iterate 3 refine AM Z (.gn Z Z Z) Z ?_
    refine TL.q Z .u (AR Z Z Z) Z (TL.run ae [24] Z Z ?_)
    iterate 4 refine AM Z (.gn Z Z Z) Z ?_
    iterate 3 refine AM Z (.gu Z Z) Z ?_
    refine AM Z (.gn Z Z Z) Z (TL.q Z .u (AR Z Z Z) Z (TL.run ae [34] Z Z ?_))
    obtain rfl:=C8 h
    exact TL.nil (X.seq (T.ret (AJ [1] DY (AK Z) ⟨Z,Z,Z⟩ (by rfl) (.inl Z))))
def bh (a0:Bat):List Rec→Int→Int→Int→Option (Lp Int (Int×Int×Int))
 | [],y4,y5,y6=>some (Lp.go (y4,y5,y6))
 | x12::xs,y4,y5,y6=>if x12.CU≤y5 then some (Lp.ret 13) else (if x12.CU>a0.CN then some (Lp.ret 13) else (if (IntKind.i64.wrap (a0.CH+x12.CY))<0 then some (Lp.ret 11) else (if x12.CY>0 then (if (IntKind.i64.wrap (a0.CH+x12.CY))<x12.CY then some (Lp.ret 11) else (if y6<(IntKind.i64.wrap (a0.CH+x12.CY)) then (bh a0 xs y4 x12.CU (IntKind.i64.wrap (a0.CH+x12.CY))) else (bh a0 xs y4 x12.CU y6))) else (if y6<(IntKind.i64.wrap (a0.CH+x12.CY)) then (bh a0 xs y4 x12.CU (IntKind.i64.wrap (a0.CH+x12.CY))) else (bh a0 xs y4 x12.CU y6)))))
def cz (a0:Bat):Option (Int):=(bh a0 a0.Cy 0 (-1) a0.CH).bind fun e=>match e with | .ret r=>some r | .go (y27,y28,y29)=>(if a0.CV=true then some 0 else (if y29=a0.CW then some 0 else some 11))
theorem ic (a0:Bat) (A1:Option Addr) (c2:Nat) (r:Int) (h:cz a0=some r):aA Tryz.prog 95 #[.agg #[jI a0.CP,jI a0.CI,.bool a0.CV,.bool a0.C0,.bool a0.CL,jI a0.CN,jI a0.CH,jI a0.CW,jI a0.CE,jI a0.CK,jI a0.CD,.slice A1 a0.Cy.length c2]] (RX.of (ar 7 aU) [.slice A1 a0.Cy.length c2] a0.Cy) (aD) (fun v A' N=>v=jI r∧A'=aD∧N = []):=by
 refine aM Tryz.func95 Z Tryz.ntmps95 Z ?_
 intro F w hX
 unfold cz at h
 refine T.seq (T.region Z (TL.box Z .u Z Z (fun b3=>(TL.run ae [1] Z Z ?_))))
 refine TL.nil (X.seq (T.seq (Bd (.q 0 (.q 1 (.q 2 (.q 3 .nil)))) [0,0] Z gL (NoP.seq aP) (by kernel_rfl) ?_)))
 refine TD.run ae [0] Z Z (TD.q Z .u (AH 0 Z Dc Z Z) Z (TD.run ae [2,3] Z Z (TD.nil (X.seq (T.seq (T.seq (T.region Z (TL.run ae [0] Z Z (TL.q Z .u (AH 0 Z DA Z Z) Z (TL.q Z .u (AW Z Dl) Z (TL.run ae [3] Z Z ?_)))))))))))
 refine TL.nil (X.seq (T.block ?_))
 obtain⟨E8,hE9,hO10⟩:=C5 h
 have hk14len:=Bm hX
 refine Bj (fun m e Rs=> ∃ (y4:Int) (y5:Int) (y6:Int) (k7:Nat),k7+m=a0.Cy.length∧e = [(1,jP b3),(2,jI y4),(3,jI y5),(4,jI y6),(11,.slice A1 a0.Cy.length c2),(12,jI (a0.Cy.length:Int)),(13,jI (k7:Int))]∧Rs = [aC b3 27 #[jI a0.CP,jI a0.CI,.bool a0.CV,.bool a0.C0,.bool a0.CL,jI a0.CN,jI a0.CH,jI a0.CW,jI a0.CE,jI a0.CK,jI a0.CD,.slice A1 a0.Cy.length c2],aD]∧bh a0 (a0.Cy.drop k7) y4 y5 y6=some E8) (a0.Cy.length) [0,0] ⟨0,(-1),a0.CH,0,by simp,Z,Z,by rw[List.drop_zero]; exact hE9⟩ (by rfl) (by rfl) ?_
 rintro m11 _ _ ⟨y4,y5,y6,k7,hk14,rfl,rfl,hl13⟩
 clear hE9 h
 cases m11 with
 | zero =>
  have h:=hl13
  clear hl13
  rw[List.drop_of_length_le (by omega),bh] at h
  have hk14ge: ¬ ((k7:Int)<(a0.Cy.length:Int)):=by omega
  refine T.seq (T.region Z (TL.run ae [0] Z Z (TL.nil (X.seq (T.seq (AS Z (C7 hk14ge) ?_))))))
  obtain rfl:=C8 h
  replace h:=hO10
  clear hO10
  try dsimp only at h
  refine T.exit (AV (AV (Bh (X.seq (T.seq (T.seq (T.region Z (TL.run ae [0] Z Z (TL.q Z .u (AH 0 Z Do Z Z) Z ?_)))))))))
  rcases jF h with⟨c33,h⟩ | ⟨c33,h⟩
  ·refine TL.run ae [2,3] Z Z ?_
   iterate 4 refine AM Z (.gn Z Z (ax c33)) Z ?_
   refine TL.q Z .u (AR Z (ax c33) Z) Z (TL.nil (X.seq (AS Z Z (T.skip (X.seq (T.seq (T.region Z (TL.run ae [0] Z Z ?_))))))))
   obtain rfl:=C8 h
   exact TL.nil (X.seq (T.ret (AJ [1] EI (AK Z) ⟨Z,Z,Z⟩ (by rfl) (.inl Z))))
  ·replace c33:=Dd c33
   refine TL.run ae [2,3] Z Z ?_
   iterate 2 refine TL.q Z (.g Z Z (aF c33)) (AO ae Z) Z ?_
   refine TL.q Z (.g Z Z (aF c33)) (AH 0 Z Dc Z Z) Z (TL.q Z (.g Z Z (aF c33)) (AO ae Z) Z (TL.q Z .u (AP Z (aF c33) Z) Z ?_))
   rcases jF h with⟨c34,h⟩ | ⟨c34,h⟩
   ·refine TL.nil (X.seq (AS Z (ax (C6 c34)) (T.skip (X.seq (T.seq (T.region Z (TL.run ae [0] Z Z ?_)))))))
    obtain rfl:=C8 h
    exact TL.nil (X.seq (T.ret (AJ [1] EI (AK Z) ⟨Z,Z,Z⟩ (by rfl) (.inl Z))))
   ·refine TL.nil (X.seq (AN Z (aF (C7 c34)) (T.seq (T.region Z (TL.run ae [0] Z Z ?_)))))
    obtain rfl:=C8 h
    exact TL.nil (X.seq (T.ret (AL (AJ [1] EI (AK Z) ⟨Z,Z,Z⟩ (by rfl) (.inl Z)))))
 | succ m11 =>
  have h:=hl13
  clear hl13
  obtain⟨x12,hxx12⟩: ∃ x,a0.Cy[k7]? = some x:=⟨_,List.getElem?_eq_getElem (by omega)⟩
  rw[aX hxx12,bh] at h
  have hk14lt:(k7:Int)<(a0.Cy.length:Int):=by omega
  refine T.seq (T.region Z (TL.run ae [0] Z Z (TL.nil (X.seq (T.seq (AN Z (C6 hk14lt) ?_))))))
  obtain⟨gz15,oz15,rfl,z15cs,z15cl,z15cc,z15nf,z15r⟩:=Bb (by decide) hX hxx12
  obtain⟨z15S,z15r,z15rr⟩:=z15r
  obtain⟨A16,c17,rfl,z15s0⟩:=z15r
  have hX18:(RX.of (ar 3 bG) [.slice A16 x12.CF.length c17] x12.CF).reads w F:=⟨z15S,z15s0,z15rr⟩
  refine T.skip (X.seq (T.seq (T.block (T.seq (T.region Z ?_)))))
  refine TL.q Z .u (AX (k:=k7) Z Z Z Dl Dj (Da hxx12).1) Z ?_
  refine TL.q Z .u (Bn (us := [jI x12.CY,jI x12.CU,.bool x12.CJ.null,jS x12.CJ.data,.bool x12.Cz.null,jS x12.Cz.data,.slice A16 x12.CF.length c17]) 0 Z DE Dj z15nf z15cc Z Z Z) Z (TL.alloc Z .u Tryz.zeroValue38 Z (fun b19=>(A9 (cs':= #[jI x12.CY,jI x12.CU,.bool x12.CJ.null,jS x12.CJ.data,.bool x12.Cz.null,jS x12.Cz.data,.slice A16 x12.CF.length c17]) Z .u Z Z Dj Z Z Z Z (TL.nil (X.seq (T.seq (T.seq (T.region Z (TL.run ae [0] Z Z (TL.q Z .u (AH 0 Z Dc Z Z) Z ?_))))))))))
  rcases jF h with⟨c20,h⟩ | ⟨c20,h⟩
  ·refine TL.run ae [2,3,4] Z Z ?_
   iterate 5 refine AM Z (.gn Z Z (C6 c20)) Z ?_
   refine TL.q Z .u (AP Z (C6 c20) Z) Z (TL.nil (X.seq (AN Z Z (T.seq (T.region Z (TL.run ae [0] Z Z ?_))))))
   obtain rfl:=C8 h
   replace h:=hO10
   clear hO10
   try dsimp only at h
   obtain rfl:=C8 h
   exact TL.nil (X.seq (T.ret (AL (AU (AL (AL (AU (AL (AJ [2] EI (AK Z) ⟨Z,Z,Z⟩ (by rfl) (.inl Z))))))))))
  ·refine TL.run ae [2,3,4] Z Z (TL.q Z (.g Z Z (C7 c20)) (AO ae Z) Z (TL.q Z (.g Z Z (C7 c20)) (AH 0 Z Dc Z Z) Z (TL.q Z (.g Z Z (C7 c20)) (AO ae Z) Z (TL.q Z (.g Z Z (C7 c20)) (AH 1 Z Dc Z Z) Z (TL.q Z (.g Z Z (C7 c20)) (AO ae Z) Z (TL.q Z .u (AR Z (C7 c20) Z) Z ?_))))))
   rcases jF h with⟨c21,h⟩ | ⟨c21,h⟩
   ·refine TL.nil (X.seq (AN Z (C6 c21) (T.seq (T.region Z (TL.run ae [0] Z Z ?_)))))
    obtain rfl:=C8 h
    replace h:=hO10
    clear hO10
    try dsimp only at h
    obtain rfl:=C8 h
    exact TL.nil (X.seq (T.ret (AL (AU (AL (AL (AU (AL (AJ [2] EI (AK Z) ⟨Z,Z,Z⟩ (by rfl) (.inl Z))))))))))
   ·refine TL.nil (X.seq (AS Z (C7 c21) (T.skip (X.seq (T.seq (T.region Z (TL.run ae [0] Z Z (TL.q Z .u (AH 0 Z Dc Z Z) Z (TL.run ae [2] Z Z (TL.nil (X.seq (T.seq (T.region Z (TL.run ae [0] Z Z ?_))))))))))))))
    refine TL.q Z .u (AH 1 Z Dc Z Z) Z (TL.run ae [2] Z Z (TL.q Z .u (AH 0 Z Dc Z Z) Z (TL.q Z .u (Ex.addw Z Z) Z (TL.run ae [5] Z Z (TL.nil (X.seq (T.seq (T.seq (T.region Z ?_)))))))))
    rcases jF h with⟨c22,h⟩ | ⟨c22,h⟩
    ·refine TL.run ae [0,1,2] Z Z ?_
     iterate 4 refine AM Z (.gn Z Z (C6 c22)) Z ?_
     iterate 4 refine AM Z (.gu Z Z) Z ?_
     refine AM Z (.gn Z Z (C6 c22)) Z (TL.q Z .u (AP Z (C6 c22) Z) Z (TL.nil (X.seq (AN Z Z (T.seq (T.region Z (TL.run ae [0] Z Z ?_)))))))
     obtain rfl:=C8 h
     replace h:=hO10
     clear hO10
     try dsimp only at h
     obtain rfl:=C8 h
     exact TL.nil (X.seq (T.ret (AL (AU (AL (AL (AU (AL (AJ [2] EI (AK Z) ⟨Z,Z,Z⟩ (by rfl) (.inl Z))))))))))
    ·refine TL.run ae [0,1,2] Z Z (TL.q Z (.g Z Z (C7 c22)) (AO ae Z) Z (TL.q Z (.g Z Z (C7 c22)) (AH 0 Z Dc Z Z) Z ?_))
     iterate 2 refine TL.q Z (.g Z Z (C7 c22)) (AO ae Z) Z ?_
     rcases jF h with⟨c23,h⟩ | ⟨c23,h⟩
     ·refine TL.q Z (.g Z Z (C6 c23)) (AO ae Z) Z (TL.q Z (.g Z Z (C6 c23)) (AO ae Z) Z (TL.q Z (.g Z Z (C6 c23)) (AH 0 Z Dc Z Z) Z (TL.q Z (.g Z Z (C6 c23)) (AO ae Z) Z (TL.q Z (.g Z Z (C7 c22)) (AP Z (C6 c23) Z) Z (TL.q Z .u (AR Z (C7 c22) Z) Z ?_)))))
      rcases jF h with⟨c24,h⟩ | ⟨c24,h⟩
      ·refine TL.nil (X.seq (AN Z (C6 c24) (T.seq (T.region Z (TL.run ae [0] Z Z ?_)))))
       obtain rfl:=C8 h
       replace h:=hO10
       clear hO10
       try dsimp only at h
       obtain rfl:=C8 h
       exact TL.nil (X.seq (T.ret (AL (AU (AL (AL (AU (AL (AJ [2] EI (AK Z) ⟨Z,Z,Z⟩ (by rfl) (.inl Z))))))))))
      ·refine TL.nil (X.seq (AS Z (C7 c24) (T.skip (X.seq (T.region Z ?_)))))
       rcases jF h with⟨c25,h⟩ | ⟨c25,h⟩
       ·exact TL.run ae [0,1] Z Z (TL.q Z .u (Ex.maxy Z Z c25) Z (TL.run ae [3] Z Z (TL.nil (AZ (X.seq (T.region Z (TL.q Z .u (Ex.add Z Z (by omega)) Z (TL.run ae [1] Z Z (TL.nil (X.back (m':=m11) [1,1] (by omega) ⟨y4,x12.CU,(IntKind.i64.wrap (a0.CH+x12.CY)),k7+1,by omega,Z,Z,h⟩ (by rfl) (by rfl)))))))))))
       ·exact TL.run ae [0,1] Z Z (TL.q Z .u (Ex.maxx Z Z c25) Z (TL.run ae [3] Z Z (TL.nil (AZ (X.seq (T.region Z (TL.q Z .u (Ex.add Z Z (by omega)) Z (TL.run ae [1] Z Z (TL.nil (X.back (m':=m11) [1,1] (by omega) ⟨y4,x12.CU,y6,k7+1,by omega,Z,Z,h⟩ (by rfl) (by rfl)))))))))))
     ·refine AM Z (.gn Z Z (C7 c23)) Z ?_
      iterate 3 refine AM Z (.gn Z Z (C7 c23)) Z ?_
      refine TL.q Z (.g Z Z (C7 c22)) (AR Z (C7 c23) Z) Z (TL.q Z .u (AR Z (C7 c22) Z) Z (TL.nil (X.seq (AS Z Z (T.skip (X.seq (T.region Z ?_)))))))
      rcases jF h with⟨c26,h⟩ | ⟨c26,h⟩
      ·exact TL.run ae [0,1] Z Z (TL.q Z .u (Ex.maxy Z Z c26) Z (TL.run ae [3] Z Z (TL.nil (AZ (X.seq (T.region Z (TL.q Z .u (Ex.add Z Z (by omega)) Z (TL.run ae [1] Z Z (TL.nil (X.back (m':=m11) [1,1] (by omega) ⟨y4,x12.CU,(IntKind.i64.wrap (a0.CH+x12.CY)),k7+1,by omega,Z,Z,h⟩ (by rfl) (by rfl)))))))))))
      ·exact TL.run ae [0,1] Z Z (TL.q Z .u (Ex.maxx Z Z c26) Z (TL.run ae [3] Z Z (TL.nil (AZ (X.seq (T.region Z (TL.q Z .u (Ex.add Z Z (by omega)) Z (TL.run ae [1] Z Z (TL.nil (X.back (m':=m11) [1,1] (by omega) ⟨y4,x12.CU,y6,k7+1,by omega,Z,Z,h⟩ (by rfl) (by rfl)))))))))))
def cY:List Rec→Int→Option (Lp Int Int)
 | [],y13=>some (Lp.go y13)
 | x19::xs,y13=>(dL x19).bind fun x27=>if x27=0 then (cY xs y13) else some (Lp.ret x27)
def cZ:List Rec→Int→Option (Lp Int Int)
 | [],y61=>some (Lp.go y61)
 | x67::xs,y61=>(dL x67).bind fun x75=>if x75=0 then (cZ xs y61) else some (Lp.ret x75)
def co (a0:Bat):Option (Int):=(eT a0).bind fun x4=>if x4=true then (if a0.CL=true then (if a0.C0=true then ((dJ a0).bind fun x9=>if x9=true then (if (a0.Cy.length:Int)=1 then ((cY a0.Cy 0).bind fun e=>match e with | .ret r=>some r | .go y30=>((a0.Cy[0]?).bind fun x32=>(cn x32).bind fun (x38,x39,x40)=>if x40=0 then ((cz a0).bind fun x43=>some x43) else some x40)) else some 10) else some 11) else some 8) else ((dJ a0).bind fun x58=>if x58=true then ((cZ a0.Cy 0).bind fun e=>match e with | .ret r=>some r | .go y78=>((cz a0).bind fun x80=>some x80)) else some 11)) else some 11
theorem fY (a0:Bat) (A1:Option Addr) (c2:Nat) (r:Int) (h:co a0=some r):aA Tryz.prog 40 #[.agg #[jI a0.CP,jI a0.CI,.bool a0.CV,.bool a0.C0,.bool a0.CL,jI a0.CN,jI a0.CH,jI a0.CW,jI a0.CE,jI a0.CK,jI a0.CD,.slice A1 a0.Cy.length c2]] (RX.of (ar 7 aU) [.slice A1 a0.Cy.length c2] a0.Cy) (aD) (fun v A' N=>v=jI r∧A'=aD∧N = []):=by
 refine aM Tryz.func40 Z Tryz.ntmps40 Z ?_
 intro F w hX
 unfold co at h
 refine T.seq (T.region Z (TL.box Z .u Z Z (fun b3=>(TL.run ae [1] Z Z (TL.nil (X.seq (T.seq (T.block (T.seq (T.region Z (TL.q Z .u (AY (us := [jI a0.CP,jI a0.CI,.bool a0.CV,.bool a0.C0,.bool a0.CL,jI a0.CN,jI a0.CH,jI a0.CW,jI a0.CE,jI a0.CK,jI a0.CD,.slice A1 a0.Cy.length c2]) 0 Z Dx Di Z Z Z) Z ?_)))))))))))
 obtain⟨x4,hx5,h⟩:=C5 h
 refine Bc Z .u (.fn Tryz.call92 Z) (lv a0 _ _ _ hx5) (fun _ hs=>(Ba hs hX)) Z (TL.run ae [2,3] Z Z ?_)
 rcases jF h with⟨c6,h⟩ | ⟨c6,h⟩
 ·refine TL.nil (X.seq (AS Z (ax c6) (T.seq (T.region Z (TL.run ae [0] Z Z (TL.q Z .u (AH 0 Z Do Z Z) Z ?_))))))
  rcases jF h with⟨c7,h⟩ | ⟨c7,h⟩
  ·refine TL.run ae [2] Z Z (TL.q Z (.g Z Z c7) (AO ae Z) Z (TL.q Z (.g Z Z c7) (AH 0 Z Do Z Z) Z (TL.q Z (.g Z Z c7) (AO ae Z) Z (TL.q Z .u (AP Z c7 Z) Z (TL.run ae [7] Z Z ?_)))))
   rcases jF h with⟨c8,h⟩ | ⟨c8,h⟩
   ·refine TL.nil (X.seq (AS Z (ax c8) (T.seq (T.region Z (TL.q Z .u (AY (us := [jI a0.CP,jI a0.CI,.bool a0.CV,.bool a0.C0,.bool a0.CL,jI a0.CN,jI a0.CH,jI a0.CW,jI a0.CE,jI a0.CK,jI a0.CD,.slice A1 a0.Cy.length c2]) 0 Z Dx Di Z Z Z) Z ?_)))))
    obtain⟨x9,hx10,h⟩:=C5 h
    refine Bc Z .u (.fn Tryz.call93 Z) (gE a0 _ _ _ hx10) (fun _ hs=>(Ba hs hX)) Z (TL.run ae [2,3] Z Z ?_)
    rcases jF h with⟨c11,h⟩ | ⟨c11,h⟩
    ·refine TL.nil (X.seq (AS Z (ax c11) (T.seq (T.region Z (TL.run ae [0] Z Z (TL.q Z .u (AH 0 Z Do Z Z) Z (TL.run ae [2] Z Z (TL.q Z (.g Z Z c7) (AO ae Z) Z (TL.q Z (.g Z Z c7) (AH 0 Z DA Z Z) Z ?_)))))))))
     refine TL.q Z (.g Z Z c7) (AW Z Dl) Z (TL.q Z (.g Z Z c7) (AO ae Z) Z (TL.q Z .u (AP Z c7 Z) Z (TL.run ae [8] Z Z ?_)))
     rcases jF h with⟨c12,h⟩ | ⟨c12,h⟩
     ·refine TL.nil (X.seq (AS Z (ax (C6 c12)) (T.skip (AZ (X.seq (T.seq (T.seq (T.region Z (TL.run ae [0] Z Z (TL.q Z .u (AH 0 Z DA Z Z) Z (TL.q Z .u (AW Z Dl) Z (TL.run ae [3] Z Z (TL.nil (X.seq (T.block ?_)))))))))))))))
      obtain⟨E15,hE16,hO17⟩:=C5 h
      have hk21len:=Bm hX
      refine Bj (fun m e Rs=> ∃ (y13:Int) (k14:Nat),k14+m=a0.Cy.length∧e = [(1,jP b3),(2,jI y13),(35,.slice A1 a0.Cy.length c2),(36,jI (a0.Cy.length:Int)),(37,jI (k14:Int))]∧Rs = [aC b3 27 #[jI a0.CP,jI a0.CI,.bool a0.CV,.bool a0.C0,.bool a0.CL,jI a0.CN,jI a0.CH,jI a0.CW,jI a0.CE,jI a0.CK,jI a0.CD,.slice A1 a0.Cy.length c2],aD]∧cY (a0.Cy.drop k14) y13=some E15) (a0.Cy.length) [0,0] ⟨0,0,by simp,Z,Z,by rw[List.drop_zero]; exact hE16⟩ (by rfl) (by rfl) ?_
      rintro m18 _ _ ⟨y13,k14,hk21,rfl,rfl,hl20⟩
      clear hE16 h
      cases m18 with
      | zero =>
       have h:=hl20
       clear hl20
       rw[List.drop_of_length_le (by omega),cY] at h
       have hk21ge: ¬ ((k14:Int)<(a0.Cy.length:Int)):=by omega
       refine T.seq (T.region Z (TL.run ae [0] Z Z (TL.nil (X.seq (T.seq (AS Z (C7 hk21ge) ?_))))))
       obtain rfl:=C8 h
       replace h:=hO17
       clear hO17
       try dsimp only at h
       refine T.exit (AV (AV (Bh (X.seq (T.seq (T.seq (T.region Z (TL.run ae [0] Z Z (TL.q Z .u (AH 0 Z Do Z Z) Z (TL.nil (X.seq (AN Z c7 (T.seq (T.region Z (TL.run ae [0] Z Z (TL.q Z .u (AH 0 Z DA Z Z) Z ?_))))))))))))))))
       obtain⟨x45,hx46,h⟩:=C5 h
       obtain⟨gz47,oz47,rfl,z47cs,z47cl,z47cc,z47nf,z47r⟩:=Bb (by decide) hX hx46
       obtain⟨z47S,z47r,z47rr⟩:=z47r
       obtain⟨A48,c49,rfl,z47s0⟩:=z47r
       have hX50:(RX.of (ar 3 bG) [.slice A48 x45.CF.length c49] x45.CF).reads w F:=⟨z47S,z47s0,z47rr⟩
       refine TL.q Z .u (AX (k:=0) Z Z Z Dl Dj (Da hx46).1) Z ?_
       refine TL.q Z .u (Bn (us := [jI x45.CY,jI x45.CU,.bool x45.CJ.null,jS x45.CJ.data,.bool x45.Cz.null,jS x45.Cz.data,.slice A48 x45.CF.length c49]) 0 Z DE Dj z47nf z47cc Z Z Z) Z ?_
       obtain⟨⟨x51,x52,x53⟩,hx54,h⟩:=C5 h
       try dsimp only at h
       refine Bc Z .u (.fn Tryz.call50 Z) (l7 x45 _ _ _ hx54) (fun _ hs=>(Ba hs hX50)) Z (TL.run ae [5,6,7,8,9,10,11] Z Z (TL.nil (X.seq (T.seq (T.region Z (TL.run ae [0,1] Z Z ?_))))))
       rcases jF h with⟨c55,h⟩ | ⟨c55,h⟩
       ·refine TL.nil (X.seq (AS Z (ax (C6 c55)) (T.skip (X.seq (T.seq (T.region Z (TL.q Z .u (AY (us := [jI a0.CP,jI a0.CI,.bool a0.CV,.bool a0.C0,.bool a0.CL,jI a0.CN,jI a0.CH,jI a0.CW,jI a0.CE,jI a0.CK,jI a0.CD,.slice (some ⟨gz47,oz47,none⟩) a0.Cy.length c2]) 0 Z Dx Di Z Z Z) Z ?_)))))))
        obtain⟨x56,hx57,h⟩:=C5 h
        refine Bc Z .u (.fn Tryz.call95 Z) (ic a0 _ _ _ hx57) (fun _ hs=>(Ba hs hX)) Z (TL.run ae [2] Z Z ?_)
        obtain rfl:=C8 h
        exact TL.nil (X.seq (T.ret (AJ [1] Es (AK Z) ⟨Z,Z,Z⟩ (by rfl) (.inl Z))))
       ·refine TL.nil (X.seq (AN Z (aF (C7 c55)) (T.seq (T.region Z (TL.run ae [0,1] Z Z ?_)))))
        obtain rfl:=C8 h
        exact TL.nil (X.seq (T.ret (AL (AJ [1] Es (AK Z) ⟨Z,Z,Z⟩ (by rfl) (.inl Z)))))
      | succ m18 =>
       have h:=hl20
       clear hl20
       obtain⟨x19,hxx19⟩: ∃ x,a0.Cy[k14]? = some x:=⟨_,List.getElem?_eq_getElem (by omega)⟩
       rw[aX hxx19,cY] at h
       have hk21lt:(k14:Int)<(a0.Cy.length:Int):=by omega
       refine T.seq (T.region Z (TL.run ae [0] Z Z (TL.nil (X.seq (T.seq (AN Z (C6 hk21lt) ?_))))))
       obtain⟨gz22,oz22,rfl,z22cs,z22cl,z22cc,z22nf,z22r⟩:=Bb (by decide) hX hxx19
       obtain⟨z22S,z22r,z22rr⟩:=z22r
       obtain⟨A23,c24,rfl,z22s0⟩:=z22r
       have hX25:(RX.of (ar 3 bG) [.slice A23 x19.CF.length c24] x19.CF).reads w F:=⟨z22S,z22s0,z22rr⟩
       refine T.skip (X.seq (T.seq (T.block (T.seq (T.region Z ?_)))))
       refine TL.q Z .u (AX (k:=k14) Z Z Z Dl Dj (Da hxx19).1) Z ?_
       refine TL.q Z .u (Bn (us := [jI x19.CY,jI x19.CU,.bool x19.CJ.null,jS x19.CJ.data,.bool x19.Cz.null,jS x19.Cz.data,.slice A23 x19.CF.length c24]) 0 Z DE Dj z22nf z22cc Z Z Z) Z (TL.alloc Z .u Tryz.zeroValue38 Z (fun b26=>(A9 (cs':= #[jI x19.CY,jI x19.CU,.bool x19.CJ.null,jS x19.CJ.data,.bool x19.Cz.null,jS x19.Cz.data,.slice A23 x19.CF.length c24]) Z .u Z Z Dj Z Z Z Z (TL.nil (X.seq (T.seq (T.region Z (TL.q Z .u (AY (us := [jI x19.CY,jI x19.CU,.bool x19.CJ.null,jS x19.CJ.data,.bool x19.Cz.null,jS x19.Cz.data,.slice A23 x19.CF.length c24]) 0 Z DE Dj Z Z Z) Z ?_))))))))
       obtain⟨x27,hx28,h⟩:=C5 h
       refine Bc Z .u (.fn Tryz.call94 Z) (fI x19 _ _ _ hx28) (fun _ hs=>(Ba hs hX25)) Z (TL.run ae [2] Z Z (TL.nil (X.seq (T.seq (T.region Z (TL.run ae [0,1] Z Z ?_))))))
       rcases jF h with⟨c29,h⟩ | ⟨c29,h⟩
       ·exact TL.nil (X.seq (AS Z (ax (C6 c29)) (T.skip (AZ (X.seq (T.region Z (TL.q Z .u (Ex.add Z Z (by omega)) Z (TL.run ae [1] Z Z (TL.nil (X.back (m':=m18) [1,1] (by omega) ⟨y13,k14+1,by omega,Z,Z,h⟩ (by rfl) (by rfl)))))))))))
       ·refine TL.nil (X.seq (AN Z (aF (C7 c29)) (T.seq (T.region Z (TL.run ae [0,1] Z Z ?_)))))
        obtain rfl:=C8 h
        replace h:=hO17
        clear hO17
        try dsimp only at h
        obtain rfl:=C8 h
        exact TL.nil (X.seq (T.ret (AU (AL (AL (AU (AL (AJ [2] Es (AK Z) ⟨Z,Z,Z⟩ (by rfl) (.inl Z)))))))))
     ·refine TL.nil (X.seq (AN Z (aF (C7 c12)) (T.seq (T.region Z (TL.run ae [0] Z Z ?_)))))
      obtain rfl:=C8 h
      exact TL.nil (X.seq (T.ret (AU (AL (AJ [1] Es (AK Z) ⟨Z,Z,Z⟩ (by rfl) (.inl Z))))))
    ·replace c11:=Dd c11
     refine TL.nil (X.seq (AN Z (aF c11) (T.seq (T.region Z (TL.run ae [0] Z Z ?_)))))
     obtain rfl:=C8 h
     exact TL.nil (X.seq (T.ret (AU (AL (AJ [1] Es (AK Z) ⟨Z,Z,Z⟩ (by rfl) (.inl Z))))))
   ·replace c8:=Dd c8
    refine TL.nil (X.seq (AN Z (aF c8) (T.seq (T.region Z (TL.run ae [0] Z Z ?_)))))
    obtain rfl:=C8 h
    exact TL.nil (X.seq (T.ret (AU (AL (AJ [1] Es (AK Z) ⟨Z,Z,Z⟩ (by rfl) (.inl Z))))))
  ·replace c7:=Dd c7
   refine TL.run ae [2] Z Z ?_
   iterate 3 refine AM Z (.gn Z Z c7) Z ?_
   refine TL.q Z .u (AR Z c7 Z) Z (TL.run ae [7] Z Z (TL.nil (X.seq (AS Z Z (T.seq (T.region Z (TL.q Z .u (AY (us := [jI a0.CP,jI a0.CI,.bool a0.CV,.bool a0.C0,.bool a0.CL,jI a0.CN,jI a0.CH,jI a0.CW,jI a0.CE,jI a0.CK,jI a0.CD,.slice A1 a0.Cy.length c2]) 0 Z Dx Di Z Z Z) Z ?_)))))))
   obtain⟨x58,hx59,h⟩:=C5 h
   refine Bc Z .u (.fn Tryz.call93 Z) (gE a0 _ _ _ hx59) (fun _ hs=>(Ba hs hX)) Z (TL.run ae [2,3] Z Z ?_)
   rcases jF h with⟨c60,h⟩ | ⟨c60,h⟩
   ·refine TL.nil (X.seq (AS Z (ax c60) (T.seq (T.region Z (TL.run ae [0] Z Z (TL.q Z .u (AH 0 Z Do Z Z) Z (TL.run ae [2] Z Z ?_)))))))
    iterate 4 refine AM Z (.gn Z Z c7) Z ?_
    refine TL.q Z .u (AR Z c7 Z) Z (TL.run ae [8] Z Z (TL.nil (X.seq (AS Z Z (T.skip (AZ (X.seq (T.seq (T.seq (T.region Z (TL.run ae [0] Z Z (TL.q Z .u (AH 0 Z DA Z Z) Z (TL.q Z .u (AW Z Dl) Z ?_)))))))))))))
    refine TL.run ae [3] Z Z (TL.nil (X.seq (T.block ?_)))
    obtain⟨E63,hE64,hO65⟩:=C5 h
    have hk69len:=Bm hX
    refine Bj (fun m e Rs=> ∃ (y61:Int) (k62:Nat),k62+m=a0.Cy.length∧e = [(1,jP b3),(2,jI y61),(35,.slice A1 a0.Cy.length c2),(36,jI (a0.Cy.length:Int)),(37,jI (k62:Int))]∧Rs = [aC b3 27 #[jI a0.CP,jI a0.CI,.bool a0.CV,.bool a0.C0,.bool a0.CL,jI a0.CN,jI a0.CH,jI a0.CW,jI a0.CE,jI a0.CK,jI a0.CD,.slice A1 a0.Cy.length c2],aD]∧cZ (a0.Cy.drop k62) y61=some E63) (a0.Cy.length) [0,0] ⟨0,0,by simp,Z,Z,by rw[List.drop_zero]; exact hE64⟩ (by rfl) (by rfl) ?_
    rintro m66 _ _ ⟨y61,k62,hk69,rfl,rfl,hl68⟩
    clear hE64 h
    cases m66 with
    | zero =>
     have h:=hl68
     clear hl68
     rw[List.drop_of_length_le (by omega),cZ] at h
     have hk69ge: ¬ ((k62:Int)<(a0.Cy.length:Int)):=by omega
     refine T.seq (T.region Z (TL.run ae [0] Z Z (TL.nil (X.seq (T.seq (AS Z (C7 hk69ge) ?_))))))
     obtain rfl:=C8 h
     replace h:=hO65
     clear hO65
     try dsimp only at h
     refine T.exit (AV (AV (Bh (X.seq (T.seq (T.seq (T.region Z (TL.run ae [0] Z Z (TL.q Z .u (AH 0 Z Do Z Z) Z (TL.nil (X.seq (AS Z c7 (T.skip (X.seq (T.seq (T.region Z (TL.q Z .u (AY (us := [jI a0.CP,jI a0.CI,.bool a0.CV,.bool a0.C0,.bool a0.CL,jI a0.CN,jI a0.CH,jI a0.CW,jI a0.CE,jI a0.CK,jI a0.CD,.slice A1 a0.Cy.length c2]) 0 Z Dx Di Z Z Z) Z ?_)))))))))))))))))
     obtain⟨x82,hx83,h⟩:=C5 h
     refine Bc Z .u (.fn Tryz.call95 Z) (ic a0 _ _ _ hx83) (fun _ hs=>(Ba hs hX)) Z (TL.run ae [2] Z Z ?_)
     obtain rfl:=C8 h
     exact TL.nil (X.seq (T.ret (AJ [1] Es (AK Z) ⟨Z,Z,Z⟩ (by rfl) (.inl Z))))
    | succ m66 =>
     have h:=hl68
     clear hl68
     obtain⟨x67,hxx67⟩: ∃ x,a0.Cy[k62]? = some x:=⟨_,List.getElem?_eq_getElem (by omega)⟩
     rw[aX hxx67,cZ] at h
     have hk69lt:(k62:Int)<(a0.Cy.length:Int):=by omega
     refine T.seq (T.region Z (TL.run ae [0] Z Z (TL.nil (X.seq (T.seq (AN Z (C6 hk69lt) ?_))))))
     obtain⟨gz70,oz70,rfl,z70cs,z70cl,z70cc,z70nf,z70r⟩:=Bb (by decide) hX hxx67
     obtain⟨z70S,z70r,z70rr⟩:=z70r
     obtain⟨A71,c72,rfl,z70s0⟩:=z70r
     have hX73:(RX.of (ar 3 bG) [.slice A71 x67.CF.length c72] x67.CF).reads w F:=⟨z70S,z70s0,z70rr⟩
     refine T.skip (X.seq (T.seq (T.block (T.seq (T.region Z ?_)))))
     refine TL.q Z .u (AX (k:=k62) Z Z Z Dl Dj (Da hxx67).1) Z ?_
     refine TL.q Z .u (Bn (us := [jI x67.CY,jI x67.CU,.bool x67.CJ.null,jS x67.CJ.data,.bool x67.Cz.null,jS x67.Cz.data,.slice A71 x67.CF.length c72]) 0 Z DE Dj z70nf z70cc Z Z Z) Z (TL.alloc Z .u Tryz.zeroValue38 Z (fun b74=>(A9 (cs':= #[jI x67.CY,jI x67.CU,.bool x67.CJ.null,jS x67.CJ.data,.bool x67.Cz.null,jS x67.Cz.data,.slice A71 x67.CF.length c72]) Z .u Z Z Dj Z Z Z Z (TL.nil (X.seq (T.seq (T.region Z (TL.q Z .u (AY (us := [jI x67.CY,jI x67.CU,.bool x67.CJ.null,jS x67.CJ.data,.bool x67.Cz.null,jS x67.Cz.data,.slice A71 x67.CF.length c72]) 0 Z DE Dj Z Z Z) Z ?_))))))))
     obtain⟨x75,hx76,h⟩:=C5 h
     refine Bc Z .u (.fn Tryz.call94 Z) (fI x67 _ _ _ hx76) (fun _ hs=>(Ba hs hX73)) Z (TL.run ae [2] Z Z (TL.nil (X.seq (T.seq (T.region Z (TL.run ae [0,1] Z Z ?_))))))
     rcases jF h with⟨c77,h⟩ | ⟨c77,h⟩
     ·exact TL.nil (X.seq (AS Z (ax (C6 c77)) (T.skip (AZ (X.seq (T.region Z (TL.q Z .u (Ex.add Z Z (by omega)) Z (TL.run ae [1] Z Z (TL.nil (X.back (m':=m66) [1,1] (by omega) ⟨y61,k62+1,by omega,Z,Z,h⟩ (by rfl) (by rfl)))))))))))
     ·refine TL.nil (X.seq (AN Z (aF (C7 c77)) (T.seq (T.region Z (TL.run ae [0,1] Z Z ?_)))))
      obtain rfl:=C8 h
      replace h:=hO65
      clear hO65
      try dsimp only at h
      obtain rfl:=C8 h
      exact TL.nil (X.seq (T.ret (AU (AL (AL (AU (AL (AJ [2] Es (AK Z) ⟨Z,Z,Z⟩ (by rfl) (.inl Z)))))))))
   ·replace c60:=Dd c60
    refine TL.nil (X.seq (AN Z (aF c60) (T.seq (T.region Z (TL.run ae [0] Z Z ?_)))))
    obtain rfl:=C8 h
    exact TL.nil (X.seq (T.ret (AU (AL (AJ [1] Es (AK Z) ⟨Z,Z,Z⟩ (by rfl) (.inl Z))))))
 ·replace c6:=Dd c6
  refine TL.nil (X.seq (AN Z (aF c6) (T.seq (T.region Z (TL.run ae [0] Z Z ?_)))))
  obtain rfl:=C8 h
  exact TL.nil (X.seq (T.ret (AU (AL (AJ [1] Es (AK Z) ⟨Z,Z,Z⟩ (by rfl) (.inl Z))))))
def cL:List Rec→(List UInt8×Int)→Option (List UInt8×Int)
 | [],st9=>some st9
 | x14::xs,st9=>(fk st9 x14).bind fun st22=>cL xs st22
def fo (a0:Bat):Option (List UInt8×Int):=(co a0).bind fun x4=>if x4=0 then ((cL a0.Cy ([],0)).bind fun st25=>(jJ st25).bind fun (x26,x27,st28)=>if -9223372036854775808≤(49+(x26.length:Int))∧(49+(x26.length:Int))≤9223372036854775807 then ((gAOf a0).bind fun x31=>(bV ([],0) (⟨a0.CP,(49+(x26.length:Int)),a0.CI,0,x31,a0.CN,a0.CH,a0.CW,a0.CE,a0.CK,a0.CD,(a0.Cy.length:Int)⟩:Pfx)).bind fun st35=>(jJ st35).bind fun (x37,x38,st39)=>(if x27=0 then (if x38=0 then some false else some true) else some true).bind fun y42=>if y42=true then some ([],11) else ((iQ).bind fun st47=>if 21≤x37.length then ((ew st47 [(x37.drop 21),x26]).bind fun (x52,st53)=>if -9223372036854775808≤x52∧x52≤9223372036854775807 then ((bV ([],0) (⟨a0.CP,(49+(x26.length:Int)),a0.CI,x52,x31,a0.CN,a0.CH,a0.CW,a0.CE,a0.CK,a0.CD,(a0.Cy.length:Int)⟩:Pfx)).bind fun st56=>(wn st56 x26).bind fun st58=>(jJ st58).bind fun (x60,x61,st62)=>some (x60,x61)) else none) else none)) else none) else some ([],x4)
theorem l8 (a0:Bat) (A1:Option Addr) (c2:Nat) (r:List UInt8×Int) (h:fo a0=some r):aA Tryz.prog 41 #[.agg #[jI a0.CP,jI a0.CI,.bool a0.CV,.bool a0.C0,.bool a0.CL,jI a0.CN,jI a0.CH,jI a0.CW,jI a0.CE,jI a0.CK,jI a0.CD,.slice A1 a0.Cy.length c2]] (RX.of (ar 7 aU) [.slice A1 a0.Cy.length c2] a0.Cy) (aD) (fun v A' N=>v= .tuple #[jS r.1,jI r.2]∧A'=aD∧N = []):=by
 refine aM Tryz.func41 Z Tryz.ntmps41 Z ?_
 intro F w hX
 unfold fo at h
 refine T.seq (T.region Z (TL.box Z .u Z Z (fun b3=>(TL.run ae [1,2] Z Z (TL.nil (X.seq (T.seq (T.seq (T.region Z (TL.q Z .u (AY (us := [jI a0.CP,jI a0.CI,.bool a0.CV,.bool a0.C0,.bool a0.CL,jI a0.CN,jI a0.CH,jI a0.CW,jI a0.CE,jI a0.CK,jI a0.CD,.slice A1 a0.Cy.length c2]) 0 Z Dx Di Z Z Z) Z ?_))))))))))
 obtain⟨x4,hx5,h⟩:=C5 h
 refine Bc Z .u (.fn Tryz.call40 Z) (fY a0 _ _ _ hx5) (fun _ hs=>(Ba hs hX)) Z (TL.run ae [2] Z Z (TL.nil (X.seq (T.seq (T.region Z (TL.run ae [0,1] Z Z ?_))))))
 rcases jF h with⟨c6,h⟩ | ⟨c6,h⟩
 ·refine TL.nil (X.seq (AS Z (ax (C6 c6)) (T.skip (X.seq (T.seq (T.region Z (Ce Z .u Tryz.zeroValue66 Z (fun b7=>(TL.nil (X.seq (T.seq (T.seq (T.region Z (TL.run ae [0] Z Z (TL.q Z .u (AH 1 Z DA Z Z) Z (TL.q Z .u (AW Z Dl) Z ?_))))))))))))))))
  refine TL.run ae [3] Z Z (TL.nil (X.seq (T.block ?_)))
  obtain⟨E10,hE11,hO12⟩:=C5 h
  have hk16len:=Bm hX
  refine Bj (fun m e Rs=> ∃ (k8:Nat) (st9:List UInt8×Int),k8+m=a0.Cy.length∧e = [(1,jP b3),(2,.string ⟨#[]⟩),(3,jI 0),(5,jP b7),(20,.slice A1 a0.Cy.length c2),(21,jI (a0.Cy.length:Int)),(22,jI (k8:Int))]∧Rs = [ba b7 st9,aC b3 27 #[jI a0.CP,jI a0.CI,.bool a0.CV,.bool a0.C0,.bool a0.CL,jI a0.CN,jI a0.CH,jI a0.CW,jI a0.CE,jI a0.CK,jI a0.CD,.slice A1 a0.Cy.length c2],aD]∧cL (a0.Cy.drop k8) st9=some E10) (a0.Cy.length) [0,0,0] ⟨0,([],0),by simp,Z,Z,by rw[List.drop_zero]; exact hE11⟩ (by rfl) (by rfl) ?_
  rintro m13 _ _ ⟨k8,st9,hk16,rfl,rfl,hl15⟩
  clear hE11 h
  cases m13 with
  | zero =>
   have h:=hl15
   clear hl15
   rw[List.drop_of_length_le (by omega),cL] at h
   have hk16ge: ¬ ((k8:Int)<(a0.Cy.length:Int)):=by omega
   refine T.seq (T.region Z (TL.run ae [0] Z Z (TL.nil (X.seq (T.seq (AS Z (C7 hk16ge) ?_))))))
   obtain rfl:=C8 h
   replace h:=hO12
   clear hO12
   try dsimp only at h
   obtain⟨⟨x64,x65,st66⟩,hx67,h⟩:=C5 h
   try dsimp only at h
   refine T.exit (AV (AV (Bh (X.seq (T.seq (T.region Z (Bu Z .u (.fn Tryz.call28 Z) (fe b7 st9 _ hx67) (fun _ hs=>(Src.triv _)) Z (TL.run ae [1,2,3,4,5] Z Z ?_))))))))
   replace h:=an h
   obtain⟨c68,h⟩:=h
   obtain⟨x69,hx70,h⟩:=C5 h
   refine TL.nil (X.seq (T.seq ?_))
   refine Cn (fun e Rs=> ∃ (b71:Nat),e = [(1,jP b3),(2,.string ⟨#[]⟩),(3,jI 0),(5,jP b7),(8,jS x64),(9,jI x65),(10,jP b71),(20,.slice A1 a0.Cy.length c2),(21,jI (a0.Cy.length:Int)),(22,jI (k8:Int)),(23,.bool (decide ((k8:Int)<(a0.Cy.length:Int)))),(29,.tuple #[jS x64,jI x65]),(30,.tuple #[jS x64,jI x65]),(31,jS x64),(32,jI x65)]∧Rs = [aC b71 160 #[jI a0.CP,jI (49+(x64.length:Int)),jI a0.CI,jI 0,jI x69,jI a0.CN,jI a0.CH,jI a0.CW,jI a0.CE,jI a0.CK,jI a0.CD,jI (a0.Cy.length:Int)],ba b7 st66,aC b3 27 #[jI a0.CP,jI a0.CI,.bool a0.CV,.bool a0.C0,.bool a0.CL,jI a0.CN,jI a0.CH,jI a0.CW,jI a0.CE,jI a0.CK,jI a0.CD,.slice A1 a0.Cy.length c2],aD]) ?_ ?_
   ·refine Bd (.q 0 (.q 1 (.q 2 (.q 3 (.q 4 (.q 5 (.q 6 (.q 7 (.q 9 (.q 10 (.q 11 (.q 12 (.q 13 (.q 14 (.q 15 (.q 16 (.q 17 (.q 18 (.q 19 (.q 20 (.q 21 (.q 22 (.q 23 (.br 8 (.q 24 (.e 25 (.e 26 .nil))) (.e 25 (.e 8 (.q 24 (.e 26 .nil)))))))))))))))))))))))))))) [0,0,0] Z gL oZ (by kernel_rfl) ?_
    refine TD.run ae [0] Z Z (TD.q Z .u (AH 1 Z Dc Z Z) Z (TD.run ae [2] Z Z (TD.q Z .u (Br Z Dm) Z (TD.q Z .u (Ex.add Z Z c68) Z (TD.run ae [5] Z Z (TD.q Z .u (AH 1 Z Dc Z Z) Z (TD.q Z .u (AY (us := [jI a0.CP,jI a0.CI,.bool a0.CV,.bool a0.C0,.bool a0.CL,jI a0.CN,jI a0.CH,jI a0.CW,jI a0.CE,jI a0.CK,jI a0.CD,.slice A1 a0.Cy.length c2]) 1 Z Dx Di Z Z Z) Z ?_)))))))
    refine TD.run ae [9] Z Z (TD.q Z .u (AH 1 Z Dc Z Z) Z (TD.run ae [11] Z Z (TD.q Z .u (AH 1 Z Dc Z Z) Z (TD.run ae [13] Z Z (TD.q Z .u (AH 1 Z Dc Z Z) Z (TD.run ae [15] Z Z (TD.q Z .u (AH 1 Z Dc Z Z) Z ?_)))))))
    refine TD.run ae [17] Z Z (TD.q Z .u (AH 1 Z Dc Z Z) Z (TD.run ae [19] Z Z (TD.q Z .u (AH 1 Z Dc Z Z) Z (TD.run ae [21] Z Z (TD.q Z .u (AH 1 Z DA Z Z) Z (TD.q Z .u (AW Z Dl) Z ?_))))))
    refine TD.br ?_ ?_
    ·refine Bk Z .u (.fn Tryz.call97 Z) (rZ a0 _ _ _ hx70) (fun _ hs=>(Ba hs hX)) Z [0,0,0] (Z) ?_
     refine TD.q Z .u (Bg (cells:= #[jI a0.CP,jI (49+(x64.length:Int)),jI a0.CI,jI 0,jI x69,jI a0.CN,jI a0.CH,jI a0.CW,jI a0.CE,jI a0.CK,jI a0.CD,jI (a0.Cy.length:Int)]) mm Z (by kernel_rfl)) Z ?_
     exact TD.alloc Z .u Tryz.zeroValue160 Z [1,1,1] (fun _=>Z) (fun b71=>(TD.st0 (cs':= #[jI a0.CP,jI (49+(x64.length:Int)),jI a0.CI,jI 0,jI x69,jI a0.CN,jI a0.CH,jI a0.CW,jI a0.CE,jI a0.CK,jI a0.CD,jI (a0.Cy.length:Int)]) Z .u Z Z Ei Z Z Z Z [1,1,1] (Z) (TD.nil (BR [0,0,0,0] ⟨b71,Z,Z⟩ (by rfl) (by rfl)))))
    ·refine TD.alloc Z .u Tryz.zeroValue160 Z [1,1,1] (fun _=>Z) (fun b71=>(Bk Z .u (.fn Tryz.call97 Z) (rZ a0 _ _ _ hx70) (fun _ hs=>(Ba hs hX)) Z [1,1,1] (Z) ?_))
     refine TD.q Z .u (Bg (cells:= #[jI a0.CP,jI (49+(x64.length:Int)),jI a0.CI,jI 0,jI x69,jI a0.CN,jI a0.CH,jI a0.CW,jI a0.CE,jI a0.CK,jI a0.CD,jI (a0.Cy.length:Int)]) mm Z (by kernel_rfl)) Z ?_
     exact TD.st0 (cs':= #[jI a0.CP,jI (49+(x64.length:Int)),jI a0.CI,jI 0,jI x69,jI a0.CN,jI a0.CH,jI a0.CW,jI a0.CE,jI a0.CK,jI a0.CD,jI (a0.Cy.length:Int)]) Z .u Z Z Ei Z Z Z Z [1,1,1] (Z) (TD.nil (BR [0,0,0,0] ⟨b71,Z,Z⟩ (by rfl) (by rfl)))
   ·rintro _ _ ⟨b71,rfl,rfl⟩
    refine X.seq (T.seq (T.region Z (Ce Z .u Tryz.zeroValue66 Z (fun b72=>(TL.nil (X.seq (T.seq (T.region Z (TL.q Z .u (AY (us := [jI a0.CP,jI (49+(x64.length:Int)),jI a0.CI,jI 0,jI x69,jI a0.CN,jI a0.CH,jI a0.CW,jI a0.CE,jI a0.CK,jI a0.CD,jI (a0.Cy.length:Int)]) 1 Z EM Ei Z Z Z) Z ?_)))))))))
    obtain⟨st73,hx74,h⟩:=C5 h
    refine Bu Z .u (.fn Tryz.call98 Z) (fJ b72 ([],0) (⟨a0.CP,(49+(x64.length:Int)),a0.CI,0,x69,a0.CN,a0.CH,a0.CW,a0.CE,a0.CK,a0.CD,(a0.Cy.length:Int)⟩:Pfx) _ hx74) (fun _ hs=>(Src.triv _)) Z ?_
    obtain⟨⟨x75,x76,st77⟩,hx78,h⟩:=C5 h
    try dsimp only at h
    refine TL.nil (X.seq (T.seq (T.region Z (Bu Z .u (.fn Tryz.call28 Z) (fe b72 st73 _ hx78) (fun _ hs=>(Src.triv _)) Z (TL.run ae [1,2,3,4,5] Z Z (TL.nil (X.seq (T.seq (T.seq ?_)))))))))
    obtain⟨y80,h,hk81⟩:=C5 h
    refine BE (fun e Rs=>e = [(2,.string ⟨#[]⟩),(3,jI 0),(8,jS x64),(10,jP b71),(11,jP b72),(12,jS x75),(69,.bool y80)]∧Rs = [ba b72 st77,aC b71 160 #[jI a0.CP,jI (49+(x64.length:Int)),jI a0.CI,jI 0,jI x69,jI a0.CN,jI a0.CH,jI a0.CW,jI a0.CE,jI a0.CK,jI a0.CD,jI (a0.Cy.length:Int)],ba b7 st66,aC b3 27 #[jI a0.CP,jI a0.CI,.bool a0.CV,.bool a0.C0,.bool a0.CL,jI a0.CN,jI a0.CH,jI a0.CW,jI a0.CE,jI a0.CK,jI a0.CD,.slice A1 a0.Cy.length c2],aD]) ?_ ?_
    ·clear hk81
     refine T.region Z ?_
     rcases jF h with⟨c82,h⟩ | ⟨c82,h⟩
     ·refine TL.run ae [0,1,2] Z Z ?_
      iterate 2 refine TL.q Z (.g Z Z (ax (C6 c82))) (AO ae Z) Z ?_
      refine TL.q Z .u (AR Z (ax (C6 c82)) Z) Z ?_
      rcases jF h with⟨c83,h⟩ | ⟨c83,h⟩
      ·cases h
       exact TL.nil (Bw (d:=69) (v':= .bool false) Z (congrArg Value.bool (ax (C6 c83))) (A5 [0,0,0,0,0] ⟨Z,Z⟩ (by rfl) (by rfl)))
      ·cases h
       exact TL.nil (Bw (d:=69) (v':= .bool true) Z (congrArg Value.bool (aF (C7 c83))) (A5 [0,0,0,0,0] ⟨Z,Z⟩ (by rfl) (by rfl)))
     ·refine TL.run ae [0,1,2] Z Z ?_
      iterate 2 refine AM Z (.gn Z Z (aF (C7 c82))) Z ?_
      refine TL.q Z .u (AP Z (aF (C7 c82)) Z) Z ?_
      cases h
      exact TL.nil (A5 [0,0,0,0,0] ⟨Z,Z⟩ (by rfl) (by rfl))
    ·rintro _ _ ⟨rfl,rfl⟩
     clear h
     have h:=hk81
     clear hk81
     try dsimp only at h
     rcases jF h with⟨c84,h⟩ | ⟨c84,h⟩
     ·refine X.seq (AN Z c84 (T.seq (T.region Z (TL.run ae [0,1] Z Z ?_))))
      obtain rfl:=C8 h
      exact TL.nil (X.seq (T.ret (AL (Bi [4] Tryz.results41 (AK Z) (AK Z) ⟨Z,Z,Z⟩ (by rfl) (.inl Z)))))
     ·replace c84:=Dd c84
      refine X.seq (AS Z c84 ?_)
      obtain⟨st85,hx86,h⟩:=C5 h
      replace h:=an h
      obtain⟨c88,h⟩:=h
      obtain⟨⟨x90,st91⟩,hx92,h⟩:=C5 h
      try dsimp only at h
      replace h:=an h
      obtain⟨c93,h⟩:=h
      refine T.skip (X.seq (T.seq ?_))
      refine Cn (fun e Rs=> ∃ (b87:Nat) (b89:Nat),e = [(2,.string ⟨#[]⟩),(3,jI 0),(8,jS x64),(10,jP b71),(11,jP b72),(69,.bool y80)]∧Rs = [bp 9 1 sH (.slice (some ⟨b89,0,none⟩) 2 2) [(x75.drop 21),x64],ju 205 b87 st91,ba b72 st77,aC b71 160 #[jI a0.CP,jI (49+(x64.length:Int)),jI a0.CI,jI x90,jI x69,jI a0.CN,jI a0.CH,jI a0.CW,jI a0.CE,jI a0.CK,jI a0.CD,jI (a0.Cy.length:Int)],ba b7 st66,aC b3 27 #[jI a0.CP,jI a0.CI,.bool a0.CV,.bool a0.C0,.bool a0.CL,jI a0.CN,jI a0.CH,jI a0.CW,jI a0.CE,jI a0.CK,jI a0.CD,.slice A1 a0.Cy.length c2],aD]) ?_ ?_
      ·refine Bd (.q 1 (.q 2 (.q 3 (.br 0 (.e 4 (.e 5 (.q 6 (.q 7 (.e 8 .nil))))) (.e 4 (.e 0 (.e 5 (.q 6 (.q 7 (.e 8 .nil)))))))))) [0,1,1,1] Z gL oZ (by kernel_rfl) ?_
       refine TD.run ae [1] Z Z ?_
       refine TD.q Z .u (Cs (p:=21) (q:=x75.length) (m:=(x75.drop 21)) Z Dm (.some Z Z) .none (by first | omega | (dsimp only; omega)) (sS _ _)) Z ?_
       refine TD.run ae [3] Z Z ?_
       refine TD.br ?_ ?_
       ·refine TD.cge Z .u (.fn Tryz.call99 Z) (gr _ hx86) (fun _ hs=>(AQ _ _)) Z [1,2,2,2] ?_ ?_
        ·rintro _ _ _ ⟨b87,rfl,rfl,rfl⟩
         rfl
        rintro _ _ _ ⟨b87,rfl,rfl,rfl⟩
        exact BF [0,0,0,0,0,0] Z (BQ (cells:= #[.string (bsOf (x75.drop 21)),jS x64]) Z .u fU Z (by rfl) Z [2,3,3,3] (fun _=>Z) (fun b89=>(Ci (us := [.string (bsOf (x75.drop 21)),jS x64]) (xs := [(x75.drop 21),x64]) (E:=sH) (z:=1) Z (Nat.le_of_ble_eq_true Z) (fun _=>⟨Z,Z,⟨Z,Z,Z⟩⟩) (TD.c1 Z .u (.fn Tryz.call100 Z) (ej b87 st85 [(x75.drop 21),x64] _ _ _ hx92) (fun _ hs=>(Src.res 0 Z (fun w G h=>bA (by decide) w G h))) Z [2,3,3,3] (Z) (TD.q Z .u (BW Z D5 D7 c93) Z (TD.run ae [7] Z Z (Co (cs':= #[jI a0.CP,jI (49+(x64.length:Int)),jI a0.CI,jI x90,jI x69,jI a0.CN,jI a0.CH,jI a0.CW,jI a0.CE,jI a0.CK,jI a0.CD,jI (a0.Cy.length:Int)]) Z .u Z Z De Z Z Z Z [2,3,3,3] (Z) (TD.nil (BR [0,0,0,0,0,0,0] ⟨b87,b89,Z,Z⟩ (by rfl) (by rfl))))))))))
       ·refine BQ (cells:= #[.string (bsOf (x75.drop 21)),jS x64]) Z .u fU Z (by rfl) Z [1,2,2,2] (fun _=>Z) (fun b89=>(Ci (us := [.string (bsOf (x75.drop 21)),jS x64]) (xs := [(x75.drop 21),x64]) (E:=sH) (z:=1) Z (Nat.le_of_ble_eq_true Z) (fun _=>⟨Z,Z,⟨Z,Z,Z⟩⟩) ?_))
        refine TD.cge Z .u (.fn Tryz.call99 Z) (gr _ hx86) (fun _ hs=>(AQ _ _)) Z [2,3,3,3] ?_ ?_
        ·rintro _ _ _ ⟨b87,rfl,rfl,rfl⟩
         rfl
        rintro _ _ _ ⟨b87,rfl,rfl,rfl⟩
        exact BF [0,0,0,0,0,0,0] Z (TD.c0 Z .u (.fn Tryz.call100 Z) (ej b87 st85 [(x75.drop 21),x64] _ _ _ hx92) (fun _ hs=>(Src.res 0 Z (fun w G h=>bA (by decide) w G h))) Z [2,3,3,3] (Z) (TD.q Z .u (BW Z D5 D7 c93) Z (TD.run ae [7] Z Z (Co (cs':= #[jI a0.CP,jI (49+(x64.length:Int)),jI a0.CI,jI x90,jI x69,jI a0.CN,jI a0.CH,jI a0.CW,jI a0.CE,jI a0.CK,jI a0.CD,jI (a0.Cy.length:Int)]) Z .u Z Z De Z Z Z Z [2,3,3,3] (Z) (TD.nil (BR [1,0,0,0,0,0,0] ⟨b87,b89,Z,Z⟩ (by rfl) (by rfl)))))))
      ·rintro _ _ ⟨b87,b89,rfl,rfl⟩
       refine X.seq (T.seq (T.region Z ?_))
       refine TL.q Z .u (Bg (cells:= #[.slice none 0 0,jI 0]) s6 Z (by kernel_rfl)) Z ?_
       refine TL.outZ 2 Z .u Z Z Tryz.sizeOf66 Z (Bp [0,0,0,0,0,0,0] Z (TL.nil (X.seq (T.seq (T.region Z (TL.q Z .u (AY (us := [jI a0.CP,jI (49+(x64.length:Int)),jI a0.CI,jI x90,jI x69,jI a0.CN,jI a0.CH,jI a0.CW,jI a0.CE,jI a0.CK,jI a0.CD,jI (a0.Cy.length:Int)]) 3 Z EM Ei Z Z Z) Z ?_))))))
       obtain⟨st94,hx95,h⟩:=C5 h
       refine BU Z .u (.fn Tryz.call98 Z) (fJ b72 ([],0) (⟨a0.CP,(49+(x64.length:Int)),a0.CI,x90,x69,a0.CN,a0.CH,a0.CW,a0.CE,a0.CK,a0.CD,(a0.Cy.length:Int)⟩:Pfx) _ hx95) (fun _ hs=>(Src.triv _)) Z (TL.nil (X.seq (T.seq (T.region Z ?_))))
       obtain⟨st96,hx97,h⟩:=C5 h
       refine TL.run ae [0] Z Z (BU Z .u (.fn Tryz.call101 Z) (vt b72 st94 x64 _ hx97) (fun _ hs=>(Src.triv _)) Z ?_)
       obtain⟨⟨x98,x99,st100⟩,hx101,h⟩:=C5 h
       try dsimp only at h
       refine TL.nil (X.seq (T.seq (T.region Z (BU Z .u (.fn Tryz.call28 Z) (fe b72 st96 _ hx101) (fun _ hs=>(Src.triv _)) Z (TL.run ae [1,2,3,4] Z Z ?_)))))
       obtain rfl:=C8 h
       exact TL.nil (X.seq (T.ret (Bi [6] Tryz.results41 (AK Z) (AK Z) ⟨Z,Z,Z⟩ (by rfl) (.inl Z))))
  | succ m13 =>
   have h:=hl15
   clear hl15
   obtain⟨x14,hxx14⟩: ∃ x,a0.Cy[k8]? = some x:=⟨_,List.getElem?_eq_getElem (by omega)⟩
   rw[aX hxx14,cL] at h
   have hk16lt:(k8:Int)<(a0.Cy.length:Int):=by omega
   refine T.seq (T.region Z (TL.run ae [0] Z Z (TL.nil (X.seq (T.seq (AN Z (C6 hk16lt) ?_))))))
   obtain⟨gz17,oz17,rfl,z17cs,z17cl,z17cc,z17nf,z17r⟩:=Bb (by decide) hX hxx14
   obtain⟨z17S,z17r,z17rr⟩:=z17r
   obtain⟨A18,c19,rfl,z17s0⟩:=z17r
   have hX20:(RX.of (ar 3 bG) [.slice A18 x14.CF.length c19] x14.CF).reads w F:=⟨z17S,z17s0,z17rr⟩
   refine T.skip (X.seq (T.seq (T.block (T.seq (T.region Z ?_)))))
   refine TL.q Z .u (AX (k:=k8) Z Z Z Dl Dj (Da hxx14).1) Z ?_
   refine TL.q Z .u (Bn (us := [jI x14.CY,jI x14.CU,.bool x14.CJ.null,jS x14.CJ.data,.bool x14.Cz.null,jS x14.Cz.data,.slice A18 x14.CF.length c19]) 0 Z DE Dj z17nf z17cc Z Z Z) Z (TL.alloc Z .u Tryz.zeroValue38 Z (fun b21=>(A9 (cs':= #[jI x14.CY,jI x14.CU,.bool x14.CJ.null,jS x14.CJ.data,.bool x14.Cz.null,jS x14.Cz.data,.slice A18 x14.CF.length c19]) Z .u Z Z Dj Z Z Z Z (TL.nil (X.seq (T.region Z (TL.q Z .u (AY (us := [jI x14.CY,jI x14.CU,.bool x14.CJ.null,jS x14.CJ.data,.bool x14.Cz.null,jS x14.Cz.data,.slice A18 x14.CF.length c19]) 0 Z DE Dj Z Z Z) Z ?_)))))))
   obtain⟨st22,hx23,h⟩:=C5 h
   exact BC Z .u (.fn Tryz.call96 Z) (l6 b7 st9 x14 _ _ _ hx23) (fun _ hs=>(Src.old hs hX20)) Z (TL.nil (AZ (X.seq (T.region Z (TL.q Z .u (Ex.add Z Z (by omega)) Z (TL.run ae [1] Z Z (TL.nil (X.back (m':=m13) [1,1,1] (by omega) ⟨k8+1,st22,by omega,Z,Z,h⟩ (by rfl) (by rfl)))))))))
 ·refine TL.nil (X.seq (AN Z (aF (C7 c6)) (T.seq (T.region Z (TL.run ae [0,1,2] Z Z ?_)))))
  obtain rfl:=C8 h
  exact TL.nil (X.seq (T.ret (AL (Bi [1] Tryz.results41 (AK Z) (AK Z) ⟨Z,Z,Z⟩ (by rfl) (.inl Z)))))
def cA (a0:Pfx):Nat→Int→Nat→List Rec→I→Option (Lp (Bat×Int) (Int×Nat×List Rec×I))
 | 0,_,_,_,_=>none
 | m23+1,y14,k15,y16,st19=>if (k15:Int)<a0.C2 then ((pW st19).bind fun (x28,st29)=>if x28=0 then (some (Lp.ret ((⟨0,0,false,false,false,0,0,0,0,0,0,[]⟩:Bat),10))) else ((eW st29).bind fun (x32,st35)=>(iY st35).bind fun (x38,st39)=>if x38=0 then (if (y16.length+1)*88≤140737488355328 then (if -9223372036854775808≤((k15:Int)+1)∧((k15:Int)+1)≤9223372036854775807 then (cA a0 m23 y14 (k15+1) (y16 ++ [x32]) st39) else none) else none) else (some (Lp.ret ((⟨0,0,false,false,false,0,0,0,0,0,0,[]⟩:Bat),x38))))) else (some (Lp.go (y14,k15,y16,st19)))
def fB (a0:Pfx) (a1:List UInt8):Option (Bat×Int):=(sZ a0.C4).bind fun x3=>if x3=0 then ((vG a0.C4).bind fun (x7,x8,x9)=>(rp a1).bind fun st11=>(cA a0 ((a0.C2).toNat+1) 0 0 [] st11).bind fun e=>match e with | .ret r=>some r | .go (y53,k54,y55,st58)=>((pW st58).bind fun (x59,st60)=>if x59>0 then (some ((⟨0,0,false,false,false,0,0,0,0,0,0,[]⟩:Bat),10)) else ((co (⟨a0.CP,a0.CI,x7,x8,x9,a0.CN,a0.CH,a0.CW,a0.CE,a0.CK,a0.CD,y55⟩:Bat)).bind fun x63=>some ((⟨a0.CP,a0.CI,x7,x8,x9,a0.CN,a0.CH,a0.CW,a0.CE,a0.CK,a0.CD,y55⟩:Bat),x63)))) else (some ((⟨0,0,false,false,false,0,0,0,0,0,0,[]⟩:Bat),x3))
theorem nn (a0:Pfx) (a1:List UInt8) (r:Bat×Int) (h:fB a0 a1=some r):aA Tryz.prog 110 #[.agg #[jI a0.CP,jI a0.C1,jI a0.CI,jI a0.C3,jI a0.C4,jI a0.CN,jI a0.CH,jI a0.CW,jI a0.CE,jI a0.CK,jI a0.CD,jI a0.C2],jS a1] .triv (aD) (fun v A' N=> ∃ (A65:Option Addr) (c66:Nat),v= .tuple #[.agg #[jI r.1.CP,jI r.1.CI,.bool r.1.CV,.bool r.1.C0,.bool r.1.CL,jI r.1.CN,jI r.1.CH,jI r.1.CW,jI r.1.CE,jI r.1.CK,jI r.1.CD,.slice A65 r.1.Cy.length c66],jI r.2]∧A'=aD∧N = [RdR (ar 7 aU) [.slice A65 r.1.Cy.length c66] r.1.Cy]):=by
 refine aM Tryz.func110 Z Tryz.ntmps110 Z ?_
 intro F w hX
 unfold fB at h
 refine T.seq (T.region Z (TL.box Z .u Z Z (fun b1=>(TL.alloc Z .u Tryz.zeroValue27 Z (fun b2=>(TL.run ae [2] Z Z (TL.nil (X.seq (T.seq (T.seq (T.region Z (TL.run ae [0] Z Z (TL.q Z .u (AH 1 Z Dc Z Z) Z ?_)))))))))))))
 obtain⟨x3,hx4,h⟩:=C5 h
 refine Bc Z .u (.fn Tryz.call143 Z) (BA (fun w=>s5 a0.C4 _ hx4 w)) (fun _ _=>AQ _ _) Z (TL.run ae [3] Z Z (TL.nil (X.seq (T.seq (T.region Z (TL.run ae [0,1] Z Z ?_))))))
 rcases jF h with⟨c5,h⟩ | ⟨c5,h⟩
 ·refine TL.nil (X.seq (AS Z (ax (C6 c5)) (T.skip (X.seq (T.seq (T.region Z (TL.run ae [0] Z Z (TL.q Z .u (AH 1 Z Dc Z Z) Z (TL.run ae [2] Z Z (TL.q Z .u (AH 1 Z Dc Z Z) Z (TL.run ae [4] Z Z ?_)))))))))))
  refine TL.q Z .u (AH 1 Z Dc Z Z) Z (TL.run ae [6] Z Z (TL.q Z .u (AH 1 Z Dc Z Z) Z (TL.run ae [8] Z Z (TL.q Z .u (AH 1 Z Dc Z Z) Z (TL.run ae [10] Z Z (TL.q Z .u (AH 1 Z Dc Z Z) Z (TL.run ae [12] Z Z ?_)))))))
  refine TL.q Z .u (AH 1 Z Dc Z Z) Z (TL.run ae [14] Z Z (TL.q Z .u (AH 1 Z Dc Z Z) Z ?_))
  refine TL.q Z .u (Bg (cells:= #[jI a0.CP,jI a0.CI,.bool false,.bool false,.bool false,jI a0.CN,jI a0.CH,jI a0.CW,jI a0.CE,jI a0.CK,jI a0.CD,.slice none 0 0]) dY Z (by kernel_rfl)) Z ?_
  refine TL.alloc Z .u Tryz.zeroValue27 Z (fun b6=>(A9 (cs':= #[jI a0.CP,jI a0.CI,.bool false,.bool false,.bool false,jI a0.CN,jI a0.CH,jI a0.CW,jI a0.CE,jI a0.CK,jI a0.CD,.slice none 0 0]) Z .u Z Z Di Z Z Z Z (TL.nil (X.seq (T.seq (T.region Z (TL.run ae [0] Z Z (TL.q Z .u (AH 2 Z Dc Z Z) Z ?_))))))))
  obtain⟨⟨x7,x8,x9⟩,hx10,h⟩:=C5 h
  try dsimp only at h
  refine Bc Z .u (.fn Tryz.call144 Z) (BA (fun w=>uc a0.C4 _ hx10 w)) (fun _ _=>AQ _ _) Z (TL.run ae [3,4,5,6,7] Z Z (A9 (cs':= #[jI a0.CP,jI a0.CI,.bool x7,.bool false,.bool false,jI a0.CN,jI a0.CH,jI a0.CW,jI a0.CE,jI a0.CK,jI a0.CD,.slice none 0 0]) Z .u Z Z DP Z Z Z Z (TL.run ae [9] Z Z (A9 (cs':= #[jI a0.CP,jI a0.CI,.bool x7,.bool x8,.bool false,jI a0.CN,jI a0.CH,jI a0.CW,jI a0.CE,jI a0.CK,jI a0.CD,.slice none 0 0]) Z .u Z Z DP Z Z Z Z (TL.run ae [11] Z Z (A9 (cs':= #[jI a0.CP,jI a0.CI,.bool x7,.bool x8,.bool x9,jI a0.CN,jI a0.CH,jI a0.CW,jI a0.CE,jI a0.CK,jI a0.CD,.slice none 0 0]) Z .u Z Z DP Z Z Z Z (TL.nil (X.seq (T.seq (T.region Z ?_))))))))))
  obtain⟨st11,hx12,h⟩:=C5 h
  refine TL.run ae [0] Z Z (B0 Z .u (.fn Tryz.call18 Z) (iN a1 _ hx12) (fun _ hs=>(AQ _ _)) Z ?_)
  rintro _ _ _ ⟨b13,rfl,rfl,rfl⟩
  refine Bp [0,0,0,0,0] Z (TL.run ae [2] Z Z (TL.nil (X.seq (T.seq (T.seq (T.region Z (TL.run ae [0] Z Z (TL.q Z .u (AH 3 Z Dc Z Z) Z (TL.run ae [2] Z Z (TL.nil (X.seq (T.block (BX 38 7 aU ?_)))))))))))))
  obtain⟨E20,hE21,hO22⟩:=C5 h
  refine Bj (fun m e Rs=> ∃ (y14:Int) (k15:Nat) (y16:List Rec) (A17:Option Addr) (c18:Nat) (st19:I),e = [(4,jP b2),(5,jI y14),(7,jP b6),(8,jP b13),(48,jI a0.C2),(49,jI (k15:Int))]∧Rs = [bp 38 7 aU (.slice A17 y16.length c18) y16,InR b13 st19,aC b6 27 #[jI a0.CP,jI a0.CI,.bool x7,.bool x8,.bool x9,jI a0.CN,jI a0.CH,jI a0.CW,jI a0.CE,jI a0.CK,jI a0.CD,.slice A17 y16.length c18],aC b2 27 #[jI 0,jI 0,.bool false,.bool false,.bool false,jI 0,jI 0,jI 0,jI 0,jI 0,jI 0,.slice none 0 0],aC b1 160 #[jI a0.CP,jI a0.C1,jI a0.CI,jI a0.C3,jI a0.C4,jI a0.CN,jI a0.CH,jI a0.CW,jI a0.CE,jI a0.CK,jI a0.CD,jI a0.C2],aD]∧cA a0 m y14 k15 y16 st19=some E20) ((a0.C2).toNat+1) [0,0,0,0,0,0] ⟨0,0,[],none,0,st11,Z,Z,by exact hE21⟩ (by rfl) (by rfl) ?_
  rintro m23 _ _ ⟨y14,k15,y16,A17,c18,st19,rfl,rfl,hl25⟩
  clear hE21 h
  cases m23 with
  | zero =>
   rw[cA] at hl25
   cases hl25
  | succ m23 =>
   have h:=hl25
   clear hl25
   rw[cA] at h
   refine T.seq (T.region Z (TL.run ae [0] Z Z ?_))
   rcases jF h with⟨c27,h⟩ | ⟨c27,h⟩
   ·refine TL.nil (X.seq (T.seq (AN Z (C6 c27) (T.skip (X.seq (T.seq (T.block (T.seq (T.seq (T.region Z ?_))))))))))
    obtain⟨⟨x28,st29⟩,hx30,h⟩:=C5 h
    try dsimp only at h
    refine TL.run ae [0] Z Z (BC Z .u (.fn Tryz.call82 Z) (ku b13 st19 _ hx30) (fun _ hs=>(Src.triv _)) Z (TL.run ae [2] Z Z ?_))
    rcases jF h with⟨c31,h⟩ | ⟨c31,h⟩
    ·refine TL.nil (X.seq (AN Z (C6 c31) (T.seq (T.region Z ?_))))
     refine TL.q Z .u (Bg (cells:= #[jI 0,jI 0,.bool false,.bool false,.bool false,jI 0,jI 0,jI 0,jI 0,jI 0,jI 0,.slice none 0 0]) dY Z (by kernel_rfl)) Z ?_
     refine BV (cs':= #[jI 0,jI 0,.bool false,.bool false,.bool false,jI 0,jI 0,jI 0,jI 0,jI 0,jI 0,.slice none 0 0]) Z .u Z Z Di Z Z Z Z (TL.run ae [2] Z Z ?_)
     obtain rfl:=C8 h
     replace h:=hO22
     clear hO22
     try dsimp only at h
     obtain rfl:=C8 h
     exact TL.nil (X.seq (T.ret (AL (AU (AL (AL (AU (AL (BH 7 aU (Bi [6,0] EZ (BG (us:= #[jI 0,jI 0,.bool false,.bool false,.bool false,jI 0,jI 0,jI 0,jI 0,jI 0,jI 0,.slice none 0 0]) 4 Z Dx Di Z Z) (AK Z) ⟨_,_,Z,Z,Z⟩ (by rfl) (.inl Z)))))))))))
    ·refine TL.nil (X.seq (AS Z (C7 c31) (T.skip (X.seq (T.seq (T.region Z ?_))))))
     obtain⟨⟨x32,st35⟩,hx36,h⟩:=C5 h
     try dsimp only at h
     refine TL.run ae [0] Z Z (TL.cg1 Z .u (.fn Tryz.call145 Z) (mz b13 st29 _ hx36) (fun _ hs=>(Src.triv _)) Z ?_)
     rintro _ _ _ ⟨A33,c34,rfl,rfl,rfl⟩
     refine Bp [0,0,0,0,0,0,0] Z (TL.alloc Z .u Tryz.zeroValue38 Z (fun b37=>(A9 (cs':= #[jI x32.CY,jI x32.CU,.bool x32.CJ.null,jS x32.CJ.data,.bool x32.Cz.null,jS x32.Cz.data,.slice A33 x32.CF.length c34]) Z .u Z Z Dj Z Z Z Z (TL.nil (X.seq (T.seq (T.seq (T.region Z ?_))))))))
     obtain⟨⟨x38,st39⟩,hx40,h⟩:=C5 h
     try dsimp only at h
     refine TL.run ae [0] Z Z (Cg Z .u (.fn Tryz.call21 Z) (dH b13 st35 _ hx40) (fun _ hs=>(Src.triv _)) Z (TL.run ae [2] Z Z (TL.nil (X.seq (T.seq (T.region Z (TL.run ae [0,1] Z Z ?_)))))))
     rcases jF h with⟨c41,h⟩ | ⟨c41,h⟩
     ·refine TL.nil (X.seq (AS Z (ax (C6 c41)) (T.skip (X.seq (T.region Z (TL.run ae [0] Z Z (TL.q Z .u (AH 4 Z DA Z Z) Z (TL.q Z .u (AY (us := [jI x32.CY,jI x32.CU,.bool x32.CJ.null,jS x32.CJ.data,.bool x32.Cz.null,jS x32.Cz.data,.slice A33 x32.CF.length c34]) 0 Z DE Dj Z Z Z) Z ?_))))))))
      refine BT (cells:= #[jI x32.CY,jI x32.CU,.bool x32.CJ.null,jS x32.CJ.data,.bool x32.Cz.null,jS x32.Cz.data,.slice A33 x32.CF.length c34]) Z .u ql Z (by kernel_rfl) Z (fun b42=> ?_)
      replace h:=an h
      obtain⟨c43,h⟩:=h
      refine TL.app2 2 1 Z .u (us := [jI x32.CY,jI x32.CU,.bool x32.CJ.null,jS x32.CJ.data,.bool x32.Cz.null,jS x32.Cz.data,.slice A33 x32.CF.length c34]) (u:=x32) (l:=y16) (E:=aU) Tryz.underlying25 s7 Z (by decide) Z Z Z Z Z Z Z (fun w G hG=>⟨_,_,Z,hG.1⟩) (by have hq:=c43; omega) (by have hq:=c43; omega) Z (fun A44 c45=> ?_)
      refine Bp [0,0,0,0,0,0,0] Z (TL.run ae [5] Z Z (BV (cs':= #[jI a0.CP,jI a0.CI,.bool x7,.bool x8,.bool x9,jI a0.CN,jI a0.CH,jI a0.CW,jI a0.CE,jI a0.CK,jI a0.CD,.slice A44 (y16 ++ [x32]).length c45]) Z .u Z Z Tryz.sizeOf25 Z Z Z Z ?_))
      replace h:=an h
      obtain⟨c46,h⟩:=h
      exact TL.nil (AZ (X.seq (T.region Z (TL.q Z .u (Ex.add Z Z c46) Z (TL.run ae [1] Z Z (TL.nil (X.back (m':=m23) [0,1,1,1,1,1] (by omega) ⟨y14,k15+1,(y16 ++ [x32]),A44,c45,st39,Z,Z,h⟩ (by rfl) (by rfl))))))))
     ·refine TL.nil (X.seq (AN Z (aF (C7 c41)) (T.seq (T.region Z ?_))))
      refine TL.q Z .u (Bg (cells:= #[jI 0,jI 0,.bool false,.bool false,.bool false,jI 0,jI 0,jI 0,jI 0,jI 0,jI 0,.slice none 0 0]) dY Z (by kernel_rfl)) Z ?_
      refine TL.run ae [1] Z Z (TL.st5 (cs':= #[jI 0,jI 0,.bool false,.bool false,.bool false,jI 0,jI 0,jI 0,jI 0,jI 0,jI 0,.slice none 0 0]) Z .u Z Z Di Z Z Z Z (TL.run ae [3] Z Z ?_))
      obtain rfl:=C8 h
      replace h:=hO22
      clear hO22
      try dsimp only at h
      obtain rfl:=C8 h
      exact TL.nil (X.seq (T.ret (AL (AU (AL (AL (AU (AL (BH 7 aU (Bi [8,0] EZ (BG (us:= #[jI 0,jI 0,.bool false,.bool false,.bool false,jI 0,jI 0,jI 0,jI 0,jI 0,jI 0,.slice none 0 0]) 6 Z Dx Di Z Z) (AK Z) ⟨_,_,Z,Z,Z⟩ (by rfl) (.inl Z)))))))))))
   ·refine TL.nil (X.seq (T.seq (AS Z (C7 c27) ?_)))
    obtain rfl:=C8 h
    replace h:=hO22
    clear hO22
    try dsimp only at h
    refine T.exit (AV (AV (Bh (X.seq (T.seq (T.seq (T.region Z ?_)))))))
    obtain⟨⟨x47,st48⟩,hx49,h⟩:=C5 h
    try dsimp only at h
    refine TL.run ae [0] Z Z (BC Z .u (.fn Tryz.call82 Z) (ku b13 st19 _ hx49) (fun _ hs=>(Src.triv _)) Z (TL.run ae [2] Z Z ?_))
    rcases jF h with⟨c50,h⟩ | ⟨c50,h⟩
    ·refine TL.nil (X.seq (AN Z (C6 c50) (T.seq (T.region Z ?_))))
     refine TL.q Z .u (Bg (cells:= #[jI 0,jI 0,.bool false,.bool false,.bool false,jI 0,jI 0,jI 0,jI 0,jI 0,jI 0,.slice none 0 0]) dY Z (by kernel_rfl)) Z ?_
     refine BV (cs':= #[jI 0,jI 0,.bool false,.bool false,.bool false,jI 0,jI 0,jI 0,jI 0,jI 0,jI 0,.slice none 0 0]) Z .u Z Z Di Z Z Z Z (TL.run ae [2] Z Z ?_)
     obtain rfl:=C8 h
     exact TL.nil (X.seq (T.ret (AL (BH 7 aU (Bi [6,0] EZ (BG (us:= #[jI 0,jI 0,.bool false,.bool false,.bool false,jI 0,jI 0,jI 0,jI 0,jI 0,jI 0,.slice none 0 0]) 4 Z Dx Di Z Z) (AK Z) ⟨_,_,Z,Z,Z⟩ (by rfl) (.inl Z))))))
    ·refine TL.nil (X.seq (AS Z (C7 c50) ?_))
     refine T.skip (X.seq (T.seq (Bd (.q 0 (.q 1 (.e 2 (.e 3 (.q 4 .nil))))) [0,0,0,1,1] Z gL (NoP.seq aP) (by kernel_rfl) ?_)))
     iterate 2 refine TD.q Z .u (AY (us := [jI a0.CP,jI a0.CI,.bool x7,.bool x8,.bool x9,jI a0.CN,jI a0.CH,jI a0.CW,jI a0.CE,jI a0.CK,jI a0.CD,.slice A17 y16.length c18]) 2 Z Dx Di Z Z Z) Z ?_
     obtain⟨x51,hx52,h⟩:=C5 h
     refine Bk Z .u (.fn Tryz.call40 Z) (fY (⟨a0.CP,a0.CI,x7,x8,x9,a0.CN,a0.CH,a0.CW,a0.CE,a0.CK,a0.CD,y16⟩:Bat) _ _ _ hx52) (fun _ hs=>(SrcE.res 0 hs Z (fun w G h=>bA (by decide) w G h))) Z [0,0,0,1,1] (Z) (Co (cs':= #[jI a0.CP,jI a0.CI,.bool x7,.bool x8,.bool x9,jI a0.CN,jI a0.CH,jI a0.CW,jI a0.CE,jI a0.CK,jI a0.CD,.slice A17 y16.length c18]) Z .u Z Z Di Z Z Z Z [0,0,0,1,1] (Z) (TD.run ae [4] Z Z ?_))
     obtain rfl:=C8 h
     exact TD.nil (X.seq (T.ret (X.shut (by decide) 0 Z (Bv [0,0,0,0,0,0] Z (Bi [5,0] EZ (BG (us:= #[jI a0.CP,jI a0.CI,.bool x7,.bool x8,.bool x9,jI a0.CN,jI a0.CH,jI a0.CW,jI a0.CE,jI a0.CK,jI a0.CD,.slice A17 y16.length c18]) 3 Z Dx Di Z Z) (AK Z) ⟨_,_,Z,Z,Z⟩ (by rfl) (.inl Z))))))
 ·refine TL.nil (X.seq (AN Z (aF (C7 c5)) (T.seq (T.region Z ?_))))
  refine TL.q Z .u (Bg (cells:= #[jI 0,jI 0,.bool false,.bool false,.bool false,jI 0,jI 0,jI 0,jI 0,jI 0,jI 0,.slice none 0 0]) dY Z (by kernel_rfl)) Z ?_
  refine TL.run ae [1] Z Z (A9 (cs':= #[jI 0,jI 0,.bool false,.bool false,.bool false,jI 0,jI 0,jI 0,jI 0,jI 0,jI 0,.slice none 0 0]) Z .u Z Z Di Z Z Z Z (TL.run ae [3] Z Z ?_))
  obtain rfl:=C8 h
  exact TL.nil (X.seq (T.ret (AL (BH 7 aU (Bi [3,0] EZ (BG (us:= #[jI 0,jI 0,.bool false,.bool false,.bool false,jI 0,jI 0,jI 0,jI 0,jI 0,jI 0,.slice none 0 0]) 1 Z Dx Di Z Z) (AK Z) ⟨_,_,Z,Z,Z⟩ (by rfl) (.inl Z))))))
def fC (st:I)  : Option (Bat×I):=(gY st).bind fun (x3,st4)=>if -9223372036854775808≤(x3.C1 - 49)∧(x3.C1 - 49)≤9223372036854775807 then ((wo st4 (x3.C1 - 49)).bind fun (x8,st9)=>(iY st9).bind fun (x11,st12)=>if x11=0 then ((bV ([],0) x3).bind fun st15=>(jJ st15).bind fun (x17,x18,st19)=>(iQ).bind fun st21=>if 21≤x17.length then ((ew st21 [(x17.drop 21),x8]).bind fun (x26,st27)=>if -9223372036854775808≤x26∧x26≤9223372036854775807 then (if x26=x3.C3 then ((fB x3 x8).bind fun (x31,x34)=>if x34=0 then some (x31,st12) else ((bD st12 x34).bind fun st38=>some ((⟨0,0,false,false,false,0,0,0,0,0,0,[]⟩:Bat),st38))) else ((bD st12 5).bind fun st40=>some ((⟨0,0,false,false,false,0,0,0,0,0,0,[]⟩:Bat),st40))) else none) else none) else (some ((⟨0,0,false,false,false,0,0,0,0,0,0,[]⟩:Bat),st12))) else none
theorem jy (g:Nat) (st:I)  (r:Bat×I) (h:fC st  = some r):aA Tryz.prog 49 #[jP g] .triv (InR g st) (fun v A' N=> ∃ (A42:Option Addr) (c43:Nat),v= .agg #[jI r.1.CP,jI r.1.CI,.bool r.1.CV,.bool r.1.C0,.bool r.1.CL,jI r.1.CN,jI r.1.CH,jI r.1.CW,jI r.1.CE,jI r.1.CK,jI r.1.CD,.slice A42 r.1.Cy.length c43]∧A'=InR g r.2∧N = [RdR (ar 7 aU) [.slice A42 r.1.Cy.length c43] r.1.Cy]):=by
 refine aM Tryz.func49 Z Tryz.ntmps49 Z ?_
 intro F w hX
 unfold fC at h
 refine T.seq (T.region Z (TL.alloc Z .u Tryz.zeroValue27 Z (fun b1=>(TL.nil (X.seq (T.seq (T.region Z (Ce Z .u Tryz.zeroValue66 Z (fun b2=>(TL.nil (X.seq (T.seq (T.region Z ?_)))))))))))))
 obtain⟨⟨x3,st4⟩,hx5,h⟩:=C5 h
 try dsimp only at h
 refine TL.run ae [0] Z Z (BU Z .u (.fn Tryz.call108 Z) (mB g st _ hx5) (fun _ hs=>(Src.triv _)) Z (TL.alloc Z .u Tryz.zeroValue160 Z (fun b6=>(A9 (cs':= #[jI x3.CP,jI x3.C1,jI x3.CI,jI x3.C3,jI x3.C4,jI x3.CN,jI x3.CH,jI x3.CW,jI x3.CE,jI x3.CK,jI x3.CD,jI x3.C2]) Z .u Z Z Ei Z Z Z Z (TL.nil (X.seq (T.seq (T.region Z (TL.run ae [0,1] Z Z (TL.q Z .u (AH 0 Z Dc Z Z) Z ?_))))))))))
 replace h:=an h
 obtain⟨c7,h⟩:=h
 refine TL.q Z .u (Ex.sub Z Z c7) Z ?_
 obtain⟨⟨x8,st9⟩,hx10,h⟩:=C5 h
 try dsimp only at h
 refine Cg Z .u (.fn Tryz.call109 Z) (vu g st4 (x3.C1 - 49) _ hx10) (fun _ hs=>(Src.triv _)) Z (TL.run ae [5] Z Z (TL.nil (X.seq (T.seq (T.seq (T.region Z ?_))))))
 obtain⟨⟨x11,st12⟩,hx13,h⟩:=C5 h
 try dsimp only at h
 refine TL.run ae [0] Z Z (Cg Z .u (.fn Tryz.call21 Z) (dH g st9 _ hx13) (fun _ hs=>(Src.triv _)) Z (TL.run ae [2] Z Z ?_))
 rcases jF h with⟨c14,h⟩ | ⟨c14,h⟩
 ·refine TL.nil (X.seq (AS Z (ax (C6 c14)) (T.skip (X.seq (T.seq (T.region Z (TL.q Z .u (AY (us := [jI x3.CP,jI x3.C1,jI x3.CI,jI x3.C3,jI x3.C4,jI x3.CN,jI x3.CH,jI x3.CW,jI x3.CE,jI x3.CK,jI x3.CD,jI x3.C2]) 0 Z EM Ei Z Z Z) Z ?_)))))))
  obtain⟨st15,hx16,h⟩:=C5 h
  refine BC Z .u (.fn Tryz.call98 Z) (fJ b2 ([],0) x3 _ hx16) (fun _ hs=>(Src.triv _)) Z ?_
  obtain⟨⟨x17,x18,st19⟩,hx20,h⟩:=C5 h
  try dsimp only at h
  refine TL.nil (X.seq (T.seq (T.region Z (BC Z .u (.fn Tryz.call28 Z) (fe b2 st15 _ hx20) (fun _ hs=>(Src.triv _)) Z (TL.run ae [1,2,3,4,5] Z Z ?_)))))
  obtain⟨st21,hx22,h⟩:=C5 h
  replace h:=an h
  obtain⟨c24,h⟩:=h
  obtain⟨⟨x26,st27⟩,hx28,h⟩:=C5 h
  try dsimp only at h
  replace h:=an h
  obtain⟨c29,h⟩:=h
  refine TL.nil (X.seq (T.seq (T.seq ?_)))
  refine Cn (fun e Rs=> ∃ (b23:Nat) (b25:Nat),e = [(0,jP g),(2,jP b1),(3,jP b2),(4,jP b6),(5,jS x8),(10,jP g),(11,.agg #[jI x3.CP,jI x3.C1,jI x3.CI,jI x3.C3,jI x3.C4,jI x3.CN,jI x3.CH,jI x3.CW,jI x3.CE,jI x3.CK,jI x3.CD,jI x3.C2]),(12,jP g),(13,.pointer (some ⟨b6,1,none⟩)),(14,jI x3.C1),(15,jI (x3.C1 - 49)),(16,jS x8),(17,jP g),(18,jI x11),(19,.bool (!(decide (x11=0)))),(21,.agg #[jI x3.CP,jI x3.C1,jI x3.CI,jI x3.C3,jI x3.C4,jI x3.CN,jI x3.CH,jI x3.CW,jI x3.CE,jI x3.CK,jI x3.CD,jI x3.C2]),(23,.tuple #[jS x17,jI x18]),(24,.tuple #[jS x17,jI x18]),(25,jS x17),(26,jI x18),(36,.bool (!(decide (x26=x3.C3))))]∧Rs = [bp 9 1 sH (.slice (some ⟨b25,0,none⟩) 2 2) [(x17.drop 21),x8],ju 205 b23 st27,aC b6 160 #[jI x3.CP,jI x3.C1,jI x3.CI,jI x3.C3,jI x3.C4,jI x3.CN,jI x3.CH,jI x3.CW,jI x3.CE,jI x3.CK,jI x3.CD,jI x3.C2],ba b2 st19,aC b1 27 #[jI 0,jI 0,.bool false,.bool false,.bool false,jI 0,jI 0,jI 0,jI 0,jI 0,jI 0,.slice none 0 0],InR g st12]) ?_ ?_
  ·refine Bd (.q 1 (.q 2 (.q 3 (.q 7 (.q 8 (.br 0 (.e 4 (.e 5 (.q 6 (.q 9 .nil)))) (.e 4 (.e 0 (.e 5 (.q 6 (.q 9 .nil))))))))))) [0,0,0,0] Z gL oZ (by kernel_rfl) ?_
   refine TD.run ae [1] Z Z ?_
   refine TD.q Z .u (Cs (p:=21) (q:=x17.length) (m:=(x17.drop 21)) Z Dm (.some Z Z) .none (by first | omega | (dsimp only; omega)) (sS _ _)) Z ?_
   refine TD.run ae [3,7] Z Z (TD.q Z .u (AH 0 Z Dc Z Z) Z ?_)
   refine TD.br ?_ ?_
   ·refine TD.cge Z .u (.fn Tryz.call99 Z) (gr _ hx22) (fun _ hs=>(AQ _ _)) Z [1,1,1,1] ?_ ?_
    ·rintro _ _ _ ⟨b23,rfl,rfl,rfl⟩
     rfl
    rintro _ _ _ ⟨b23,rfl,rfl,rfl⟩
    exact BF [0,0,0,0,0] Z (BQ (cells:= #[.string (bsOf (x17.drop 21)),jS x8]) Z .u fU Z (by rfl) Z [2,2,2,2] (fun _=>Z) (fun b25=>(Ci (us := [.string (bsOf (x17.drop 21)),jS x8]) (xs := [(x17.drop 21),x8]) (E:=sH) (z:=1) Z (Nat.le_of_ble_eq_true Z) (fun _=>⟨Z,Z,⟨Z,Z,Z⟩⟩) (TD.c1 Z .u (.fn Tryz.call100 Z) (ej b23 st21 [(x17.drop 21),x8] _ _ _ hx28) (fun _ hs=>(Src.res 0 Z (fun w G h=>bA (by decide) w G h))) Z [2,2,2,2] (Z) (TD.q Z .u (BW Z D5 D7 c29) Z (TD.run ae [9] Z Z (TD.nil (BR [0,0,0,0,0,0] ⟨b23,b25,Z,Z⟩ (by rfl) (by rfl)))))))))
   ·refine BQ (cells:= #[.string (bsOf (x17.drop 21)),jS x8]) Z .u fU Z (by rfl) Z [1,1,1,1] (fun _=>Z) (fun b25=>(Ci (us := [.string (bsOf (x17.drop 21)),jS x8]) (xs := [(x17.drop 21),x8]) (E:=sH) (z:=1) Z (Nat.le_of_ble_eq_true Z) (fun _=>⟨Z,Z,⟨Z,Z,Z⟩⟩) ?_))
    refine TD.cge Z .u (.fn Tryz.call99 Z) (gr _ hx22) (fun _ hs=>(AQ _ _)) Z [2,2,2,2] ?_ ?_
    ·rintro _ _ _ ⟨b23,rfl,rfl,rfl⟩
     rfl
    rintro _ _ _ ⟨b23,rfl,rfl,rfl⟩
    exact BF [0,0,0,0,0,0] Z (TD.c0 Z .u (.fn Tryz.call100 Z) (ej b23 st21 [(x17.drop 21),x8] _ _ _ hx28) (fun _ hs=>(Src.res 0 Z (fun w G h=>bA (by decide) w G h))) Z [2,2,2,2] (Z) (TD.q Z .u (BW Z D5 D7 c29) Z (TD.run ae [9] Z Z (TD.nil (BR [1,0,0,0,0,0] ⟨b23,b25,Z,Z⟩ (by rfl) (by rfl))))))
  ·rintro _ _ ⟨b23,b25,rfl,rfl⟩
   rcases jF h with⟨c30,h⟩ | ⟨c30,h⟩
   ·refine X.seq (AS Z (ax (C6 c30)) (T.skip (X.seq (T.seq (T.region Z (TL.q Z .u (AY (us := [jI x3.CP,jI x3.C1,jI x3.CI,jI x3.C3,jI x3.C4,jI x3.CN,jI x3.CH,jI x3.CW,jI x3.CE,jI x3.CK,jI x3.CD,jI x3.C2]) 2 Z EM Ei Z Z Z) Z ?_))))))
    obtain⟨⟨x31,x34⟩,hx35,h⟩:=C5 h
    try dsimp only at h
    refine TL.run ae [1] Z Z (B0 Z .u (.fn Tryz.call110 Z) (nn x3 x8 _ hx35) (fun _ hs=>(AQ _ _)) Z ?_)
    rintro _ _ _ ⟨A32,c33,rfl,rfl,rfl⟩
    refine Bp [0,0,0,0,0,0,0] Z (TL.run ae [3,4,5] Z Z (TL.alloc Z .u Tryz.zeroValue27 Z (fun b36=>(A9 (cs':= #[jI x31.CP,jI x31.CI,.bool x31.CV,.bool x31.C0,.bool x31.CL,jI x31.CN,jI x31.CH,jI x31.CW,jI x31.CE,jI x31.CK,jI x31.CD,.slice A32 x31.Cy.length c33]) Z .u Z Z Di Z Z Z Z (TL.run ae [8] Z Z (TL.nil (X.seq (T.seq (T.seq (T.region Z (TL.run ae [0,1] Z Z ?_)))))))))))
    rcases jF h with⟨c37,h⟩ | ⟨c37,h⟩
    ·refine TL.nil (X.seq (AS Z (ax (C6 c37)) (T.skip (X.seq (T.seq (T.region Z (TL.q Z .u (AY (us := [jI x31.CP,jI x31.CI,.bool x31.CV,.bool x31.C0,.bool x31.CL,jI x31.CN,jI x31.CH,jI x31.CW,jI x31.CE,jI x31.CK,jI x31.CD,.slice A32 x31.Cy.length c33]) 0 Z Dx Di Z Z Z) Z (TL.st6 (cs':= #[jI x31.CP,jI x31.CI,.bool x31.CV,.bool x31.C0,.bool x31.CL,jI x31.CN,jI x31.CH,jI x31.CW,jI x31.CE,jI x31.CK,jI x31.CD,.slice A32 x31.Cy.length c33]) Z .u Z Z Di Z Z Z Z ?_))))))))
     obtain rfl:=C8 h
     exact TL.nil (X.seq (T.ret (AJ [7,1] Fs (BG (us:= #[jI x31.CP,jI x31.CI,.bool x31.CV,.bool x31.C0,.bool x31.CL,jI x31.CN,jI x31.CH,jI x31.CW,jI x31.CE,jI x31.CK,jI x31.CD,.slice A32 x31.Cy.length c33]) 6 Z Dx Di Z Z) ⟨_,_,Z,Z,Z⟩ (by rfl) (.inl Z))))
    ·refine TL.nil (X.seq (AN Z (aF (C7 c37)) (T.seq (T.region Z ?_))))
     obtain⟨st38,hx39,h⟩:=C5 h
     refine TL.run ae [0,1] Z Z (TL.c7 Z .u (.fn Tryz.call61 Z) (bi g st12 x34 _ hx39) (fun _ hs=>(Src.triv _)) Z (TL.nil (X.seq (T.seq (T.region Z ?_)))))
     refine TL.q Z .u (Bg (cells:= #[jI 0,jI 0,.bool false,.bool false,.bool false,jI 0,jI 0,jI 0,jI 0,jI 0,jI 0,.slice none 0 0]) dY Z (by kernel_rfl)) Z ?_
     refine TL.st6 (cs':= #[jI 0,jI 0,.bool false,.bool false,.bool false,jI 0,jI 0,jI 0,jI 0,jI 0,jI 0,.slice none 0 0]) Z .u Z Z Di Z Z Z Z ?_
     obtain rfl:=C8 h
     exact TL.nil (X.seq (T.ret (AL (BH 7 aU (AJ [8,0] Fs (BG (us:= #[jI 0,jI 0,.bool false,.bool false,.bool false,jI 0,jI 0,jI 0,jI 0,jI 0,jI 0,.slice none 0 0]) 7 Z Dx Di Z Z) ⟨_,_,Z,Z,Z⟩ (by rfl) (.inl Z))))))
   ·refine X.seq (AN Z (aF (C7 c30)) (T.seq (T.region Z ?_)))
    obtain⟨st40,hx41,h⟩:=C5 h
    refine TL.run ae [0] Z Z (Ck Z .u (.fn Tryz.call61 Z) (bi g st12 5 _ hx41) (fun _ hs=>(Src.triv _)) Z (TL.nil (X.seq (T.seq (T.region Z ?_)))))
    refine TL.q Z .u (Bg (cells:= #[jI 0,jI 0,.bool false,.bool false,.bool false,jI 0,jI 0,jI 0,jI 0,jI 0,jI 0,.slice none 0 0]) dY Z (by kernel_rfl)) Z ?_
    refine TL.st4 (cs':= #[jI 0,jI 0,.bool false,.bool false,.bool false,jI 0,jI 0,jI 0,jI 0,jI 0,jI 0,.slice none 0 0]) Z .u Z Z Di Z Z Z Z ?_
    obtain rfl:=C8 h
    exact TL.nil (X.seq (T.ret (AL (BH 7 aU (AJ [6,0] Fs (BG (us:= #[jI 0,jI 0,.bool false,.bool false,.bool false,jI 0,jI 0,jI 0,jI 0,jI 0,jI 0,.slice none 0 0]) 5 Z Dx Di Z Z) ⟨_,_,Z,Z,Z⟩ (by rfl) (.inl Z))))))
 ·refine TL.nil (X.seq (AN Z (aF (C7 c14)) (T.seq (T.region Z ?_))))
  refine TL.q Z .u (Bg (cells:= #[jI 0,jI 0,.bool false,.bool false,.bool false,jI 0,jI 0,jI 0,jI 0,jI 0,jI 0,.slice none 0 0]) dY Z (by kernel_rfl)) Z ?_
  refine Cu (cs':= #[jI 0,jI 0,.bool false,.bool false,.bool false,jI 0,jI 0,jI 0,jI 0,jI 0,jI 0,.slice none 0 0]) Z .u Z Z Di Z Z Z Z ?_
  obtain rfl:=C8 h
  exact TL.nil (X.seq (T.ret (AL (BH 7 aU (AJ [4,0] Fs (BG (us:= #[jI 0,jI 0,.bool false,.bool false,.bool false,jI 0,jI 0,jI 0,jI 0,jI 0,jI 0,.slice none 0 0]) 3 Z Dx Di Z Z) ⟨_,_,Z,Z,Z⟩ (by rfl) (.inl Z))))))
def dN:List Bat→List UInt8→Int→List UInt8→Option (Lp (List UInt8×Int) (List UInt8×Int×List UInt8))
 | [],y4,y5,st7=>some (Lp.go (y4,y5,st7))
 | x12::xs,y4,y5,st7=>(fo x12).bind fun (x20,x21)=>if x21=0 then ((pA st7 x20).bind fun st24=>dN xs y4 y5 st24) else (some (Lp.ret ([],x21)))
def ie (a0:List Bat):Option (List UInt8×Int):=(dN a0 [] 0 []).bind fun e=>match e with | .ret r=>some r | .go (y26,y27,st29)=>((wx st29).bind fun x30=>some (x30,0))
theorem n7 (a0:List Bat) (A1:Option Addr) (c2:Nat) (r:List UInt8×Int) (h:ie a0=some r):aA Tryz.prog 36 #[.slice A1 a0.length c2] (RX.of (ar 12 bT) [.slice A1 a0.length c2] a0) (aD) (fun v A' N=>v= .tuple #[jS r.1,jI r.2]∧A'=aD∧N = []):=by
 refine aM Tryz.func36 Z Tryz.ntmps36 Z ?_
 intro F w hX
 unfold ie at h
 refine T.seq (T.region Z (TL.run ae [0,1] Z Z (TL.nil (X.seq (T.seq (T.region Z (TL.newbld Z .u Tryz.zeroValue148 Z (fun b3=>(TL.nil (X.seq (T.seq (T.seq (T.region Z (TL.run ae [0] Z Z (TL.q Z .u (AW Z Dr) Z (TL.run ae [2] Z Z ?_))))))))))))))))
 refine TL.nil (X.seq (T.block ?_))
 obtain⟨E8,hE9,hO10⟩:=C5 h
 have hk14len:=Bm hX
 refine Bj (fun m e Rs=> ∃ (y4:List UInt8) (y5:Int) (k6:Nat) (st7:List UInt8),k6+m=a0.length∧e = [(2,jS y4),(3,jI y5),(4,jP b3),(9,.slice A1 a0.length c2),(10,jI (a0.length:Int)),(11,jI (k6:Int))]∧Rs = [nj b3 st7,aD]∧dN (a0.drop k6) y4 y5 st7=some E8) (a0.length) [0,0] ⟨[],0,0,[],by simp,Z,Z,by rw[List.drop_zero]; exact hE9⟩ (by rfl) (by rfl) ?_
 rintro m11 _ _ ⟨y4,y5,k6,st7,hk14,rfl,rfl,hl13⟩
 clear hE9 h
 cases m11 with
 | zero =>
  have h:=hl13
  clear hl13
  rw[List.drop_of_length_le (by omega),dN] at h
  have hk14ge: ¬ ((k6:Int)<(a0.length:Int)):=by omega
  refine T.seq (T.region Z (TL.run ae [0] Z Z (TL.nil (X.seq (T.seq (AS Z (C7 hk14ge) ?_))))))
  obtain rfl:=C8 h
  replace h:=hO10
  clear hO10
  try dsimp only at h
  obtain⟨x32,hx33,h⟩:=C5 h
  refine T.exit (AV (AV (Bh (X.seq (T.seq (T.region Z (Bu Z .u (.fn Tryz.call86 Z) (vD b3 st7 _ hx33) (fun _ hs=>(Src.triv _)) Z (Bp [1] Z (TL.run ae [1,2] Z Z ?_)))))))))
  obtain rfl:=C8 h
  exact TL.nil (X.seq (T.ret (Bi [0] Tryz.results36 (AK Z) (AK Z) ⟨Z,Z,Z⟩ (by rfl) (.inl Z))))
 | succ m11 =>
  have h:=hl13
  clear hl13
  obtain⟨x12,hxx12⟩: ∃ x,a0[k6]? = some x:=⟨_,List.getElem?_eq_getElem (by omega)⟩
  rw[aX hxx12,dN] at h
  have hk14lt:(k6:Int)<(a0.length:Int):=by omega
  refine T.seq (T.region Z (TL.run ae [0] Z Z (TL.nil (X.seq (T.seq (AN Z (C6 hk14lt) ?_))))))
  obtain⟨gz15,oz15,rfl,z15cs,z15cl,z15cc,z15nf,z15r⟩:=Bb (by decide) hX hxx12
  obtain⟨z15S,z15r,z15rr⟩:=z15r
  obtain⟨A16,c17,rfl,z15s0⟩:=z15r
  have hX18:(RX.of (ar 7 aU) [.slice A16 x12.Cy.length c17] x12.Cy).reads w F:=⟨z15S,z15s0,z15rr⟩
  refine T.skip (X.seq (T.seq (T.block (T.seq (T.region Z ?_)))))
  refine TL.q Z .u (AX (k:=k6) Z Z Z Dr Di (Da hxx12).1) Z ?_
  refine TL.q Z .u (Bn (us := [jI x12.CP,jI x12.CI,.bool x12.CV,.bool x12.C0,.bool x12.CL,jI x12.CN,jI x12.CH,jI x12.CW,jI x12.CE,jI x12.CK,jI x12.CD,.slice A16 x12.Cy.length c17]) 0 Z Dx Di z15nf z15cc Z Z Z) Z (TL.alloc Z .u Tryz.zeroValue27 Z (fun b19=>(A9 (cs':= #[jI x12.CP,jI x12.CI,.bool x12.CV,.bool x12.C0,.bool x12.CL,jI x12.CN,jI x12.CH,jI x12.CW,jI x12.CE,jI x12.CK,jI x12.CD,.slice A16 x12.Cy.length c17]) Z .u Z Z Di Z Z Z Z (TL.nil (X.seq (T.seq (T.region Z (TL.q Z .u (AY (us := [jI x12.CP,jI x12.CI,.bool x12.CV,.bool x12.C0,.bool x12.CL,jI x12.CN,jI x12.CH,jI x12.CW,jI x12.CE,jI x12.CK,jI x12.CD,.slice A16 x12.Cy.length c17]) 0 Z Dx Di Z Z Z) Z ?_))))))))
  obtain⟨⟨x20,x21⟩,hx22,h⟩:=C5 h
  try dsimp only at h
  refine Bc Z .u (.fn Tryz.call41 Z) (l8 x12 _ _ _ hx22) (fun _ hs=>(Ba hs hX18)) Z (TL.run ae [2,3,4,5,6] Z Z (TL.nil (X.seq (T.seq (T.seq (T.region Z (TL.run ae [0,1] Z Z ?_)))))))
  rcases jF h with⟨c23,h⟩ | ⟨c23,h⟩
  ·refine TL.nil (X.seq (AS Z (ax (C6 c23)) (T.skip (X.seq (T.region Z ?_)))))
   obtain⟨st24,hx25,h⟩:=C5 h
   exact TL.run ae [0] Z Z (BC Z .u (.fn Tryz.call85 Z) (sW b3 st7 x20 _ hx25) (fun _ hs=>(Src.triv _)) Z (TL.nil (AZ (X.seq (T.region Z (TL.q Z .u (Ex.add Z Z (by omega)) Z (TL.run ae [1] Z Z (TL.nil (X.back (m':=m11) [1,1] (by omega) ⟨y4,y5,k6+1,st24,by omega,Z,Z,h⟩ (by rfl) (by rfl))))))))))
  ·refine TL.nil (X.seq (AN Z (aF (C7 c23)) (T.seq (T.region Z (TL.run ae [0,1,2] Z Z ?_)))))
   obtain rfl:=C8 h
   replace h:=hO10
   clear hO10
   try dsimp only at h
   obtain rfl:=C8 h
   exact TL.nil (X.seq (T.ret (AL (AU (AL (AL (AU (AL (Bi [2] Tryz.results36 (AK Z) (AK Z) ⟨Z,Z,Z⟩ (by rfl) (.inl Z))))))))))
def fP (a0:Bat):Option (nL):=some (⟨a0.CP,a0.CI,a0.CN,a0.CH,a0.CW,a0.CE,a0.CK,a0.CD,a0.CV,a0.C0,a0.CL⟩:nL)
theorem jf (a0:Bat) (A1:Option Addr) (c2:Nat) (r:nL) (h:fP a0=some r):aA Tryz.prog 154 #[.agg #[jI a0.CP,jI a0.CI,.bool a0.CV,.bool a0.C0,.bool a0.CL,jI a0.CN,jI a0.CH,jI a0.CW,jI a0.CE,jI a0.CK,jI a0.CD,.slice A1 a0.Cy.length c2]] (RX.of (ar 7 aU) [.slice A1 a0.Cy.length c2] a0.Cy) (aD) (fun v A' N=>v= .agg #[jI r.fbase,jI r.fleader,jI r.flast,jI r.ffirst,jI r.fmax,jI r.fproducer,jI r.fepoch,jI r.fsequence,.bool r.fappend,.bool r.ftxn,.bool r.fcontrol]∧A'=aD∧N = []):=by
 refine aM Tryz.func154 Z Tryz.ntmps154 Z ?_
 intro F w hX
 unfold fP at h
 refine T.seq (T.region Z (TL.box Z .u Z Z (fun b3=>(TL.alloc Z .u Tryz.zeroValue224 Z (fun b4=>(TL.nil (X.seq (T.seq (T.region Z (TL.run ae [0] Z Z (TL.q Z .u (AH 1 Z Dc Z Z) Z (TL.run ae [2] Z Z (TL.q Z .u (AH 1 Z Dc Z Z) Z ?_)))))))))))))
 refine TL.run ae [4] Z Z (TL.q Z .u (AH 1 Z Dc Z Z) Z (TL.run ae [6] Z Z (TL.q Z .u (AH 1 Z Dc Z Z) Z (TL.run ae [8] Z Z (TL.q Z .u (AH 1 Z Dc Z Z) Z (TL.run ae [10] Z Z (TL.q Z .u (AH 1 Z Dc Z Z) Z ?_)))))))
 refine TL.run ae [12] Z Z (TL.q Z .u (AH 1 Z Dc Z Z) Z (TL.run ae [14] Z Z (TL.q Z .u (AH 1 Z Dc Z Z) Z (TL.run ae [16] Z Z (TL.q Z .u (AH 1 Z Do Z Z) Z (TL.run ae [18] Z Z (TL.q Z .u (AH 1 Z Do Z Z) Z ?_)))))))
 refine TL.run ae [20] Z Z (TL.q Z .u (AH 1 Z Do Z Z) Z ?_)
 refine TL.q Z .u (Bg (cells:= #[jI a0.CP,jI a0.CI,jI a0.CN,jI a0.CH,jI a0.CW,jI a0.CE,jI a0.CK,jI a0.CD,.bool a0.CV,.bool a0.C0,.bool a0.CL]) rx Z (by kernel_rfl)) Z ?_
 refine A9 (cs':= #[jI a0.CP,jI a0.CI,jI a0.CN,jI a0.CH,jI a0.CW,jI a0.CE,jI a0.CK,jI a0.CD,.bool a0.CV,.bool a0.C0,.bool a0.CL]) Z .u Z Z Tryz.sizeOf224 Z Z Z Z ?_
 obtain rfl:=C8 h
 exact TL.nil (X.seq (T.ret (AJ [2] Tryz.results154 (BG (us:= #[jI a0.CP,jI a0.CI,jI a0.CN,jI a0.CH,jI a0.CW,jI a0.CE,jI a0.CK,jI a0.CD,.bool a0.CV,.bool a0.C0,.bool a0.CL]) 0 Z Tryz.isAgg224 Tryz.sizeOf224 Z Z) ⟨Z,Z,Z⟩ (by rfl) (.inl Z))))
def iK (a0:Bat) (a1:Bat):Option (Bool):=(fP a0).bind fun x7=>(fP a1).bind fun x9=>if x7.fbase=x9.fbase then (if x7.fleader=x9.fleader then (if x7.flast=x9.flast then (if x7.ffirst=x9.ffirst then (if x7.fmax=x9.fmax then (if x7.fproducer=x9.fproducer then (if x7.fepoch=x9.fepoch then (if x7.fsequence=x9.fsequence then (if x7.fappend=x9.fappend then (if x7.ftxn=x9.ftxn then (if x7.fcontrol=x9.fcontrol then some true else some false) else some false) else some false) else some false) else some false) else some false) else some false) else some false) else some false) else some false) else some false
theorem np (a0:Bat) (A1:Option Addr) (c2:Nat) (a1:Bat) (A3:Option Addr) (c4:Nat) (r:Bool) (h:iK a0 a1=some r):aA Tryz.prog 129 #[.agg #[jI a0.CP,jI a0.CI,.bool a0.CV,.bool a0.C0,.bool a0.CL,jI a0.CN,jI a0.CH,jI a0.CW,jI a0.CE,jI a0.CK,jI a0.CD,.slice A1 a0.Cy.length c2],.agg #[jI a1.CP,jI a1.CI,.bool a1.CV,.bool a1.C0,.bool a1.CL,jI a1.CN,jI a1.CH,jI a1.CW,jI a1.CE,jI a1.CK,jI a1.CD,.slice A3 a1.Cy.length c4]] (RX.and (RX.of (ar 7 aU) [.slice A1 a0.Cy.length c2] a0.Cy) (RX.of (ar 7 aU) [.slice A3 a1.Cy.length c4] a1.Cy)) (aD) (fun v A' N=>v= .bool r∧A'=aD∧N = []):=by
 refine aM Tryz.func129 Z Tryz.ntmps129 Z ?_
 intro F w hX
 unfold iK at h
 refine T.seq (T.region Z (TL.box Z .u Z Z (fun b5=>(TL.box Z .u Z Z (fun b6=>(TL.run ae [2] Z Z (TL.nil (X.seq (T.seq (T.region Z (TL.run ae [0] Z Z ?_)))))))))))
 refine TL.nil (X.seq (T.seq (Bd (.q 0 (.q 1 (.q 3 (.q 4 (.e 2 (.e 5 (.q 6 (.q 7 .nil)))))))) [0,0,0] Z gL (NoP.seq aP) (by kernel_rfl) ?_)))
 refine TD.run ae [0] Z Z (TD.q Z .u (AY (us := [jI a0.CP,jI a0.CI,.bool a0.CV,.bool a0.C0,.bool a0.CL,jI a0.CN,jI a0.CH,jI a0.CW,jI a0.CE,jI a0.CK,jI a0.CD,.slice A1 a0.Cy.length c2]) 1 Z Dx Di Z Z Z) Z (TD.run ae [3] Z Z (TD.q Z .u (AY (us := [jI a1.CP,jI a1.CI,.bool a1.CV,.bool a1.C0,.bool a1.CL,jI a1.CN,jI a1.CH,jI a1.CW,jI a1.CE,jI a1.CK,jI a1.CD,.slice A3 a1.Cy.length c4]) 0 Z Dx Di Z Z Z) Z ?_)))
 obtain⟨x7,hx8,h⟩:=C5 h
 refine Bk Z .u (.val Z Tryz.call154 Z Z) (jf a0 _ _ _ hx8) (fun _ hs=>(Ba hs (Bx hX))) Z [0,0,0] (Z) ?_
 obtain⟨x9,hx10,h⟩:=C5 h
 refine Bk Z .u (.val Z Tryz.call154 Z Z) (jf a1 _ _ _ hx10) (fun _ hs=>(Ba hs (Bz hX))) Z [0,0,0] (Z) ?_
 rcases jF h with⟨c11,h⟩ | ⟨c11,h⟩
 ·rcases jF h with⟨c12,h⟩ | ⟨c12,h⟩
  ·rcases jF h with⟨c13,h⟩ | ⟨c13,h⟩
   ·rcases jF h with⟨c14,h⟩ | ⟨c14,h⟩
    ·rcases jF h with⟨c15,h⟩ | ⟨c15,h⟩
     ·rcases jF h with⟨c16,h⟩ | ⟨c16,h⟩
      ·rcases jF h with⟨c17,h⟩ | ⟨c17,h⟩
       ·rcases jF h with⟨c18,h⟩ | ⟨c18,h⟩
        ·rcases jF h with⟨c19,h⟩ | ⟨c19,h⟩
         ·rcases jF h with⟨c20,h⟩ | ⟨c20,h⟩
          ·rcases jF h with⟨c21,h⟩ | ⟨c21,h⟩
           ·refine TD.q Z .u (BN (us := [jI x7.fbase,jI x7.fleader,jI x7.flast,jI x7.ffirst,jI x7.fmax,jI x7.fproducer,jI x7.fepoch,jI x7.fsequence,.bool x7.fappend,.bool x7.ftxn,.bool x7.fcontrol]) (vs := [jI x9.fbase,jI x9.fleader,jI x9.flast,jI x9.ffirst,jI x9.fmax,jI x9.fproducer,jI x9.fepoch,jI x9.fsequence,.bool x9.fappend,.bool x9.ftxn,.bool x9.fcontrol]) bJ Z D2 Z Z Z Z (aO (bn c11) (aO (bn c12) (aO (bn c13) (aO (bn c14) (aO (bn c15) (aO (bn c16) (aO (bn c17) (aO (bn c18) (aO (fG c19) (aO (fG c20) (aO (fG c21) Z)))))))))))) Z (TD.run ae [7] Z Z ?_)
            obtain rfl:=C8 h
            exact TD.nil (X.seq (T.ret (AJ [2] Ec (AK Z) ⟨Z,Z,Z⟩ (by rfl) (.inl Z))))
           ·refine TD.q Z .u (BN (us := [jI x7.fbase,jI x7.fleader,jI x7.flast,jI x7.ffirst,jI x7.fmax,jI x7.fproducer,jI x7.fepoch,jI x7.fsequence,.bool x7.fappend,.bool x7.ftxn,.bool x7.fcontrol]) (vs := [jI x9.fbase,jI x9.fleader,jI x9.flast,jI x9.ffirst,jI x9.fmax,jI x9.fproducer,jI x9.fepoch,jI x9.fsequence,.bool x9.fappend,.bool x9.ftxn,.bool x9.fcontrol]) bJ Z D2 Z Z Z Z (aO (bn c11) (aO (bn c12) (aO (bn c13) (aO (bn c14) (aO (bn c15) (aO (bn c16) (aO (bn c17) (aO (bn c18) (aO (fG c19) (aO (fG c20) (dW (jc c21))))))))))))) Z (TD.run ae [7] Z Z ?_)
            obtain rfl:=C8 h
            exact TD.nil (X.seq (T.ret (AJ [2] Ec (AK Z) ⟨Z,Z,Z⟩ (by rfl) (.inl Z))))
          ·refine TD.q Z .u (BN (us := [jI x7.fbase,jI x7.fleader,jI x7.flast,jI x7.ffirst,jI x7.fmax,jI x7.fproducer,jI x7.fepoch,jI x7.fsequence,.bool x7.fappend,.bool x7.ftxn,.bool x7.fcontrol]) (vs := [jI x9.fbase,jI x9.fleader,jI x9.flast,jI x9.ffirst,jI x9.fmax,jI x9.fproducer,jI x9.fepoch,jI x9.fsequence,.bool x9.fappend,.bool x9.ftxn,.bool x9.fcontrol]) bJ Z D2 Z Z Z Z (aO (bn c11) (aO (bn c12) (aO (bn c13) (aO (bn c14) (aO (bn c15) (aO (bn c16) (aO (bn c17) (aO (bn c18) (aO (fG c19) (dW (jc c20)))))))))))) Z (TD.run ae [7] Z Z ?_)
           obtain rfl:=C8 h
           exact TD.nil (X.seq (T.ret (AJ [2] Ec (AK Z) ⟨Z,Z,Z⟩ (by rfl) (.inl Z))))
         ·refine TD.q Z .u (BN (us := [jI x7.fbase,jI x7.fleader,jI x7.flast,jI x7.ffirst,jI x7.fmax,jI x7.fproducer,jI x7.fepoch,jI x7.fsequence,.bool x7.fappend,.bool x7.ftxn,.bool x7.fcontrol]) (vs := [jI x9.fbase,jI x9.fleader,jI x9.flast,jI x9.ffirst,jI x9.fmax,jI x9.fproducer,jI x9.fepoch,jI x9.fsequence,.bool x9.fappend,.bool x9.ftxn,.bool x9.fcontrol]) bJ Z D2 Z Z Z Z (aO (bn c11) (aO (bn c12) (aO (bn c13) (aO (bn c14) (aO (bn c15) (aO (bn c16) (aO (bn c17) (aO (bn c18) (dW (jc c19))))))))))) Z (TD.run ae [7] Z Z ?_)
          obtain rfl:=C8 h
          exact TD.nil (X.seq (T.ret (AJ [2] Ec (AK Z) ⟨Z,Z,Z⟩ (by rfl) (.inl Z))))
        ·refine TD.q Z .u (BN (us := [jI x7.fbase,jI x7.fleader,jI x7.flast,jI x7.ffirst,jI x7.fmax,jI x7.fproducer,jI x7.fepoch,jI x7.fsequence,.bool x7.fappend,.bool x7.ftxn,.bool x7.fcontrol]) (vs := [jI x9.fbase,jI x9.fleader,jI x9.flast,jI x9.ffirst,jI x9.fmax,jI x9.fproducer,jI x9.fepoch,jI x9.fsequence,.bool x9.fappend,.bool x9.ftxn,.bool x9.fcontrol]) bJ Z D2 Z Z Z Z (aO (bn c11) (aO (bn c12) (aO (bn c13) (aO (bn c14) (aO (bn c15) (aO (bn c16) (aO (bn c17) (dW (lm c18)))))))))) Z (TD.run ae [7] Z Z ?_)
         obtain rfl:=C8 h
         exact TD.nil (X.seq (T.ret (AJ [2] Ec (AK Z) ⟨Z,Z,Z⟩ (by rfl) (.inl Z))))
       ·refine TD.q Z .u (BN (us := [jI x7.fbase,jI x7.fleader,jI x7.flast,jI x7.ffirst,jI x7.fmax,jI x7.fproducer,jI x7.fepoch,jI x7.fsequence,.bool x7.fappend,.bool x7.ftxn,.bool x7.fcontrol]) (vs := [jI x9.fbase,jI x9.fleader,jI x9.flast,jI x9.ffirst,jI x9.fmax,jI x9.fproducer,jI x9.fepoch,jI x9.fsequence,.bool x9.fappend,.bool x9.ftxn,.bool x9.fcontrol]) bJ Z D2 Z Z Z Z (aO (bn c11) (aO (bn c12) (aO (bn c13) (aO (bn c14) (aO (bn c15) (aO (bn c16) (dW (lm c17))))))))) Z (TD.run ae [7] Z Z ?_)
        obtain rfl:=C8 h
        exact TD.nil (X.seq (T.ret (AJ [2] Ec (AK Z) ⟨Z,Z,Z⟩ (by rfl) (.inl Z))))
      ·refine TD.q Z .u (BN (us := [jI x7.fbase,jI x7.fleader,jI x7.flast,jI x7.ffirst,jI x7.fmax,jI x7.fproducer,jI x7.fepoch,jI x7.fsequence,.bool x7.fappend,.bool x7.ftxn,.bool x7.fcontrol]) (vs := [jI x9.fbase,jI x9.fleader,jI x9.flast,jI x9.ffirst,jI x9.fmax,jI x9.fproducer,jI x9.fepoch,jI x9.fsequence,.bool x9.fappend,.bool x9.ftxn,.bool x9.fcontrol]) bJ Z D2 Z Z Z Z (aO (bn c11) (aO (bn c12) (aO (bn c13) (aO (bn c14) (aO (bn c15) (dW (lm c16)))))))) Z (TD.run ae [7] Z Z ?_)
       obtain rfl:=C8 h
       exact TD.nil (X.seq (T.ret (AJ [2] Ec (AK Z) ⟨Z,Z,Z⟩ (by rfl) (.inl Z))))
     ·refine TD.q Z .u (BN (us := [jI x7.fbase,jI x7.fleader,jI x7.flast,jI x7.ffirst,jI x7.fmax,jI x7.fproducer,jI x7.fepoch,jI x7.fsequence,.bool x7.fappend,.bool x7.ftxn,.bool x7.fcontrol]) (vs := [jI x9.fbase,jI x9.fleader,jI x9.flast,jI x9.ffirst,jI x9.fmax,jI x9.fproducer,jI x9.fepoch,jI x9.fsequence,.bool x9.fappend,.bool x9.ftxn,.bool x9.fcontrol]) bJ Z D2 Z Z Z Z (aO (bn c11) (aO (bn c12) (aO (bn c13) (aO (bn c14) (dW (lm c15))))))) Z (TD.run ae [7] Z Z ?_)
      obtain rfl:=C8 h
      exact TD.nil (X.seq (T.ret (AJ [2] Ec (AK Z) ⟨Z,Z,Z⟩ (by rfl) (.inl Z))))
    ·refine TD.q Z .u (BN (us := [jI x7.fbase,jI x7.fleader,jI x7.flast,jI x7.ffirst,jI x7.fmax,jI x7.fproducer,jI x7.fepoch,jI x7.fsequence,.bool x7.fappend,.bool x7.ftxn,.bool x7.fcontrol]) (vs := [jI x9.fbase,jI x9.fleader,jI x9.flast,jI x9.ffirst,jI x9.fmax,jI x9.fproducer,jI x9.fepoch,jI x9.fsequence,.bool x9.fappend,.bool x9.ftxn,.bool x9.fcontrol]) bJ Z D2 Z Z Z Z (aO (bn c11) (aO (bn c12) (aO (bn c13) (dW (lm c14)))))) Z (TD.run ae [7] Z Z ?_)
     obtain rfl:=C8 h
     exact TD.nil (X.seq (T.ret (AJ [2] Ec (AK Z) ⟨Z,Z,Z⟩ (by rfl) (.inl Z))))
   ·refine TD.q Z .u (BN (us := [jI x7.fbase,jI x7.fleader,jI x7.flast,jI x7.ffirst,jI x7.fmax,jI x7.fproducer,jI x7.fepoch,jI x7.fsequence,.bool x7.fappend,.bool x7.ftxn,.bool x7.fcontrol]) (vs := [jI x9.fbase,jI x9.fleader,jI x9.flast,jI x9.ffirst,jI x9.fmax,jI x9.fproducer,jI x9.fepoch,jI x9.fsequence,.bool x9.fappend,.bool x9.ftxn,.bool x9.fcontrol]) bJ Z D2 Z Z Z Z (aO (bn c11) (aO (bn c12) (dW (lm c13))))) Z (TD.run ae [7] Z Z ?_)
    obtain rfl:=C8 h
    exact TD.nil (X.seq (T.ret (AJ [2] Ec (AK Z) ⟨Z,Z,Z⟩ (by rfl) (.inl Z))))
  ·refine TD.q Z .u (BN (us := [jI x7.fbase,jI x7.fleader,jI x7.flast,jI x7.ffirst,jI x7.fmax,jI x7.fproducer,jI x7.fepoch,jI x7.fsequence,.bool x7.fappend,.bool x7.ftxn,.bool x7.fcontrol]) (vs := [jI x9.fbase,jI x9.fleader,jI x9.flast,jI x9.ffirst,jI x9.fmax,jI x9.fproducer,jI x9.fepoch,jI x9.fsequence,.bool x9.fappend,.bool x9.ftxn,.bool x9.fcontrol]) bJ Z D2 Z Z Z Z (aO (bn c11) (dW (lm c12)))) Z (TD.run ae [7] Z Z ?_)
   obtain rfl:=C8 h
   exact TD.nil (X.seq (T.ret (AJ [2] Ec (AK Z) ⟨Z,Z,Z⟩ (by rfl) (.inl Z))))
 ·refine TD.q Z .u (BN (us := [jI x7.fbase,jI x7.fleader,jI x7.flast,jI x7.ffirst,jI x7.fmax,jI x7.fproducer,jI x7.fepoch,jI x7.fsequence,.bool x7.fappend,.bool x7.ftxn,.bool x7.fcontrol]) (vs := [jI x9.fbase,jI x9.fleader,jI x9.flast,jI x9.ffirst,jI x9.fmax,jI x9.fproducer,jI x9.fepoch,jI x9.fsequence,.bool x9.fappend,.bool x9.ftxn,.bool x9.fcontrol]) bJ Z D2 Z Z Z Z (dW (lm c11))) Z (TD.run ae [7] Z Z ?_)
  obtain rfl:=C8 h
  exact TD.nil (X.seq (T.ret (AJ [2] Ec (AK Z) ⟨Z,Z,Z⟩ (by rfl) (.inl Z))))
def dw (a1:Bat):List Rec→Bool→Nat→Option (Lp Bool Bool)
 | [],y17,k18=>some (Lp.go y17)
 | x23::xs,y17,k18=>(a1.Cy[k18]?).bind fun x45=>(fO x23 x45).bind fun x51=>if x51=true then (dw a1 xs y17 (k18+1)) else some (Lp.ret false)
def gt (a0:Bat) (a1:Bat):Option (Bool):=((iK a0 a1).bind fun x12=>if x12=true then (if (a0.Cy.length:Int)=(a1.Cy.length:Int) then some false else some true) else some true).bind fun y10=>if y10=true then some false else ((dw a1 a0.Cy false 0).bind fun e=>match e with | .ret r=>some r | .go y54=>some true)
theorem nq (a0:Bat) (A1:Option Addr) (c2:Nat) (a1:Bat) (A3:Option Addr) (c4:Nat) (r:Bool) (h:gt a0 a1=some r):aA Tryz.prog 81 #[.agg #[jI a0.CP,jI a0.CI,.bool a0.CV,.bool a0.C0,.bool a0.CL,jI a0.CN,jI a0.CH,jI a0.CW,jI a0.CE,jI a0.CK,jI a0.CD,.slice A1 a0.Cy.length c2],.agg #[jI a1.CP,jI a1.CI,.bool a1.CV,.bool a1.C0,.bool a1.CL,jI a1.CN,jI a1.CH,jI a1.CW,jI a1.CE,jI a1.CK,jI a1.CD,.slice A3 a1.Cy.length c4]] (RX.and (RX.of (ar 7 aU) [.slice A1 a0.Cy.length c2] a0.Cy) (RX.of (ar 7 aU) [.slice A3 a1.Cy.length c4] a1.Cy)) (aD) (fun v A' N=>v= .bool r∧A'=aD∧N = []):=by
 refine aM Tryz.func81 Z Tryz.ntmps81 Z ?_
 intro F w hX
 unfold gt at h
 refine T.seq (T.region Z (TL.box Z .u Z Z (fun b5=>(TL.box Z .u Z Z (fun b6=>(TL.run ae [2] Z Z (TL.nil (X.seq (T.seq (T.seq ?_))))))))))
 obtain⟨y10,h,hk11⟩:=C5 h
 refine BE (fun e Rs=>e = [(2,jP b5),(3,jP b6),(4,.bool false),(19,.bool y10)]∧Rs = [aC b6 27 #[jI a1.CP,jI a1.CI,.bool a1.CV,.bool a1.C0,.bool a1.CL,jI a1.CN,jI a1.CH,jI a1.CW,jI a1.CE,jI a1.CK,jI a1.CD,.slice A3 a1.Cy.length c4],aC b5 27 #[jI a0.CP,jI a0.CI,.bool a0.CV,.bool a0.C0,.bool a0.CL,jI a0.CN,jI a0.CH,jI a0.CW,jI a0.CE,jI a0.CK,jI a0.CD,.slice A1 a0.Cy.length c2],aD]) ?_ ?_
 ·clear hk11
  refine T.region Z (TL.q Z .u (AY (us := [jI a0.CP,jI a0.CI,.bool a0.CV,.bool a0.C0,.bool a0.CL,jI a0.CN,jI a0.CH,jI a0.CW,jI a0.CE,jI a0.CK,jI a0.CD,.slice A1 a0.Cy.length c2]) 1 Z Dx Di Z Z Z) Z (TL.q Z .u (AY (us := [jI a1.CP,jI a1.CI,.bool a1.CV,.bool a1.C0,.bool a1.CL,jI a1.CN,jI a1.CH,jI a1.CW,jI a1.CE,jI a1.CK,jI a1.CD,.slice A3 a1.Cy.length c4]) 0 Z Dx Di Z Z Z) Z ?_))
  obtain⟨x12,hx13,h⟩:=C5 h
  refine Bc Z .u (.fn Tryz.call129 Z) (np a0 _ _ a1 _ _ _ hx13) (fun _ hs=>(BJ (Ba hs (Bx hX)) (Ba hs (Bz hX)))) Z ?_
  rcases jF h with⟨c14,h⟩ | ⟨c14,h⟩
  ·refine TL.run ae [3,4] Z Z (TL.q Z (.g Z Z (ax c14)) (AO ae Z) Z (TL.q Z (.g Z Z (ax c14)) (AH 1 Z DA Z Z) Z (TL.q Z (.g Z Z (ax c14)) (AW Z Dl) Z (TL.q Z (.g Z Z (ax c14)) (AO ae Z) Z (TL.q Z (.g Z Z (ax c14)) (AH 0 Z DA Z Z) Z (TL.q Z (.g Z Z (ax c14)) (AW Z Dl) Z (TL.q Z (.g Z Z (ax c14)) (AO ae Z) Z ?_)))))))
   refine TL.q Z .u (AR Z (ax c14) Z) Z ?_
   rcases jF h with⟨c15,h⟩ | ⟨c15,h⟩
   ·cases h
    exact TL.nil (Bw (d:=19) (v':= .bool false) Z (congrArg Value.bool (ax (C6 c15))) (A5 [0,0,0] ⟨Z,Z⟩ (by rfl) (by rfl)))
   ·cases h
    exact TL.nil (Bw (d:=19) (v':= .bool true) Z (congrArg Value.bool (aF (C7 c15))) (A5 [0,0,0] ⟨Z,Z⟩ (by rfl) (by rfl)))
  ·replace c14:=Dd c14
   refine TL.run ae [3,4] Z Z ?_
   iterate 7 refine AM Z (.gn Z Z (aF c14)) Z ?_
   refine TL.q Z .u (AP Z (aF c14) Z) Z ?_
   cases h
   exact TL.nil (A5 [0,0,0] ⟨Z,Z⟩ (by rfl) (by rfl))
 ·rintro _ _ ⟨rfl,rfl⟩
  clear h
  have h:=hk11
  clear hk11
  try dsimp only at h
  rcases jF h with⟨c16,h⟩ | ⟨c16,h⟩
  ·refine X.seq (AN Z c16 (T.seq (T.region Z (TL.run ae [0] Z Z ?_))))
   obtain rfl:=C8 h
   exact TL.nil (X.seq (T.ret (AL (AJ [2] Tryz.results81 (AK Z) ⟨Z,Z,Z⟩ (by rfl) (.inl Z)))))
  ·replace c16:=Dd c16
   refine X.seq (AS Z c16 (T.skip (X.seq (T.seq (T.seq (T.region Z (TL.run ae [0] Z Z (TL.q Z .u (AH 1 Z DA Z Z) Z (TL.q Z .u (AW Z Dl) Z (TL.run ae [3] Z Z (TL.nil (X.seq (T.block ?_)))))))))))))
   obtain⟨E19,hE20,hO21⟩:=C5 h
   have hk25len:=Bm (Bx hX)
   refine Bj (fun m e Rs=> ∃ (y17:Bool) (k18:Nat),k18+m=a0.Cy.length∧e = [(3,jP b6),(4,.bool y17),(21,.slice A1 a0.Cy.length c2),(22,jI (a0.Cy.length:Int)),(23,jI (k18:Int))]∧Rs = [aC b6 27 #[jI a1.CP,jI a1.CI,.bool a1.CV,.bool a1.C0,.bool a1.CL,jI a1.CN,jI a1.CH,jI a1.CW,jI a1.CE,jI a1.CK,jI a1.CD,.slice A3 a1.Cy.length c4],aC b5 27 #[jI a0.CP,jI a0.CI,.bool a0.CV,.bool a0.C0,.bool a0.CL,jI a0.CN,jI a0.CH,jI a0.CW,jI a0.CE,jI a0.CK,jI a0.CD,.slice A1 a0.Cy.length c2],aD]∧dw a1 (a0.Cy.drop k18) y17 k18=some E19) (a0.Cy.length) [0,0,0] ⟨false,0,by simp,Z,Z,by rw[List.drop_zero]; exact hE20⟩ (by rfl) (by rfl) ?_
   rintro m22 _ _ ⟨y17,k18,hk25,rfl,rfl,hl24⟩
   clear hE20 h
   cases m22 with
   | zero =>
    have h:=hl24
    clear hl24
    rw[List.drop_of_length_le (by omega),dw] at h
    have hk25ge: ¬ ((k18:Int)<(a0.Cy.length:Int)):=by omega
    refine T.seq (T.region Z (TL.run ae [0] Z Z (TL.nil (X.seq (T.seq (AS Z (C7 hk25ge) ?_))))))
    obtain rfl:=C8 h
    replace h:=hO21
    clear hO21
    try dsimp only at h
    refine T.exit (AV (AV (Bh (X.seq (T.seq (T.region Z (TL.run ae [0] Z Z ?_)))))))
    obtain rfl:=C8 h
    exact TL.nil (X.seq (T.ret (AJ [2] Tryz.results81 (AK Z) ⟨Z,Z,Z⟩ (by rfl) (.inl Z))))
   | succ m22 =>
    have h:=hl24
    clear hl24
    obtain⟨x23,hxx23⟩: ∃ x,a0.Cy[k18]? = some x:=⟨_,List.getElem?_eq_getElem (by omega)⟩
    rw[aX hxx23,dw] at h
    have hk25lt:(k18:Int)<(a0.Cy.length:Int):=by omega
    refine T.seq (T.region Z (TL.run ae [0] Z Z (TL.nil (X.seq (T.seq (AN Z (C6 hk25lt) (T.skip (X.seq (T.seq (T.block (T.seq (T.region Z ?_))))))))))))
    obtain⟨gz40,oz40,rfl,z40cs,z40cl,z40cc,z40nf,z40r⟩:=Bb (by decide) (Bx hX) hxx23
    obtain⟨z40S,z40r,z40rr⟩:=z40r
    obtain⟨A41,c42,rfl,z40s0⟩:=z40r
    have hX43:(RX.of (ar 3 bG) [.slice A41 x23.CF.length c42] x23.CF).reads w F:=⟨z40S,z40s0,z40rr⟩
    refine TL.run ae [0] Z Z ?_
    refine TL.q Z .u (AX (k:=k18) Z Z Z Dl Dj (Da hxx23).1) Z ?_
    refine TL.q Z .u (Bn (us := [jI x23.CY,jI x23.CU,.bool x23.CJ.null,jS x23.CJ.data,.bool x23.Cz.null,jS x23.Cz.data,.slice A41 x23.CF.length c42]) 0 Z DE Dj z40nf z40cc Z Z Z) Z (TL.alloc Z .u Tryz.zeroValue38 Z (fun b44=>(TL.run ae [4] Z Z (A9 (cs':= #[jI x23.CY,jI x23.CU,.bool x23.CJ.null,jS x23.CJ.data,.bool x23.Cz.null,jS x23.Cz.data,.slice A41 x23.CF.length c42]) Z .u Z Z Dj Z Z Z Z ?_))))
    refine TL.nil (X.seq (T.seq (Bd (.q 0 (.q 1 (.q 2 (.q 3 (.q 4 (.q 5 (.e 6 (.q 7 .nil)))))))) [0,0,0,0] Z gL (NoP.seq (NoP.blk (NoP.seq (NoP.seq (NoP.blk (NoP.seq aP)))))) (by kernel_rfl) ?_)))
    refine TD.q Z .u (AY (us := [jI x23.CY,jI x23.CU,.bool x23.CJ.null,jS x23.CJ.data,.bool x23.Cz.null,jS x23.Cz.data,.slice A41 x23.CF.length c42]) 0 Z DE Dj Z Z Z) Z (TD.run ae [1] Z Z (TD.q Z .u (AH 1 Z DA Z Z) Z ?_))
    obtain⟨x45,hx46,h⟩:=C5 h
    obtain⟨gz47,oz47,rfl,z47cs,z47cl,z47cc,z47nf,z47r⟩:=Bb (by decide) (Bz hX) hx46
    obtain⟨z47S,z47r,z47rr⟩:=z47r
    obtain⟨A48,c49,rfl,z47s0⟩:=z47r
    have hX50:(RX.of (ar 3 bG) [.slice A48 x45.CF.length c49] x45.CF).reads w F:=⟨z47S,z47s0,z47rr⟩
    refine TD.run ae [3] Z Z ?_
    refine TD.q Z .u (AX (k:=k18) Z Z Z Dl Dj (Da hx46).1) Z ?_
    refine TD.q Z .u (Bn (us := [jI x45.CY,jI x45.CU,.bool x45.CJ.null,jS x45.CJ.data,.bool x45.Cz.null,jS x45.Cz.data,.slice A48 x45.CF.length c49]) 0 Z DE Dj z47nf z47cc Z Z Z) Z ?_
    obtain⟨x51,hx52,h⟩:=C5 h
    refine Bk Z .u (.fn Tryz.call130 Z) (mA x23 _ _ x45 _ _ _ hx52) (fun _ hs=>(BJ (Ba hs hX43) (Ba hs hX50))) Z [0,0,0,0] (Z) (TD.run ae [7] Z Z ?_)
    rcases jF h with⟨c53,h⟩ | ⟨c53,h⟩
    ·exact TD.nil (X.seq (AS Z (ax c53) (T.skip (AZ (X.seq (T.region Z (TL.q Z .u (Ex.add Z Z (by omega)) Z (TL.run ae [1] Z Z (TL.nil (X.back (m':=m22) [1,1,1] (by omega) ⟨y17,k18+1,by omega,Z,Z,h⟩ (by rfl) (by rfl)))))))))))
    ·replace c53:=Dd c53
     refine TD.nil (X.seq (AN Z (aF c53) (T.seq (T.region Z (TL.run ae [0] Z Z ?_)))))
     obtain rfl:=C8 h
     replace h:=hO21
     clear hO21
     try dsimp only at h
     obtain rfl:=C8 h
     exact TL.nil (X.seq (T.ret (AU (AL (AL (AU (AL (AJ [3] Tryz.results81 (AK Z) ⟨Z,Z,Z⟩ (by rfl) (.inl Z)))))))))
def wy:List Res→World→(Nat→Prop)→Prop
 | [],_,_=>True
 | R::Rs,w,G=>(∃ H,R.P w H∧ ∀ k,H k→G k)∧wy Rs w G
theorem Sep.allIn: ∀ {Rs:List Res} {w:World} {G:Nat→Prop},Sep Rs w G→wy Rs w G
 | [],_,_,_=>trivial
 | R::Rs,w,G,⟨H,h1,h2,h3⟩=>by
  refine⟨⟨H,h1,h2⟩,?_⟩
  have h4:=Sep.allIn h3
  clear h1 h2 h3
  induction Rs with
  | nil=>trivial
  | cons A As ih=>exact⟨let ⟨K,k1,k2⟩:=h4.1; ⟨K,k1,fun k hk=>(k2 k hk).1⟩,ih h4.2⟩
section
variable {F0:Nat→Prop} {w0 w:World} {Rs l:List Res} {X:RX} {α:Type} {E:Rd α} {b T z m:Nat} {us:List Value} {xs:List α} {G:Nat→Prop}
theorem Src.many {i:Nat} (is:List Nat) (hl:Sel (Rs.eraseIdx i) is l) (hX: ∀ w G,wy l w G→X.P w G):Src F0 w0 Rs w i X:=by
 intro A H _ _ _ h4
 have h5:=(hl.sep h4).inside
 exact⟨_,hX w _ h5.allIn,fun k hk=>⟨hk.1.2,hk.2⟩⟩
theorem SrcE.many (is:List Nat) (h:St F0 w0 Rs w) (hl:Sel Rs is l) (hX: ∀ w G,wy l w G→X.P w G):X.reads w (fun _=>False):=by
 have h5:=(hl.sep h.sep).inside
 exact⟨_,hX w _ h5.allIn,fun k hk=>⟨fun h=>h,hk.2⟩⟩
theorem fD (hb:w.heap[b]? = some (.cells us.toArray T (0,0))) (hG:G b) (hm:xs.length=m) (hmm:m≤maxLen) (he:fL z E w G us xs):(ar z E).P w G [.slice (some ⟨b,0,none⟩) m m] xs:=by
 subst hm
 refine .inr ⟨⟨b,0,none⟩,xs.length,rfl,DJ _,hmm,fun _=>hG,fun i x hx=> ?_⟩
 obtain⟨k1,k2⟩:=lN he hx
 have hi:i<xs.length:=(Da hx).1
 have hl:=gj he
 refine⟨_,k1,fun j hj=> ?_,k2⟩
 have hadd:(⟨b,0,none⟩:Addr).add (i*z+j)=⟨b,i*z+j,none⟩:=by unfold Addr.add; split <;> simp_all
 rw[hadd,aN hb,List.getElem?_take,if_pos hj,List.getElem?_drop]
 simp
end
def n8:fh := []
theorem ao:(n8).OK Tryz.prog:=trivial
theorem nr:Tryz.prog.follows .mixedOrders=true:=by kernel_rfl
theorem jN:SOK Tryz.prog 106 3 17 1 #[.int .i64 0,.int .i64 0,.int .i64 0,.int .i64 0,.int .i64 0,.int .i64 0,.int .i64 0,.int .i64 0,.int .i64 0,.int .i64 0,.int .i64 0,.int .i64 0,.int .i64 0,.int .i64 0,.int .i64 0,.int .i64 0,.int .i64 0]:=SOK.mk Dv De Tryz.zeroValue3 (by decide) (by kernel_rfl)
theorem l9:(Tryz.prog.info? 3).map (fun i=>(i.zero,i.size,i.bytes))=some (some (.int .i64 0),1,8):=by kernel_rfl
def eL (a1:Int):Nat→Int→Nat→Option (Int×Nat)
 | 0,_,_=>none
 | m11+1,y6,k7=>if 0≤a1∧a1≤9223372036854775807 then (if (k7:Int)<(a1 % 8) then (if 0≤y6∧y6≤9223372036854775807 then (if -9223372036854775808≤((k7:Int)+1)∧((k7:Int)+1)≤9223372036854775807 then (eL a1 m11 (y6 / 2) (k7+1)) else none) else none) else some (y6,k7)) else none
def kb (a0:List UInt8) (a1:Int):Option (Int):=if 0≤a1∧a1≤9223372036854775807 then (if 0≤(a1 / 8) then ((a0[(a1 / 8).toNat]?).bind fun ch3=>if -9223372036854775808≤(ch3.toNat:Int)∧(ch3.toNat:Int)≤9223372036854775807 then ((eL a1 (((a1 % 8)).toNat+1) (ch3.toNat:Int) 0).bind fun (y20,k21)=>if 0≤y20∧y20≤9223372036854775807 then some (y20 % 2) else none) else none) else none) else none
theorem qm (a0:List UInt8) (a1:Int) (r:Int) (h:kb a0 a1=some r):aA Tryz.prog 117 #[jS a0,jI a1] .triv (aD) (fun v A' N=>v=jI r∧A'=aD∧N = []):=by
 refine aM Tryz.func117 Z Tryz.ntmps117 Z ?_
 intro F w hX
 unfold kb at h
 refine T.seq (T.region Z (TL.run ao [0] Z Z (TL.nil (X.seq (T.seq (T.region Z ?_))))))
 replace h:=an h
 obtain⟨c1,h⟩:=h
 refine TL.run ao [0,1] Z Z (TL.q Z .u (Ex.quo Z Z (by omega) c1) Z ?_)
 replace h:=an h
 obtain⟨c2,h⟩:=h
 obtain⟨ch3,hc4,h⟩:=C5 h
 refine TL.q Z .u (Ex.sIx Z Z ((Int.toNat_of_nonneg c2).symm) Tryz.underlying9 hc4) Z ?_
 replace h:=an h
 obtain⟨c5,h⟩:=h
 refine TL.q Z .u (BW Z Ed D7 c5) Z (TL.run ao [5] Z Z (TL.nil (X.seq (T.seq (T.seq (T.region Z (TL.run ao [0] Z Z (TL.nil (X.seq (T.block ?_))))))))))
 obtain⟨E8,hE9,hO10⟩:=C5 h
 refine Bj (fun m e Rs=> ∃ (y6:Int) (k7:Nat),e = [(1,jI a1),(4,jI 0),(5,jI y6),(6,jI (k7:Int))]∧Rs = [aD]∧eL a1 m y6 k7=some E8) (((a1 % 8)).toNat+1) [0] ⟨(ch3.toNat:Int),0,Z,Z,by exact hE9⟩ (by rfl) (by rfl) ?_
 rintro m11 _ _ ⟨y6,k7,rfl,rfl,hl13⟩
 clear hE9 h
 cases m11 with
 | zero =>
  rw[eL] at hl13
  cases hl13
 | succ m11 =>
  have h:=hl13
  clear hl13
  rw[eL] at h
  refine T.seq (T.seq (T.region Z ?_))
  replace h:=an h
  obtain⟨c15,h⟩:=h
  refine TL.run ao [0,1] Z Z (TL.q Z .u (Ex.rem Z Z (by omega) c15) Z (TL.run ao [3] Z Z ?_))
  rcases jF h with⟨c16,h⟩ | ⟨c16,h⟩
  ·refine TL.nil (X.seq (AN Z (C6 c16) (T.skip (X.seq (T.seq (T.block (T.region Z ?_)))))))
   replace h:=an h
   obtain⟨c17,h⟩:=h
   refine TL.run ao [0] Z Z (TL.q Z .u (Ex.quo Z Z (by omega) c17) Z (TL.run ao [2] Z Z (TL.nil (AZ (X.seq (T.region Z ?_))))))
   replace h:=an h
   obtain⟨c18,h⟩:=h
   exact TL.run ao [0] Z Z (TL.q Z .u (Ex.add Z Z c18) Z (TL.run ao [2] Z Z (TL.nil (X.back (m':=m11) [0] (by omega) ⟨(y6 / 2),k7+1,Z,Z,h⟩ (by rfl) (by rfl)))))
  ·refine TL.nil (X.seq (AS Z (C7 c16) ?_))
   obtain rfl:=C8 h
   replace h:=hO10
   clear hO10
   try dsimp only at h
   refine T.exit (AV (AV (Bh (X.seq (T.seq (T.region Z ?_))))))
   replace h:=an h
   obtain⟨c19,h⟩:=h
   refine TL.run ao [0] Z Z (TL.q Z .u (Ex.rem Z Z (by omega) c19) Z (TL.run ao [2] Z Z ?_))
   obtain rfl:=C8 h
   exact TL.nil (X.seq (T.ret (AJ [0] Tryz.results117 (AK Z) ⟨Z,Z,Z⟩ (by rfl) (.inl Z))))
def fp (a0:Int):Nat→Int→Nat→Option (Lp Int (Int×Nat))
 | 0,_,_=>none
 | m7+1,y2,k3=>if (k3:Int)<([28,27,26,25,23,22,20,19,18,14,13,11,10,9,8,6,0].length:Int) then (([28,27,26,25,23,22,20,19,18,14,13,11,10,9,8,6,0][k3]?).bind fun x12=>if x12=a0 then some (Lp.ret 1) else (if -9223372036854775808≤((k3:Int)+1)∧((k3:Int)+1)≤9223372036854775807 then (fp a0 m7 y2 (k3+1)) else none)) else (some (Lp.go (y2,k3)))
def ig (a0:Int):Option (Int):=(fp a0 ((([28,27,26,25,23,22,20,19,18,14,13,11,10,9,8,6,0].length:Int)).toNat+1) 0 0).bind fun e=>match e with | .ret r=>some r | .go (y17,k18)=>some 0
theorem kc (a0:Int) (r:Int) (h:ig a0=some r):aA Tryz.prog 118 #[jI a0] .triv (aD) (fun v A' N=>v=jI r∧A'=aD∧N = []):=by
 refine aM Tryz.func118 Z Tryz.ntmps118 Z ?_
 intro F w hX
 unfold ig at h
 refine T.seq (T.region Z (TL.run ao [0] Z Z (TL.nil (X.seq (T.seq (T.region Z ?_))))))
 refine BT (cells:= #[jI 28,jI 27,jI 26,jI 25,jI 23,jI 22,jI 20,jI 19,jI 18,jI 14,jI 13,jI 11,jI 10,jI 9,jI 8,jI 6,jI 0]) Z .u jN Z (by kernel_rfl) Z (fun b1=> ?_)
 refine Ct (us := [jI 28,jI 27,jI 26,jI 25,jI 23,jI 22,jI 20,jI 19,jI 18,jI 14,jI 13,jI 11,jI 10,jI 9,jI 8,jI 6,jI 0]) (xs := [28,27,26,25,23,22,20,19,18,14,13,11,10,9,8,6,0]) (E:=fc) (z:=1) Z (Nat.le_of_ble_eq_true Z) (fun _=>⟨Z,Z,⟨Z,Z,⟨Z,Z,⟨Z,Z,⟨Z,Z,⟨Z,Z,⟨Z,Z,⟨Z,Z,⟨Z,Z,⟨Z,Z,⟨Z,Z,⟨Z,Z,⟨Z,Z,⟨Z,Z,⟨Z,Z,⟨Z,Z,⟨Z,Z,Z⟩⟩⟩⟩⟩⟩⟩⟩⟩⟩⟩⟩⟩⟩⟩⟩⟩) (TL.run ao [1] Z Z (TL.nil (X.seq (T.seq (T.seq (T.region Z (TL.run ao [0] Z Z (TL.nil (X.seq (T.block ?_))))))))))
 obtain⟨E4,hE5,hO6⟩:=C5 h
 refine Bj (fun m e Rs=> ∃ (y2:Int) (k3:Nat),e = [(0,jI a0),(2,jI y2),(3,.slice (some ⟨b1,0,none⟩) 17 17),(4,jI (k3:Int))]∧Rs = [bp 3 1 fc (.slice (some ⟨b1,0,none⟩) 17 17) [28,27,26,25,23,22,20,19,18,14,13,11,10,9,8,6,0],aD]∧fp a0 m y2 k3=some E4) ((([28,27,26,25,23,22,20,19,18,14,13,11,10,9,8,6,0].length:Int)).toNat+1) [0,0] ⟨0,0,Z,Z,by exact hE5⟩ (by rfl) (by rfl) ?_
 rintro m7 _ _ ⟨y2,k3,rfl,rfl,hl9⟩
 clear hE5 h
 cases m7 with
 | zero =>
  rw[fp] at hl9
  cases hl9
 | succ m7 =>
  have h:=hl9
  clear hl9
  rw[fp] at h
  refine T.seq (T.seq (T.region Z (TL.run ao [0,1] Z Z (TL.q Z .u (AW Z Dv) Z (TL.run ao [3] Z Z ?_)))))
  rcases jF h with⟨c11,h⟩ | ⟨c11,h⟩
  ·refine TL.nil (X.seq (AN Z (C6 c11) (T.skip (X.seq (T.seq (T.block (T.seq (T.region Z ?_))))))))
   obtain⟨x12,hx13,h⟩:=C5 h
   refine TL.run ao [0,1] Z Z (Cv (E:=fc) (k:=k3) 0 Z (fun w G h=>bA (by decide) w G h) (by decide) hx13 ?_)
   rintro gg oo z14cs hA z14cl ⟨_,_,z14r⟩
   cases hA
   obtain rfl:z14cs = [jI x12]:=z14r
   clear z14cl
   refine Bp [0,0] Z ?_
   refine TL.q Z .u (AX (k:=k3) Z Z Z Dv De (Da hx13).1) Z ?_
   refine TL.q Z .u (Cl (cs := [jI x12]) 0 0 Z Dc Z (fun _ _ h=>h.2.2.1) Z) Z (TL.run ao [4,5] Z Z ?_)
   rcases jF h with⟨c15,h⟩ | ⟨c15,h⟩
   ·refine TL.nil (X.seq (AN Z (C6 c15) (T.seq (T.region Z (TL.run ao [0] Z Z ?_)))))
    obtain rfl:=C8 h
    replace h:=hO6
    clear hO6
    try dsimp only at h
    obtain rfl:=C8 h
    exact TL.nil (X.seq (T.ret (AU (AL (AL (AU (AL (AJ [1] Tryz.results118 (AK Z) ⟨Z,Z,Z⟩ (by rfl) (.inl Z)))))))))
   ·refine TL.nil (X.seq (AS Z (C7 c15) (T.skip (AZ (X.seq (T.region Z ?_))))))
    replace h:=an h
    obtain⟨c16,h⟩:=h
    exact TL.run ao [0] Z Z (TL.q Z .u (Ex.add Z Z c16) Z (TL.run ao [2] Z Z (TL.nil (X.unf 0 Z (Bv [0,0] Z (X.back (m':=m7) [0,0] (by omega) ⟨y2,k3+1,Z,Z,h⟩ (by rfl) (by rfl)))))))
  ·refine TL.nil (X.seq (AS Z (C7 c11) ?_))
   obtain rfl:=C8 h
   replace h:=hO6
   clear hO6
   try dsimp only at h
   refine T.exit (AV (AV (Bh (X.seq (T.seq (T.region Z (TL.run ao [0] Z Z ?_)))))))
   obtain rfl:=C8 h
   exact TL.nil (X.seq (T.ret (AJ [1] Tryz.results118 (AK Z) ⟨Z,Z,Z⟩ (by rfl) (.inl Z))))
def eM (k43:Nat):Nat→List Int→Int→Option (List Int×Int)
 | 0,_,_=>none
 | m63+1,y56,y59=>if y59≤32 then (if 0≤((k43:Int)+y59) then ((y56[((k43:Int)+y59).toNat]?).bind fun x69=>if -9223372036854775808≤((k43:Int)+y59)∧((k43:Int)+y59)≤9223372036854775807 then (if -9223372036854775808≤((k43:Int)+y59)∧((k43:Int)+y59)≤9223372036854775807 then (if -9223372036854775808≤(32 - y59)∧(32 - y59)≤9223372036854775807 then ((ig (32 - y59)).bind fun x75=>if -9223372036854775808≤(x69+x75)∧(x69+x75)≤9223372036854775807 then (if 0≤(x69+x75)∧(x69+x75)≤9223372036854775807 then (if -9223372036854775808≤(y59+1)∧(y59+1)≤9223372036854775807 then (eM k43 m63 (y56.set (((k43:Int)+y59).toNat) ((x69+x75) % 2)) (y59+1)) else none) else none) else none) else none) else none) else none) else none) else some (y56,y59)
def dz (a0:List UInt8) (y40:List Int):Nat→Int→Int→Option (Int×Int)
 | 0,_,_=>none
 | m92+1,y87,y88=>if y88≥0 then (if -9223372036854775808≤((8*(a0.length:Int))+y88)∧((8*(a0.length:Int))+y88)≤9223372036854775807 then (if 0≤((8*(a0.length:Int))+y88) then ((y40[((8*(a0.length:Int))+y88).toNat]?).bind fun x99=>if -9223372036854775808≤(1 - x99)∧(1 - x99)≤9223372036854775807 then (if -9223372036854775808≤(y88 - 1)∧(y88 - 1)≤9223372036854775807 then (dz a0 y40 m92 (IntKind.u32.wrap ((IntKind.u32.wrap (y87*2))+(IntKind.u32.wrap (1 - x99)))) (y88 - 1)) else none) else none) else none) else none) else some (y87,y88)
def dZ (a0:List UInt8):Nat→List Int→Nat→Option (List Int×Nat)
 | 0,_,_=>none
 | m47+1,y40,k43=>if (k43:Int)<(8*(a0.length:Int)) then ((y40[k43]?).bind fun x52=>if x52=1 then ((eM k43 (((33:Int) - (1)).toNat+1) y40 1).bind fun (y81,y84)=>if -9223372036854775808≤((k43:Int)+1)∧((k43:Int)+1)≤9223372036854775807 then (dZ a0 m47 y81 (k43+1)) else none) else (if -9223372036854775808≤((k43:Int)+1)∧((k43:Int)+1)≤9223372036854775807 then (dZ a0 m47 y40 (k43+1)) else none)) else some (y40,k43)
def eN:Nat→List Int→Nat→Option (List Int×Nat)
 | 0,_,_=>none
 | m30+1,y23,k26=>if (k26:Int)<32 then ((y23[k26]?).bind fun x35=>if -9223372036854775808≤(1 - x35)∧(1 - x35)≤9223372036854775807 then (if -9223372036854775808≤((k26:Int)+1)∧((k26:Int)+1)≤9223372036854775807 then (eN m30 (y23.set k26 (1 - x35)) (k26+1)) else none) else none) else some (y23,k26)
def eO (a0:List UInt8):Nat→List Int→Nat→Option (List Int×Nat)
 | 0,_,_=>none
 | m12+1,y5,k8=>if (k8:Int)<(8*(a0.length:Int)) then ((kb a0 (k8:Int)).bind fun x17=>(y5[k8]?).bind fun x19=>if -9223372036854775808≤((k8:Int)+1)∧((k8:Int)+1)≤9223372036854775807 then (eO a0 m12 (y5.set k8 x17) (k8+1)) else none) else some (y5,k8)
def kd (a0:List UInt8):Option (Int):=if -9223372036854775808≤(8*(a0.length:Int))∧(8*(a0.length:Int))≤9223372036854775807 then (if -9223372036854775808≤((8*(a0.length:Int))+32)∧((8*(a0.length:Int))+32)≤9223372036854775807 then (if 0≤((8*(a0.length:Int))+32)∧8*(((8*(a0.length:Int))+32).toNat)≤281474976710656 then ((eO a0 (((8*(a0.length:Int))).toNat+1) (List.replicate (((8*(a0.length:Int))+32).toNat) (0:Int)) 0).bind fun (y222,k225)=>(eN ((32:Int).toNat+1) y222 0).bind fun (y332,k335)=>(dZ a0 (((8*(a0.length:Int))).toNat+1) y332 0).bind fun (y402,k405)=>(dz a0 y402 (((31:Int) - (-1)).toNat+1) 0 31).bind fun (y423,y424)=>some y423) else none) else none) else none
theorem qn (a0:List UInt8) (r:Int) (h:kd a0=some r):aA Tryz.prog 54 #[jS a0] .triv (aD) (fun v A' N=>v= .int .u32 r∧A'=aD∧N = []):=by
 refine aM Tryz.func54 Z Tryz.ntmps54 Z ?_
 intro F w hX
 unfold kd at h
 refine T.seq (T.region Z (TL.run ao [0] Z Z (TL.nil (X.seq (T.seq (T.region Z (TL.run ao [0] Z Z (TL.q Z .u (Br Z Dm) Z ?_))))))))
 replace h:=an h
 obtain⟨c1,h⟩:=h
 refine TL.q Z .u (Ex.mul Z Z c1) Z (TL.run ao [3] Z Z (TL.nil (X.seq (T.seq (T.region Z ?_)))))
 replace h:=an h
 obtain⟨c2,h⟩:=h
 refine TL.run ao [0] Z Z (TL.q Z .u (Ex.add Z Z c2) Z ?_)
 replace h:=an h
 obtain⟨c3,h⟩:=h
 refine TL.mk1 (k:=((8*(a0.length:Int))+32).toNat) (v:=jI 0) fc (0:Int) Z .u Tryz.underlying106 l9 Z Z (Int.toNat_of_nonneg c3.1).symm c3.2 (by have hq:=c3.2; omega) (fun _ _=>Z) Z (fun b4=> ?_)
 refine TL.run ao [3] Z Z (TL.nil (X.seq (T.seq (T.seq (T.region Z (TL.run ao [0] Z Z (TL.nil (X.seq (T.block ?_)))))))))
 obtain⟨E9,hE10,hO11⟩:=C5 h
 refine Bj (fun m e Rs=> ∃ (y5:List Int) (A6:Option Addr) (c7:Nat) (k8:Nat),e = [(0,jS a0),(2,.int .u32 0),(3,jI (8*(a0.length:Int))),(4,.slice A6 y5.length c7),(5,jI (k8:Int))]∧Rs = [bp 3 1 fc (.slice A6 y5.length c7) y5,aD]∧eO a0 m y5 k8=some E9) (((8*(a0.length:Int))).toNat+1) [0,0] ⟨(List.replicate (((8*(a0.length:Int))+32).toNat) (0:Int)),(some ⟨b4,0,none⟩),(List.replicate (((8*(a0.length:Int))+32).toNat) (0:Int)).length,0,Z,Z,by exact hE10⟩ (by rfl) (by rfl) ?_
 rintro m12 _ _ ⟨y5,A6,c7,k8,rfl,rfl,hl14⟩
 clear hE10 h
 cases m12 with
 | zero =>
  rw[eO] at hl14
  cases hl14
 | succ m12 =>
  have h:=hl14
  clear hl14
  rw[eO] at h
  refine T.seq (T.seq (T.region Z (TL.run ao [0,1,2] Z Z ?_)))
  rcases jF h with⟨c16,h⟩ | ⟨c16,h⟩
  ·refine TL.nil (X.seq (AN Z (C6 c16) (T.skip (X.seq (T.seq (T.block (T.region Z ?_)))))))
   obtain⟨x17,hx18,h⟩:=C5 h
   refine TL.run ao [0,1,2,3] Z Z (Bc Z .u (.fn Tryz.call117 Z) (qm a0 (k8:Int) _ hx18) (fun _ hs=>(AQ _ _)) Z ?_)
   obtain⟨x19,hx20,h⟩:=C5 h
   refine Cv (E:=fc) (k:=k8) 0 Z (fun w G h=>bA (by decide) w G h) (by decide) hx20 ?_
   rintro gz21 oz21 z21cs hA z21cl ⟨_,_,z21r⟩
   cases hA
   obtain rfl:z21cs = [jI x19]:=z21r
   clear z21cl
   refine Bp [0,0] Z ?_
   refine TL.q Z .u (AX (k:=k8) Z Z Z Dv De (Da hx20).1) Z ?_
   refine TL.unf 0 Z (Bp [0,0] Z (TL.stE (k:=k8) (u:=x19) (u':=x17) 0 0 Z .u Z Z De Z hx20 Z Z Z Z (fun _ _ _ _ h=>by subst h; rfl) (Bp [0,0] Z ?_)))
   rw[show y5.length=(y5.set k8 x17).length from (List.length_set ..).symm]
   refine TL.nil (AZ (X.seq (T.region Z ?_)))
   replace h:=an h
   obtain⟨c22,h⟩:=h
   exact TL.run ao [0] Z Z (TL.q Z .u (Ex.add Z Z c22) Z (TL.run ao [2] Z Z (TL.nil (X.back (m':=m12) [0,0] (by omega) ⟨(y5.set k8 x17),(some ⟨gz21,oz21,none⟩),c7,k8+1,Z,Z,h⟩ (by rfl) (by rfl)))))
  ·refine TL.nil (X.seq (AS Z (C7 c16) ?_))
   obtain rfl:=C8 h
   replace h:=hO11
   clear hO11
   try dsimp only at h
   refine T.exit (AV (AV (Bh (X.seq (T.seq (T.seq (T.region Z (TL.run ao [0] Z Z (TL.nil (X.seq (T.block ?_)))))))))))
   obtain⟨E27,hE28,hO29⟩:=C5 h
   refine Bj (fun m e Rs=> ∃ (y23:List Int) (A24:Option Addr) (c25:Nat) (k26:Nat),e = [(2,.int .u32 0),(3,jI (8*(a0.length:Int))),(4,.slice A24 y23.length c25),(6,jI (k26:Int))]∧Rs = [bp 3 1 fc (.slice A24 y23.length c25) y23,aD]∧eN m y23 k26=some E27) ((32:Int).toNat+1) [0,0] ⟨y5,A6,c7,0,Z,Z,by exact hE28⟩ (by rfl) (by rfl) ?_
   rintro m30 _ _ ⟨y23,A24,c25,k26,rfl,rfl,hl32⟩
   clear hE28 h
   cases m30 with
   | zero =>
    rw[eN] at hl32
    cases hl32
   | succ m30 =>
    have h:=hl32
    clear hl32
    rw[eN] at h
    refine T.seq (T.seq (T.region Z (TL.run ao [0,1] Z Z ?_)))
    rcases jF h with⟨c34,h⟩ | ⟨c34,h⟩
    ·refine TL.nil (X.seq (AN Z (C6 c34) (T.skip (X.seq (T.seq (T.block (T.region Z ?_)))))))
     obtain⟨x35,hx36,h⟩:=C5 h
     refine TL.run ao [0,1,2,3] Z Z (Cv (E:=fc) (k:=k26) 0 Z (fun w G h=>bA (by decide) w G h) (by decide) hx36 ?_)
     rintro gz37 oz37 z37cs hA z37cl ⟨_,_,z37r⟩
     cases hA
     obtain rfl:z37cs = [jI x35]:=z37r
     clear z37cl
     refine Bp [0,0] Z ?_
     refine TL.q Z .u (AX (k:=k26) Z Z Z Dv De (Da hx36).1) Z ?_
     refine TL.q Z .u (Cl (cs := [jI x35]) 0 0 Z Dc Z (fun _ _ h=>h.2.2.1) Z) Z ?_
     replace h:=an h
     obtain⟨c38,h⟩:=h
     refine TL.q Z .u (Ex.sub Z Z c38) Z ?_
     refine TL.q Z .u (AX (k:=k26) Z Z Z Dv De (Da hx36).1) Z ?_
     refine TL.unf 0 Z (Bp [0,0] Z (TL.stE (k:=k26) (u:=x35) (u':=(1 - x35)) 0 0 Z .u Z Z De Z hx36 Z Z Z Z (fun _ _ _ _ h=>by subst h; rfl) (Bp [0,0] Z ?_)))
     rw[show y23.length=(y23.set k26 (1 - x35)).length from (List.length_set ..).symm]
     refine TL.nil (AZ (X.seq (T.region Z ?_)))
     replace h:=an h
     obtain⟨c39,h⟩:=h
     exact TL.run ao [0] Z Z (TL.q Z .u (Ex.add Z Z c39) Z (TL.run ao [2] Z Z (TL.nil (X.back (m':=m30) [0,0] (by omega) ⟨(y23.set k26 (1 - x35)),(some ⟨gz37,oz37,none⟩),c25,k26+1,Z,Z,h⟩ (by rfl) (by rfl)))))
    ·refine TL.nil (X.seq (AS Z (C7 c34) ?_))
     obtain rfl:=C8 h
     replace h:=hO29
     clear hO29
     try dsimp only at h
     refine T.exit (AV (AV (Bh (X.seq (T.seq (T.seq (T.region Z (TL.run ao [0] Z Z (TL.nil (X.seq (T.block ?_)))))))))))
     obtain⟨E44,hE45,hO46⟩:=C5 h
     refine Bj (fun m e Rs=> ∃ (y40:List Int) (A41:Option Addr) (c42:Nat) (k43:Nat),e = [(2,.int .u32 0),(3,jI (8*(a0.length:Int))),(4,.slice A41 y40.length c42),(7,jI (k43:Int))]∧Rs = [bp 3 1 fc (.slice A41 y40.length c42) y40,aD]∧dZ a0 m y40 k43=some E44) (((8*(a0.length:Int))).toNat+1) [0,0] ⟨y23,A24,c25,0,Z,Z,by exact hE45⟩ (by rfl) (by rfl) ?_
     rintro m47 _ _ ⟨y40,A41,c42,k43,rfl,rfl,hl49⟩
     clear hE45 h
     cases m47 with
     | zero =>
      rw[dZ] at hl49
      cases hl49
     | succ m47 =>
      have h:=hl49
      clear hl49
      rw[dZ] at h
      refine T.seq (T.seq (T.region Z (TL.run ao [0,1,2] Z Z ?_)))
      rcases jF h with⟨c51,h⟩ | ⟨c51,h⟩
      ·refine TL.nil (X.seq (AN Z (C6 c51) (T.skip (X.seq (T.seq (T.block (T.seq (T.region Z ?_))))))))
       obtain⟨x52,hx53,h⟩:=C5 h
       refine TL.run ao [0,1] Z Z (Cv (E:=fc) (k:=k43) 0 Z (fun w G h=>bA (by decide) w G h) (by decide) hx53 ?_)
       rintro gz54 oz54 z54cs hA z54cl ⟨_,_,z54r⟩
       cases hA
       obtain rfl:z54cs = [jI x52]:=z54r
       clear z54cl
       refine Bp [0,0] Z ?_
       refine TL.q Z .u (AX (k:=k43) Z Z Z Dv De (Da hx53).1) Z ?_
       refine TL.q Z .u (Cl (cs := [jI x52]) 0 0 Z Dc Z (fun _ _ h=>h.2.2.1) Z) Z (TL.run ao [4] Z Z ?_)
       rcases jF h with⟨c55,h⟩ | ⟨c55,h⟩
       ·refine TL.nil (X.seq (AN Z (C6 c55) (T.seq (T.region Z (TL.run ao [0] Z Z (TL.nil (X.seq (T.block (T.unf 0 Z (T.sel [0,0] Z ?_))))))))))
        obtain⟨E60,hE61,hO62⟩:=C5 h
        refine Bj (fun m e Rs=> ∃ (y56:List Int) (A57:Option Addr) (c58:Nat) (y59:Int),e = [(2,.int .u32 0),(3,jI (8*(a0.length:Int))),(4,.slice A57 y56.length c58),(7,jI (k43:Int)),(8,jI y59)]∧Rs = [bp 3 1 fc (.slice A57 y56.length c58) y56,aD]∧eM k43 m y56 y59=some E60) (((33:Int) - (1)).toNat+1) [0,0] ⟨y40,(some ⟨gz54,oz54,none⟩),c42,1,Z,Z,by exact hE61⟩ (by rfl) (by rfl) ?_
        rintro m63 _ _ ⟨y56,A57,c58,y59,rfl,rfl,hl65⟩
        clear hE61 h
        cases m63 with
        | zero =>
         rw[eM] at hl65
         cases hl65
        | succ m63 =>
         have h:=hl65
         clear hl65
         rw[eM] at h
         refine T.seq (T.seq (T.region Z (TL.run ao [0,1] Z Z ?_)))
         rcases jF h with⟨c67,h⟩ | ⟨c67,h⟩
         ·refine TL.nil (X.seq (AN Z (C6 c67) ?_))
          replace h:=an h
          obtain⟨c68,h⟩:=h
          obtain⟨x69,hx70,h⟩:=C5 h
          refine T.skip (X.seq (T.seq (T.block (T.foc (E:=fc) (k:=((k43:Int)+y59).toNat) 0 Z (fun w G h=>bA (by decide) w G h) (by decide) hx70 ?_))))
          rintro gz71 oz71 z71cs hA z71cl ⟨_,_,z71r⟩
          cases hA
          obtain rfl:z71cs = [jI x69]:=z71r
          clear z71cl
          refine T.sel [0,0] Z ?_
          replace h:=an h
          obtain⟨c72,h⟩:=h
          replace h:=an h
          obtain⟨c73,h⟩:=h
          replace h:=an h
          obtain⟨c74,h⟩:=h
          obtain⟨x75,hx76,h⟩:=C5 h
          replace h:=an h
          obtain⟨c77,h⟩:=h
          replace h:=an h
          obtain⟨c78,h⟩:=h
          refine Cn (fun e Rs=>e = [(2,.int .u32 0),(3,jI (8*(a0.length:Int))),(4,.slice (some ⟨gz71,oz71,none⟩) (y56.set (((k43:Int)+y59).toNat) ((x69+x75) % 2)).length c58),(7,jI (k43:Int)),(8,jI y59),(50,jI y59)]∧Rs = [bp 3 1 fc (.slice (some ⟨gz71,oz71,none⟩) (y56.set (((k43:Int)+y59).toNat) ((x69+x75) % 2)).length c58) (y56.set (((k43:Int)+y59).toNat) ((x69+x75) % 2)),aD]) ?_ ?_
          ·refine Bd (.q 0 (.q 1 (.q 2 (.q 3 (.q 4 (.q 5 (.q 6 (.q 7 (.q 8 (.q 10 (.q 11 (.br 9 (.e 12 (.q 13 (.q 14 (.q 15 (.e 16 .nil))))) (.e 12 (.e 9 (.q 13 (.q 14 (.q 15 (.e 16 .nil)))))))))))))))))) [1] Z nr oZ (by kernel_rfl) ?_
           refine TD.run ao [0,1,2] Z Z (TD.q Z .u (Ex.add Z Z c72) Z (TD.run ao [4,5,6] Z Z (TD.q Z .u (Ex.add Z Z c73) Z ?_)))
           refine TD.q Z .u (AX (k:=((k43:Int)+y59).toNat) Z Z ((Int.toNat_of_nonneg c68).symm) Dv De (Da hx70).1) Z ?_
           refine TD.run ao [10] Z Z (TD.q Z .u (Ex.sub Z Z c74) Z ?_)
           refine TD.br ?_ ?_
           ·refine Cj Z .u (Cl (cs := [jI x69]) 0 0 Z Dc Z (fun _ _ h=>h.2.2.1) Z) Z [1] Z (Bk Z .u (.fn Tryz.call118 Z) (kc (32 - y59) _ hx76) (fun _ hs=>(AQ _ _)) Z [1] (Z) (TD.q Z .u (Ex.add Z Z c77) Z (TD.q Z .u (Ex.rem Z Z (by omega) c78) Z ?_)))
            refine TD.q Z .u (AX (k:=((k43:Int)+y59).toNat) Z Z ((Int.toNat_of_nonneg c68).symm) Dv De (Da hx70).1) Z ?_
            refine TD.unf 0 Z (BF [0,0] Z (TD.stE (k:=((k43:Int)+y59).toNat) (u:=x69) (u':=((x69+x75) % 2)) 0 0 Z .u Z Z De Z hx70 Z Z Z Z (fun _ _ _ _ h=>by subst h; rfl) [1] (Z) (BF [0,0] Z ?_)))
            rw[show y56.length=(y56.set (((k43:Int)+y59).toNat) ((x69+x75) % 2)).length from (List.length_set ..).symm]
            exact TD.nil (BR [0,0] ⟨Z,Z⟩ (by rfl) (by rfl))
           ·refine Bk Z .u (.fn Tryz.call118 Z) (kc (32 - y59) _ hx76) (fun _ hs=>(AQ _ _)) Z [1] (Z) (Cj Z .u (Cl (cs := [jI x69]) 0 0 Z Dc Z (fun _ _ h=>h.2.2.1) Z) Z [1] Z (TD.q Z .u (Ex.add Z Z c77) Z (TD.q Z .u (Ex.rem Z Z (by omega) c78) Z ?_)))
            refine TD.q Z .u (AX (k:=((k43:Int)+y59).toNat) Z Z ((Int.toNat_of_nonneg c68).symm) Dv De (Da hx70).1) Z ?_
            refine TD.unf 0 Z (BF [0,0] Z (TD.stE (k:=((k43:Int)+y59).toNat) (u:=x69) (u':=((x69+x75) % 2)) 0 0 Z .u Z Z De Z hx70 Z Z Z Z (fun _ _ _ _ h=>by subst h; rfl) [1] (Z) (BF [0,0] Z ?_)))
            rw[show y56.length=(y56.set (((k43:Int)+y59).toNat) ((x69+x75) % 2)).length from (List.length_set ..).symm]
            exact TD.nil (BR [0,0] ⟨Z,Z⟩ (by rfl) (by rfl))
          ·rintro _ _ ⟨rfl,rfl⟩
           refine AZ (X.seq (T.region Z ?_))
           replace h:=an h
           obtain⟨c79,h⟩:=h
           exact TL.run ao [0] Z Z (TL.q Z .u (Ex.add Z Z c79) Z (TL.run ao [2] Z Z (TL.nil (X.back (m':=m63) [0,0] (by omega) ⟨(y56.set (((k43:Int)+y59).toNat) ((x69+x75) % 2)),(some ⟨gz71,oz71,none⟩),c58,(y59+1),Z,Z,h⟩ (by rfl) (by rfl)))))
         ·refine TL.nil (X.seq (AS Z (C7 c67) ?_))
          obtain rfl:=C8 h
          replace h:=hO62
          clear hO62
          try dsimp only at h
          refine T.exit (AV (AV (Bh (AZ (X.seq (T.region Z ?_))))))
          replace h:=an h
          obtain⟨c80,h⟩:=h
          exact TL.run ao [0] Z Z (TL.q Z .u (Ex.add Z Z c80) Z (TL.run ao [2] Z Z (TL.nil (X.back (m':=m47) [0,0] (by omega) ⟨y56,A57,c58,k43+1,Z,Z,h⟩ (by rfl) (by rfl)))))
       ·refine TL.nil (X.seq (AS Z (C7 c55) (T.skip (AZ (X.seq (T.region Z ?_))))))
        replace h:=an h
        obtain⟨c86,h⟩:=h
        exact TL.run ao [0] Z Z (TL.q Z .u (Ex.add Z Z c86) Z (TL.run ao [2] Z Z (TL.nil (X.unf 0 Z (Bv [0,0] Z (X.back (m':=m47) [0,0] (by omega) ⟨y40,(some ⟨gz54,oz54,none⟩),c42,k43+1,Z,Z,h⟩ (by rfl) (by rfl)))))))
      ·refine TL.nil (X.seq (AS Z (C7 c51) ?_))
       obtain rfl:=C8 h
       replace h:=hO46
       clear hO46
       try dsimp only at h
       refine T.exit (AV (AV (Bh (X.seq (T.seq (T.region Z (TL.run ao [0] Z Z (TL.nil (X.seq (T.seq (T.seq (T.region Z (TL.run ao [0] Z Z (TL.nil (X.seq (T.block ?_))))))))))))))))
       obtain⟨E89,hE90,hO91⟩:=C5 h
       refine Bj (fun m e Rs=> ∃ (y87:Int) (y88:Int),e = [(2,.int .u32 0),(3,jI (8*(a0.length:Int))),(4,.slice A41 y40.length c42),(9,.int .u32 y87),(10,jI y88)]∧Rs = [bp 3 1 fc (.slice A41 y40.length c42) y40,aD]∧dz a0 y40 m y87 y88=some E89) (((31:Int) - (-1)).toNat+1) [0,0] ⟨0,31,Z,Z,by exact hE90⟩ (by rfl) (by rfl) ?_
       rintro m92 _ _ ⟨y87,y88,rfl,rfl,hl94⟩
       clear hE90 h
       cases m92 with
       | zero =>
        rw[dz] at hl94
        cases hl94
       | succ m92 =>
        have h:=hl94
        clear hl94
        rw[dz] at h
        refine T.seq (T.seq (T.region Z (TL.run ao [0,1] Z Z ?_)))
        rcases jF h with⟨c96,h⟩ | ⟨c96,h⟩
        ·refine TL.nil (X.seq (AN Z (C6 c96) (T.skip (X.seq (T.seq (T.block (T.region Z (TL.run ao [0] Z Z (TL.q Z .u (Ex.mulw Z Z) Z ?_)))))))))
         replace h:=an h
         obtain⟨c97,h⟩:=h
         refine TL.run ao [2,3,4] Z Z (TL.q Z .u (Ex.add Z Z c97) Z ?_)
         replace h:=an h
         obtain⟨c98,h⟩:=h
         obtain⟨x99,hx100,h⟩:=C5 h
         refine Cv (E:=fc) (k:=((8*(a0.length:Int))+y88).toNat) 0 Z (fun w G h=>bA (by decide) w G h) (by decide) hx100 ?_
         rintro gz101 oz101 z101cs hA z101cl ⟨_,_,z101r⟩
         cases hA
         obtain rfl:z101cs = [jI x99]:=z101r
         clear z101cl
         refine Bp [0,0] Z ?_
         refine TL.q Z .u (AX (k:=((8*(a0.length:Int))+y88).toNat) Z Z ((Int.toNat_of_nonneg c98).symm) Dv De (Da hx100).1) Z ?_
         refine TL.q Z .u (Cl (cs := [jI x99]) 0 0 Z Dc Z (fun _ _ h=>h.2.2.1) Z) Z ?_
         replace h:=an h
         obtain⟨c102,h⟩:=h
         refine TL.q Z .u (Ex.sub Z Z c102) Z (TL.q Z .u (Cp Z D7 D5) Z (TL.q Z .u (Ex.addw Z Z) Z (TL.run ao [11] Z Z (TL.nil (AZ (X.seq (T.region Z ?_)))))))
         replace h:=an h
         obtain⟨c103,h⟩:=h
         exact TL.run ao [0] Z Z (TL.q Z .u (Ex.sub Z Z c103) Z (TL.run ao [2] Z Z (TL.nil (X.unf 0 Z (Bv [0,0] Z (X.back (m':=m92) [0,0] (by omega) ⟨(IntKind.u32.wrap ((IntKind.u32.wrap (y87*2))+(IntKind.u32.wrap (1 - x99)))),(y88 - 1),Z,Z,h⟩ (by rfl) (by rfl)))))))
        ·refine TL.nil (X.seq (AS Z (C7 c96) ?_))
         obtain rfl:=C8 h
         replace h:=hO91
         clear hO91
         try dsimp only at h
         refine T.exit (AV (AV (Bh (X.seq (T.seq (T.region Z (TL.run ao [0,1] Z Z ?_)))))))
         obtain rfl:=C8 h
         exact TL.nil (X.seq (T.ret (AJ [1] Tryz.results54 (AK Z) ⟨Z,Z,Z⟩ (by rfl) (.inl Z))))
end Go.Proofs.YtcoppaggpbfcmaaGreat.Sl
