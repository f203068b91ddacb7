/- produceReads_holds: part 4. -/
import Derived.Test.YtcoppaggpbfcmaaGreatK3
set_option maxRecDepth 100000
set_option maxHeartbeats 4000000
set_option linter.defProp false
namespace Go.Proofs.YtcoppaggpbfcmaaGreat.Sl
open Go.RowKit
set_option linter.unusedVariables false
set_option linter.unusedSimpArgs false
def C3 := @Tryz.sizeOf27
def C6 := @Tryz.runUnderlying106
def C9 := @Tryz.runUnderlying25
def Da := @Tryz.runUnderlying27
def Df := @Tryz.isAgg27
def Dk := @Tryz.runUnderlying82
def Ds := @Tryz.isAgg25
def DP := @Tryz.results93
def Ec := @Tryz.results40
def Ej := @Tryz.results92
def El := @Tryz.results104
def Ez := @Tryz.results95
def EA := @Tryz.results46
def EF := @Tryz.results105
def ES := @Tryz.results110
def Fl := @Tryz.results49
def yn:fv := [(27,0,0),(27,1,1),(27,2,2),(27,3,3),(27,4,4),(27,5,5),(27,6,6),(27,7,7),(27,8,8),(27,9,9),(27,10,10),(27,11,11),(38,0,0),(38,1,1),(160,0,0),(160,1,1),(160,2,2),(160,3,3),(160,4,4),(160,5,5),(160,6,6),(160,7,7),(160,8,8),(160,9,9),(160,10,10),(160,11,11)]
theorem ae:(yn).OK Tryz.prog:=⟨FOK.mk Da rfl CY rfl,FOK.mk Da rfl CY rfl,FOK.mk Da rfl DK rfl,FOK.mk Da rfl DK rfl,FOK.mk Da rfl DK rfl,FOK.mk Da rfl CY rfl,FOK.mk Da rfl CY rfl,FOK.mk Da rfl CY rfl,FOK.mk Da rfl CY rfl,FOK.mk Da rfl CY rfl,FOK.mk Da rfl CY rfl,FOK.mk Da rfl Tryz.sizeOf25 rfl,FOK.mk Dj rfl CY rfl,FOK.mk Dj rfl CY rfl,FOK.mk De rfl CY rfl,FOK.mk De rfl CY rfl,FOK.mk De rfl CY rfl,FOK.mk De rfl CY rfl,FOK.mk De rfl CY rfl,FOK.mk De rfl CY rfl,FOK.mk De rfl CY rfl,FOK.mk De rfl CY rfl,FOK.mk De rfl CY rfl,FOK.mk De rfl CY rfl,FOK.mk De rfl CY rfl,FOK.mk De rfl CY rfl,trivial⟩
theorem j5:Tryz.prog.follows .mixedOrders=true:=by kernel_rfl
theorem d8:BOK Tryz.prog 27 #[.int .i64 0,.int .i64 0,.bool false,.bool false,.bool false,.int .i64 0,.int .i64 0,.int .i64 0,.int .i64 0,.int .i64 0,.int .i64 0,.slice none 0 0] [(0,1),(1,1),(2,1),(3,1),(4,1),(5,1),(6,1),(7,1),(8,1),(9,1),(10,1),(11,1)]:=BOK.mk Tryz.zeroValue27 Da (by intro w; simp)
theorem sL:BOK Tryz.prog 66 #[.slice none 0 0,.int .i64 0] [(0,1),(1,1)]:=BOK.mk Tryz.zeroValue66 Tryz.runUnderlying66 (by intro w; simp)
theorem mu:BOK Tryz.prog 160 #[.int .i64 0,.int .i64 0,.int .i64 0,.int .i64 0,.int .i64 0,.int .i64 0,.int .i64 0,.int .i64 0,.int .i64 0,.int .i64 0,.int .i64 0,.int .i64 0] [(0,1),(1,1),(2,1),(3,1),(4,1),(5,1),(6,1),(7,1),(8,1),(9,1),(10,1),(11,1)]:=BOK.mk Tryz.zeroValue160 De (by intro w; simp)
theorem qk:SOK Tryz.prog 25 38 1 7 #[.int .i64 0,.int .i64 0,.bool false,.string ⟨#[]⟩,.bool false,.string ⟨#[]⟩,.slice none 0 0]:=SOK.mk C9 C4 Tryz.zeroValue38 (by decide) (by kernel_rfl)
theorem fN:SOK Tryz.prog 206 9 2 1 #[.string ⟨#[]⟩,.string ⟨#[]⟩]:=SOK.mk Fd DT Tryz.zeroValue9 (by decide) (by kernel_rfl)
theorem sM:(Tryz.prog.info? 38).map (fun i=>(i.zero,i.size,i.bytes))=some (some (.agg #[.int .i64 0,.int .i64 0,.bool false,.string ⟨#[]⟩,.bool false,.string ⟨#[]⟩,.slice none 0 0]),7,88):=by kernel_rfl
def eQ (a0:Bat):Option (Bool):=if a0.Cu≥0 then (if a0.Co≥(-1) then ((jW a0.Co 4).bind fun x6=>if x6=true then (if a0.Cr≥0 then ((jW a0.Cr 4).bind fun x10=>if x10=true then (if (IntKind.i64.wrap (a0.Cu+a0.Cr))≥0 then (if a0.Cl≥0 then (if a0.Cy≥0 then some true else some false) else some false) else some false) else some false) else some false) else some false) else some false) else some false
theorem lE (a0:Bat) (A1:Option Addr) (c2:Nat) (r:Bool) (h:eQ a0=some r):ay Tryz.prog 92 #[.agg #[jI a0.Cu,jI a0.Co,.bool a0.Cw,.bool a0.CE,.bool a0.Cq,jI a0.Cr,jI a0.Cl,jI a0.Cy,jI a0.Ci,jI a0.Cp,jI a0.Ch,.slice A1 a0.Ce.length c2]] (RX.of (av 7 aU) [.slice A1 a0.Ce.length c2] a0.Ce) (aB) (fun v A' N=>v= .bool r∧A'=aB∧N = []):=by
 refine aL Tryz.func92 Z Tryz.ntmps92 Z ?_
 intro F w hX
 unfold eQ at h
 refine T.seq (T.region Z (TL.box Z .u Z Z (fun b3=>(TL.run ae [1] Z Z (TL.nil (X.seq (T.seq (T.region Z (TL.run ae [0] Z Z (TL.q Z .u (Ai 0 Z CV Z Z) Z ?_))))))))))
 rcases jF h with⟨c4,h⟩ | ⟨c4,h⟩
 ·refine TL.run ae [2,3] Z Z (TL.q Z (.g Z Z (CN c4)) (Ao ae Z) Z (TL.q Z (.g Z Z (CN c4)) (Ai 0 Z CV Z Z) Z (TL.q Z (.g Z Z (CN c4)) (Ao ae Z) Z (TL.q Z .u (Aq Z (CN c4) Z) Z ?_))))
  rcases jF h with⟨c5,h⟩ | ⟨c5,h⟩
  ·refine TL.run ae [8] Z Z (TL.q Z (.g Z Z (CN c5)) (Ao ae Z) Z (TL.q Z (.g Z Z (CN c5)) (Ai 0 Z CV Z Z) Z ?_))
   obtain⟨x6,hx7,h⟩:=CM h
   refine Ax Z (.g Z Z (CN c5)) (.fn Tryz.call78 Z) (AN (fun w=>eC a0.Co 4 _ hx7 w)) (fun _ _=>RX.reads_triv _ _) Z (TL.q Z .u (Aq Z (CN c5) Z) Z ?_)
   rcases jF h with⟨c8,h⟩ | ⟨c8,h⟩
   ·refine TL.run ae [13] Z Z (TL.q Z (.g Z Z c8) (Ao ae Z) Z (TL.q Z (.g Z Z c8) (Ai 0 Z CV Z Z) Z (TL.q Z (.g Z Z c8) (Ao ae Z) Z (TL.q Z .u (Aq Z c8 Z) Z ?_))))
    rcases jF h with⟨c9,h⟩ | ⟨c9,h⟩
    ·refine TL.run ae [18] Z Z (TL.q Z (.g Z Z (CN c9)) (Ao ae Z) Z (TL.q Z (.g Z Z (CN c9)) (Ai 0 Z CV Z Z) Z ?_))
     obtain⟨x10,hx11,h⟩:=CM h
     refine Ax Z (.g Z Z (CN c9)) (.fn Tryz.call78 Z) (AN (fun w=>eC a0.Cr 4 _ hx11 w)) (fun _ _=>RX.reads_triv _ _) Z (TL.q Z .u (Aq Z (CN c9) Z) Z ?_)
     rcases jF h with⟨c12,h⟩ | ⟨c12,h⟩
     ·refine TL.run ae [23] Z Z (TL.q Z (.g Z Z c12) (Ao ae Z) Z (TL.q Z (.g Z Z c12) (Ai 0 Z CV Z Z) Z (TL.q Z (.g Z Z c12) (Ao ae Z) Z (TL.q Z (.g Z Z c12) (Ai 0 Z CV Z Z) Z (TL.q Z (.g Z Z c12) (Ex.addw Z Z) Z (TL.q Z (.g Z Z c12) (Ao ae Z) Z (TL.q Z .u (Aq Z c12 Z) Z ?_)))))))
      rcases jF h with⟨c13,h⟩ | ⟨c13,h⟩
      ·refine TL.run ae [31] Z Z (TL.q Z (.g Z Z (CN c13)) (Ao ae Z) Z (TL.q Z (.g Z Z (CN c13)) (Ai 0 Z CV Z Z) Z (TL.q Z (.g Z Z (CN c13)) (Ao ae Z) Z (TL.q Z .u (Aq Z (CN c13) Z) Z ?_))))
       rcases jF h with⟨c14,h⟩ | ⟨c14,h⟩
       ·refine TL.run ae [36] Z Z (TL.q Z (.g Z Z (CN c14)) (Ao ae Z) Z (TL.q Z (.g Z Z (CN c14)) (Ai 0 Z CV Z Z) Z (TL.q Z (.g Z Z (CN c14)) (Ao ae Z) Z (TL.q Z .u (Aq Z (CN c14) Z) Z (TL.run ae [41] Z Z ?_)))))
        rcases jF h with⟨c15,h⟩ | ⟨c15,h⟩
        ·obtain rfl:=CP h
         exact TL.nil (X.seq (T.ret (Ak [1] Ej (Aj (v:= .bool true) (congrArg (fun b=>some (Value.bool b)) (CN c15))) ⟨Z,Z,Z⟩ (by rfl) (.inl Z))))
        ·obtain rfl:=CP h
         exact TL.nil (X.seq (T.ret (Ak [1] Ej (Aj (v:= .bool false) (congrArg (fun b=>some (Value.bool b)) (CO c15))) ⟨Z,Z,Z⟩ (by rfl) (.inl Z))))
       ·refine TL.run ae [36] Z Z ?_
        iterate 3 refine An Z (.gn Z Z (CO c14)) Z ?_
        refine TL.q Z .u (Ar Z (CO c14) Z) Z (TL.run ae [41] Z Z ?_)
        obtain rfl:=CP h
        exact TL.nil (X.seq (T.ret (Ak [1] Ej (Aj Z) ⟨Z,Z,Z⟩ (by rfl) (.inl Z))))
      ·refine TL.run ae [31] Z Z ?_
       iterate 3 refine An Z (.gn Z Z (CO c13)) Z ?_
       refine TL.q Z .u (Ar Z (CO c13) Z) Z (TL.run ae [36] Z Z ?_)
       iterate 3 refine An Z (.gn Z Z Z) Z ?_
       refine TL.q Z .u (Ar Z Z Z) Z (TL.run ae [41] Z Z ?_)
       obtain rfl:=CP h
       exact TL.nil (X.seq (T.ret (Ak [1] Ej (Aj Z) ⟨Z,Z,Z⟩ (by rfl) (.inl Z))))
     ·replace c12:=CX c12
      refine TL.run ae [23] Z Z ?_
      iterate 6 refine An Z (.gn Z Z c12) Z ?_
      refine TL.q Z .u (Ar Z c12 Z) Z (TL.run ae [31] Z Z ?_)
      iterate 3 refine An Z (.gn Z Z Z) Z ?_
      refine TL.q Z .u (Ar Z Z Z) Z (TL.run ae [36] Z Z ?_)
      iterate 3 refine An Z (.gn Z Z Z) Z ?_
      refine TL.q Z .u (Ar Z Z Z) Z (TL.run ae [41] Z Z ?_)
      obtain rfl:=CP h
      exact TL.nil (X.seq (T.ret (Ak [1] Ej (Aj Z) ⟨Z,Z,Z⟩ (by rfl) (.inl Z))))
    ·refine TL.run ae [18] Z Z ?_
     iterate 3 refine An Z (.gn Z Z (CO c9)) Z ?_
     refine TL.q Z .u (Ar Z (CO c9) Z) Z (TL.run ae [23] Z Z ?_)
     iterate 6 refine An Z (.gn Z Z Z) Z ?_
     refine TL.q Z .u (Ar Z Z Z) Z (TL.run ae [31] Z Z ?_)
     iterate 3 refine An Z (.gn Z Z Z) Z ?_
     refine TL.q Z .u (Ar Z Z Z) Z (TL.run ae [36] Z Z ?_)
     iterate 3 refine An Z (.gn Z Z Z) Z ?_
     refine TL.q Z .u (Ar Z Z Z) Z (TL.run ae [41] Z Z ?_)
     obtain rfl:=CP h
     exact TL.nil (X.seq (T.ret (Ak [1] Ej (Aj Z) ⟨Z,Z,Z⟩ (by rfl) (.inl Z))))
   ·replace c8:=CX c8
    refine TL.run ae [13] Z Z ?_
    iterate 3 refine An Z (.gn Z Z c8) Z ?_
    refine TL.q Z .u (Ar Z c8 Z) Z (TL.run ae [18] Z Z ?_)
    iterate 3 refine An Z (.gn Z Z Z) Z ?_
    refine TL.q Z .u (Ar Z Z Z) Z (TL.run ae [23] Z Z ?_)
    iterate 6 refine An Z (.gn Z Z Z) Z ?_
    refine TL.q Z .u (Ar Z Z Z) Z (TL.run ae [31] Z Z ?_)
    iterate 3 refine An Z (.gn Z Z Z) Z ?_
    refine TL.q Z .u (Ar Z Z Z) Z (TL.run ae [36] Z Z ?_)
    iterate 3 refine An Z (.gn Z Z Z) Z ?_
    refine TL.q Z .u (Ar Z Z Z) Z (TL.run ae [41] Z Z ?_)
    obtain rfl:=CP h
    exact TL.nil (X.seq (T.ret (Ak [1] Ej (Aj Z) ⟨Z,Z,Z⟩ (by rfl) (.inl Z))))
  ·refine TL.run ae [8] Z Z ?_
   iterate 3 refine An Z (.gn Z Z (CO c5)) Z ?_
   refine TL.q Z .u (Ar Z (CO c5) Z) Z (TL.run ae [13] Z Z ?_)
   iterate 3 refine An Z (.gn Z Z Z) Z ?_
   refine TL.q Z .u (Ar Z Z Z) Z (TL.run ae [18] Z Z ?_)
   iterate 3 refine An Z (.gn Z Z Z) Z ?_
   refine TL.q Z .u (Ar Z Z Z) Z (TL.run ae [23] Z Z ?_)
   iterate 6 refine An Z (.gn Z Z Z) Z ?_
   refine TL.q Z .u (Ar Z Z Z) Z (TL.run ae [31] Z Z ?_)
   iterate 3 refine An Z (.gn Z Z Z) Z ?_
   refine TL.q Z .u (Ar Z Z Z) Z (TL.run ae [36] Z Z ?_)
   iterate 3 refine An Z (.gn Z Z Z) Z ?_
   refine TL.q Z .u (Ar Z Z Z) Z (TL.run ae [41] Z Z ?_)
   obtain rfl:=CP h
   exact TL.nil (X.seq (T.ret (Ak [1] Ej (Aj Z) ⟨Z,Z,Z⟩ (by rfl) (.inl Z))))
 ·refine TL.run ae [2,3] Z Z ?_
  iterate 3 refine An Z (.gn Z Z (CO c4)) Z ?_
  refine TL.q Z .u (Ar Z (CO c4) Z) Z (TL.run ae [8] Z Z ?_)
  iterate 3 refine An Z (.gn Z Z Z) Z ?_
  refine TL.q Z .u (Ar Z Z Z) Z (TL.run ae [13] Z Z ?_)
  iterate 3 refine An Z (.gn Z Z Z) Z ?_
  refine TL.q Z .u (Ar Z Z Z) Z (TL.run ae [18] Z Z ?_)
  iterate 3 refine An Z (.gn Z Z Z) Z ?_
  refine TL.q Z .u (Ar Z Z Z) Z (TL.run ae [23] Z Z ?_)
  iterate 6 refine An Z (.gn Z Z Z) Z ?_
  refine TL.q Z .u (Ar Z Z Z) Z (TL.run ae [31] Z Z ?_)
  iterate 3 refine An Z (.gn Z Z Z) Z ?_
  refine TL.q Z .u (Ar Z Z Z) Z (TL.run ae [36] Z Z ?_)
  iterate 3 refine An Z (.gn Z Z Z) Z ?_
  refine TL.q Z .u (Ar Z Z Z) Z (TL.run ae [41] Z Z ?_)
  obtain rfl:=CP h
  exact TL.nil (X.seq (T.ret (Ak [1] Ej (Aj Z) ⟨Z,Z,Z⟩ (by rfl) (.inl Z))))
def dJ (a0:Bat):Option (Bool):=if a0.Ci=(-1) then (if a0.Cp=(-1) then (if a0.Ch=(-1) then (if a0.CE=true then some false else some true) else some false) else some false) else (if a0.Cq=true then (if a0.Ci≥0 then (if a0.Cp≥0 then ((jW a0.Cp 2).bind fun x11=>if x11=true then (if a0.Ch≥(-1) then ((jW a0.Ch 4).bind fun x15=>if x15=true then (if a0.Ch=(-1) then some true else some false) else some false) else some false) else some false) else some false) else some false) else (if a0.Ci≥0 then (if a0.Cp≥0 then ((jW a0.Cp 2).bind fun x21=>if x21=true then (if a0.Ch≥0 then ((jW a0.Ch 4).bind fun x25=>if x25=true then some true else some false) else some false) else some false) else some false) else some false))
theorem gD (a0:Bat) (A1:Option Addr) (c2:Nat) (r:Bool) (h:dJ a0=some r):ay Tryz.prog 93 #[.agg #[jI a0.Cu,jI a0.Co,.bool a0.Cw,.bool a0.CE,.bool a0.Cq,jI a0.Cr,jI a0.Cl,jI a0.Cy,jI a0.Ci,jI a0.Cp,jI a0.Ch,.slice A1 a0.Ce.length c2]] (RX.of (av 7 aU) [.slice A1 a0.Ce.length c2] a0.Ce) (aB) (fun v A' N=>v= .bool r∧A'=aB∧N = []):=by
 refine aL Tryz.func93 Z Tryz.ntmps93 Z ?_
 intro F w hX
 unfold dJ at h
 refine T.seq (T.region Z (TL.box Z .u Z Z (fun b3=>(TL.run ae [1] Z Z (TL.nil (X.seq (T.seq (T.seq (T.region Z (TL.run ae [0] Z Z (TL.q Z .u (Ai 0 Z CV Z Z) Z (TL.run ae [2] Z Z ?_))))))))))))
 rcases jF h with⟨c4,h⟩ | ⟨c4,h⟩
 ·refine TL.nil (X.seq (Am Z (CN c4) (T.seq (T.region Z (TL.run ae [0] Z Z (TL.q Z .u (Ai 0 Z CV Z Z) Z ?_))))))
  rcases jF h with⟨c5,h⟩ | ⟨c5,h⟩
  ·refine TL.run ae [2,3] Z Z (TL.q Z (.g Z Z (CN c5)) (Ao ae Z) Z (TL.q Z (.g Z Z (CN c5)) (Ai 0 Z CV Z Z) Z (TL.q Z (.g Z Z (CN c5)) (Ao ae Z) Z (TL.q Z .u (Aq Z (CN c5) Z) Z ?_))))
   rcases jF h with⟨c6,h⟩ | ⟨c6,h⟩
   ·refine TL.run ae [8] Z Z (TL.q Z (.g Z Z (CN c6)) (Ao ae Z) Z (TL.q Z (.g Z Z (CN c6)) (Ai 0 Z Dd Z Z) Z (TL.q Z (.g Z Z (CN c6)) (Ao ae Z) Z (TL.q Z .u (Aq Z (CN c6) Z) Z (TL.run ae [13] Z Z ?_)))))
    rcases jF h with⟨c7,h⟩ | ⟨c7,h⟩
    ·obtain rfl:=CP h
     exact TL.nil (X.seq (T.ret (Al (Ak [1] DP (Aj (v:= .bool false) (congrArg (fun b=>some (Value.bool b)) (az c7))) ⟨Z,Z,Z⟩ (by rfl) (.inl Z)))))
    ·replace c7:=CX c7
     obtain rfl:=CP h
     exact TL.nil (X.seq (T.ret (Al (Ak [1] DP (Aj (v:= .bool true) (congrArg (fun b=>some (Value.bool b)) (aD c7))) ⟨Z,Z,Z⟩ (by rfl) (.inl Z)))))
   ·refine TL.run ae [8] Z Z ?_
    iterate 3 refine An Z (.gn Z Z (CO c6)) Z ?_
    refine TL.q Z .u (Ar Z (CO c6) Z) Z (TL.run ae [13] Z Z ?_)
    obtain rfl:=CP h
    exact TL.nil (X.seq (T.ret (Al (Ak [1] DP (Aj Z) ⟨Z,Z,Z⟩ (by rfl) (.inl Z)))))
  ·refine TL.run ae [2,3] Z Z ?_
   iterate 3 refine An Z (.gn Z Z (CO c5)) Z ?_
   refine TL.q Z .u (Ar Z (CO c5) Z) Z (TL.run ae [8] Z Z ?_)
   iterate 3 refine An Z (.gn Z Z Z) Z ?_
   refine TL.q Z .u (Ar Z Z Z) Z (TL.run ae [13] Z Z ?_)
   obtain rfl:=CP h
   exact TL.nil (X.seq (T.ret (Al (Ak [1] DP (Aj Z) ⟨Z,Z,Z⟩ (by rfl) (.inl Z)))))
 ·refine TL.nil (X.seq (Ap Z (CO c4) (T.skip (X.seq (T.seq (T.region Z (TL.run ae [0] Z Z (TL.nil (X.seq (T.seq (T.seq (T.region Z (TL.run ae [0] Z Z (TL.q Z .u (Ai 0 Z Dd Z Z) Z ?_))))))))))))))
  rcases jF h with⟨c8,h⟩ | ⟨c8,h⟩
  ·refine TL.nil (X.seq (Am Z c8 (T.region Z (TL.run ae [0] Z Z (TL.nil (X.seq (T.seq (T.region Z (TL.run ae [0] Z Z (TL.q Z .u (Ai 0 Z CV Z Z) Z ?_))))))))))
   rcases jF h with⟨c9,h⟩ | ⟨c9,h⟩
   ·refine TL.run ae [2,3] Z Z (TL.q Z (.g Z Z (CN c9)) (Ao ae Z) Z (TL.q Z (.g Z Z (CN c9)) (Ai 0 Z CV Z Z) Z (TL.q Z (.g Z Z (CN c9)) (Ao ae Z) Z (TL.q Z .u (Aq Z (CN c9) Z) Z ?_))))
    rcases jF h with⟨c10,h⟩ | ⟨c10,h⟩
    ·refine TL.run ae [8] Z Z (TL.q Z (.g Z Z (CN c10)) (Ao ae Z) Z (TL.q Z (.g Z Z (CN c10)) (Ai 0 Z CV Z Z) Z ?_))
     obtain⟨x11,hx12,h⟩:=CM h
     refine Ax Z (.g Z Z (CN c10)) (.fn Tryz.call78 Z) (AN (fun w=>eC a0.Cp 2 _ hx12 w)) (fun _ _=>RX.reads_triv _ _) Z (TL.q Z .u (Aq Z (CN c10) Z) Z ?_)
     rcases jF h with⟨c13,h⟩ | ⟨c13,h⟩
     ·refine TL.run ae [13] Z Z (TL.q Z (.g Z Z c13) (Ao ae Z) Z (TL.q Z (.g Z Z c13) (Ai 0 Z CV Z Z) Z ?_))
      iterate 2 refine TL.q Z (.g Z Z c13) (Ao ae Z) Z ?_
      refine TL.q Z .u (Aq Z c13 Z) Z ?_
      rcases jF h with⟨c14,h⟩ | ⟨c14,h⟩
      ·refine TL.run ae [19] Z Z (TL.q Z (.g Z Z (CN c14)) (Ao ae Z) Z (TL.q Z (.g Z Z (CN c14)) (Ai 0 Z CV Z Z) Z ?_))
       obtain⟨x15,hx16,h⟩:=CM h
       refine Ax Z (.g Z Z (CN c14)) (.fn Tryz.call78 Z) (AN (fun w=>eC a0.Ch 4 _ hx16 w)) (fun _ _=>RX.reads_triv _ _) Z (TL.q Z .u (Aq Z (CN c14) Z) Z ?_)
       rcases jF h with⟨c17,h⟩ | ⟨c17,h⟩
       ·refine TL.run ae [24] Z Z (TL.q Z (.g Z Z c17) (Ao ae Z) Z (TL.q Z (.g Z Z c17) (Ai 0 Z Dd Z Z) Z ?_))
        iterate 2 refine TL.q Z (.g Z Z c17) (Ao ae Z) Z ?_
        refine TL.q Z (.g Z Z (az c8)) (Ao ae Z) Z (TL.q Z (.g Z Z (az c8)) (Ai 0 Z CV Z Z) Z (TL.q Z (.g Z Z (az c8)) (Ao ae Z) Z (TL.q Z (.g Z Z c17) (Ar Z (az c8) Z) Z (TL.q Z .u (Aq Z c17 Z) Z (TL.run ae [34] Z Z ?_)))))
        rcases jF h with⟨c18,h⟩ | ⟨c18,h⟩
        ·obtain rfl:=CP h
         exact TL.nil (X.seq (T.ret (Ak [1] DP (Aj (v:= .bool true) (congrArg (fun b=>some (Value.bool b)) (CN c18))) ⟨Z,Z,Z⟩ (by rfl) (.inl Z))))
        ·obtain rfl:=CP h
         exact TL.nil (X.seq (T.ret (Ak [1] DP (Aj (v:= .bool false) (congrArg (fun b=>some (Value.bool b)) (CO c18))) ⟨Z,Z,Z⟩ (by rfl) (.inl Z))))
       ·replace c17:=CX c17
        refine TL.run ae [24] Z Z ?_
        iterate 4 refine An Z (.gn Z Z c17) Z ?_
        iterate 3 refine An Z (.gu Z Z) Z ?_
        refine An Z (.gn Z Z c17) Z (TL.q Z .u (Ar Z c17 Z) Z (TL.run ae [34] Z Z ?_))
        obtain rfl:=CP h
        exact TL.nil (X.seq (T.ret (Ak [1] DP (Aj Z) ⟨Z,Z,Z⟩ (by rfl) (.inl Z))))
      ·refine TL.run ae [19] Z Z ?_
       iterate 3 refine An Z (.gn Z Z (CO c14)) Z ?_
       refine TL.q Z .u (Ar Z (CO c14) Z) Z (TL.run ae [24] Z Z ?_)
       iterate 4 refine An Z (.gn Z Z Z) Z ?_
       iterate 3 refine An Z (.gu Z Z) Z ?_
       refine An Z (.gn Z Z Z) Z (TL.q Z .u (Ar Z Z Z) Z (TL.run ae [34] Z Z ?_))
       obtain rfl:=CP h
       exact TL.nil (X.seq (T.ret (Ak [1] DP (Aj Z) ⟨Z,Z,Z⟩ (by rfl) (.inl Z))))
     ·replace c13:=CX c13
      refine TL.run ae [13] Z Z ?_
      iterate 4 refine An Z (.gn Z Z c13) Z ?_
      refine TL.q Z .u (Ar Z c13 Z) Z (TL.run ae [19] Z Z ?_)
      iterate 3 refine An Z (.gn Z Z Z) Z ?_
      refine TL.q Z .u (Ar Z Z Z) Z (TL.run ae [24] Z Z ?_)
      iterate 4 refine An Z (.gn Z Z Z) Z ?_
      iterate 3 refine An Z (.gu Z Z) Z ?_
      refine An Z (.gn Z Z Z) Z (TL.q Z .u (Ar Z Z Z) Z (TL.run ae [34] Z Z ?_))
      obtain rfl:=CP h
      exact TL.nil (X.seq (T.ret (Ak [1] DP (Aj Z) ⟨Z,Z,Z⟩ (by rfl) (.inl Z))))
    ·refine TL.run ae [8] Z Z ?_
     iterate 3 refine An Z (.gn Z Z (CO c10)) Z ?_
     refine TL.q Z .u (Ar Z (CO c10) Z) Z (TL.run ae [13] Z Z ?_)
     iterate 4 refine An Z (.gn Z Z Z) Z ?_
     refine TL.q Z .u (Ar Z Z Z) Z (TL.run ae [19] Z Z ?_)
     iterate 3 refine An Z (.gn Z Z Z) Z ?_
     refine TL.q Z .u (Ar Z Z Z) Z (TL.run ae [24] Z Z ?_)
     iterate 4 refine An Z (.gn Z Z Z) Z ?_
     iterate 3 refine An Z (.gu Z Z) Z ?_
     refine An Z (.gn Z Z Z) Z (TL.q Z .u (Ar Z Z Z) Z (TL.run ae [34] Z Z ?_))
     obtain rfl:=CP h
     exact TL.nil (X.seq (T.ret (Ak [1] DP (Aj Z) ⟨Z,Z,Z⟩ (by rfl) (.inl Z))))
   ·refine TL.run ae [2,3] Z Z ?_
    iterate 3 refine An Z (.gn Z Z (CO c9)) Z ?_
    refine TL.q Z .u (Ar Z (CO c9) Z) Z (TL.run ae [8] Z Z ?_)
    iterate 3 refine An Z (.gn Z Z Z) Z ?_
    refine TL.q Z .u (Ar Z Z Z) Z (TL.run ae [13] Z Z ?_)
    iterate 4 refine An Z (.gn Z Z Z) Z ?_
    refine TL.q Z .u (Ar Z Z Z) Z (TL.run ae [19] Z Z ?_)
    iterate 3 refine An Z (.gn Z Z Z) Z ?_
    refine TL.q Z .u (Ar Z Z Z) Z (TL.run ae [24] Z Z ?_)
    iterate 4 refine An Z (.gn Z Z Z) Z ?_
    iterate 3 refine An Z (.gu Z Z) Z ?_
    refine An Z (.gn Z Z Z) Z (TL.q Z .u (Ar Z Z Z) Z (TL.run ae [34] Z Z ?_))
    obtain rfl:=CP h
    exact TL.nil (X.seq (T.ret (Ak [1] DP (Aj Z) ⟨Z,Z,Z⟩ (by rfl) (.inl Z))))
  ·replace c8:=CX c8
   refine TL.nil (X.seq (Ap Z c8 (T.skip (X.seq (T.seq (T.region Z (TL.run ae [0] Z Z (TL.q Z .u (Ai 0 Z CV Z Z) Z ?_))))))))
   rcases jF h with⟨c19,h⟩ | ⟨c19,h⟩
   ·refine TL.run ae [2,3] Z Z (TL.q Z (.g Z Z (CN c19)) (Ao ae Z) Z (TL.q Z (.g Z Z (CN c19)) (Ai 0 Z CV Z Z) Z (TL.q Z (.g Z Z (CN c19)) (Ao ae Z) Z (TL.q Z .u (Aq Z (CN c19) Z) Z ?_))))
    rcases jF h with⟨c20,h⟩ | ⟨c20,h⟩
    ·refine TL.run ae [8] Z Z (TL.q Z (.g Z Z (CN c20)) (Ao ae Z) Z (TL.q Z (.g Z Z (CN c20)) (Ai 0 Z CV Z Z) Z ?_))
     obtain⟨x21,hx22,h⟩:=CM h
     refine Ax Z (.g Z Z (CN c20)) (.fn Tryz.call78 Z) (AN (fun w=>eC a0.Cp 2 _ hx22 w)) (fun _ _=>RX.reads_triv _ _) Z (TL.q Z .u (Aq Z (CN c20) Z) Z ?_)
     rcases jF h with⟨c23,h⟩ | ⟨c23,h⟩
     ·refine TL.run ae [13] Z Z (TL.q Z (.g Z Z c23) (Ao ae Z) Z (TL.q Z (.g Z Z c23) (Ai 0 Z CV Z Z) Z ?_))
      iterate 2 refine TL.q Z (.g Z Z c23) (Ao ae Z) Z ?_
      refine TL.q Z .u (Aq Z c23 Z) Z ?_
      rcases jF h with⟨c24,h⟩ | ⟨c24,h⟩
      ·refine TL.run ae [19] Z Z (TL.q Z (.g Z Z (CN c24)) (Ao ae Z) Z (TL.q Z (.g Z Z (CN c24)) (Ai 0 Z CV Z Z) Z ?_))
       obtain⟨x25,hx26,h⟩:=CM h
       refine Ax Z (.g Z Z (CN c24)) (.fn Tryz.call78 Z) (AN (fun w=>eC a0.Ch 4 _ hx26 w)) (fun _ _=>RX.reads_triv _ _) Z (TL.q Z .u (Aq Z (CN c24) Z) Z ?_)
       rcases jF h with⟨c27,h⟩ | ⟨c27,h⟩
       ·refine TL.run ae [24] Z Z (TL.q Z (.g Z Z c27) (Ao ae Z) Z (TL.q Z (.g Z Z c27) (Ai 0 Z Dd Z Z) Z ?_))
        iterate 2 refine TL.q Z (.g Z Z c27) (Ao ae Z) Z ?_
        iterate 3 refine An Z (.gn Z Z (aD c8)) Z ?_
        refine TL.q Z (.g Z Z c27) (Aq Z (aD c8) Z) Z (TL.q Z .u (Aq Z c27 Z) Z (TL.run ae [34] Z Z ?_))
        obtain rfl:=CP h
        exact TL.nil (X.seq (T.ret (Ak [1] DP (Aj Z) ⟨Z,Z,Z⟩ (by rfl) (.inl Z))))
       ·replace c27:=CX c27
        refine TL.run ae [24] Z Z ?_
        iterate 4 refine An Z (.gn Z Z c27) Z ?_
        iterate 3 refine An Z (.gu Z Z) Z ?_
        refine An Z (.gn Z Z c27) Z (TL.q Z .u (Ar Z c27 Z) Z (TL.run ae [34] Z Z ?_))
        obtain rfl:=CP h
        exact TL.nil (X.seq (T.ret (Ak [1] DP (Aj Z) ⟨Z,Z,Z⟩ (by rfl) (.inl Z))))
      ·refine TL.run ae [19] Z Z ?_
       iterate 3 refine An Z (.gn Z Z (CO c24)) Z ?_
       refine TL.q Z .u (Ar Z (CO c24) Z) Z (TL.run ae [24] Z Z ?_)
       iterate 4 refine An Z (.gn Z Z Z) Z ?_
       iterate 3 refine An Z (.gu Z Z) Z ?_
       refine An Z (.gn Z Z Z) Z (TL.q Z .u (Ar Z Z Z) Z (TL.run ae [34] Z Z ?_))
       obtain rfl:=CP h
       exact TL.nil (X.seq (T.ret (Ak [1] DP (Aj Z) ⟨Z,Z,Z⟩ (by rfl) (.inl Z))))
     ·replace c23:=CX c23
      refine TL.run ae [13] Z Z ?_
      iterate 4 refine An Z (.gn Z Z c23) Z ?_
      refine TL.q Z .u (Ar Z c23 Z) Z (TL.run ae [19] Z Z ?_)
      iterate 3 refine An Z (.gn Z Z Z) Z ?_
      refine TL.q Z .u (Ar Z Z Z) Z (TL.run ae [24] Z Z ?_)
      iterate 4 refine An Z (.gn Z Z Z) Z ?_
      iterate 3 refine An Z (.gu Z Z) Z ?_
      refine An Z (.gn Z Z Z) Z (TL.q Z .u (Ar Z Z Z) Z (TL.run ae [34] Z Z ?_))
      obtain rfl:=CP h
      exact TL.nil (X.seq (T.ret (Ak [1] DP (Aj Z) ⟨Z,Z,Z⟩ (by rfl) (.inl Z))))
    ·refine TL.run ae [8] Z Z ?_
     iterate 3 refine An Z (.gn Z Z (CO c20)) Z ?_
     refine TL.q Z .u (Ar Z (CO c20) Z) Z (TL.run ae [13] Z Z ?_)
     iterate 4 refine An Z (.gn Z Z Z) Z ?_
     refine TL.q Z .u (Ar Z Z Z) Z (TL.run ae [19] Z Z ?_)
     iterate 3 refine An Z (.gn Z Z Z) Z ?_
     refine TL.q Z .u (Ar Z Z Z) Z (TL.run ae [24] Z Z ?_)
     iterate 4 refine An Z (.gn Z Z Z) Z ?_
     iterate 3 refine An Z (.gu Z Z) Z ?_
     refine An Z (.gn Z Z Z) Z (TL.q Z .u (Ar Z Z Z) Z (TL.run ae [34] Z Z ?_))
     obtain rfl:=CP h
     exact TL.nil (X.seq (T.ret (Ak [1] DP (Aj Z) ⟨Z,Z,Z⟩ (by rfl) (.inl Z))))
   ·refine TL.run ae [2,3] Z Z ?_
    iterate 3 refine An Z (.gn Z Z (CO c19)) Z ?_
    refine TL.q Z .u (Ar Z (CO c19) Z) Z (TL.run ae [8] Z Z ?_)
    iterate 3 refine An Z (.gn Z Z Z) Z ?_
    refine TL.q Z .u (Ar Z Z Z) Z (TL.run ae [13] Z Z ?_)
    iterate 4 refine An Z (.gn Z Z Z) Z ?_
    refine TL.q Z .u (Ar Z Z Z) Z (TL.run ae [19] Z Z ?_)
    iterate 3 refine An Z (.gn Z Z Z) Z ?_
    refine TL.q Z .u (Ar Z Z Z) Z (TL.run ae [24] Z Z ?_)
    iterate 4 refine An Z (.gn Z Z Z) Z ?_
    iterate 3 refine An Z (.gu Z Z) Z ?_
    refine An Z (.gn Z Z Z) Z (TL.q Z .u (Ar Z Z Z) Z (TL.run ae [34] Z Z ?_))
    obtain rfl:=CP h
    exact TL.nil (X.seq (T.ret (Ak [1] DP (Aj Z) ⟨Z,Z,Z⟩ (by rfl) (.inl Z))))
def bb (a0:Bat):List Rec→Int→Int→Int→Option (Lp Int (Int×Int×Int))
 | [],y4,y5,y6=>some (Lp.go (y4,y5,y6))
 | x12::xs,y4,y5,y6=>if x12.Cv≤y5 then some (Lp.ret 13) else (if x12.Cv>a0.Cr then some (Lp.ret 13) else (if (IntKind.i64.wrap (a0.Cl+x12.CC))<0 then some (Lp.ret 11) else (if x12.CC>0 then (if (IntKind.i64.wrap (a0.Cl+x12.CC))<x12.CC then some (Lp.ret 11) else (if y6<(IntKind.i64.wrap (a0.Cl+x12.CC)) then (bb a0 xs y4 x12.Cv (IntKind.i64.wrap (a0.Cl+x12.CC))) else (bb a0 xs y4 x12.Cv y6))) else (if y6<(IntKind.i64.wrap (a0.Cl+x12.CC)) then (bb a0 xs y4 x12.Cv (IntKind.i64.wrap (a0.Cl+x12.CC))) else (bb a0 xs y4 x12.Cv y6)))))
def cC (a0:Bat):Option (Int):=(bb a0 a0.Ce 0 (-1) a0.Cl).bind fun e=>match e with | .ret r=>some r | .go (y27,y28,y29)=>(if a0.Cw=true then some 0 else (if y29=a0.Cy then some 0 else some 11))
theorem hM (a0:Bat) (A1:Option Addr) (c2:Nat) (r:Int) (h:cC a0=some r):ay Tryz.prog 95 #[.agg #[jI a0.Cu,jI a0.Co,.bool a0.Cw,.bool a0.CE,.bool a0.Cq,jI a0.Cr,jI a0.Cl,jI a0.Cy,jI a0.Ci,jI a0.Cp,jI a0.Ch,.slice A1 a0.Ce.length c2]] (RX.of (av 7 aU) [.slice A1 a0.Ce.length c2] a0.Ce) (aB) (fun v A' N=>v=jI r∧A'=aB∧N = []):=by
 refine aL Tryz.func95 Z Tryz.ntmps95 Z ?_
 intro F w hX
 unfold cC at h
 refine T.seq (T.region Z (TL.box Z .u Z Z (fun b3=>(TL.run ae [1] Z Z ?_))))
 refine TL.nil (X.seq (T.seq (AH (.q 0 (.q 1 (.q 2 (.q 3 .nil)))) [0,0] Z j5 (NoP.seq aM) (by kernel_rfl) ?_)))
 refine TD.run ae [0] Z Z (TD.q Z .u (Ai 0 Z CV Z Z) Z (TD.run ae [2,3] Z Z (TD.nil (X.seq (T.seq (T.seq (T.region Z (TL.run ae [0] Z Z (TL.q Z .u (Ai 0 Z Ds Z Z) Z (TL.q Z .u (AA Z C9) Z (TL.run ae [3] Z Z ?_)))))))))))
 refine TL.nil (X.seq (T.block ?_))
 obtain⟨E8,hE9,hO10⟩:=CM h
 have hk14len:=Bf hX
 refine AV (fun m e Rs=> ∃ (y4:Int) (y5:Int) (y6:Int) (k7:Nat),k7+m=a0.Ce.length∧e = [(1,jP b3),(2,jI y4),(3,jI y5),(4,jI y6),(11,.slice A1 a0.Ce.length c2),(12,jI (a0.Ce.length:Int)),(13,jI (k7:Int))]∧Rs = [aC b3 27 #[jI a0.Cu,jI a0.Co,.bool a0.Cw,.bool a0.CE,.bool a0.Cq,jI a0.Cr,jI a0.Cl,jI a0.Cy,jI a0.Ci,jI a0.Cp,jI a0.Ch,.slice A1 a0.Ce.length c2],aB]∧bb a0 (a0.Ce.drop k7) y4 y5 y6=some E8) (a0.Ce.length) [0,0] ⟨0,(-1),a0.Cl,0,by simp,Z,Z,by rw[List.drop_zero]; exact hE9⟩ (by rfl) (by rfl) ?_
 rintro m11 _ _ ⟨y4,y5,y6,k7,hk14,rfl,rfl,hl13⟩
 clear hE9 h
 cases m11 with
 | zero =>
  have h:=hl13
  clear hl13
  rw[List.drop_of_length_le (by omega),bb] at h
  have hk14ge: ¬ ((k7:Int)<(a0.Ce.length:Int)):=by omega
  refine T.seq (T.region Z (TL.run ae [0] Z Z (TL.nil (X.seq (T.seq (Ap Z (CO hk14ge) ?_))))))
  obtain rfl:=CP h
  replace h:=hO10
  clear hO10
  try dsimp only at h
  refine T.exit (Au (Au (AS (X.seq (T.seq (T.seq (T.region Z (TL.run ae [0] Z Z (TL.q Z .u (Ai 0 Z Dd Z Z) Z ?_)))))))))
  rcases jF h with⟨c33,h⟩ | ⟨c33,h⟩
  ·refine TL.run ae [2,3] Z Z ?_
   iterate 4 refine An Z (.gn Z Z (az c33)) Z ?_
   refine TL.q Z .u (Ar Z (az c33) Z) Z (TL.nil (X.seq (Ap Z Z (T.skip (X.seq (T.seq (T.region Z (TL.run ae [0] Z Z ?_))))))))
   obtain rfl:=CP h
   exact TL.nil (X.seq (T.ret (Ak [1] Ez (Aj Z) ⟨Z,Z,Z⟩ (by rfl) (.inl Z))))
  ·replace c33:=CX c33
   refine TL.run ae [2,3] Z Z ?_
   iterate 2 refine TL.q Z (.g Z Z (aD c33)) (Ao ae Z) Z ?_
   refine TL.q Z (.g Z Z (aD c33)) (Ai 0 Z CV Z Z) Z (TL.q Z (.g Z Z (aD c33)) (Ao ae Z) Z (TL.q Z .u (Aq Z (aD c33) Z) Z ?_))
   rcases jF h with⟨c34,h⟩ | ⟨c34,h⟩
   ·refine TL.nil (X.seq (Ap Z (az (CN c34)) (T.skip (X.seq (T.seq (T.region Z (TL.run ae [0] Z Z ?_)))))))
    obtain rfl:=CP h
    exact TL.nil (X.seq (T.ret (Ak [1] Ez (Aj Z) ⟨Z,Z,Z⟩ (by rfl) (.inl Z))))
   ·refine TL.nil (X.seq (Am Z (aD (CO c34)) (T.seq (T.region Z (TL.run ae [0] Z Z ?_)))))
    obtain rfl:=CP h
    exact TL.nil (X.seq (T.ret (Al (Ak [1] Ez (Aj Z) ⟨Z,Z,Z⟩ (by rfl) (.inl Z)))))
 | succ m11 =>
  have h:=hl13
  clear hl13
  obtain⟨x12,hxx12⟩: ∃ x,a0.Ce[k7]? = some x:=⟨_,List.getElem?_eq_getElem (by omega)⟩
  rw[bU hxx12,bb] at h
  have hk14lt:(k7:Int)<(a0.Ce.length:Int):=by omega
  refine T.seq (T.region Z (TL.run ae [0] Z Z (TL.nil (X.seq (T.seq (Am Z (CN hk14lt) ?_))))))
  obtain⟨gz15,oz15,rfl,z15cs,z15cl,z15cc,z15nf,z15r⟩:=AK (by decide) hX hxx12
  obtain⟨z15S,z15r,z15rr⟩:=z15r
  obtain⟨A16,c17,rfl,z15s0⟩:=z15r
  have hX18:(RX.of (av 3 bf) [.slice A16 x12.Cn.length c17] x12.Cn).reads w F:=⟨z15S,z15s0,z15rr⟩
  refine T.skip (X.seq (T.seq (T.block (T.seq (T.region Z ?_)))))
  refine TL.q Z .u (Aw (k:=k7) Z Z Z C9 C4 (CU hxx12).1) Z ?_
  refine TL.q Z .u (Bb (us := [jI x12.CC,jI x12.Cv,.bool x12.Cs.null,jS x12.Cs.data,.bool x12.Cg.null,jS x12.Cg.data,.slice A16 x12.Cn.length c17]) 0 Z Dr C4 z15nf z15cc Z Z Z) Z (TL.alloc Z .u Tryz.zeroValue38 Z (fun b19=>(Ay (cs':= #[jI x12.CC,jI x12.Cv,.bool x12.Cs.null,jS x12.Cs.data,.bool x12.Cg.null,jS x12.Cg.data,.slice A16 x12.Cn.length c17]) Z .u Z Z C4 Z Z Z Z (TL.nil (X.seq (T.seq (T.seq (T.region Z (TL.run ae [0] Z Z (TL.q Z .u (Ai 0 Z CV Z Z) Z ?_))))))))))
  rcases jF h with⟨c20,h⟩ | ⟨c20,h⟩
  ·refine TL.run ae [2,3,4] Z Z ?_
   iterate 5 refine An Z (.gn Z Z (CN c20)) Z ?_
   refine TL.q Z .u (Aq Z (CN c20) Z) Z (TL.nil (X.seq (Am Z Z (T.seq (T.region Z (TL.run ae [0] Z Z ?_))))))
   obtain rfl:=CP h
   replace h:=hO10
   clear hO10
   try dsimp only at h
   obtain rfl:=CP h
   exact TL.nil (X.seq (T.ret (Al (At (Al (Al (At (Al (Ak [2] Ez (Aj Z) ⟨Z,Z,Z⟩ (by rfl) (.inl Z))))))))))
  ·refine TL.run ae [2,3,4] Z Z (TL.q Z (.g Z Z (CO c20)) (Ao ae Z) Z (TL.q Z (.g Z Z (CO c20)) (Ai 0 Z CV Z Z) Z (TL.q Z (.g Z Z (CO c20)) (Ao ae Z) Z (TL.q Z (.g Z Z (CO c20)) (Ai 1 Z CV Z Z) Z (TL.q Z (.g Z Z (CO c20)) (Ao ae Z) Z (TL.q Z .u (Ar Z (CO c20) Z) Z ?_))))))
   rcases jF h with⟨c21,h⟩ | ⟨c21,h⟩
   ·refine TL.nil (X.seq (Am Z (CN c21) (T.seq (T.region Z (TL.run ae [0] Z Z ?_)))))
    obtain rfl:=CP h
    replace h:=hO10
    clear hO10
    try dsimp only at h
    obtain rfl:=CP h
    exact TL.nil (X.seq (T.ret (Al (At (Al (Al (At (Al (Ak [2] Ez (Aj Z) ⟨Z,Z,Z⟩ (by rfl) (.inl Z))))))))))
   ·refine TL.nil (X.seq (Ap Z (CO c21) (T.skip (X.seq (T.seq (T.region Z (TL.run ae [0] Z Z (TL.q Z .u (Ai 0 Z CV Z Z) Z (TL.run ae [2] Z Z (TL.nil (X.seq (T.seq (T.region Z (TL.run ae [0] Z Z ?_))))))))))))))
    refine TL.q Z .u (Ai 1 Z CV Z Z) Z (TL.run ae [2] Z Z (TL.q Z .u (Ai 0 Z CV Z Z) Z (TL.q Z .u (Ex.addw Z Z) Z (TL.run ae [5] Z Z (TL.nil (X.seq (T.seq (T.seq (T.region Z ?_)))))))))
    rcases jF h with⟨c22,h⟩ | ⟨c22,h⟩
    ·refine TL.run ae [0,1,2] Z Z ?_
     iterate 4 refine An Z (.gn Z Z (CN c22)) Z ?_
     iterate 4 refine An Z (.gu Z Z) Z ?_
     refine An Z (.gn Z Z (CN c22)) Z (TL.q Z .u (Aq Z (CN c22) Z) Z (TL.nil (X.seq (Am Z Z (T.seq (T.region Z (TL.run ae [0] Z Z ?_)))))))
     obtain rfl:=CP h
     replace h:=hO10
     clear hO10
     try dsimp only at h
     obtain rfl:=CP h
     exact TL.nil (X.seq (T.ret (Al (At (Al (Al (At (Al (Ak [2] Ez (Aj Z) ⟨Z,Z,Z⟩ (by rfl) (.inl Z))))))))))
    ·refine TL.run ae [0,1,2] Z Z (TL.q Z (.g Z Z (CO c22)) (Ao ae Z) Z (TL.q Z (.g Z Z (CO c22)) (Ai 0 Z CV Z Z) Z ?_))
     iterate 2 refine TL.q Z (.g Z Z (CO c22)) (Ao ae Z) Z ?_
     rcases jF h with⟨c23,h⟩ | ⟨c23,h⟩
     ·refine TL.q Z (.g Z Z (CN c23)) (Ao ae Z) Z (TL.q Z (.g Z Z (CN c23)) (Ao ae Z) Z (TL.q Z (.g Z Z (CN c23)) (Ai 0 Z CV Z Z) Z (TL.q Z (.g Z Z (CN c23)) (Ao ae Z) Z (TL.q Z (.g Z Z (CO c22)) (Aq Z (CN c23) Z) Z (TL.q Z .u (Ar Z (CO c22) Z) Z ?_)))))
      rcases jF h with⟨c24,h⟩ | ⟨c24,h⟩
      ·refine TL.nil (X.seq (Am Z (CN c24) (T.seq (T.region Z (TL.run ae [0] Z Z ?_)))))
       obtain rfl:=CP h
       replace h:=hO10
       clear hO10
       try dsimp only at h
       obtain rfl:=CP h
       exact TL.nil (X.seq (T.ret (Al (At (Al (Al (At (Al (Ak [2] Ez (Aj Z) ⟨Z,Z,Z⟩ (by rfl) (.inl Z))))))))))
      ·refine TL.nil (X.seq (Ap Z (CO c24) (T.skip (X.seq (T.region Z ?_)))))
       rcases jF h with⟨c25,h⟩ | ⟨c25,h⟩
       ·exact TL.run ae [0,1] Z Z (TL.q Z .u (Ex.maxy Z Z c25) Z (TL.run ae [3] Z Z (TL.nil (Az (X.seq (T.region Z (TL.q Z .u (Ex.add Z Z (by omega)) Z (TL.run ae [1] Z Z (TL.nil (X.back (m':=m11) [1,1] (by omega) ⟨y4,x12.Cv,(IntKind.i64.wrap (a0.Cl+x12.CC)),k7+1,by omega,Z,Z,h⟩ (by rfl) (by rfl)))))))))))
       ·exact TL.run ae [0,1] Z Z (TL.q Z .u (Ex.maxx Z Z c25) Z (TL.run ae [3] Z Z (TL.nil (Az (X.seq (T.region Z (TL.q Z .u (Ex.add Z Z (by omega)) Z (TL.run ae [1] Z Z (TL.nil (X.back (m':=m11) [1,1] (by omega) ⟨y4,x12.Cv,y6,k7+1,by omega,Z,Z,h⟩ (by rfl) (by rfl)))))))))))
     ·refine An Z (.gn Z Z (CO c23)) Z ?_
      iterate 3 refine An Z (.gn Z Z (CO c23)) Z ?_
      refine TL.q Z (.g Z Z (CO c22)) (Ar Z (CO c23) Z) Z (TL.q Z .u (Ar Z (CO c22) Z) Z (TL.nil (X.seq (Ap Z Z (T.skip (X.seq (T.region Z ?_)))))))
      rcases jF h with⟨c26,h⟩ | ⟨c26,h⟩
      ·exact TL.run ae [0,1] Z Z (TL.q Z .u (Ex.maxy Z Z c26) Z (TL.run ae [3] Z Z (TL.nil (Az (X.seq (T.region Z (TL.q Z .u (Ex.add Z Z (by omega)) Z (TL.run ae [1] Z Z (TL.nil (X.back (m':=m11) [1,1] (by omega) ⟨y4,x12.Cv,(IntKind.i64.wrap (a0.Cl+x12.CC)),k7+1,by omega,Z,Z,h⟩ (by rfl) (by rfl)))))))))))
      ·exact TL.run ae [0,1] Z Z (TL.q Z .u (Ex.maxx Z Z c26) Z (TL.run ae [3] Z Z (TL.nil (Az (X.seq (T.region Z (TL.q Z .u (Ex.add Z Z (by omega)) Z (TL.run ae [1] Z Z (TL.nil (X.back (m':=m11) [1,1] (by omega) ⟨y4,x12.Cv,y6,k7+1,by omega,Z,Z,h⟩ (by rfl) (by rfl)))))))))))
def cZ:List Rec→Int→Option (Lp Int Int)
 | [],y13=>some (Lp.go y13)
 | x19::xs,y13=>(dN x19).bind fun x27=>if x27=0 then (cZ xs y13) else some (Lp.ret x27)
def da:List Rec→Int→Option (Lp Int Int)
 | [],y61=>some (Lp.go y61)
 | x67::xs,y61=>(dN x67).bind fun x75=>if x75=0 then (da xs y61) else some (Lp.ret x75)
def cv (a0:Bat):Option (Int):=(eQ a0).bind fun x4=>if x4=true then (if a0.Cq=true then (if a0.CE=true then ((dJ a0).bind fun x9=>if x9=true then (if (a0.Ce.length:Int)=1 then ((cZ a0.Ce 0).bind fun e=>match e with | .ret r=>some r | .go y30=>((a0.Ce[0]?).bind fun x32=>(cu x32).bind fun (x38,x39,x40)=>if x40=0 then ((cC a0).bind fun x43=>some x43) else some x40)) else some 10) else some 11) else some 8) else ((dJ a0).bind fun x58=>if x58=true then ((da a0.Ce 0).bind fun e=>match e with | .ret r=>some r | .go y78=>((cC a0).bind fun x80=>some x80)) else some 11)) else some 11
theorem fS (a0:Bat) (A1:Option Addr) (c2:Nat) (r:Int) (h:cv a0=some r):ay Tryz.prog 40 #[.agg #[jI a0.Cu,jI a0.Co,.bool a0.Cw,.bool a0.CE,.bool a0.Cq,jI a0.Cr,jI a0.Cl,jI a0.Cy,jI a0.Ci,jI a0.Cp,jI a0.Ch,.slice A1 a0.Ce.length c2]] (RX.of (av 7 aU) [.slice A1 a0.Ce.length c2] a0.Ce) (aB) (fun v A' N=>v=jI r∧A'=aB∧N = []):=by
 refine aL Tryz.func40 Z Tryz.ntmps40 Z ?_
 intro F w hX
 unfold cv at h
 refine T.seq (T.region Z (TL.box Z .u Z Z (fun b3=>(TL.run ae [1] Z Z (TL.nil (X.seq (T.seq (T.block (T.seq (T.region Z (TL.q Z .u (Av (us := [jI a0.Cu,jI a0.Co,.bool a0.Cw,.bool a0.CE,.bool a0.Cq,jI a0.Cr,jI a0.Cl,jI a0.Cy,jI a0.Ci,jI a0.Cp,jI a0.Ch,.slice A1 a0.Ce.length c2]) 0 Z Df C3 Z Z Z) Z ?_)))))))))))
 obtain⟨x4,hx5,h⟩:=CM h
 refine Ax Z .u (.fn Tryz.call92 Z) (lE a0 _ _ _ hx5) (fun _ hs=>(AE hs hX)) Z (TL.run ae [2,3] Z Z ?_)
 rcases jF h with⟨c6,h⟩ | ⟨c6,h⟩
 ·refine TL.nil (X.seq (Ap Z (az c6) (T.seq (T.region Z (TL.run ae [0] Z Z (TL.q Z .u (Ai 0 Z Dd Z Z) Z ?_))))))
  rcases jF h with⟨c7,h⟩ | ⟨c7,h⟩
  ·refine TL.run ae [2] Z Z (TL.q Z (.g Z Z c7) (Ao ae Z) Z (TL.q Z (.g Z Z c7) (Ai 0 Z Dd Z Z) Z (TL.q Z (.g Z Z c7) (Ao ae Z) Z (TL.q Z .u (Aq Z c7 Z) Z (TL.run ae [7] Z Z ?_)))))
   rcases jF h with⟨c8,h⟩ | ⟨c8,h⟩
   ·refine TL.nil (X.seq (Ap Z (az c8) (T.seq (T.region Z (TL.q Z .u (Av (us := [jI a0.Cu,jI a0.Co,.bool a0.Cw,.bool a0.CE,.bool a0.Cq,jI a0.Cr,jI a0.Cl,jI a0.Cy,jI a0.Ci,jI a0.Cp,jI a0.Ch,.slice A1 a0.Ce.length c2]) 0 Z Df C3 Z Z Z) Z ?_)))))
    obtain⟨x9,hx10,h⟩:=CM h
    refine Ax Z .u (.fn Tryz.call93 Z) (gD a0 _ _ _ hx10) (fun _ hs=>(AE hs hX)) Z (TL.run ae [2,3] Z Z ?_)
    rcases jF h with⟨c11,h⟩ | ⟨c11,h⟩
    ·refine TL.nil (X.seq (Ap Z (az c11) (T.seq (T.region Z (TL.run ae [0] Z Z (TL.q Z .u (Ai 0 Z Dd Z Z) Z (TL.run ae [2] Z Z (TL.q Z (.g Z Z c7) (Ao ae Z) Z (TL.q Z (.g Z Z c7) (Ai 0 Z Ds Z Z) Z ?_)))))))))
     refine TL.q Z (.g Z Z c7) (AA Z C9) Z (TL.q Z (.g Z Z c7) (Ao ae Z) Z (TL.q Z .u (Aq Z c7 Z) Z (TL.run ae [8] Z Z ?_)))
     rcases jF h with⟨c12,h⟩ | ⟨c12,h⟩
     ·refine TL.nil (X.seq (Ap Z (az (CN c12)) (T.skip (Az (X.seq (T.seq (T.seq (T.region Z (TL.run ae [0] Z Z (TL.q Z .u (Ai 0 Z Ds Z Z) Z (TL.q Z .u (AA Z C9) Z (TL.run ae [3] Z Z (TL.nil (X.seq (T.block ?_)))))))))))))))
      obtain⟨E15,hE16,hO17⟩:=CM h
      have hk21len:=Bf hX
      refine AV (fun m e Rs=> ∃ (y13:Int) (k14:Nat),k14+m=a0.Ce.length∧e = [(1,jP b3),(2,jI y13),(35,.slice A1 a0.Ce.length c2),(36,jI (a0.Ce.length:Int)),(37,jI (k14:Int))]∧Rs = [aC b3 27 #[jI a0.Cu,jI a0.Co,.bool a0.Cw,.bool a0.CE,.bool a0.Cq,jI a0.Cr,jI a0.Cl,jI a0.Cy,jI a0.Ci,jI a0.Cp,jI a0.Ch,.slice A1 a0.Ce.length c2],aB]∧cZ (a0.Ce.drop k14) y13=some E15) (a0.Ce.length) [0,0] ⟨0,0,by simp,Z,Z,by rw[List.drop_zero]; exact hE16⟩ (by rfl) (by rfl) ?_
      rintro m18 _ _ ⟨y13,k14,hk21,rfl,rfl,hl20⟩
      clear hE16 h
      cases m18 with
      | zero =>
       have h:=hl20
       clear hl20
       rw[List.drop_of_length_le (by omega),cZ] at h
       have hk21ge: ¬ ((k14:Int)<(a0.Ce.length:Int)):=by omega
       refine T.seq (T.region Z (TL.run ae [0] Z Z (TL.nil (X.seq (T.seq (Ap Z (CO hk21ge) ?_))))))
       obtain rfl:=CP h
       replace h:=hO17
       clear hO17
       try dsimp only at h
       refine T.exit (Au (Au (AS (X.seq (T.seq (T.seq (T.region Z (TL.run ae [0] Z Z (TL.q Z .u (Ai 0 Z Dd Z Z) Z (TL.nil (X.seq (Am Z c7 (T.seq (T.region Z (TL.run ae [0] Z Z (TL.q Z .u (Ai 0 Z Ds Z Z) Z ?_))))))))))))))))
       obtain⟨x45,hx46,h⟩:=CM h
       obtain⟨gz47,oz47,rfl,z47cs,z47cl,z47cc,z47nf,z47r⟩:=AK (by decide) hX hx46
       obtain⟨z47S,z47r,z47rr⟩:=z47r
       obtain⟨A48,c49,rfl,z47s0⟩:=z47r
       have hX50:(RX.of (av 3 bf) [.slice A48 x45.Cn.length c49] x45.Cn).reads w F:=⟨z47S,z47s0,z47rr⟩
       refine TL.q Z .u (Aw (k:=0) Z Z Z C9 C4 (CU hx46).1) Z ?_
       refine TL.q Z .u (Bb (us := [jI x45.CC,jI x45.Cv,.bool x45.Cs.null,jS x45.Cs.data,.bool x45.Cg.null,jS x45.Cg.data,.slice A48 x45.Cn.length c49]) 0 Z Dr C4 z47nf z47cc Z Z Z) Z ?_
       obtain⟨⟨x51,x52,x53⟩,hx54,h⟩:=CM h
       try dsimp only at h
       refine Ax Z .u (.fn Tryz.call50 Z) (mf x45 _ _ _ hx54) (fun _ hs=>(AE hs hX50)) Z (TL.run ae [5,6,7,8,9,10,11] Z Z (TL.nil (X.seq (T.seq (T.region Z (TL.run ae [0,1] Z Z ?_))))))
       rcases jF h with⟨c55,h⟩ | ⟨c55,h⟩
       ·refine TL.nil (X.seq (Ap Z (az (CN c55)) (T.skip (X.seq (T.seq (T.region Z (TL.q Z .u (Av (us := [jI a0.Cu,jI a0.Co,.bool a0.Cw,.bool a0.CE,.bool a0.Cq,jI a0.Cr,jI a0.Cl,jI a0.Cy,jI a0.Ci,jI a0.Cp,jI a0.Ch,.slice (some ⟨gz47,oz47,none⟩) a0.Ce.length c2]) 0 Z Df C3 Z Z Z) Z ?_)))))))
        obtain⟨x56,hx57,h⟩:=CM h
        refine Ax Z .u (.fn Tryz.call95 Z) (hM a0 _ _ _ hx57) (fun _ hs=>(AE hs hX)) Z (TL.run ae [2] Z Z ?_)
        obtain rfl:=CP h
        exact TL.nil (X.seq (T.ret (Ak [1] Ec (Aj Z) ⟨Z,Z,Z⟩ (by rfl) (.inl Z))))
       ·refine TL.nil (X.seq (Am Z (aD (CO c55)) (T.seq (T.region Z (TL.run ae [0,1] Z Z ?_)))))
        obtain rfl:=CP h
        exact TL.nil (X.seq (T.ret (Al (Ak [1] Ec (Aj Z) ⟨Z,Z,Z⟩ (by rfl) (.inl Z)))))
      | succ m18 =>
       have h:=hl20
       clear hl20
       obtain⟨x19,hxx19⟩: ∃ x,a0.Ce[k14]? = some x:=⟨_,List.getElem?_eq_getElem (by omega)⟩
       rw[bU hxx19,cZ] at h
       have hk21lt:(k14:Int)<(a0.Ce.length:Int):=by omega
       refine T.seq (T.region Z (TL.run ae [0] Z Z (TL.nil (X.seq (T.seq (Am Z (CN hk21lt) ?_))))))
       obtain⟨gz22,oz22,rfl,z22cs,z22cl,z22cc,z22nf,z22r⟩:=AK (by decide) hX hxx19
       obtain⟨z22S,z22r,z22rr⟩:=z22r
       obtain⟨A23,c24,rfl,z22s0⟩:=z22r
       have hX25:(RX.of (av 3 bf) [.slice A23 x19.Cn.length c24] x19.Cn).reads w F:=⟨z22S,z22s0,z22rr⟩
       refine T.skip (X.seq (T.seq (T.block (T.seq (T.region Z ?_)))))
       refine TL.q Z .u (Aw (k:=k14) Z Z Z C9 C4 (CU hxx19).1) Z ?_
       refine TL.q Z .u (Bb (us := [jI x19.CC,jI x19.Cv,.bool x19.Cs.null,jS x19.Cs.data,.bool x19.Cg.null,jS x19.Cg.data,.slice A23 x19.Cn.length c24]) 0 Z Dr C4 z22nf z22cc Z Z Z) Z (TL.alloc Z .u Tryz.zeroValue38 Z (fun b26=>(Ay (cs':= #[jI x19.CC,jI x19.Cv,.bool x19.Cs.null,jS x19.Cs.data,.bool x19.Cg.null,jS x19.Cg.data,.slice A23 x19.Cn.length c24]) Z .u Z Z C4 Z Z Z Z (TL.nil (X.seq (T.seq (T.region Z (TL.q Z .u (Av (us := [jI x19.CC,jI x19.Cv,.bool x19.Cs.null,jS x19.Cs.data,.bool x19.Cg.null,jS x19.Cg.data,.slice A23 x19.Cn.length c24]) 0 Z Dr C4 Z Z Z) Z ?_))))))))
       obtain⟨x27,hx28,h⟩:=CM h
       refine Ax Z .u (.fn Tryz.call94 Z) (fB x19 _ _ _ hx28) (fun _ hs=>(AE hs hX25)) Z (TL.run ae [2] Z Z (TL.nil (X.seq (T.seq (T.region Z (TL.run ae [0,1] Z Z ?_))))))
       rcases jF h with⟨c29,h⟩ | ⟨c29,h⟩
       ·exact TL.nil (X.seq (Ap Z (az (CN c29)) (T.skip (Az (X.seq (T.region Z (TL.q Z .u (Ex.add Z Z (by omega)) Z (TL.run ae [1] Z Z (TL.nil (X.back (m':=m18) [1,1] (by omega) ⟨y13,k14+1,by omega,Z,Z,h⟩ (by rfl) (by rfl)))))))))))
       ·refine TL.nil (X.seq (Am Z (aD (CO c29)) (T.seq (T.region Z (TL.run ae [0,1] Z Z ?_)))))
        obtain rfl:=CP h
        replace h:=hO17
        clear hO17
        try dsimp only at h
        obtain rfl:=CP h
        exact TL.nil (X.seq (T.ret (At (Al (Al (At (Al (Ak [2] Ec (Aj Z) ⟨Z,Z,Z⟩ (by rfl) (.inl Z)))))))))
     ·refine TL.nil (X.seq (Am Z (aD (CO c12)) (T.seq (T.region Z (TL.run ae [0] Z Z ?_)))))
      obtain rfl:=CP h
      exact TL.nil (X.seq (T.ret (At (Al (Ak [1] Ec (Aj Z) ⟨Z,Z,Z⟩ (by rfl) (.inl Z))))))
    ·replace c11:=CX c11
     refine TL.nil (X.seq (Am Z (aD c11) (T.seq (T.region Z (TL.run ae [0] Z Z ?_)))))
     obtain rfl:=CP h
     exact TL.nil (X.seq (T.ret (At (Al (Ak [1] Ec (Aj Z) ⟨Z,Z,Z⟩ (by rfl) (.inl Z))))))
   ·replace c8:=CX c8
    refine TL.nil (X.seq (Am Z (aD c8) (T.seq (T.region Z (TL.run ae [0] Z Z ?_)))))
    obtain rfl:=CP h
    exact TL.nil (X.seq (T.ret (At (Al (Ak [1] Ec (Aj Z) ⟨Z,Z,Z⟩ (by rfl) (.inl Z))))))
  ·replace c7:=CX c7
   refine TL.run ae [2] Z Z ?_
   iterate 3 refine An Z (.gn Z Z c7) Z ?_
   refine TL.q Z .u (Ar Z c7 Z) Z (TL.run ae [7] Z Z (TL.nil (X.seq (Ap Z Z (T.seq (T.region Z (TL.q Z .u (Av (us := [jI a0.Cu,jI a0.Co,.bool a0.Cw,.bool a0.CE,.bool a0.Cq,jI a0.Cr,jI a0.Cl,jI a0.Cy,jI a0.Ci,jI a0.Cp,jI a0.Ch,.slice A1 a0.Ce.length c2]) 0 Z Df C3 Z Z Z) Z ?_)))))))
   obtain⟨x58,hx59,h⟩:=CM h
   refine Ax Z .u (.fn Tryz.call93 Z) (gD a0 _ _ _ hx59) (fun _ hs=>(AE hs hX)) Z (TL.run ae [2,3] Z Z ?_)
   rcases jF h with⟨c60,h⟩ | ⟨c60,h⟩
   ·refine TL.nil (X.seq (Ap Z (az c60) (T.seq (T.region Z (TL.run ae [0] Z Z (TL.q Z .u (Ai 0 Z Dd Z Z) Z (TL.run ae [2] Z Z ?_)))))))
    iterate 4 refine An Z (.gn Z Z c7) Z ?_
    refine TL.q Z .u (Ar Z c7 Z) Z (TL.run ae [8] Z Z (TL.nil (X.seq (Ap Z Z (T.skip (Az (X.seq (T.seq (T.seq (T.region Z (TL.run ae [0] Z Z (TL.q Z .u (Ai 0 Z Ds Z Z) Z (TL.q Z .u (AA Z C9) Z ?_)))))))))))))
    refine TL.run ae [3] Z Z (TL.nil (X.seq (T.block ?_)))
    obtain⟨E63,hE64,hO65⟩:=CM h
    have hk69len:=Bf hX
    refine AV (fun m e Rs=> ∃ (y61:Int) (k62:Nat),k62+m=a0.Ce.length∧e = [(1,jP b3),(2,jI y61),(35,.slice A1 a0.Ce.length c2),(36,jI (a0.Ce.length:Int)),(37,jI (k62:Int))]∧Rs = [aC b3 27 #[jI a0.Cu,jI a0.Co,.bool a0.Cw,.bool a0.CE,.bool a0.Cq,jI a0.Cr,jI a0.Cl,jI a0.Cy,jI a0.Ci,jI a0.Cp,jI a0.Ch,.slice A1 a0.Ce.length c2],aB]∧da (a0.Ce.drop k62) y61=some E63) (a0.Ce.length) [0,0] ⟨0,0,by simp,Z,Z,by rw[List.drop_zero]; exact hE64⟩ (by rfl) (by rfl) ?_
    rintro m66 _ _ ⟨y61,k62,hk69,rfl,rfl,hl68⟩
    clear hE64 h
    cases m66 with
    | zero =>
     have h:=hl68
     clear hl68
     rw[List.drop_of_length_le (by omega),da] at h
     have hk69ge: ¬ ((k62:Int)<(a0.Ce.length:Int)):=by omega
     refine T.seq (T.region Z (TL.run ae [0] Z Z (TL.nil (X.seq (T.seq (Ap Z (CO hk69ge) ?_))))))
     obtain rfl:=CP h
     replace h:=hO65
     clear hO65
     try dsimp only at h
     refine T.exit (Au (Au (AS (X.seq (T.seq (T.seq (T.region Z (TL.run ae [0] Z Z (TL.q Z .u (Ai 0 Z Dd Z Z) Z (TL.nil (X.seq (Ap Z c7 (T.skip (X.seq (T.seq (T.region Z (TL.q Z .u (Av (us := [jI a0.Cu,jI a0.Co,.bool a0.Cw,.bool a0.CE,.bool a0.Cq,jI a0.Cr,jI a0.Cl,jI a0.Cy,jI a0.Ci,jI a0.Cp,jI a0.Ch,.slice A1 a0.Ce.length c2]) 0 Z Df C3 Z Z Z) Z ?_)))))))))))))))))
     obtain⟨x82,hx83,h⟩:=CM h
     refine Ax Z .u (.fn Tryz.call95 Z) (hM a0 _ _ _ hx83) (fun _ hs=>(AE hs hX)) Z (TL.run ae [2] Z Z ?_)
     obtain rfl:=CP h
     exact TL.nil (X.seq (T.ret (Ak [1] Ec (Aj Z) ⟨Z,Z,Z⟩ (by rfl) (.inl Z))))
    | succ m66 =>
     have h:=hl68
     clear hl68
     obtain⟨x67,hxx67⟩: ∃ x,a0.Ce[k62]? = some x:=⟨_,List.getElem?_eq_getElem (by omega)⟩
     rw[bU hxx67,da] at h
     have hk69lt:(k62:Int)<(a0.Ce.length:Int):=by omega
     refine T.seq (T.region Z (TL.run ae [0] Z Z (TL.nil (X.seq (T.seq (Am Z (CN hk69lt) ?_))))))
     obtain⟨gz70,oz70,rfl,z70cs,z70cl,z70cc,z70nf,z70r⟩:=AK (by decide) hX hxx67
     obtain⟨z70S,z70r,z70rr⟩:=z70r
     obtain⟨A71,c72,rfl,z70s0⟩:=z70r
     have hX73:(RX.of (av 3 bf) [.slice A71 x67.Cn.length c72] x67.Cn).reads w F:=⟨z70S,z70s0,z70rr⟩
     refine T.skip (X.seq (T.seq (T.block (T.seq (T.region Z ?_)))))
     refine TL.q Z .u (Aw (k:=k62) Z Z Z C9 C4 (CU hxx67).1) Z ?_
     refine TL.q Z .u (Bb (us := [jI x67.CC,jI x67.Cv,.bool x67.Cs.null,jS x67.Cs.data,.bool x67.Cg.null,jS x67.Cg.data,.slice A71 x67.Cn.length c72]) 0 Z Dr C4 z70nf z70cc Z Z Z) Z (TL.alloc Z .u Tryz.zeroValue38 Z (fun b74=>(Ay (cs':= #[jI x67.CC,jI x67.Cv,.bool x67.Cs.null,jS x67.Cs.data,.bool x67.Cg.null,jS x67.Cg.data,.slice A71 x67.Cn.length c72]) Z .u Z Z C4 Z Z Z Z (TL.nil (X.seq (T.seq (T.region Z (TL.q Z .u (Av (us := [jI x67.CC,jI x67.Cv,.bool x67.Cs.null,jS x67.Cs.data,.bool x67.Cg.null,jS x67.Cg.data,.slice A71 x67.Cn.length c72]) 0 Z Dr C4 Z Z Z) Z ?_))))))))
     obtain⟨x75,hx76,h⟩:=CM h
     refine Ax Z .u (.fn Tryz.call94 Z) (fB x67 _ _ _ hx76) (fun _ hs=>(AE hs hX73)) Z (TL.run ae [2] Z Z (TL.nil (X.seq (T.seq (T.region Z (TL.run ae [0,1] Z Z ?_))))))
     rcases jF h with⟨c77,h⟩ | ⟨c77,h⟩
     ·exact TL.nil (X.seq (Ap Z (az (CN c77)) (T.skip (Az (X.seq (T.region Z (TL.q Z .u (Ex.add Z Z (by omega)) Z (TL.run ae [1] Z Z (TL.nil (X.back (m':=m66) [1,1] (by omega) ⟨y61,k62+1,by omega,Z,Z,h⟩ (by rfl) (by rfl)))))))))))
     ·refine TL.nil (X.seq (Am Z (aD (CO c77)) (T.seq (T.region Z (TL.run ae [0,1] Z Z ?_)))))
      obtain rfl:=CP h
      replace h:=hO65
      clear hO65
      try dsimp only at h
      obtain rfl:=CP h
      exact TL.nil (X.seq (T.ret (At (Al (Al (At (Al (Ak [2] Ec (Aj Z) ⟨Z,Z,Z⟩ (by rfl) (.inl Z)))))))))
   ·replace c60:=CX c60
    refine TL.nil (X.seq (Am Z (aD c60) (T.seq (T.region Z (TL.run ae [0] Z Z ?_)))))
    obtain rfl:=CP h
    exact TL.nil (X.seq (T.ret (At (Al (Ak [1] Ec (Aj Z) ⟨Z,Z,Z⟩ (by rfl) (.inl Z))))))
 ·replace c6:=CX c6
  refine TL.nil (X.seq (Am Z (aD c6) (T.seq (T.region Z (TL.run ae [0] Z Z ?_)))))
  obtain rfl:=CP h
  exact TL.nil (X.seq (T.ret (At (Al (Ak [1] Ec (Aj Z) ⟨Z,Z,Z⟩ (by rfl) (.inl Z))))))
def d9:List Rec→(List UInt8×Int)→Option (List UInt8×Int)
 | [],st9=>some st9
 | x14::xs,st9=>(iX st9 x14).bind fun st22=>d9 xs st22
def jb (a0:Bat):Option (List UInt8×Int):=(cv a0).bind fun x4=>if x4=0 then ((d9 a0.Ce ([],0)).bind fun st25=>(kv st25).bind fun (x26,x27,st28)=>if -9223372036854775808≤(49+(x26.length:Int))∧(49+(x26.length:Int))≤9223372036854775807 then ((gAOf a0).bind fun x31=>(dk ([],0) (⟨a0.Cu,(49+(x26.length:Int)),a0.Co,0,x31,a0.Cr,a0.Cl,a0.Cy,a0.Ci,a0.Cp,a0.Ch,(a0.Ce.length:Int)⟩:Pfx)).bind fun st35=>(kv st35).bind fun (x37,x38,st39)=>(if x27=0 then (if x38=0 then some false else some true) else some true).bind fun y42=>if y42=true then some ([],11) else ((iJ).bind fun st47=>if 21≤x37.length then ((es st47 [(x37.drop 21),x26]).bind fun (x52,st53)=>if -9223372036854775808≤x52∧x52≤9223372036854775807 then ((dk ([],0) (⟨a0.Cu,(49+(x26.length:Int)),a0.Co,x52,x31,a0.Cr,a0.Cl,a0.Cy,a0.Ci,a0.Cp,a0.Ch,(a0.Ce.length:Int)⟩:Pfx)).bind fun st56=>(xU st56 x26).bind fun st58=>(kv st58).bind fun (x60,x61,st62)=>some (x60,x61)) else none) else none)) else none) else some ([],x4)
theorem mh (a0:Bat) (A1:Option Addr) (c2:Nat) (r:List UInt8×Int) (h:jb a0=some r):ay Tryz.prog 41 #[.agg #[jI a0.Cu,jI a0.Co,.bool a0.Cw,.bool a0.CE,.bool a0.Cq,jI a0.Cr,jI a0.Cl,jI a0.Cy,jI a0.Ci,jI a0.Cp,jI a0.Ch,.slice A1 a0.Ce.length c2]] (RX.of (av 7 aU) [.slice A1 a0.Ce.length c2] a0.Ce) (aB) (fun v A' N=>v= .tuple #[jS r.1,jI r.2]∧A'=aB∧N = []):=by
 refine aL Tryz.func41 Z Tryz.ntmps41 Z ?_
 intro F w hX
 unfold jb at h
 refine T.seq (T.region Z (TL.box Z .u Z Z (fun b3=>(TL.run ae [1,2] Z Z (TL.nil (X.seq (T.seq (T.seq (T.region Z (TL.q Z .u (Av (us := [jI a0.Cu,jI a0.Co,.bool a0.Cw,.bool a0.CE,.bool a0.Cq,jI a0.Cr,jI a0.Cl,jI a0.Cy,jI a0.Ci,jI a0.Cp,jI a0.Ch,.slice A1 a0.Ce.length c2]) 0 Z Df C3 Z Z Z) Z ?_))))))))))
 obtain⟨x4,hx5,h⟩:=CM h
 refine Ax Z .u (.fn Tryz.call40 Z) (fS a0 _ _ _ hx5) (fun _ hs=>(AE hs hX)) Z (TL.run ae [2] Z Z (TL.nil (X.seq (T.seq (T.region Z (TL.run ae [0,1] Z Z ?_))))))
 rcases jF h with⟨c6,h⟩ | ⟨c6,h⟩
 ·refine TL.nil (X.seq (Ap Z (az (CN c6)) (T.skip (X.seq (T.seq (T.region Z (B7 Z .u Tryz.zeroValue66 Z (fun b7=>(TL.nil (X.seq (T.seq (T.seq (T.region Z (TL.run ae [0] Z Z (TL.q Z .u (Ai 1 Z Ds Z Z) Z (TL.q Z .u (AA Z C9) Z ?_))))))))))))))))
  refine TL.run ae [3] Z Z (TL.nil (X.seq (T.block ?_)))
  obtain⟨E10,hE11,hO12⟩:=CM h
  have hk16len:=Bf hX
  refine AV (fun m e Rs=> ∃ (k8:Nat) (st9:List UInt8×Int),k8+m=a0.Ce.length∧e = [(1,jP b3),(2,.string ⟨#[]⟩),(3,jI 0),(5,jP b7),(20,.slice A1 a0.Ce.length c2),(21,jI (a0.Ce.length:Int)),(22,jI (k8:Int))]∧Rs = [aW b7 st9,aC b3 27 #[jI a0.Cu,jI a0.Co,.bool a0.Cw,.bool a0.CE,.bool a0.Cq,jI a0.Cr,jI a0.Cl,jI a0.Cy,jI a0.Ci,jI a0.Cp,jI a0.Ch,.slice A1 a0.Ce.length c2],aB]∧d9 (a0.Ce.drop k8) st9=some E10) (a0.Ce.length) [0,0,0] ⟨0,([],0),by simp,Z,Z,by rw[List.drop_zero]; exact hE11⟩ (by rfl) (by rfl) ?_
  rintro m13 _ _ ⟨k8,st9,hk16,rfl,rfl,hl15⟩
  clear hE11 h
  cases m13 with
  | zero =>
   have h:=hl15
   clear hl15
   rw[List.drop_of_length_le (by omega),d9] at h
   have hk16ge: ¬ ((k8:Int)<(a0.Ce.length:Int)):=by omega
   refine T.seq (T.region Z (TL.run ae [0] Z Z (TL.nil (X.seq (T.seq (Ap Z (CO hk16ge) ?_))))))
   obtain rfl:=CP h
   replace h:=hO12
   clear hO12
   try dsimp only at h
   obtain⟨⟨x64,x65,st66⟩,hx67,h⟩:=CM h
   try dsimp only at h
   refine T.exit (Au (Au (AS (X.seq (T.seq (T.region Z (AZ Z .u (.fn Tryz.call28 Z) (fV b7 st9 _ hx67) (fun _ hs=>(Src.triv _)) Z (TL.run ae [1,2,3,4,5] Z Z ?_))))))))
   replace h:=ak h
   obtain⟨c68,h⟩:=h
   obtain⟨x69,hx70,h⟩:=CM h
   refine TL.nil (X.seq (T.seq ?_))
   refine BR (fun e Rs=> ∃ (b71:Nat),e = [(1,jP b3),(2,.string ⟨#[]⟩),(3,jI 0),(5,jP b7),(8,jS x64),(9,jI x65),(10,jP b71),(20,.slice A1 a0.Ce.length c2),(21,jI (a0.Ce.length:Int)),(22,jI (k8:Int)),(23,.bool (decide ((k8:Int)<(a0.Ce.length:Int)))),(29,.tuple #[jS x64,jI x65]),(30,.tuple #[jS x64,jI x65]),(31,jS x64),(32,jI x65)]∧Rs = [aC b71 160 #[jI a0.Cu,jI (49+(x64.length:Int)),jI a0.Co,jI 0,jI x69,jI a0.Cr,jI a0.Cl,jI a0.Cy,jI a0.Ci,jI a0.Cp,jI a0.Ch,jI (a0.Ce.length:Int)],aW b7 st66,aC b3 27 #[jI a0.Cu,jI a0.Co,.bool a0.Cw,.bool a0.CE,.bool a0.Cq,jI a0.Cr,jI a0.Cl,jI a0.Cy,jI a0.Ci,jI a0.Cp,jI a0.Ch,.slice A1 a0.Ce.length c2],aB]) ?_ ?_
   ·refine AH (.q 0 (.q 1 (.q 2 (.q 3 (.q 4 (.q 5 (.q 6 (.q 7 (.q 9 (.q 10 (.q 11 (.q 12 (.q 13 (.q 14 (.q 15 (.q 16 (.q 17 (.q 18 (.q 19 (.q 20 (.q 21 (.q 22 (.q 23 (.br 8 (.q 24 (.e 25 (.e 26 .nil))) (.e 25 (.e 8 (.q 24 (.e 26 .nil)))))))))))))))))))))))))))) [0,0,0] Z j5 nd (by kernel_rfl) ?_
    refine TD.run ae [0] Z Z (TD.q Z .u (Ai 1 Z CV Z Z) Z (TD.run ae [2] Z Z (TD.q Z .u (AW Z CZ) Z (TD.q Z .u (Ex.add Z Z c68) Z (TD.run ae [5] Z Z (TD.q Z .u (Ai 1 Z CV Z Z) Z (TD.q Z .u (Av (us := [jI a0.Cu,jI a0.Co,.bool a0.Cw,.bool a0.CE,.bool a0.Cq,jI a0.Cr,jI a0.Cl,jI a0.Cy,jI a0.Ci,jI a0.Cp,jI a0.Ch,.slice A1 a0.Ce.length c2]) 1 Z Df C3 Z Z Z) Z ?_)))))))
    refine TD.run ae [9] Z Z (TD.q Z .u (Ai 1 Z CV Z Z) Z (TD.run ae [11] Z Z (TD.q Z .u (Ai 1 Z CV Z Z) Z (TD.run ae [13] Z Z (TD.q Z .u (Ai 1 Z CV Z Z) Z (TD.run ae [15] Z Z (TD.q Z .u (Ai 1 Z CV Z Z) Z ?_)))))))
    refine TD.run ae [17] Z Z (TD.q Z .u (Ai 1 Z CV Z Z) Z (TD.run ae [19] Z Z (TD.q Z .u (Ai 1 Z CV Z Z) Z (TD.run ae [21] Z Z (TD.q Z .u (Ai 1 Z Ds Z Z) Z (TD.q Z .u (AA Z C9) Z ?_))))))
    refine TD.br ?_ ?_
    ·refine AR Z .u (.fn Tryz.call97 Z) (rH a0 _ _ _ hx70) (fun _ hs=>(AE hs hX)) Z [0,0,0] (Z) ?_
     refine TD.q Z .u (AD (cells:= #[jI a0.Cu,jI (49+(x64.length:Int)),jI a0.Co,jI 0,jI x69,jI a0.Cr,jI a0.Cl,jI a0.Cy,jI a0.Ci,jI a0.Cp,jI a0.Ch,jI (a0.Ce.length:Int)]) mu Z (by kernel_rfl)) Z ?_
     exact TD.alloc Z .u Tryz.zeroValue160 Z [1,1,1] (fun _=>Z) (fun b71=>(TD.st0 (cs':= #[jI a0.Cu,jI (49+(x64.length:Int)),jI a0.Co,jI 0,jI x69,jI a0.Cr,jI a0.Cl,jI a0.Cy,jI a0.Ci,jI a0.Cp,jI a0.Ch,jI (a0.Ce.length:Int)]) Z .u Z Z D1 Z Z Z Z [1,1,1] (Z) (TD.nil (Bw [0,0,0,0] ⟨b71,Z,Z⟩ (by rfl) (by rfl)))))
    ·refine TD.alloc Z .u Tryz.zeroValue160 Z [1,1,1] (fun _=>Z) (fun b71=>(AR Z .u (.fn Tryz.call97 Z) (rH a0 _ _ _ hx70) (fun _ hs=>(AE hs hX)) Z [1,1,1] (Z) ?_))
     refine TD.q Z .u (AD (cells:= #[jI a0.Cu,jI (49+(x64.length:Int)),jI a0.Co,jI 0,jI x69,jI a0.Cr,jI a0.Cl,jI a0.Cy,jI a0.Ci,jI a0.Cp,jI a0.Ch,jI (a0.Ce.length:Int)]) mu Z (by kernel_rfl)) Z ?_
     exact TD.st0 (cs':= #[jI a0.Cu,jI (49+(x64.length:Int)),jI a0.Co,jI 0,jI x69,jI a0.Cr,jI a0.Cl,jI a0.Cy,jI a0.Ci,jI a0.Cp,jI a0.Ch,jI (a0.Ce.length:Int)]) Z .u Z Z D1 Z Z Z Z [1,1,1] (Z) (TD.nil (Bw [0,0,0,0] ⟨b71,Z,Z⟩ (by rfl) (by rfl)))
   ·rintro _ _ ⟨b71,rfl,rfl⟩
    refine X.seq (T.seq (T.region Z (B7 Z .u Tryz.zeroValue66 Z (fun b72=>(TL.nil (X.seq (T.seq (T.region Z (TL.q Z .u (Av (us := [jI a0.Cu,jI (49+(x64.length:Int)),jI a0.Co,jI 0,jI x69,jI a0.Cr,jI a0.Cl,jI a0.Cy,jI a0.Ci,jI a0.Cp,jI a0.Ch,jI (a0.Ce.length:Int)]) 1 Z ED D1 Z Z Z) Z ?_)))))))))
    obtain⟨st73,hx74,h⟩:=CM h
    refine AZ Z .u (.fn Tryz.call98 Z) (fC b72 ([],0) (⟨a0.Cu,(49+(x64.length:Int)),a0.Co,0,x69,a0.Cr,a0.Cl,a0.Cy,a0.Ci,a0.Cp,a0.Ch,(a0.Ce.length:Int)⟩:Pfx) _ hx74) (fun _ hs=>(Src.triv _)) Z ?_
    obtain⟨⟨x75,x76,st77⟩,hx78,h⟩:=CM h
    try dsimp only at h
    refine TL.nil (X.seq (T.seq (T.region Z (AZ Z .u (.fn Tryz.call28 Z) (fV b72 st73 _ hx78) (fun _ hs=>(Src.triv _)) Z (TL.run ae [1,2,3,4,5] Z Z (TL.nil (X.seq (T.seq (T.seq ?_)))))))))
    obtain⟨y80,h,hk81⟩:=CM h
    refine Bg (fun e Rs=>e = [(2,.string ⟨#[]⟩),(3,jI 0),(8,jS x64),(10,jP b71),(11,jP b72),(12,jS x75),(69,.bool y80)]∧Rs = [aW b72 st77,aC b71 160 #[jI a0.Cu,jI (49+(x64.length:Int)),jI a0.Co,jI 0,jI x69,jI a0.Cr,jI a0.Cl,jI a0.Cy,jI a0.Ci,jI a0.Cp,jI a0.Ch,jI (a0.Ce.length:Int)],aW b7 st66,aC b3 27 #[jI a0.Cu,jI a0.Co,.bool a0.Cw,.bool a0.CE,.bool a0.Cq,jI a0.Cr,jI a0.Cl,jI a0.Cy,jI a0.Ci,jI a0.Cp,jI a0.Ch,.slice A1 a0.Ce.length c2],aB]) ?_ ?_
    ·clear hk81
     refine T.region Z ?_
     rcases jF h with⟨c82,h⟩ | ⟨c82,h⟩
     ·refine TL.run ae [0,1,2] Z Z ?_
      iterate 2 refine TL.q Z (.g Z Z (az (CN c82))) (Ao ae Z) Z ?_
      refine TL.q Z .u (Ar Z (az (CN c82)) Z) Z ?_
      rcases jF h with⟨c83,h⟩ | ⟨c83,h⟩
      ·cases h
       exact TL.nil (Bh (d:=69) (v':= .bool false) Z (congrArg Value.bool (az (CN c83))) (AB [0,0,0,0,0] ⟨Z,Z⟩ (by rfl) (by rfl)))
      ·cases h
       exact TL.nil (Bh (d:=69) (v':= .bool true) Z (congrArg Value.bool (aD (CO c83))) (AB [0,0,0,0,0] ⟨Z,Z⟩ (by rfl) (by rfl)))
     ·refine TL.run ae [0,1,2] Z Z ?_
      iterate 2 refine An Z (.gn Z Z (aD (CO c82))) Z ?_
      refine TL.q Z .u (Aq Z (aD (CO c82)) Z) Z ?_
      cases h
      exact TL.nil (AB [0,0,0,0,0] ⟨Z,Z⟩ (by rfl) (by rfl))
    ·rintro _ _ ⟨rfl,rfl⟩
     clear h
     have h:=hk81
     clear hk81
     try dsimp only at h
     rcases jF h with⟨c84,h⟩ | ⟨c84,h⟩
     ·refine X.seq (Am Z c84 (T.seq (T.region Z (TL.run ae [0,1] Z Z ?_))))
      obtain rfl:=CP h
      exact TL.nil (X.seq (T.ret (Al (AL [4] Tryz.results41 (Aj Z) (Aj Z) ⟨Z,Z,Z⟩ (by rfl) (.inl Z)))))
     ·replace c84:=CX c84
      refine X.seq (Ap Z c84 ?_)
      obtain⟨st85,hx86,h⟩:=CM h
      replace h:=ak h
      obtain⟨c88,h⟩:=h
      obtain⟨⟨x90,st91⟩,hx92,h⟩:=CM h
      try dsimp only at h
      replace h:=ak h
      obtain⟨c93,h⟩:=h
      refine T.skip (X.seq (T.seq ?_))
      refine BR (fun e Rs=> ∃ (b87:Nat) (b89:Nat),e = [(2,.string ⟨#[]⟩),(3,jI 0),(8,jS x64),(10,jP b71),(11,jP b72),(69,.bool y80)]∧Rs = [aZ 9 1 uI (.slice (some ⟨b89,0,none⟩) 2 2) [(x75.drop 21),x64],jk 205 b87 st91,aW b72 st77,aC b71 160 #[jI a0.Cu,jI (49+(x64.length:Int)),jI a0.Co,jI x90,jI x69,jI a0.Cr,jI a0.Cl,jI a0.Cy,jI a0.Ci,jI a0.Cp,jI a0.Ch,jI (a0.Ce.length:Int)],aW b7 st66,aC b3 27 #[jI a0.Cu,jI a0.Co,.bool a0.Cw,.bool a0.CE,.bool a0.Cq,jI a0.Cr,jI a0.Cl,jI a0.Cy,jI a0.Ci,jI a0.Cp,jI a0.Ch,.slice A1 a0.Ce.length c2],aB]) ?_ ?_
      ·refine AH (.q 1 (.q 2 (.q 3 (.br 0 (.e 4 (.e 5 (.q 6 (.q 7 (.e 8 .nil))))) (.e 4 (.e 0 (.e 5 (.q 6 (.q 7 (.e 8 .nil)))))))))) [0,1,1,1] Z j5 nd (by kernel_rfl) ?_
       refine TD.run ae [1] Z Z ?_
       refine TD.q Z .u (Ba (p:=21) (q:=x75.length) (m:=(x75.drop 21)) Z CZ (.some Z Z) .none (by first | omega | (dsimp only; omega)) (dY _ _)) Z ?_
       refine TD.run ae [3] Z Z ?_
       refine TD.br ?_ ?_
       ·refine TD.cge Z .u (.fn Tryz.call99 Z) (gl _ hx86) (fun _ hs=>(RX.reads_triv _ _)) Z [1,2,2,2] ?_ ?_
        ·rintro _ _ _ ⟨b87,rfl,rfl,rfl⟩
         rfl
        rintro _ _ _ ⟨b87,rfl,rfl,rfl⟩
        exact Bi [0,0,0,0,0,0] Z (Bx (cells:= #[.string (aF (x75.drop 21)),jS x64]) Z .u fN Z (by rfl) Z [2,3,3,3] (fun _=>Z) (fun b89=>(BW (us := [.string (aF (x75.drop 21)),jS x64]) (xs := [(x75.drop 21),x64]) (E:=uI) (z:=1) Z (Nat.le_of_ble_eq_true Z) (fun _=>⟨Z,Z,⟨Z,Z,Z⟩⟩) (TD.c1 Z .u (.fn Tryz.call100 Z) (ej b87 st85 [(x75.drop 21),x64] _ _ _ hx92) (fun _ hs=>(Src.res 0 Z (fun w G h=>aP (by decide) w G h))) Z [2,3,3,3] (Z) (TD.q Z .u (Bz Z DS DU c93) Z (TD.run ae [7] Z Z (BS (cs':= #[jI a0.Cu,jI (49+(x64.length:Int)),jI a0.Co,jI x90,jI x69,jI a0.Cr,jI a0.Cl,jI a0.Cy,jI a0.Ci,jI a0.Cp,jI a0.Ch,jI (a0.Ce.length:Int)]) Z .u Z Z CY Z Z Z Z [2,3,3,3] (Z) (TD.nil (Bw [0,0,0,0,0,0,0] ⟨b87,b89,Z,Z⟩ (by rfl) (by rfl))))))))))
       ·refine Bx (cells:= #[.string (aF (x75.drop 21)),jS x64]) Z .u fN Z (by rfl) Z [1,2,2,2] (fun _=>Z) (fun b89=>(BW (us := [.string (aF (x75.drop 21)),jS x64]) (xs := [(x75.drop 21),x64]) (E:=uI) (z:=1) Z (Nat.le_of_ble_eq_true Z) (fun _=>⟨Z,Z,⟨Z,Z,Z⟩⟩) ?_))
        refine TD.cge Z .u (.fn Tryz.call99 Z) (gl _ hx86) (fun _ hs=>(RX.reads_triv _ _)) Z [2,3,3,3] ?_ ?_
        ·rintro _ _ _ ⟨b87,rfl,rfl,rfl⟩
         rfl
        rintro _ _ _ ⟨b87,rfl,rfl,rfl⟩
        exact Bi [0,0,0,0,0,0,0] Z (TD.c0 Z .u (.fn Tryz.call100 Z) (ej b87 st85 [(x75.drop 21),x64] _ _ _ hx92) (fun _ hs=>(Src.res 0 Z (fun w G h=>aP (by decide) w G h))) Z [2,3,3,3] (Z) (TD.q Z .u (Bz Z DS DU c93) Z (TD.run ae [7] Z Z (BS (cs':= #[jI a0.Cu,jI (49+(x64.length:Int)),jI a0.Co,jI x90,jI x69,jI a0.Cr,jI a0.Cl,jI a0.Cy,jI a0.Ci,jI a0.Cp,jI a0.Ch,jI (a0.Ce.length:Int)]) Z .u Z Z CY Z Z Z Z [2,3,3,3] (Z) (TD.nil (Bw [1,0,0,0,0,0,0] ⟨b87,b89,Z,Z⟩ (by rfl) (by rfl)))))))
      ·rintro _ _ ⟨b87,b89,rfl,rfl⟩
       refine X.seq (T.seq (T.region Z ?_))
       refine TL.q Z .u (AD (cells:= #[.slice none 0 0,jI 0]) sL Z (by kernel_rfl)) Z ?_
       refine TL.outZ 2 Z .u Z Z Tryz.sizeOf66 Z (AC [0,0,0,0,0,0,0] Z (TL.nil (X.seq (T.seq (T.region Z (TL.q Z .u (Av (us := [jI a0.Cu,jI (49+(x64.length:Int)),jI a0.Co,jI x90,jI x69,jI a0.Cr,jI a0.Cl,jI a0.Cy,jI a0.Ci,jI a0.Cp,jI a0.Ch,jI (a0.Ce.length:Int)]) 3 Z ED D1 Z Z Z) Z ?_))))))
       obtain⟨st94,hx95,h⟩:=CM h
       refine BA Z .u (.fn Tryz.call98 Z) (fC b72 ([],0) (⟨a0.Cu,(49+(x64.length:Int)),a0.Co,x90,x69,a0.Cr,a0.Cl,a0.Cy,a0.Ci,a0.Cp,a0.Ch,(a0.Ce.length:Int)⟩:Pfx) _ hx95) (fun _ hs=>(Src.triv _)) Z (TL.nil (X.seq (T.seq (T.region Z ?_))))
       obtain⟨st96,hx97,h⟩:=CM h
       refine TL.run ae [0] Z Z (BA Z .u (.fn Tryz.call101 Z) (uS b72 st94 x64 _ hx97) (fun _ hs=>(Src.triv _)) Z ?_)
       obtain⟨⟨x98,x99,st100⟩,hx101,h⟩:=CM h
       try dsimp only at h
       refine TL.nil (X.seq (T.seq (T.region Z (BA Z .u (.fn Tryz.call28 Z) (fV b72 st96 _ hx101) (fun _ hs=>(Src.triv _)) Z (TL.run ae [1,2,3,4] Z Z ?_)))))
       obtain rfl:=CP h
       exact TL.nil (X.seq (T.ret (AL [6] Tryz.results41 (Aj Z) (Aj Z) ⟨Z,Z,Z⟩ (by rfl) (.inl Z))))
  | succ m13 =>
   have h:=hl15
   clear hl15
   obtain⟨x14,hxx14⟩: ∃ x,a0.Ce[k8]? = some x:=⟨_,List.getElem?_eq_getElem (by omega)⟩
   rw[bU hxx14,d9] at h
   have hk16lt:(k8:Int)<(a0.Ce.length:Int):=by omega
   refine T.seq (T.region Z (TL.run ae [0] Z Z (TL.nil (X.seq (T.seq (Am Z (CN hk16lt) ?_))))))
   obtain⟨gz17,oz17,rfl,z17cs,z17cl,z17cc,z17nf,z17r⟩:=AK (by decide) hX hxx14
   obtain⟨z17S,z17r,z17rr⟩:=z17r
   obtain⟨A18,c19,rfl,z17s0⟩:=z17r
   have hX20:(RX.of (av 3 bf) [.slice A18 x14.Cn.length c19] x14.Cn).reads w F:=⟨z17S,z17s0,z17rr⟩
   refine T.skip (X.seq (T.seq (T.block (T.seq (T.region Z ?_)))))
   refine TL.q Z .u (Aw (k:=k8) Z Z Z C9 C4 (CU hxx14).1) Z ?_
   refine TL.q Z .u (Bb (us := [jI x14.CC,jI x14.Cv,.bool x14.Cs.null,jS x14.Cs.data,.bool x14.Cg.null,jS x14.Cg.data,.slice A18 x14.Cn.length c19]) 0 Z Dr C4 z17nf z17cc Z Z Z) Z (TL.alloc Z .u Tryz.zeroValue38 Z (fun b21=>(Ay (cs':= #[jI x14.CC,jI x14.Cv,.bool x14.Cs.null,jS x14.Cs.data,.bool x14.Cg.null,jS x14.Cg.data,.slice A18 x14.Cn.length c19]) Z .u Z Z C4 Z Z Z Z (TL.nil (X.seq (T.region Z (TL.q Z .u (Av (us := [jI x14.CC,jI x14.Cv,.bool x14.Cs.null,jS x14.Cs.data,.bool x14.Cg.null,jS x14.Cg.data,.slice A18 x14.Cn.length c19]) 0 Z Dr C4 Z Z Z) Z ?_)))))))
   obtain⟨st22,hx23,h⟩:=CM h
   exact Bd Z .u (.fn Tryz.call96 Z) (me b7 st9 x14 _ _ _ hx23) (fun _ hs=>(Src.old hs hX20)) Z (TL.nil (Az (X.seq (T.region Z (TL.q Z .u (Ex.add Z Z (by omega)) Z (TL.run ae [1] Z Z (TL.nil (X.back (m':=m13) [1,1,1] (by omega) ⟨k8+1,st22,by omega,Z,Z,h⟩ (by rfl) (by rfl)))))))))
 ·refine TL.nil (X.seq (Am Z (aD (CO c6)) (T.seq (T.region Z (TL.run ae [0,1,2] Z Z ?_)))))
  obtain rfl:=CP h
  exact TL.nil (X.seq (T.ret (Al (AL [1] Tryz.results41 (Aj Z) (Aj Z) ⟨Z,Z,Z⟩ (by rfl) (.inl Z)))))
def cD (a0:Pfx):Nat→Int→Nat→List Rec→I→Option (Lp (Bat×Int) (Int×Nat×List Rec×I))
 | 0,_,_,_,_=>none
 | m23+1,y14,k15,y16,st19=>if (k15:Int)<a0.CK then ((pX st19).bind fun (x28,st29)=>if x28=0 then (some (Lp.ret ((⟨0,0,false,false,false,0,0,0,0,0,0,[]⟩:Bat),10))) else ((eT st29).bind fun (x32,st35)=>(iD st35).bind fun (x38,st39)=>if x38=0 then (if (y16.length+1)*88≤140737488355328 then (if -9223372036854775808≤((k15:Int)+1)∧((k15:Int)+1)≤9223372036854775807 then (cD a0 m23 y14 (k15+1) (y16 ++ [x32]) st39) else none) else none) else (some (Lp.ret ((⟨0,0,false,false,false,0,0,0,0,0,0,[]⟩:Bat),x38))))) else (some (Lp.go (y14,k15,y16,st19)))
def fw (a0:Pfx) (a1:List UInt8):Option (Bat×Int):=(sJ a0.CJ).bind fun x3=>if x3=0 then ((vd a0.CJ).bind fun (x7,x8,x9)=>(rf a1).bind fun st11=>(cD a0 ((a0.CK).toNat+1) 0 0 [] st11).bind fun e=>match e with | .ret r=>some r | .go (y53,k54,y55,st58)=>((pX st58).bind fun (x59,st60)=>if x59>0 then (some ((⟨0,0,false,false,false,0,0,0,0,0,0,[]⟩:Bat),10)) else ((cv (⟨a0.Cu,a0.Co,x7,x8,x9,a0.Cr,a0.Cl,a0.Cy,a0.Ci,a0.Cp,a0.Ch,y55⟩:Bat)).bind fun x63=>some ((⟨a0.Cu,a0.Co,x7,x8,x9,a0.Cr,a0.Cl,a0.Cy,a0.Ci,a0.Cp,a0.Ch,y55⟩:Bat),x63)))) else (some ((⟨0,0,false,false,false,0,0,0,0,0,0,[]⟩:Bat),x3))
theorem nn (a0:Pfx) (a1:List UInt8) (r:Bat×Int) (h:fw a0 a1=some r):ay Tryz.prog 110 #[.agg #[jI a0.Cu,jI a0.CF,jI a0.Co,jI a0.CL,jI a0.CJ,jI a0.Cr,jI a0.Cl,jI a0.Cy,jI a0.Ci,jI a0.Cp,jI a0.Ch,jI a0.CK],jS a1] .triv (aB) (fun v A' N=> ∃ (A65:Option Addr) (c66:Nat),v= .tuple #[.agg #[jI r.1.Cu,jI r.1.Co,.bool r.1.Cw,.bool r.1.CE,.bool r.1.Cq,jI r.1.Cr,jI r.1.Cl,jI r.1.Cy,jI r.1.Ci,jI r.1.Cp,jI r.1.Ch,.slice A65 r.1.Ce.length c66],jI r.2]∧A'=aB∧N = [RdR (av 7 aU) [.slice A65 r.1.Ce.length c66] r.1.Ce]):=by
 refine aL Tryz.func110 Z Tryz.ntmps110 Z ?_
 intro F w hX
 unfold fw at h
 refine T.seq (T.region Z (TL.box Z .u Z Z (fun b1=>(TL.alloc Z .u Tryz.zeroValue27 Z (fun b2=>(TL.run ae [2] Z Z (TL.nil (X.seq (T.seq (T.seq (T.region Z (TL.run ae [0] Z Z (TL.q Z .u (Ai 1 Z CV Z Z) Z ?_)))))))))))))
 obtain⟨x3,hx4,h⟩:=CM h
 refine Ax Z .u (.fn Tryz.call143 Z) (AN (fun w=>sK a0.CJ _ hx4 w)) (fun _ _=>RX.reads_triv _ _) Z (TL.run ae [3] Z Z (TL.nil (X.seq (T.seq (T.region Z (TL.run ae [0,1] Z Z ?_))))))
 rcases jF h with⟨c5,h⟩ | ⟨c5,h⟩
 ·refine TL.nil (X.seq (Ap Z (az (CN c5)) (T.skip (X.seq (T.seq (T.region Z (TL.run ae [0] Z Z (TL.q Z .u (Ai 1 Z CV Z Z) Z (TL.run ae [2] Z Z (TL.q Z .u (Ai 1 Z CV Z Z) Z (TL.run ae [4] Z Z ?_)))))))))))
  refine TL.q Z .u (Ai 1 Z CV Z Z) Z (TL.run ae [6] Z Z (TL.q Z .u (Ai 1 Z CV Z Z) Z (TL.run ae [8] Z Z (TL.q Z .u (Ai 1 Z CV Z Z) Z (TL.run ae [10] Z Z (TL.q Z .u (Ai 1 Z CV Z Z) Z (TL.run ae [12] Z Z ?_)))))))
  refine TL.q Z .u (Ai 1 Z CV Z Z) Z (TL.run ae [14] Z Z (TL.q Z .u (Ai 1 Z CV Z Z) Z ?_))
  refine TL.q Z .u (AD (cells:= #[jI a0.Cu,jI a0.Co,.bool false,.bool false,.bool false,jI a0.Cr,jI a0.Cl,jI a0.Cy,jI a0.Ci,jI a0.Cp,jI a0.Ch,.slice none 0 0]) d8 Z (by kernel_rfl)) Z ?_
  refine TL.alloc Z .u Tryz.zeroValue27 Z (fun b6=>(Ay (cs':= #[jI a0.Cu,jI a0.Co,.bool false,.bool false,.bool false,jI a0.Cr,jI a0.Cl,jI a0.Cy,jI a0.Ci,jI a0.Cp,jI a0.Ch,.slice none 0 0]) Z .u Z Z C3 Z Z Z Z (TL.nil (X.seq (T.seq (T.region Z (TL.run ae [0] Z Z (TL.q Z .u (Ai 2 Z CV Z Z) Z ?_))))))))
  obtain⟨⟨x7,x8,x9⟩,hx10,h⟩:=CM h
  try dsimp only at h
  refine Ax Z .u (.fn Tryz.call144 Z) (AN (fun w=>tN a0.CJ _ hx10 w)) (fun _ _=>RX.reads_triv _ _) Z (TL.run ae [3,4,5,6,7] Z Z (Ay (cs':= #[jI a0.Cu,jI a0.Co,.bool x7,.bool false,.bool false,jI a0.Cr,jI a0.Cl,jI a0.Cy,jI a0.Ci,jI a0.Cp,jI a0.Ch,.slice none 0 0]) Z .u Z Z DK Z Z Z Z (TL.run ae [9] Z Z (Ay (cs':= #[jI a0.Cu,jI a0.Co,.bool x7,.bool x8,.bool false,jI a0.Cr,jI a0.Cl,jI a0.Cy,jI a0.Ci,jI a0.Cp,jI a0.Ch,.slice none 0 0]) Z .u Z Z DK Z Z Z Z (TL.run ae [11] Z Z (Ay (cs':= #[jI a0.Cu,jI a0.Co,.bool x7,.bool x8,.bool x9,jI a0.Cr,jI a0.Cl,jI a0.Cy,jI a0.Ci,jI a0.Cp,jI a0.Ch,.slice none 0 0]) Z .u Z Z DK Z Z Z Z (TL.nil (X.seq (T.seq (T.region Z ?_))))))))))
  obtain⟨st11,hx12,h⟩:=CM h
  refine TL.run ae [0] Z Z (AP Z .u (.fn Tryz.call18 Z) (iH a1 _ hx12) (fun _ hs=>(RX.reads_triv _ _)) Z ?_)
  rintro _ _ _ ⟨b13,rfl,rfl,rfl⟩
  refine AC [0,0,0,0,0] Z (TL.run ae [2] Z Z (TL.nil (X.seq (T.seq (T.seq (T.region Z (TL.run ae [0] Z Z (TL.q Z .u (Ai 3 Z CV Z Z) Z (TL.run ae [2] Z Z (TL.nil (X.seq (T.block (Bt 38 7 aU ?_)))))))))))))
  obtain⟨E20,hE21,hO22⟩:=CM h
  refine AV (fun m e Rs=> ∃ (y14:Int) (k15:Nat) (y16:List Rec) (A17:Option Addr) (c18:Nat) (st19:I),e = [(4,jP b2),(5,jI y14),(7,jP b6),(8,jP b13),(48,jI a0.CK),(49,jI (k15:Int))]∧Rs = [aZ 38 7 aU (.slice A17 y16.length c18) y16,InR b13 st19,aC b6 27 #[jI a0.Cu,jI a0.Co,.bool x7,.bool x8,.bool x9,jI a0.Cr,jI a0.Cl,jI a0.Cy,jI a0.Ci,jI a0.Cp,jI a0.Ch,.slice A17 y16.length c18],aC b2 27 #[jI 0,jI 0,.bool false,.bool false,.bool false,jI 0,jI 0,jI 0,jI 0,jI 0,jI 0,.slice none 0 0],aC b1 160 #[jI a0.Cu,jI a0.CF,jI a0.Co,jI a0.CL,jI a0.CJ,jI a0.Cr,jI a0.Cl,jI a0.Cy,jI a0.Ci,jI a0.Cp,jI a0.Ch,jI a0.CK],aB]∧cD a0 m y14 k15 y16 st19=some E20) ((a0.CK).toNat+1) [0,0,0,0,0,0] ⟨0,0,[],none,0,st11,Z,Z,by exact hE21⟩ (by rfl) (by rfl) ?_
  rintro m23 _ _ ⟨y14,k15,y16,A17,c18,st19,rfl,rfl,hl25⟩
  clear hE21 h
  cases m23 with
  | zero =>
   rw[cD] at hl25
   cases hl25
  | succ m23 =>
   have h:=hl25
   clear hl25
   rw[cD] at h
   refine T.seq (T.region Z (TL.run ae [0] Z Z ?_))
   rcases jF h with⟨c27,h⟩ | ⟨c27,h⟩
   ·refine TL.nil (X.seq (T.seq (Am Z (CN c27) (T.skip (X.seq (T.seq (T.block (T.seq (T.seq (T.region Z ?_))))))))))
    obtain⟨⟨x28,st29⟩,hx30,h⟩:=CM h
    try dsimp only at h
    refine TL.run ae [0] Z Z (Bd Z .u (.fn Tryz.call82 Z) (kw b13 st19 _ hx30) (fun _ hs=>(Src.triv _)) Z (TL.run ae [2] Z Z ?_))
    rcases jF h with⟨c31,h⟩ | ⟨c31,h⟩
    ·refine TL.nil (X.seq (Am Z (CN c31) (T.seq (T.region Z ?_))))
     refine TL.q Z .u (AD (cells:= #[jI 0,jI 0,.bool false,.bool false,.bool false,jI 0,jI 0,jI 0,jI 0,jI 0,jI 0,.slice none 0 0]) d8 Z (by kernel_rfl)) Z ?_
     refine A5 (cs':= #[jI 0,jI 0,.bool false,.bool false,.bool false,jI 0,jI 0,jI 0,jI 0,jI 0,jI 0,.slice none 0 0]) Z .u Z Z C3 Z Z Z Z (TL.run ae [2] Z Z ?_)
     obtain rfl:=CP h
     replace h:=hO22
     clear hO22
     try dsimp only at h
     obtain rfl:=CP h
     exact TL.nil (X.seq (T.ret (Al (At (Al (Al (At (Al (AO 7 aU (AL [6,0] ES (AF (us:= #[jI 0,jI 0,.bool false,.bool false,.bool false,jI 0,jI 0,jI 0,jI 0,jI 0,jI 0,.slice none 0 0]) 4 Z Df C3 Z Z) (Aj Z) ⟨_,_,Z,Z,Z⟩ (by rfl) (.inl Z)))))))))))
    ·refine TL.nil (X.seq (Ap Z (CO c31) (T.skip (X.seq (T.seq (T.region Z ?_))))))
     obtain⟨⟨x32,st35⟩,hx36,h⟩:=CM h
     try dsimp only at h
     refine TL.run ae [0] Z Z (TL.cg1 Z .u (.fn Tryz.call145 Z) (mN b13 st29 _ hx36) (fun _ hs=>(Src.triv _)) Z ?_)
     rintro _ _ _ ⟨A33,c34,rfl,rfl,rfl⟩
     refine AC [0,0,0,0,0,0,0] Z (TL.alloc Z .u Tryz.zeroValue38 Z (fun b37=>(Ay (cs':= #[jI x32.CC,jI x32.Cv,.bool x32.Cs.null,jS x32.Cs.data,.bool x32.Cg.null,jS x32.Cg.data,.slice A33 x32.Cn.length c34]) Z .u Z Z C4 Z Z Z Z (TL.nil (X.seq (T.seq (T.seq (T.region Z ?_))))))))
     obtain⟨⟨x38,st39⟩,hx40,h⟩:=CM h
     try dsimp only at h
     refine TL.run ae [0] Z Z (BT Z .u (.fn Tryz.call21 Z) (dr b13 st35 _ hx40) (fun _ hs=>(Src.triv _)) Z (TL.run ae [2] Z Z (TL.nil (X.seq (T.seq (T.region Z (TL.run ae [0,1] Z Z ?_)))))))
     rcases jF h with⟨c41,h⟩ | ⟨c41,h⟩
     ·refine TL.nil (X.seq (Ap Z (az (CN c41)) (T.skip (X.seq (T.region Z (TL.run ae [0] Z Z (TL.q Z .u (Ai 4 Z Ds Z Z) Z (TL.q Z .u (Av (us := [jI x32.CC,jI x32.Cv,.bool x32.Cs.null,jS x32.Cs.data,.bool x32.Cg.null,jS x32.Cg.data,.slice A33 x32.Cn.length c34]) 0 Z Dr C4 Z Z Z) Z ?_))))))))
      refine Bk (cells:= #[jI x32.CC,jI x32.Cv,.bool x32.Cs.null,jS x32.Cs.data,.bool x32.Cg.null,jS x32.Cg.data,.slice A33 x32.Cn.length c34]) Z .u qk Z (by kernel_rfl) Z (fun b42=> ?_)
      replace h:=ak h
      obtain⟨c43,h⟩:=h
      refine BP 2 1 Z .u (us := [jI x32.CC,jI x32.Cv,.bool x32.Cs.null,jS x32.Cs.data,.bool x32.Cg.null,jS x32.Cg.data,.slice A33 x32.Cn.length c34]) (u:=x32) (l:=y16) (E:=aU) Tryz.underlying25 sM Z (by decide) Z Z Z Z Z Z Z (fun w G hG=>⟨_,_,Z,hG.1⟩) (by have hq:=c43; omega) (by have hq:=c43; omega) Z (fun A44 c45=> ?_)
      refine AC [0,0,0,0,0,0,0] Z (TL.run ae [5] Z Z (A5 (cs':= #[jI a0.Cu,jI a0.Co,.bool x7,.bool x8,.bool x9,jI a0.Cr,jI a0.Cl,jI a0.Cy,jI a0.Ci,jI a0.Cp,jI a0.Ch,.slice A44 (y16 ++ [x32]).length c45]) Z .u Z Z Tryz.sizeOf25 Z Z Z Z ?_))
      replace h:=ak h
      obtain⟨c46,h⟩:=h
      exact TL.nil (Az (X.seq (T.region Z (TL.q Z .u (Ex.add Z Z c46) Z (TL.run ae [1] Z Z (TL.nil (X.back (m':=m23) [0,1,1,1,1,1] (by omega) ⟨y14,k15+1,(y16 ++ [x32]),A44,c45,st39,Z,Z,h⟩ (by rfl) (by rfl))))))))
     ·refine TL.nil (X.seq (Am Z (aD (CO c41)) (T.seq (T.region Z ?_))))
      refine TL.q Z .u (AD (cells:= #[jI 0,jI 0,.bool false,.bool false,.bool false,jI 0,jI 0,jI 0,jI 0,jI 0,jI 0,.slice none 0 0]) d8 Z (by kernel_rfl)) Z ?_
      refine TL.run ae [1] Z Z (TL.st5 (cs':= #[jI 0,jI 0,.bool false,.bool false,.bool false,jI 0,jI 0,jI 0,jI 0,jI 0,jI 0,.slice none 0 0]) Z .u Z Z C3 Z Z Z Z (TL.run ae [3] Z Z ?_))
      obtain rfl:=CP h
      replace h:=hO22
      clear hO22
      try dsimp only at h
      obtain rfl:=CP h
      exact TL.nil (X.seq (T.ret (Al (At (Al (Al (At (Al (AO 7 aU (AL [8,0] ES (AF (us:= #[jI 0,jI 0,.bool false,.bool false,.bool false,jI 0,jI 0,jI 0,jI 0,jI 0,jI 0,.slice none 0 0]) 6 Z Df C3 Z Z) (Aj Z) ⟨_,_,Z,Z,Z⟩ (by rfl) (.inl Z)))))))))))
   ·refine TL.nil (X.seq (T.seq (Ap Z (CO c27) ?_)))
    obtain rfl:=CP h
    replace h:=hO22
    clear hO22
    try dsimp only at h
    refine T.exit (Au (Au (AS (X.seq (T.seq (T.seq (T.region Z ?_)))))))
    obtain⟨⟨x47,st48⟩,hx49,h⟩:=CM h
    try dsimp only at h
    refine TL.run ae [0] Z Z (Bd Z .u (.fn Tryz.call82 Z) (kw b13 st19 _ hx49) (fun _ hs=>(Src.triv _)) Z (TL.run ae [2] Z Z ?_))
    rcases jF h with⟨c50,h⟩ | ⟨c50,h⟩
    ·refine TL.nil (X.seq (Am Z (CN c50) (T.seq (T.region Z ?_))))
     refine TL.q Z .u (AD (cells:= #[jI 0,jI 0,.bool false,.bool false,.bool false,jI 0,jI 0,jI 0,jI 0,jI 0,jI 0,.slice none 0 0]) d8 Z (by kernel_rfl)) Z ?_
     refine A5 (cs':= #[jI 0,jI 0,.bool false,.bool false,.bool false,jI 0,jI 0,jI 0,jI 0,jI 0,jI 0,.slice none 0 0]) Z .u Z Z C3 Z Z Z Z (TL.run ae [2] Z Z ?_)
     obtain rfl:=CP h
     exact TL.nil (X.seq (T.ret (Al (AO 7 aU (AL [6,0] ES (AF (us:= #[jI 0,jI 0,.bool false,.bool false,.bool false,jI 0,jI 0,jI 0,jI 0,jI 0,jI 0,.slice none 0 0]) 4 Z Df C3 Z Z) (Aj Z) ⟨_,_,Z,Z,Z⟩ (by rfl) (.inl Z))))))
    ·refine TL.nil (X.seq (Ap Z (CO c50) ?_))
     refine T.skip (X.seq (T.seq (AH (.q 0 (.q 1 (.e 2 (.e 3 (.q 4 .nil))))) [0,0,0,1,1] Z j5 (NoP.seq aM) (by kernel_rfl) ?_)))
     iterate 2 refine TD.q Z .u (Av (us := [jI a0.Cu,jI a0.Co,.bool x7,.bool x8,.bool x9,jI a0.Cr,jI a0.Cl,jI a0.Cy,jI a0.Ci,jI a0.Cp,jI a0.Ch,.slice A17 y16.length c18]) 2 Z Df C3 Z Z Z) Z ?_
     obtain⟨x51,hx52,h⟩:=CM h
     refine AR Z .u (.fn Tryz.call40 Z) (fS (⟨a0.Cu,a0.Co,x7,x8,x9,a0.Cr,a0.Cl,a0.Cy,a0.Ci,a0.Cp,a0.Ch,y16⟩:Bat) _ _ _ hx52) (fun _ hs=>(SrcE.res 0 hs Z (fun w G h=>aP (by decide) w G h))) Z [0,0,0,1,1] (Z) (BS (cs':= #[jI a0.Cu,jI a0.Co,.bool x7,.bool x8,.bool x9,jI a0.Cr,jI a0.Cl,jI a0.Cy,jI a0.Ci,jI a0.Cp,jI a0.Ch,.slice A17 y16.length c18]) Z .u Z Z C3 Z Z Z Z [0,0,0,1,1] (Z) (TD.run ae [4] Z Z ?_))
     obtain rfl:=CP h
     exact TD.nil (X.seq (T.ret (Bu (by decide) 0 Z (AQ [0,0,0,0,0,0] Z (AL [5,0] ES (AF (us:= #[jI a0.Cu,jI a0.Co,.bool x7,.bool x8,.bool x9,jI a0.Cr,jI a0.Cl,jI a0.Cy,jI a0.Ci,jI a0.Cp,jI a0.Ch,.slice A17 y16.length c18]) 3 Z Df C3 Z Z) (Aj Z) ⟨_,_,Z,Z,Z⟩ (by rfl) (.inl Z))))))
 ·refine TL.nil (X.seq (Am Z (aD (CO c5)) (T.seq (T.region Z ?_))))
  refine TL.q Z .u (AD (cells:= #[jI 0,jI 0,.bool false,.bool false,.bool false,jI 0,jI 0,jI 0,jI 0,jI 0,jI 0,.slice none 0 0]) d8 Z (by kernel_rfl)) Z ?_
  refine TL.run ae [1] Z Z (Ay (cs':= #[jI 0,jI 0,.bool false,.bool false,.bool false,jI 0,jI 0,jI 0,jI 0,jI 0,jI 0,.slice none 0 0]) Z .u Z Z C3 Z Z Z Z (TL.run ae [3] Z Z ?_))
  obtain rfl:=CP h
  exact TL.nil (X.seq (T.ret (Al (AO 7 aU (AL [3,0] ES (AF (us:= #[jI 0,jI 0,.bool false,.bool false,.bool false,jI 0,jI 0,jI 0,jI 0,jI 0,jI 0,.slice none 0 0]) 1 Z Df C3 Z Z) (Aj Z) ⟨_,_,Z,Z,Z⟩ (by rfl) (.inl Z))))))
def fx (st:I)  : Option (Bat×I):=(gV st).bind fun (x3,st4)=>if -9223372036854775808≤(x3.CF - 49)∧(x3.CF - 49)≤9223372036854775807 then ((vT st4 (x3.CF - 49)).bind fun (x8,st9)=>(iD st9).bind fun (x11,st12)=>if x11=0 then ((dk ([],0) x3).bind fun st15=>(kv st15).bind fun (x17,x18,st19)=>(iJ).bind fun st21=>if 21≤x17.length then ((es st21 [(x17.drop 21),x8]).bind fun (x26,st27)=>if -9223372036854775808≤x26∧x26≤9223372036854775807 then (if x26=x3.CL then ((fw x3 x8).bind fun (x31,x34)=>if x34=0 then some (x31,st12) else ((bE st12 x34).bind fun st38=>some ((⟨0,0,false,false,false,0,0,0,0,0,0,[]⟩:Bat),st38))) else ((bE st12 5).bind fun st40=>some ((⟨0,0,false,false,false,0,0,0,0,0,0,[]⟩:Bat),st40))) else none) else none) else (some ((⟨0,0,false,false,false,0,0,0,0,0,0,[]⟩:Bat),st12))) else none
theorem jr (g:Nat) (st:I)  (r:Bat×I) (h:fx st  = some r):ay Tryz.prog 49 #[jP g] .triv (InR g st) (fun v A' N=> ∃ (A42:Option Addr) (c43:Nat),v= .agg #[jI r.1.Cu,jI r.1.Co,.bool r.1.Cw,.bool r.1.CE,.bool r.1.Cq,jI r.1.Cr,jI r.1.Cl,jI r.1.Cy,jI r.1.Ci,jI r.1.Cp,jI r.1.Ch,.slice A42 r.1.Ce.length c43]∧A'=InR g r.2∧N = [RdR (av 7 aU) [.slice A42 r.1.Ce.length c43] r.1.Ce]):=by
 refine aL Tryz.func49 Z Tryz.ntmps49 Z ?_
 intro F w hX
 unfold fx at h
 refine T.seq (T.region Z (TL.alloc Z .u Tryz.zeroValue27 Z (fun b1=>(TL.nil (X.seq (T.seq (T.region Z (B7 Z .u Tryz.zeroValue66 Z (fun b2=>(TL.nil (X.seq (T.seq (T.region Z ?_)))))))))))))
 obtain⟨⟨x3,st4⟩,hx5,h⟩:=CM h
 try dsimp only at h
 refine TL.run ae [0] Z Z (BA Z .u (.fn Tryz.call108 Z) (mO g st _ hx5) (fun _ hs=>(Src.triv _)) Z (TL.alloc Z .u Tryz.zeroValue160 Z (fun b6=>(Ay (cs':= #[jI x3.Cu,jI x3.CF,jI x3.Co,jI x3.CL,jI x3.CJ,jI x3.Cr,jI x3.Cl,jI x3.Cy,jI x3.Ci,jI x3.Cp,jI x3.Ch,jI x3.CK]) Z .u Z Z D1 Z Z Z Z (TL.nil (X.seq (T.seq (T.region Z (TL.run ae [0,1] Z Z (TL.q Z .u (Ai 0 Z CV Z Z) Z ?_))))))))))
 replace h:=ak h
 obtain⟨c7,h⟩:=h
 refine TL.q Z .u (Ex.sub Z Z c7) Z ?_
 obtain⟨⟨x8,st9⟩,hx10,h⟩:=CM h
 try dsimp only at h
 refine BT Z .u (.fn Tryz.call109 Z) (uU g st4 (x3.CF - 49) _ hx10) (fun _ hs=>(Src.triv _)) Z (TL.run ae [5] Z Z (TL.nil (X.seq (T.seq (T.seq (T.region Z ?_))))))
 obtain⟨⟨x11,st12⟩,hx13,h⟩:=CM h
 try dsimp only at h
 refine TL.run ae [0] Z Z (BT Z .u (.fn Tryz.call21 Z) (dr g st9 _ hx13) (fun _ hs=>(Src.triv _)) Z (TL.run ae [2] Z Z ?_))
 rcases jF h with⟨c14,h⟩ | ⟨c14,h⟩
 ·refine TL.nil (X.seq (Ap Z (az (CN c14)) (T.skip (X.seq (T.seq (T.region Z (TL.q Z .u (Av (us := [jI x3.Cu,jI x3.CF,jI x3.Co,jI x3.CL,jI x3.CJ,jI x3.Cr,jI x3.Cl,jI x3.Cy,jI x3.Ci,jI x3.Cp,jI x3.Ch,jI x3.CK]) 0 Z ED D1 Z Z Z) Z ?_)))))))
  obtain⟨st15,hx16,h⟩:=CM h
  refine Bd Z .u (.fn Tryz.call98 Z) (fC b2 ([],0) x3 _ hx16) (fun _ hs=>(Src.triv _)) Z ?_
  obtain⟨⟨x17,x18,st19⟩,hx20,h⟩:=CM h
  try dsimp only at h
  refine TL.nil (X.seq (T.seq (T.region Z (Bd Z .u (.fn Tryz.call28 Z) (fV b2 st15 _ hx20) (fun _ hs=>(Src.triv _)) Z (TL.run ae [1,2,3,4,5] Z Z ?_)))))
  obtain⟨st21,hx22,h⟩:=CM h
  replace h:=ak h
  obtain⟨c24,h⟩:=h
  obtain⟨⟨x26,st27⟩,hx28,h⟩:=CM h
  try dsimp only at h
  replace h:=ak h
  obtain⟨c29,h⟩:=h
  refine TL.nil (X.seq (T.seq (T.seq ?_)))
  refine BR (fun e Rs=> ∃ (b23:Nat) (b25:Nat),e = [(0,jP g),(2,jP b1),(3,jP b2),(4,jP b6),(5,jS x8),(10,jP g),(11,.agg #[jI x3.Cu,jI x3.CF,jI x3.Co,jI x3.CL,jI x3.CJ,jI x3.Cr,jI x3.Cl,jI x3.Cy,jI x3.Ci,jI x3.Cp,jI x3.Ch,jI x3.CK]),(12,jP g),(13,.pointer (some ⟨b6,1,none⟩)),(14,jI x3.CF),(15,jI (x3.CF - 49)),(16,jS x8),(17,jP g),(18,jI x11),(19,.bool (!(decide (x11=0)))),(21,.agg #[jI x3.Cu,jI x3.CF,jI x3.Co,jI x3.CL,jI x3.CJ,jI x3.Cr,jI x3.Cl,jI x3.Cy,jI x3.Ci,jI x3.Cp,jI x3.Ch,jI x3.CK]),(23,.tuple #[jS x17,jI x18]),(24,.tuple #[jS x17,jI x18]),(25,jS x17),(26,jI x18),(36,.bool (!(decide (x26=x3.CL))))]∧Rs = [aZ 9 1 uI (.slice (some ⟨b25,0,none⟩) 2 2) [(x17.drop 21),x8],jk 205 b23 st27,aC b6 160 #[jI x3.Cu,jI x3.CF,jI x3.Co,jI x3.CL,jI x3.CJ,jI x3.Cr,jI x3.Cl,jI x3.Cy,jI x3.Ci,jI x3.Cp,jI x3.Ch,jI x3.CK],aW b2 st19,aC b1 27 #[jI 0,jI 0,.bool false,.bool false,.bool false,jI 0,jI 0,jI 0,jI 0,jI 0,jI 0,.slice none 0 0],InR g st12]) ?_ ?_
  ·refine AH (.q 1 (.q 2 (.q 3 (.q 7 (.q 8 (.br 0 (.e 4 (.e 5 (.q 6 (.q 9 .nil)))) (.e 4 (.e 0 (.e 5 (.q 6 (.q 9 .nil))))))))))) [0,0,0,0] Z j5 nd (by kernel_rfl) ?_
   refine TD.run ae [1] Z Z ?_
   refine TD.q Z .u (Ba (p:=21) (q:=x17.length) (m:=(x17.drop 21)) Z CZ (.some Z Z) .none (by first | omega | (dsimp only; omega)) (dY _ _)) Z ?_
   refine TD.run ae [3,7] Z Z (TD.q Z .u (Ai 0 Z CV Z Z) Z ?_)
   refine TD.br ?_ ?_
   ·refine TD.cge Z .u (.fn Tryz.call99 Z) (gl _ hx22) (fun _ hs=>(RX.reads_triv _ _)) Z [1,1,1,1] ?_ ?_
    ·rintro _ _ _ ⟨b23,rfl,rfl,rfl⟩
     rfl
    rintro _ _ _ ⟨b23,rfl,rfl,rfl⟩
    exact Bi [0,0,0,0,0] Z (Bx (cells:= #[.string (aF (x17.drop 21)),jS x8]) Z .u fN Z (by rfl) Z [2,2,2,2] (fun _=>Z) (fun b25=>(BW (us := [.string (aF (x17.drop 21)),jS x8]) (xs := [(x17.drop 21),x8]) (E:=uI) (z:=1) Z (Nat.le_of_ble_eq_true Z) (fun _=>⟨Z,Z,⟨Z,Z,Z⟩⟩) (TD.c1 Z .u (.fn Tryz.call100 Z) (ej b23 st21 [(x17.drop 21),x8] _ _ _ hx28) (fun _ hs=>(Src.res 0 Z (fun w G h=>aP (by decide) w G h))) Z [2,2,2,2] (Z) (TD.q Z .u (Bz Z DS DU c29) Z (TD.run ae [9] Z Z (TD.nil (Bw [0,0,0,0,0,0] ⟨b23,b25,Z,Z⟩ (by rfl) (by rfl)))))))))
   ·refine Bx (cells:= #[.string (aF (x17.drop 21)),jS x8]) Z .u fN Z (by rfl) Z [1,1,1,1] (fun _=>Z) (fun b25=>(BW (us := [.string (aF (x17.drop 21)),jS x8]) (xs := [(x17.drop 21),x8]) (E:=uI) (z:=1) Z (Nat.le_of_ble_eq_true Z) (fun _=>⟨Z,Z,⟨Z,Z,Z⟩⟩) ?_))
    refine TD.cge Z .u (.fn Tryz.call99 Z) (gl _ hx22) (fun _ hs=>(RX.reads_triv _ _)) Z [2,2,2,2] ?_ ?_
    ·rintro _ _ _ ⟨b23,rfl,rfl,rfl⟩
     rfl
    rintro _ _ _ ⟨b23,rfl,rfl,rfl⟩
    exact Bi [0,0,0,0,0,0] Z (TD.c0 Z .u (.fn Tryz.call100 Z) (ej b23 st21 [(x17.drop 21),x8] _ _ _ hx28) (fun _ hs=>(Src.res 0 Z (fun w G h=>aP (by decide) w G h))) Z [2,2,2,2] (Z) (TD.q Z .u (Bz Z DS DU c29) Z (TD.run ae [9] Z Z (TD.nil (Bw [1,0,0,0,0,0] ⟨b23,b25,Z,Z⟩ (by rfl) (by rfl))))))
  ·rintro _ _ ⟨b23,b25,rfl,rfl⟩
   rcases jF h with⟨c30,h⟩ | ⟨c30,h⟩
   ·refine X.seq (Ap Z (az (CN c30)) (T.skip (X.seq (T.seq (T.region Z (TL.q Z .u (Av (us := [jI x3.Cu,jI x3.CF,jI x3.Co,jI x3.CL,jI x3.CJ,jI x3.Cr,jI x3.Cl,jI x3.Cy,jI x3.Ci,jI x3.Cp,jI x3.Ch,jI x3.CK]) 2 Z ED D1 Z Z Z) Z ?_))))))
    obtain⟨⟨x31,x34⟩,hx35,h⟩:=CM h
    try dsimp only at h
    refine TL.run ae [1] Z Z (AP Z .u (.fn Tryz.call110 Z) (nn x3 x8 _ hx35) (fun _ hs=>(RX.reads_triv _ _)) Z ?_)
    rintro _ _ _ ⟨A32,c33,rfl,rfl,rfl⟩
    refine AC [0,0,0,0,0,0,0] Z (TL.run ae [3,4,5] Z Z (TL.alloc Z .u Tryz.zeroValue27 Z (fun b36=>(Ay (cs':= #[jI x31.Cu,jI x31.Co,.bool x31.Cw,.bool x31.CE,.bool x31.Cq,jI x31.Cr,jI x31.Cl,jI x31.Cy,jI x31.Ci,jI x31.Cp,jI x31.Ch,.slice A32 x31.Ce.length c33]) Z .u Z Z C3 Z Z Z Z (TL.run ae [8] Z Z (TL.nil (X.seq (T.seq (T.seq (T.region Z (TL.run ae [0,1] Z Z ?_)))))))))))
    rcases jF h with⟨c37,h⟩ | ⟨c37,h⟩
    ·refine TL.nil (X.seq (Ap Z (az (CN c37)) (T.skip (X.seq (T.seq (T.region Z (TL.q Z .u (Av (us := [jI x31.Cu,jI x31.Co,.bool x31.Cw,.bool x31.CE,.bool x31.Cq,jI x31.Cr,jI x31.Cl,jI x31.Cy,jI x31.Ci,jI x31.Cp,jI x31.Ch,.slice A32 x31.Ce.length c33]) 0 Z Df C3 Z Z Z) Z (TL.st6 (cs':= #[jI x31.Cu,jI x31.Co,.bool x31.Cw,.bool x31.CE,.bool x31.Cq,jI x31.Cr,jI x31.Cl,jI x31.Cy,jI x31.Ci,jI x31.Cp,jI x31.Ch,.slice A32 x31.Ce.length c33]) Z .u Z Z C3 Z Z Z Z ?_))))))))
     obtain rfl:=CP h
     exact TL.nil (X.seq (T.ret (Ak [7,1] Fl (AF (us:= #[jI x31.Cu,jI x31.Co,.bool x31.Cw,.bool x31.CE,.bool x31.Cq,jI x31.Cr,jI x31.Cl,jI x31.Cy,jI x31.Ci,jI x31.Cp,jI x31.Ch,.slice A32 x31.Ce.length c33]) 6 Z Df C3 Z Z) ⟨_,_,Z,Z,Z⟩ (by rfl) (.inl Z))))
    ·refine TL.nil (X.seq (Am Z (aD (CO c37)) (T.seq (T.region Z ?_))))
     obtain⟨st38,hx39,h⟩:=CM h
     refine TL.run ae [0,1] Z Z (TL.c7 Z .u (.fn Tryz.call61 Z) (bg g st12 x34 _ hx39) (fun _ hs=>(Src.triv _)) Z (TL.nil (X.seq (T.seq (T.region Z ?_)))))
     refine TL.q Z .u (AD (cells:= #[jI 0,jI 0,.bool false,.bool false,.bool false,jI 0,jI 0,jI 0,jI 0,jI 0,jI 0,.slice none 0 0]) d8 Z (by kernel_rfl)) Z ?_
     refine TL.st6 (cs':= #[jI 0,jI 0,.bool false,.bool false,.bool false,jI 0,jI 0,jI 0,jI 0,jI 0,jI 0,.slice none 0 0]) Z .u Z Z C3 Z Z Z Z ?_
     obtain rfl:=CP h
     exact TL.nil (X.seq (T.ret (Al (AO 7 aU (Ak [8,0] Fl (AF (us:= #[jI 0,jI 0,.bool false,.bool false,.bool false,jI 0,jI 0,jI 0,jI 0,jI 0,jI 0,.slice none 0 0]) 7 Z Df C3 Z Z) ⟨_,_,Z,Z,Z⟩ (by rfl) (.inl Z))))))
   ·refine X.seq (Am Z (aD (CO c30)) (T.seq (T.region Z ?_)))
    obtain⟨st40,hx41,h⟩:=CM h
    refine TL.run ae [0] Z Z (BZ Z .u (.fn Tryz.call61 Z) (bg g st12 5 _ hx41) (fun _ hs=>(Src.triv _)) Z (TL.nil (X.seq (T.seq (T.region Z ?_)))))
    refine TL.q Z .u (AD (cells:= #[jI 0,jI 0,.bool false,.bool false,.bool false,jI 0,jI 0,jI 0,jI 0,jI 0,jI 0,.slice none 0 0]) d8 Z (by kernel_rfl)) Z ?_
    refine Bn (cs':= #[jI 0,jI 0,.bool false,.bool false,.bool false,jI 0,jI 0,jI 0,jI 0,jI 0,jI 0,.slice none 0 0]) Z .u Z Z C3 Z Z Z Z ?_
    obtain rfl:=CP h
    exact TL.nil (X.seq (T.ret (Al (AO 7 aU (Ak [6,0] Fl (AF (us:= #[jI 0,jI 0,.bool false,.bool false,.bool false,jI 0,jI 0,jI 0,jI 0,jI 0,jI 0,.slice none 0 0]) 5 Z Df C3 Z Z) ⟨_,_,Z,Z,Z⟩ (by rfl) (.inl Z))))))
 ·refine TL.nil (X.seq (Am Z (aD (CO c14)) (T.seq (T.region Z ?_))))
  refine TL.q Z .u (AD (cells:= #[jI 0,jI 0,.bool false,.bool false,.bool false,jI 0,jI 0,jI 0,jI 0,jI 0,jI 0,.slice none 0 0]) d8 Z (by kernel_rfl)) Z ?_
  refine Bq (cs':= #[jI 0,jI 0,.bool false,.bool false,.bool false,jI 0,jI 0,jI 0,jI 0,jI 0,jI 0,.slice none 0 0]) Z .u Z Z C3 Z Z Z Z ?_
  obtain rfl:=CP h
  exact TL.nil (X.seq (T.ret (Al (AO 7 aU (Ak [4,0] Fl (AF (us:= #[jI 0,jI 0,.bool false,.bool false,.bool false,jI 0,jI 0,jI 0,jI 0,jI 0,jI 0,.slice none 0 0]) 3 Z Df C3 Z Z) ⟨_,_,Z,Z,Z⟩ (by rfl) (.inl Z))))))
def fd:List Bat→List UInt8→Int→List UInt8→Option (Lp (List UInt8×Int) (List UInt8×Int×List UInt8))
 | [],y4,y5,st7=>some (Lp.go (y4,y5,st7))
 | x12::xs,y4,y5,st7=>(jb x12).bind fun (x20,x21)=>if x21=0 then ((sF st7 x20).bind fun st24=>fd xs y4 y5 st24) else (some (Lp.ret ([],x21)))
def lF (a0:List Bat):Option (List UInt8×Int):=(fd a0 [] 0 []).bind fun e=>match e with | .ret r=>some r | .go (y26,y27,st29)=>((yi st29).bind fun x30=>some (x30,0))
theorem nX (a0:List Bat) (A1:Option Addr) (c2:Nat) (r:List UInt8×Int) (h:lF a0=some r):ay Tryz.prog 36 #[.slice A1 a0.length c2] (RX.of (av 12 bD) [.slice A1 a0.length c2] a0) (aB) (fun v A' N=>v= .tuple #[jS r.1,jI r.2]∧A'=aB∧N = []):=by
 refine aL Tryz.func36 Z Tryz.ntmps36 Z ?_
 intro F w hX
 unfold lF at h
 refine T.seq (T.region Z (TL.run ae [0,1] Z Z (TL.nil (X.seq (T.seq (T.region Z (TL.newbld Z .u Tryz.zeroValue148 Z (fun b3=>(TL.nil (X.seq (T.seq (T.seq (T.region Z (TL.run ae [0] Z Z (TL.q Z .u (AA Z Dk) Z (TL.run ae [2] Z Z ?_))))))))))))))))
 refine TL.nil (X.seq (T.block ?_))
 obtain⟨E8,hE9,hO10⟩:=CM h
 have hk14len:=Bf hX
 refine AV (fun m e Rs=> ∃ (y4:List UInt8) (y5:Int) (k6:Nat) (st7:List UInt8),k6+m=a0.length∧e = [(2,jS y4),(3,jI y5),(4,jP b3),(9,.slice A1 a0.length c2),(10,jI (a0.length:Int)),(11,jI (k6:Int))]∧Rs = [ni b3 st7,aB]∧fd (a0.drop k6) y4 y5 st7=some E8) (a0.length) [0,0] ⟨[],0,0,[],by simp,Z,Z,by rw[List.drop_zero]; exact hE9⟩ (by rfl) (by rfl) ?_
 rintro m11 _ _ ⟨y4,y5,k6,st7,hk14,rfl,rfl,hl13⟩
 clear hE9 h
 cases m11 with
 | zero =>
  have h:=hl13
  clear hl13
  rw[List.drop_of_length_le (by omega),fd] at h
  have hk14ge: ¬ ((k6:Int)<(a0.length:Int)):=by omega
  refine T.seq (T.region Z (TL.run ae [0] Z Z (TL.nil (X.seq (T.seq (Ap Z (CO hk14ge) ?_))))))
  obtain rfl:=CP h
  replace h:=hO10
  clear hO10
  try dsimp only at h
  obtain⟨x32,hx33,h⟩:=CM h
  refine T.exit (Au (Au (AS (X.seq (T.seq (T.region Z (AZ Z .u (.fn Tryz.call86 Z) (vb b3 st7 _ hx33) (fun _ hs=>(Src.triv _)) Z (AC [1] Z (TL.run ae [1,2] Z Z ?_)))))))))
  obtain rfl:=CP h
  exact TL.nil (X.seq (T.ret (AL [0] Tryz.results36 (Aj Z) (Aj Z) ⟨Z,Z,Z⟩ (by rfl) (.inl Z))))
 | succ m11 =>
  have h:=hl13
  clear hl13
  obtain⟨x12,hxx12⟩: ∃ x,a0[k6]? = some x:=⟨_,List.getElem?_eq_getElem (by omega)⟩
  rw[bU hxx12,fd] at h
  have hk14lt:(k6:Int)<(a0.length:Int):=by omega
  refine T.seq (T.region Z (TL.run ae [0] Z Z (TL.nil (X.seq (T.seq (Am Z (CN hk14lt) ?_))))))
  obtain⟨gz15,oz15,rfl,z15cs,z15cl,z15cc,z15nf,z15r⟩:=AK (by decide) hX hxx12
  obtain⟨z15S,z15r,z15rr⟩:=z15r
  obtain⟨A16,c17,rfl,z15s0⟩:=z15r
  have hX18:(RX.of (av 7 aU) [.slice A16 x12.Ce.length c17] x12.Ce).reads w F:=⟨z15S,z15s0,z15rr⟩
  refine T.skip (X.seq (T.seq (T.block (T.seq (T.region Z ?_)))))
  refine TL.q Z .u (Aw (k:=k6) Z Z Z Dk C3 (CU hxx12).1) Z ?_
  refine TL.q Z .u (Bb (us := [jI x12.Cu,jI x12.Co,.bool x12.Cw,.bool x12.CE,.bool x12.Cq,jI x12.Cr,jI x12.Cl,jI x12.Cy,jI x12.Ci,jI x12.Cp,jI x12.Ch,.slice A16 x12.Ce.length c17]) 0 Z Df C3 z15nf z15cc Z Z Z) Z (TL.alloc Z .u Tryz.zeroValue27 Z (fun b19=>(Ay (cs':= #[jI x12.Cu,jI x12.Co,.bool x12.Cw,.bool x12.CE,.bool x12.Cq,jI x12.Cr,jI x12.Cl,jI x12.Cy,jI x12.Ci,jI x12.Cp,jI x12.Ch,.slice A16 x12.Ce.length c17]) Z .u Z Z C3 Z Z Z Z (TL.nil (X.seq (T.seq (T.region Z (TL.q Z .u (Av (us := [jI x12.Cu,jI x12.Co,.bool x12.Cw,.bool x12.CE,.bool x12.Cq,jI x12.Cr,jI x12.Cl,jI x12.Cy,jI x12.Ci,jI x12.Cp,jI x12.Ch,.slice A16 x12.Ce.length c17]) 0 Z Df C3 Z Z Z) Z ?_))))))))
  obtain⟨⟨x20,x21⟩,hx22,h⟩:=CM h
  try dsimp only at h
  refine Ax Z .u (.fn Tryz.call41 Z) (mh x12 _ _ _ hx22) (fun _ hs=>(AE hs hX18)) Z (TL.run ae [2,3,4,5,6] Z Z (TL.nil (X.seq (T.seq (T.seq (T.region Z (TL.run ae [0,1] Z Z ?_)))))))
  rcases jF h with⟨c23,h⟩ | ⟨c23,h⟩
  ·refine TL.nil (X.seq (Ap Z (az (CN c23)) (T.skip (X.seq (T.region Z ?_)))))
   obtain⟨st24,hx25,h⟩:=CM h
   exact TL.run ae [0] Z Z (Bd Z .u (.fn Tryz.call85 Z) (sG b3 st7 x20 _ hx25) (fun _ hs=>(Src.triv _)) Z (TL.nil (Az (X.seq (T.region Z (TL.q Z .u (Ex.add Z Z (by omega)) Z (TL.run ae [1] Z Z (TL.nil (X.back (m':=m11) [1,1] (by omega) ⟨y4,y5,k6+1,st24,by omega,Z,Z,h⟩ (by rfl) (by rfl))))))))))
  ·refine TL.nil (X.seq (Am Z (aD (CO c23)) (T.seq (T.region Z (TL.run ae [0,1,2] Z Z ?_)))))
   obtain rfl:=CP h
   replace h:=hO10
   clear hO10
   try dsimp only at h
   obtain rfl:=CP h
   exact TL.nil (X.seq (T.ret (Al (At (Al (Al (At (Al (AL [2] Tryz.results36 (Aj Z) (Aj Z) ⟨Z,Z,Z⟩ (by rfl) (.inl Z))))))))))
def v5:List Res→World→(Nat→Prop)→Prop
 | [],_,_=>True
 | R::Rs,w,G=>(∃ H,R.P w H∧ ∀ k,H k→G k)∧v5 Rs w G
theorem Sep.allIn: ∀ {Rs:List Res} {w:World} {G:Nat→Prop},Sep Rs w G→v5 Rs w G
 | [],_,_,_=>trivial
 | R::Rs,w,G,⟨H,h1,h2,h3⟩=>by
  refine⟨⟨H,h1,h2⟩,?_⟩
  have h4:=Sep.allIn h3
  clear h1 h2 h3
  induction Rs with
  | nil=>trivial
  | cons A As ih=>exact⟨let ⟨K,k1,k2⟩:=h4.1; ⟨K,k1,fun k hk=>(k2 k hk).1⟩,ih h4.2⟩
section
variable {F0:Nat→Prop} {w0 w:World} {Rs l:List Res} {X:RX} {α:Type} {E:Rd α} {b T z m:Nat} {us:List Value} {xs:List α} {G:Nat→Prop}
theorem Src.many {i:Nat} (is:List Nat) (hl:Sel (Rs.eraseIdx i) is l) (hX: ∀ w G,v5 l w G→X.P w G):Src F0 w0 Rs w i X:=by
 intro A H _ _ _ h4
 have h5:=(hl.sep h4).inside
 exact⟨_,hX w _ h5.allIn,fun k hk=>⟨hk.1.2,hk.2⟩⟩
theorem SrcE.many (is:List Nat) (h:St F0 w0 Rs w) (hl:Sel Rs is l) (hX: ∀ w G,v5 l w G→X.P w G):X.reads w (fun _=>False):=by
 have h5:=(hl.sep h.sep).inside
 exact⟨_,hX w _ h5.allIn,fun k hk=>⟨fun h=>h,hk.2⟩⟩
theorem fy (hb:w.heap[b]? = some (.cells us.toArray T (0,0))) (hG:G b) (hm:xs.length=m) (hmm:m≤maxLen) (he:fE z E w G us xs):(av z E).P w G [.slice (some ⟨b,0,none⟩) m m] xs:=by
 subst hm
 refine .inr ⟨⟨b,0,none⟩,xs.length,rfl,Dy _,hmm,fun _=>hG,fun i x hx=> ?_⟩
 obtain⟨k1,k2⟩:=lX he hx
 have hi:i<xs.length:=(CU hx).1
 have hl:=gc he
 refine⟨_,k1,fun j hj=> ?_,k2⟩
 have hadd:(⟨b,0,none⟩:Addr).add (i*z+j)=⟨b,i*z+j,none⟩:=by unfold Addr.add; split <;> simp_all
 rw[hadd,aI hb,List.getElem?_take,if_pos hj,List.getElem?_drop]
 simp
end
def nY:fv := []
theorem aq:(nY).OK Tryz.prog:=trivial
theorem np:Tryz.prog.follows .mixedOrders=true:=by kernel_rfl
theorem jJ:SOK Tryz.prog 106 3 17 1 #[.int .i64 0,.int .i64 0,.int .i64 0,.int .i64 0,.int .i64 0,.int .i64 0,.int .i64 0,.int .i64 0,.int .i64 0,.int .i64 0,.int .i64 0,.int .i64 0,.int .i64 0,.int .i64 0,.int .i64 0,.int .i64 0,.int .i64 0]:=SOK.mk C6 CY Tryz.zeroValue3 (by decide) (by kernel_rfl)
theorem mi:(Tryz.prog.info? 3).map (fun i=>(i.zero,i.size,i.bytes))=some (some (.int .i64 0),1,8):=by kernel_rfl
def eG (a1:Int):Nat→Int→Nat→Option (Int×Nat)
 | 0,_,_=>none
 | m11+1,y6,k7=>if 0≤a1∧a1≤9223372036854775807 then (if (k7:Int)<(a1 % 8) then (if 0≤y6∧y6≤9223372036854775807 then (if -9223372036854775808≤((k7:Int)+1)∧((k7:Int)+1)≤9223372036854775807 then (eG a1 m11 (y6 / 2) (k7+1)) else none) else none) else some (y6,k7)) else none
def j6 (a0:List UInt8) (a1:Int):Option (Int):=if 0≤a1∧a1≤9223372036854775807 then (if 0≤(a1 / 8) then ((a0[(a1 / 8).toNat]?).bind fun ch3=>if -9223372036854775808≤(ch3.toNat:Int)∧(ch3.toNat:Int)≤9223372036854775807 then ((eG a1 (((a1 % 8)).toNat+1) (ch3.toNat:Int) 0).bind fun (y20,k21)=>if 0≤y20∧y20≤9223372036854775807 then some (y20 % 2) else none) else none) else none) else none
theorem ql (a0:List UInt8) (a1:Int) (r:Int) (h:j6 a0 a1=some r):ay Tryz.prog 117 #[jS a0,jI a1] .triv (aB) (fun v A' N=>v=jI r∧A'=aB∧N = []):=by
 refine aL Tryz.func117 Z Tryz.ntmps117 Z ?_
 intro F w hX
 unfold j6 at h
 refine T.seq (T.region Z (TL.run aq [0] Z Z (TL.nil (X.seq (T.seq (T.region Z ?_))))))
 replace h:=ak h
 obtain⟨c1,h⟩:=h
 refine TL.run aq [0,1] Z Z (TL.q Z .u (Ex.quo Z Z (by omega) c1) Z ?_)
 replace h:=ak h
 obtain⟨c2,h⟩:=h
 obtain⟨ch3,hc4,h⟩:=CM h
 refine TL.q Z .u (B6 Z Z ((Int.toNat_of_nonneg c2).symm) Tryz.underlying9 hc4) Z ?_
 replace h:=ak h
 obtain⟨c5,h⟩:=h
 refine TL.q Z .u (Bz Z D0 DU c5) Z (TL.run aq [5] Z Z (TL.nil (X.seq (T.seq (T.seq (T.region Z (TL.run aq [0] Z Z (TL.nil (X.seq (T.block ?_))))))))))
 obtain⟨E8,hE9,hO10⟩:=CM h
 refine AV (fun m e Rs=> ∃ (y6:Int) (k7:Nat),e = [(1,jI a1),(4,jI 0),(5,jI y6),(6,jI (k7:Int))]∧Rs = [aB]∧eG a1 m y6 k7=some E8) (((a1 % 8)).toNat+1) [0] ⟨(ch3.toNat:Int),0,Z,Z,by exact hE9⟩ (by rfl) (by rfl) ?_
 rintro m11 _ _ ⟨y6,k7,rfl,rfl,hl13⟩
 clear hE9 h
 cases m11 with
 | zero =>
  rw[eG] at hl13
  cases hl13
 | succ m11 =>
  have h:=hl13
  clear hl13
  rw[eG] at h
  refine T.seq (T.seq (T.region Z ?_))
  replace h:=ak h
  obtain⟨c15,h⟩:=h
  refine TL.run aq [0,1] Z Z (TL.q Z .u (Ex.rem Z Z (by omega) c15) Z (TL.run aq [3] Z Z ?_))
  rcases jF h with⟨c16,h⟩ | ⟨c16,h⟩
  ·refine TL.nil (X.seq (Am Z (CN c16) (T.skip (X.seq (T.seq (T.block (T.region Z ?_)))))))
   replace h:=ak h
   obtain⟨c17,h⟩:=h
   refine TL.run aq [0] Z Z (TL.q Z .u (Ex.quo Z Z (by omega) c17) Z (TL.run aq [2] Z Z (TL.nil (Az (X.seq (T.region Z ?_))))))
   replace h:=ak h
   obtain⟨c18,h⟩:=h
   exact TL.run aq [0] Z Z (TL.q Z .u (Ex.add Z Z c18) Z (TL.run aq [2] Z Z (TL.nil (X.back (m':=m11) [0] (by omega) ⟨(y6 / 2),k7+1,Z,Z,h⟩ (by rfl) (by rfl)))))
  ·refine TL.nil (X.seq (Ap Z (CO c16) ?_))
   obtain rfl:=CP h
   replace h:=hO10
   clear hO10
   try dsimp only at h
   refine T.exit (Au (Au (AS (X.seq (T.seq (T.region Z ?_))))))
   replace h:=ak h
   obtain⟨c19,h⟩:=h
   refine TL.run aq [0] Z Z (TL.q Z .u (Ex.rem Z Z (by omega) c19) Z (TL.run aq [2] Z Z ?_))
   obtain rfl:=CP h
   exact TL.nil (X.seq (T.ret (Ak [0] Tryz.results117 (Aj Z) ⟨Z,Z,Z⟩ (by rfl) (.inl Z))))
def fe (a0:Int):Nat→Int→Nat→Option (Lp Int (Int×Nat))
 | 0,_,_=>none
 | m7+1,y2,k3=>if (k3:Int)<([28,27,26,25,23,22,20,19,18,14,13,11,10,9,8,6,0].length:Int) then (([28,27,26,25,23,22,20,19,18,14,13,11,10,9,8,6,0][k3]?).bind fun x12=>if x12=a0 then some (Lp.ret 1) else (if -9223372036854775808≤((k3:Int)+1)∧((k3:Int)+1)≤9223372036854775807 then (fe a0 m7 y2 (k3+1)) else none)) else (some (Lp.go (y2,k3)))
def hO (a0:Int):Option (Int):=(fe a0 ((([28,27,26,25,23,22,20,19,18,14,13,11,10,9,8,6,0].length:Int)).toNat+1) 0 0).bind fun e=>match e with | .ret r=>some r | .go (y17,k18)=>some 0
theorem j7 (a0:Int) (r:Int) (h:hO a0=some r):ay Tryz.prog 118 #[jI a0] .triv (aB) (fun v A' N=>v=jI r∧A'=aB∧N = []):=by
 refine aL Tryz.func118 Z Tryz.ntmps118 Z ?_
 intro F w hX
 unfold hO at h
 refine T.seq (T.region Z (TL.run aq [0] Z Z (TL.nil (X.seq (T.seq (T.region Z ?_))))))
 refine Bk (cells:= #[jI 28,jI 27,jI 26,jI 25,jI 23,jI 22,jI 20,jI 19,jI 18,jI 14,jI 13,jI 11,jI 10,jI 9,jI 8,jI 6,jI 0]) Z .u jJ Z (by kernel_rfl) Z (fun b1=> ?_)
 refine BO (us := [jI 28,jI 27,jI 26,jI 25,jI 23,jI 22,jI 20,jI 19,jI 18,jI 14,jI 13,jI 11,jI 10,jI 9,jI 8,jI 6,jI 0]) (xs := [28,27,26,25,23,22,20,19,18,14,13,11,10,9,8,6,0]) (E:=bP) (z:=1) Z (Nat.le_of_ble_eq_true Z) (fun _=>⟨Z,Z,⟨Z,Z,⟨Z,Z,⟨Z,Z,⟨Z,Z,⟨Z,Z,⟨Z,Z,⟨Z,Z,⟨Z,Z,⟨Z,Z,⟨Z,Z,⟨Z,Z,⟨Z,Z,⟨Z,Z,⟨Z,Z,⟨Z,Z,⟨Z,Z,Z⟩⟩⟩⟩⟩⟩⟩⟩⟩⟩⟩⟩⟩⟩⟩⟩⟩) (TL.run aq [1] Z Z (TL.nil (X.seq (T.seq (T.seq (T.region Z (TL.run aq [0] Z Z (TL.nil (X.seq (T.block ?_))))))))))
 obtain⟨E4,hE5,hO6⟩:=CM h
 refine AV (fun m e Rs=> ∃ (y2:Int) (k3:Nat),e = [(0,jI a0),(2,jI y2),(3,.slice (some ⟨b1,0,none⟩) 17 17),(4,jI (k3:Int))]∧Rs = [aZ 3 1 bP (.slice (some ⟨b1,0,none⟩) 17 17) [28,27,26,25,23,22,20,19,18,14,13,11,10,9,8,6,0],aB]∧fe a0 m y2 k3=some E4) ((([28,27,26,25,23,22,20,19,18,14,13,11,10,9,8,6,0].length:Int)).toNat+1) [0,0] ⟨0,0,Z,Z,by exact hE5⟩ (by rfl) (by rfl) ?_
 rintro m7 _ _ ⟨y2,k3,rfl,rfl,hl9⟩
 clear hE5 h
 cases m7 with
 | zero =>
  rw[fe] at hl9
  cases hl9
 | succ m7 =>
  have h:=hl9
  clear hl9
  rw[fe] at h
  refine T.seq (T.seq (T.region Z (TL.run aq [0,1] Z Z (TL.q Z .u (AA Z C6) Z (TL.run aq [3] Z Z ?_)))))
  rcases jF h with⟨c11,h⟩ | ⟨c11,h⟩
  ·refine TL.nil (X.seq (Am Z (CN c11) (T.skip (X.seq (T.seq (T.block (T.seq (T.region Z ?_))))))))
   obtain⟨x12,hx13,h⟩:=CM h
   refine TL.run aq [0,1] Z Z (BF (E:=bP) (k:=k3) 0 Z (fun w G h=>aP (by decide) w G h) (by decide) hx13 ?_)
   rintro gg oo z14cs hA z14cl ⟨_,_,z14r⟩
   cases hA
   obtain rfl:z14cs = [jI x12]:=z14r
   clear z14cl
   refine AC [0,0] Z ?_
   refine TL.q Z .u (Aw (k:=k3) Z Z Z C6 CY (CU hx13).1) Z ?_
   refine TL.q Z .u (Bo (cs := [jI x12]) 0 0 Z CV Z (fun _ _ h=>h.2.2.1) Z) Z (TL.run aq [4,5] Z Z ?_)
   rcases jF h with⟨c15,h⟩ | ⟨c15,h⟩
   ·refine TL.nil (X.seq (Am Z (CN c15) (T.seq (T.region Z (TL.run aq [0] Z Z ?_)))))
    obtain rfl:=CP h
    replace h:=hO6
    clear hO6
    try dsimp only at h
    obtain rfl:=CP h
    exact TL.nil (X.seq (T.ret (At (Al (Al (At (Al (Ak [1] Tryz.results118 (Aj Z) ⟨Z,Z,Z⟩ (by rfl) (.inl Z)))))))))
   ·refine TL.nil (X.seq (Ap Z (CO c15) (T.skip (Az (X.seq (T.region Z ?_))))))
    replace h:=ak h
    obtain⟨c16,h⟩:=h
    exact TL.run aq [0] Z Z (TL.q Z .u (Ex.add Z Z c16) Z (TL.run aq [2] Z Z (TL.nil (X.unf 0 Z (AQ [0,0] Z (X.back (m':=m7) [0,0] (by omega) ⟨y2,k3+1,Z,Z,h⟩ (by rfl) (by rfl)))))))
  ·refine TL.nil (X.seq (Ap Z (CO c11) ?_))
   obtain rfl:=CP h
   replace h:=hO6
   clear hO6
   try dsimp only at h
   refine T.exit (Au (Au (AS (X.seq (T.seq (T.region Z (TL.run aq [0] Z Z ?_)))))))
   obtain rfl:=CP h
   exact TL.nil (X.seq (T.ret (Ak [1] Tryz.results118 (Aj Z) ⟨Z,Z,Z⟩ (by rfl) (.inl Z))))
def eH (k43:Nat):Nat→List Int→Int→Option (List Int×Int)
 | 0,_,_=>none
 | m63+1,y56,y59=>if y59≤32 then (if 0≤((k43:Int)+y59) then ((y56[((k43:Int)+y59).toNat]?).bind fun x69=>if -9223372036854775808≤((k43:Int)+y59)∧((k43:Int)+y59)≤9223372036854775807 then (if -9223372036854775808≤((k43:Int)+y59)∧((k43:Int)+y59)≤9223372036854775807 then (if -9223372036854775808≤(32 - y59)∧(32 - y59)≤9223372036854775807 then ((hO (32 - y59)).bind fun x75=>if -9223372036854775808≤(x69+x75)∧(x69+x75)≤9223372036854775807 then (if 0≤(x69+x75)∧(x69+x75)≤9223372036854775807 then (if -9223372036854775808≤(y59+1)∧(y59+1)≤9223372036854775807 then (eH k43 m63 (y56.set (((k43:Int)+y59).toNat) ((x69+x75) % 2)) (y59+1)) else none) else none) else none) else none) else none) else none) else none) else some (y56,y59)
def dy (a0:List UInt8) (y40:List Int):Nat→Int→Int→Option (Int×Int)
 | 0,_,_=>none
 | m92+1,y87,y88=>if y88≥0 then (if -9223372036854775808≤((8*(a0.length:Int))+y88)∧((8*(a0.length:Int))+y88)≤9223372036854775807 then (if 0≤((8*(a0.length:Int))+y88) then ((y40[((8*(a0.length:Int))+y88).toNat]?).bind fun x99=>if -9223372036854775808≤(1 - x99)∧(1 - x99)≤9223372036854775807 then (if -9223372036854775808≤(y88 - 1)∧(y88 - 1)≤9223372036854775807 then (dy a0 y40 m92 (IntKind.u32.wrap ((IntKind.u32.wrap (y87*2))+(IntKind.u32.wrap (1 - x99)))) (y88 - 1)) else none) else none) else none) else none) else some (y87,y88)
def ea (a0:List UInt8):Nat→List Int→Nat→Option (List Int×Nat)
 | 0,_,_=>none
 | m47+1,y40,k43=>if (k43:Int)<(8*(a0.length:Int)) then ((y40[k43]?).bind fun x52=>if x52=1 then ((eH k43 (((33:Int) - (1)).toNat+1) y40 1).bind fun (y81,y84)=>if -9223372036854775808≤((k43:Int)+1)∧((k43:Int)+1)≤9223372036854775807 then (ea a0 m47 y81 (k43+1)) else none) else (if -9223372036854775808≤((k43:Int)+1)∧((k43:Int)+1)≤9223372036854775807 then (ea a0 m47 y40 (k43+1)) else none)) else some (y40,k43)
def eI:Nat→List Int→Nat→Option (List Int×Nat)
 | 0,_,_=>none
 | m30+1,y23,k26=>if (k26:Int)<32 then ((y23[k26]?).bind fun x35=>if -9223372036854775808≤(1 - x35)∧(1 - x35)≤9223372036854775807 then (if -9223372036854775808≤((k26:Int)+1)∧((k26:Int)+1)≤9223372036854775807 then (eI m30 (y23.set k26 (1 - x35)) (k26+1)) else none) else none) else some (y23,k26)
def eJ (a0:List UInt8):Nat→List Int→Nat→Option (List Int×Nat)
 | 0,_,_=>none
 | m12+1,y5,k8=>if (k8:Int)<(8*(a0.length:Int)) then ((j6 a0 (k8:Int)).bind fun x17=>(y5[k8]?).bind fun x19=>if -9223372036854775808≤((k8:Int)+1)∧((k8:Int)+1)≤9223372036854775807 then (eJ a0 m12 (y5.set k8 x17) (k8+1)) else none) else some (y5,k8)
def iK (a0:List UInt8):Option (Int):=if -9223372036854775808≤(8*(a0.length:Int))∧(8*(a0.length:Int))≤9223372036854775807 then (if -9223372036854775808≤((8*(a0.length:Int))+32)∧((8*(a0.length:Int))+32)≤9223372036854775807 then (if 0≤((8*(a0.length:Int))+32)∧8*(((8*(a0.length:Int))+32).toNat)≤281474976710656 then ((eJ a0 (((8*(a0.length:Int))).toNat+1) (List.replicate (((8*(a0.length:Int))+32).toNat) (0:Int)) 0).bind fun (y222,k225)=>(eI ((32:Int).toNat+1) y222 0).bind fun (y332,k335)=>(ea a0 (((8*(a0.length:Int))).toNat+1) y332 0).bind fun (y402,k405)=>(dy a0 y402 (((31:Int) - (-1)).toNat+1) 0 31).bind fun (y423,y424)=>some y423) else none) else none) else none
theorem lG (a0:List UInt8) (r:Int) (h:iK a0=some r):ay Tryz.prog 54 #[jS a0] .triv (aB) (fun v A' N=>v= .int .u32 r∧A'=aB∧N = []):=by
 refine aL Tryz.func54 Z Tryz.ntmps54 Z ?_
 intro F w hX
 unfold iK at h
 refine T.seq (T.region Z (TL.run aq [0] Z Z (TL.nil (X.seq (T.seq (T.region Z (TL.run aq [0] Z Z (TL.q Z .u (AW Z CZ) Z ?_))))))))
 replace h:=ak h
 obtain⟨c1,h⟩:=h
 refine TL.q Z .u (Ex.mul Z Z c1) Z (TL.run aq [3] Z Z (TL.nil (X.seq (T.seq (T.region Z ?_)))))
 replace h:=ak h
 obtain⟨c2,h⟩:=h
 refine TL.run aq [0] Z Z (TL.q Z .u (Ex.add Z Z c2) Z ?_)
 replace h:=ak h
 obtain⟨c3,h⟩:=h
 refine TL.mk1 (k:=((8*(a0.length:Int))+32).toNat) (v:=jI 0) bP (0:Int) Z .u Tryz.underlying106 mi Z Z (Int.toNat_of_nonneg c3.1).symm c3.2 (by have hq:=c3.2; omega) (fun _ _=>Z) Z (fun b4=> ?_)
 refine TL.run aq [3] Z Z (TL.nil (X.seq (T.seq (T.seq (T.region Z (TL.run aq [0] Z Z (TL.nil (X.seq (T.block ?_)))))))))
 obtain⟨E9,hE10,hO11⟩:=CM h
 refine AV (fun m e Rs=> ∃ (y5:List Int) (A6:Option Addr) (c7:Nat) (k8:Nat),e = [(0,jS a0),(2,.int .u32 0),(3,jI (8*(a0.length:Int))),(4,.slice A6 y5.length c7),(5,jI (k8:Int))]∧Rs = [aZ 3 1 bP (.slice A6 y5.length c7) y5,aB]∧eJ a0 m y5 k8=some E9) (((8*(a0.length:Int))).toNat+1) [0,0] ⟨(List.replicate (((8*(a0.length:Int))+32).toNat) (0:Int)),(some ⟨b4,0,none⟩),(List.replicate (((8*(a0.length:Int))+32).toNat) (0:Int)).length,0,Z,Z,by exact hE10⟩ (by rfl) (by rfl) ?_
 rintro m12 _ _ ⟨y5,A6,c7,k8,rfl,rfl,hl14⟩
 clear hE10 h
 cases m12 with
 | zero =>
  rw[eJ] at hl14
  cases hl14
 | succ m12 =>
  have h:=hl14
  clear hl14
  rw[eJ] at h
  refine T.seq (T.seq (T.region Z (TL.run aq [0,1,2] Z Z ?_)))
  rcases jF h with⟨c16,h⟩ | ⟨c16,h⟩
  ·refine TL.nil (X.seq (Am Z (CN c16) (T.skip (X.seq (T.seq (T.block (T.region Z ?_)))))))
   obtain⟨x17,hx18,h⟩:=CM h
   refine TL.run aq [0,1,2,3] Z Z (Ax Z .u (.fn Tryz.call117 Z) (ql a0 (k8:Int) _ hx18) (fun _ hs=>(RX.reads_triv _ _)) Z ?_)
   obtain⟨x19,hx20,h⟩:=CM h
   refine BF (E:=bP) (k:=k8) 0 Z (fun w G h=>aP (by decide) w G h) (by decide) hx20 ?_
   rintro gz21 oz21 z21cs hA z21cl ⟨_,_,z21r⟩
   cases hA
   obtain rfl:z21cs = [jI x19]:=z21r
   clear z21cl
   refine AC [0,0] Z ?_
   refine TL.q Z .u (Aw (k:=k8) Z Z Z C6 CY (CU hx20).1) Z ?_
   refine TL.unf 0 Z (AC [0,0] Z (TL.stE (k:=k8) (u:=x19) (u':=x17) 0 0 Z .u Z Z CY Z hx20 Z Z Z Z (fun _ _ _ _ h=>by subst h; rfl) (AC [0,0] Z ?_)))
   rw[show y5.length=(y5.set k8 x17).length from (List.length_set ..).symm]
   refine TL.nil (Az (X.seq (T.region Z ?_)))
   replace h:=ak h
   obtain⟨c22,h⟩:=h
   exact TL.run aq [0] Z Z (TL.q Z .u (Ex.add Z Z c22) Z (TL.run aq [2] Z Z (TL.nil (X.back (m':=m12) [0,0] (by omega) ⟨(y5.set k8 x17),(some ⟨gz21,oz21,none⟩),c7,k8+1,Z,Z,h⟩ (by rfl) (by rfl)))))
  ·refine TL.nil (X.seq (Ap Z (CO c16) ?_))
   obtain rfl:=CP h
   replace h:=hO11
   clear hO11
   try dsimp only at h
   refine T.exit (Au (Au (AS (X.seq (T.seq (T.seq (T.region Z (TL.run aq [0] Z Z (TL.nil (X.seq (T.block ?_)))))))))))
   obtain⟨E27,hE28,hO29⟩:=CM h
   refine AV (fun m e Rs=> ∃ (y23:List Int) (A24:Option Addr) (c25:Nat) (k26:Nat),e = [(2,.int .u32 0),(3,jI (8*(a0.length:Int))),(4,.slice A24 y23.length c25),(6,jI (k26:Int))]∧Rs = [aZ 3 1 bP (.slice A24 y23.length c25) y23,aB]∧eI m y23 k26=some E27) ((32:Int).toNat+1) [0,0] ⟨y5,A6,c7,0,Z,Z,by exact hE28⟩ (by rfl) (by rfl) ?_
   rintro m30 _ _ ⟨y23,A24,c25,k26,rfl,rfl,hl32⟩
   clear hE28 h
   cases m30 with
   | zero =>
    rw[eI] at hl32
    cases hl32
   | succ m30 =>
    have h:=hl32
    clear hl32
    rw[eI] at h
    refine T.seq (T.seq (T.region Z (TL.run aq [0,1] Z Z ?_)))
    rcases jF h with⟨c34,h⟩ | ⟨c34,h⟩
    ·refine TL.nil (X.seq (Am Z (CN c34) (T.skip (X.seq (T.seq (T.block (T.region Z ?_)))))))
     obtain⟨x35,hx36,h⟩:=CM h
     refine TL.run aq [0,1,2,3] Z Z (BF (E:=bP) (k:=k26) 0 Z (fun w G h=>aP (by decide) w G h) (by decide) hx36 ?_)
     rintro gz37 oz37 z37cs hA z37cl ⟨_,_,z37r⟩
     cases hA
     obtain rfl:z37cs = [jI x35]:=z37r
     clear z37cl
     refine AC [0,0] Z ?_
     refine TL.q Z .u (Aw (k:=k26) Z Z Z C6 CY (CU hx36).1) Z ?_
     refine TL.q Z .u (Bo (cs := [jI x35]) 0 0 Z CV Z (fun _ _ h=>h.2.2.1) Z) Z ?_
     replace h:=ak h
     obtain⟨c38,h⟩:=h
     refine TL.q Z .u (Ex.sub Z Z c38) Z ?_
     refine TL.q Z .u (Aw (k:=k26) Z Z Z C6 CY (CU hx36).1) Z ?_
     refine TL.unf 0 Z (AC [0,0] Z (TL.stE (k:=k26) (u:=x35) (u':=(1 - x35)) 0 0 Z .u Z Z CY Z hx36 Z Z Z Z (fun _ _ _ _ h=>by subst h; rfl) (AC [0,0] Z ?_)))
     rw[show y23.length=(y23.set k26 (1 - x35)).length from (List.length_set ..).symm]
     refine TL.nil (Az (X.seq (T.region Z ?_)))
     replace h:=ak h
     obtain⟨c39,h⟩:=h
     exact TL.run aq [0] Z Z (TL.q Z .u (Ex.add Z Z c39) Z (TL.run aq [2] Z Z (TL.nil (X.back (m':=m30) [0,0] (by omega) ⟨(y23.set k26 (1 - x35)),(some ⟨gz37,oz37,none⟩),c25,k26+1,Z,Z,h⟩ (by rfl) (by rfl)))))
    ·refine TL.nil (X.seq (Ap Z (CO c34) ?_))
     obtain rfl:=CP h
     replace h:=hO29
     clear hO29
     try dsimp only at h
     refine T.exit (Au (Au (AS (X.seq (T.seq (T.seq (T.region Z (TL.run aq [0] Z Z (TL.nil (X.seq (T.block ?_)))))))))))
     obtain⟨E44,hE45,hO46⟩:=CM h
     refine AV (fun m e Rs=> ∃ (y40:List Int) (A41:Option Addr) (c42:Nat) (k43:Nat),e = [(2,.int .u32 0),(3,jI (8*(a0.length:Int))),(4,.slice A41 y40.length c42),(7,jI (k43:Int))]∧Rs = [aZ 3 1 bP (.slice A41 y40.length c42) y40,aB]∧ea a0 m y40 k43=some E44) (((8*(a0.length:Int))).toNat+1) [0,0] ⟨y23,A24,c25,0,Z,Z,by exact hE45⟩ (by rfl) (by rfl) ?_
     rintro m47 _ _ ⟨y40,A41,c42,k43,rfl,rfl,hl49⟩
     clear hE45 h
     cases m47 with
     | zero =>
      rw[ea] at hl49
      cases hl49
     | succ m47 =>
      have h:=hl49
      clear hl49
      rw[ea] at h
      refine T.seq (T.seq (T.region Z (TL.run aq [0,1,2] Z Z ?_)))
      rcases jF h with⟨c51,h⟩ | ⟨c51,h⟩
      ·refine TL.nil (X.seq (Am Z (CN c51) (T.skip (X.seq (T.seq (T.block (T.seq (T.region Z ?_))))))))
       obtain⟨x52,hx53,h⟩:=CM h
       refine TL.run aq [0,1] Z Z (BF (E:=bP) (k:=k43) 0 Z (fun w G h=>aP (by decide) w G h) (by decide) hx53 ?_)
       rintro gz54 oz54 z54cs hA z54cl ⟨_,_,z54r⟩
       cases hA
       obtain rfl:z54cs = [jI x52]:=z54r
       clear z54cl
       refine AC [0,0] Z ?_
       refine TL.q Z .u (Aw (k:=k43) Z Z Z C6 CY (CU hx53).1) Z ?_
       refine TL.q Z .u (Bo (cs := [jI x52]) 0 0 Z CV Z (fun _ _ h=>h.2.2.1) Z) Z (TL.run aq [4] Z Z ?_)
       rcases jF h with⟨c55,h⟩ | ⟨c55,h⟩
       ·refine TL.nil (X.seq (Am Z (CN c55) (T.seq (T.region Z (TL.run aq [0] Z Z (TL.nil (X.seq (T.block (T.unf 0 Z (BU [0,0] Z ?_))))))))))
        obtain⟨E60,hE61,hO62⟩:=CM h
        refine AV (fun m e Rs=> ∃ (y56:List Int) (A57:Option Addr) (c58:Nat) (y59:Int),e = [(2,.int .u32 0),(3,jI (8*(a0.length:Int))),(4,.slice A57 y56.length c58),(7,jI (k43:Int)),(8,jI y59)]∧Rs = [aZ 3 1 bP (.slice A57 y56.length c58) y56,aB]∧eH k43 m y56 y59=some E60) (((33:Int) - (1)).toNat+1) [0,0] ⟨y40,(some ⟨gz54,oz54,none⟩),c42,1,Z,Z,by exact hE61⟩ (by rfl) (by rfl) ?_
        rintro m63 _ _ ⟨y56,A57,c58,y59,rfl,rfl,hl65⟩
        clear hE61 h
        cases m63 with
        | zero =>
         rw[eH] at hl65
         cases hl65
        | succ m63 =>
         have h:=hl65
         clear hl65
         rw[eH] at h
         refine T.seq (T.seq (T.region Z (TL.run aq [0,1] Z Z ?_)))
         rcases jF h with⟨c67,h⟩ | ⟨c67,h⟩
         ·refine TL.nil (X.seq (Am Z (CN c67) ?_))
          replace h:=ak h
          obtain⟨c68,h⟩:=h
          obtain⟨x69,hx70,h⟩:=CM h
          refine T.skip (X.seq (T.seq (T.block (B0 (E:=bP) (k:=((k43:Int)+y59).toNat) 0 Z (fun w G h=>aP (by decide) w G h) (by decide) hx70 ?_))))
          rintro gz71 oz71 z71cs hA z71cl ⟨_,_,z71r⟩
          cases hA
          obtain rfl:z71cs = [jI x69]:=z71r
          clear z71cl
          refine BU [0,0] Z ?_
          replace h:=ak h
          obtain⟨c72,h⟩:=h
          replace h:=ak h
          obtain⟨c73,h⟩:=h
          replace h:=ak h
          obtain⟨c74,h⟩:=h
          obtain⟨x75,hx76,h⟩:=CM h
          replace h:=ak h
          obtain⟨c77,h⟩:=h
          replace h:=ak h
          obtain⟨c78,h⟩:=h
          refine BR (fun e Rs=>e = [(2,.int .u32 0),(3,jI (8*(a0.length:Int))),(4,.slice (some ⟨gz71,oz71,none⟩) (y56.set (((k43:Int)+y59).toNat) ((x69+x75) % 2)).length c58),(7,jI (k43:Int)),(8,jI y59),(50,jI y59)]∧Rs = [aZ 3 1 bP (.slice (some ⟨gz71,oz71,none⟩) (y56.set (((k43:Int)+y59).toNat) ((x69+x75) % 2)).length c58) (y56.set (((k43:Int)+y59).toNat) ((x69+x75) % 2)),aB]) ?_ ?_
          ·refine AH (.q 0 (.q 1 (.q 2 (.q 3 (.q 4 (.q 5 (.q 6 (.q 7 (.q 8 (.q 10 (.q 11 (.br 9 (.e 12 (.q 13 (.q 14 (.q 15 (.e 16 .nil))))) (.e 12 (.e 9 (.q 13 (.q 14 (.q 15 (.e 16 .nil)))))))))))))))))) [1] Z np nd (by kernel_rfl) ?_
           refine TD.run aq [0,1,2] Z Z (TD.q Z .u (Ex.add Z Z c72) Z (TD.run aq [4,5,6] Z Z (TD.q Z .u (Ex.add Z Z c73) Z ?_)))
           refine TD.q Z .u (Aw (k:=((k43:Int)+y59).toNat) Z Z ((Int.toNat_of_nonneg c68).symm) C6 CY (CU hx70).1) Z ?_
           refine TD.run aq [10] Z Z (TD.q Z .u (Ex.sub Z Z c74) Z ?_)
           refine TD.br ?_ ?_
           ·refine BX Z .u (Bo (cs := [jI x69]) 0 0 Z CV Z (fun _ _ h=>h.2.2.1) Z) Z [1] Z (AR Z .u (.fn Tryz.call118 Z) (j7 (32 - y59) _ hx76) (fun _ hs=>(RX.reads_triv _ _)) Z [1] (Z) (TD.q Z .u (Ex.add Z Z c77) Z (TD.q Z .u (Ex.rem Z Z (by omega) c78) Z ?_)))
            refine TD.q Z .u (Aw (k:=((k43:Int)+y59).toNat) Z Z ((Int.toNat_of_nonneg c68).symm) C6 CY (CU hx70).1) Z ?_
            refine TD.unf 0 Z (Bi [0,0] Z (TD.stE (k:=((k43:Int)+y59).toNat) (u:=x69) (u':=((x69+x75) % 2)) 0 0 Z .u Z Z CY Z hx70 Z Z Z Z (fun _ _ _ _ h=>by subst h; rfl) [1] (Z) (Bi [0,0] Z ?_)))
            rw[show y56.length=(y56.set (((k43:Int)+y59).toNat) ((x69+x75) % 2)).length from (List.length_set ..).symm]
            exact TD.nil (Bw [0,0] ⟨Z,Z⟩ (by rfl) (by rfl))
           ·refine AR Z .u (.fn Tryz.call118 Z) (j7 (32 - y59) _ hx76) (fun _ hs=>(RX.reads_triv _ _)) Z [1] (Z) (BX Z .u (Bo (cs := [jI x69]) 0 0 Z CV Z (fun _ _ h=>h.2.2.1) Z) Z [1] Z (TD.q Z .u (Ex.add Z Z c77) Z (TD.q Z .u (Ex.rem Z Z (by omega) c78) Z ?_)))
            refine TD.q Z .u (Aw (k:=((k43:Int)+y59).toNat) Z Z ((Int.toNat_of_nonneg c68).symm) C6 CY (CU hx70).1) Z ?_
            refine TD.unf 0 Z (Bi [0,0] Z (TD.stE (k:=((k43:Int)+y59).toNat) (u:=x69) (u':=((x69+x75) % 2)) 0 0 Z .u Z Z CY Z hx70 Z Z Z Z (fun _ _ _ _ h=>by subst h; rfl) [1] (Z) (Bi [0,0] Z ?_)))
            rw[show y56.length=(y56.set (((k43:Int)+y59).toNat) ((x69+x75) % 2)).length from (List.length_set ..).symm]
            exact TD.nil (Bw [0,0] ⟨Z,Z⟩ (by rfl) (by rfl))
          ·rintro _ _ ⟨rfl,rfl⟩
           refine Az (X.seq (T.region Z ?_))
           replace h:=ak h
           obtain⟨c79,h⟩:=h
           exact TL.run aq [0] Z Z (TL.q Z .u (Ex.add Z Z c79) Z (TL.run aq [2] Z Z (TL.nil (X.back (m':=m63) [0,0] (by omega) ⟨(y56.set (((k43:Int)+y59).toNat) ((x69+x75) % 2)),(some ⟨gz71,oz71,none⟩),c58,(y59+1),Z,Z,h⟩ (by rfl) (by rfl)))))
         ·refine TL.nil (X.seq (Ap Z (CO c67) ?_))
          obtain rfl:=CP h
          replace h:=hO62
          clear hO62
          try dsimp only at h
          refine T.exit (Au (Au (AS (Az (X.seq (T.region Z ?_))))))
          replace h:=ak h
          obtain⟨c80,h⟩:=h
          exact TL.run aq [0] Z Z (TL.q Z .u (Ex.add Z Z c80) Z (TL.run aq [2] Z Z (TL.nil (X.back (m':=m47) [0,0] (by omega) ⟨y56,A57,c58,k43+1,Z,Z,h⟩ (by rfl) (by rfl)))))
       ·refine TL.nil (X.seq (Ap Z (CO c55) (T.skip (Az (X.seq (T.region Z ?_))))))
        replace h:=ak h
        obtain⟨c86,h⟩:=h
        exact TL.run aq [0] Z Z (TL.q Z .u (Ex.add Z Z c86) Z (TL.run aq [2] Z Z (TL.nil (X.unf 0 Z (AQ [0,0] Z (X.back (m':=m47) [0,0] (by omega) ⟨y40,(some ⟨gz54,oz54,none⟩),c42,k43+1,Z,Z,h⟩ (by rfl) (by rfl)))))))
      ·refine TL.nil (X.seq (Ap Z (CO c51) ?_))
       obtain rfl:=CP h
       replace h:=hO46
       clear hO46
       try dsimp only at h
       refine T.exit (Au (Au (AS (X.seq (T.seq (T.region Z (TL.run aq [0] Z Z (TL.nil (X.seq (T.seq (T.seq (T.region Z (TL.run aq [0] Z Z (TL.nil (X.seq (T.block ?_))))))))))))))))
       obtain⟨E89,hE90,hO91⟩:=CM h
       refine AV (fun m e Rs=> ∃ (y87:Int) (y88:Int),e = [(2,.int .u32 0),(3,jI (8*(a0.length:Int))),(4,.slice A41 y40.length c42),(9,.int .u32 y87),(10,jI y88)]∧Rs = [aZ 3 1 bP (.slice A41 y40.length c42) y40,aB]∧dy a0 y40 m y87 y88=some E89) (((31:Int) - (-1)).toNat+1) [0,0] ⟨0,31,Z,Z,by exact hE90⟩ (by rfl) (by rfl) ?_
       rintro m92 _ _ ⟨y87,y88,rfl,rfl,hl94⟩
       clear hE90 h
       cases m92 with
       | zero =>
        rw[dy] at hl94
        cases hl94
       | succ m92 =>
        have h:=hl94
        clear hl94
        rw[dy] at h
        refine T.seq (T.seq (T.region Z (TL.run aq [0,1] Z Z ?_)))
        rcases jF h with⟨c96,h⟩ | ⟨c96,h⟩
        ·refine TL.nil (X.seq (Am Z (CN c96) (T.skip (X.seq (T.seq (T.block (T.region Z (TL.run aq [0] Z Z (TL.q Z .u (Ex.mulw Z Z) Z ?_)))))))))
         replace h:=ak h
         obtain⟨c97,h⟩:=h
         refine TL.run aq [2,3,4] Z Z (TL.q Z .u (Ex.add Z Z c97) Z ?_)
         replace h:=ak h
         obtain⟨c98,h⟩:=h
         obtain⟨x99,hx100,h⟩:=CM h
         refine BF (E:=bP) (k:=((8*(a0.length:Int))+y88).toNat) 0 Z (fun w G h=>aP (by decide) w G h) (by decide) hx100 ?_
         rintro gz101 oz101 z101cs hA z101cl ⟨_,_,z101r⟩
         cases hA
         obtain rfl:z101cs = [jI x99]:=z101r
         clear z101cl
         refine AC [0,0] Z ?_
         refine TL.q Z .u (Aw (k:=((8*(a0.length:Int))+y88).toNat) Z Z ((Int.toNat_of_nonneg c98).symm) C6 CY (CU hx100).1) Z ?_
         refine TL.q Z .u (Bo (cs := [jI x99]) 0 0 Z CV Z (fun _ _ h=>h.2.2.1) Z) Z ?_
         replace h:=ak h
         obtain⟨c102,h⟩:=h
         refine TL.q Z .u (Ex.sub Z Z c102) Z (TL.q Z .u (B8 Z DU DS) Z (TL.q Z .u (Ex.addw Z Z) Z (TL.run aq [11] Z Z (TL.nil (Az (X.seq (T.region Z ?_)))))))
         replace h:=ak h
         obtain⟨c103,h⟩:=h
         exact TL.run aq [0] Z Z (TL.q Z .u (Ex.sub Z Z c103) Z (TL.run aq [2] Z Z (TL.nil (X.unf 0 Z (AQ [0,0] Z (X.back (m':=m92) [0,0] (by omega) ⟨(IntKind.u32.wrap ((IntKind.u32.wrap (y87*2))+(IntKind.u32.wrap (1 - x99)))),(y88 - 1),Z,Z,h⟩ (by rfl) (by rfl)))))))
        ·refine TL.nil (X.seq (Ap Z (CO c96) ?_))
         obtain rfl:=CP h
         replace h:=hO91
         clear hO91
         try dsimp only at h
         refine T.exit (Au (Au (AS (X.seq (T.seq (T.region Z (TL.run aq [0,1] Z Z ?_)))))))
         obtain rfl:=CP h
         exact TL.nil (X.seq (T.ret (Ak [1] Tryz.results54 (Aj Z) ⟨Z,Z,Z⟩ (by rfl) (.inl Z))))
def nZ:fv := [(35,0,0),(35,1,1),(38,1,1),(38,2,2),(38,3,4),(38,4,6)]
theorem am:(nZ).OK Tryz.prog:=⟨FOK.mk DD rfl DK rfl,FOK.mk DD rfl DT rfl,FOK.mk Dj rfl CY rfl,FOK.mk Dj rfl C7 rfl,FOK.mk Dj rfl C7 rfl,FOK.mk Dj rfl En rfl,trivial⟩
def fH (a0:List UInt8):Option (Int×Int):=if (a0.length:Int)<2 then some (0,1) else (if 2≤a0.length then ((kO (a0.take 2)).bind fun x3=>if x3=0 then (if (a0.length:Int)<4 then some (0,1) else (if 4≤a0.length then ((kO ((a0.drop 2).take 2)).bind fun x8=>if x8=0 then (if (a0.length:Int)>4 then some (0,2) else some (x8,0)) else (if x8=1 then (if (a0.length:Int)>4 then some (0,2) else some (x8,0)) else some (0,12))) else none)) else some (0,7)) else none)
theorem mP (a0:List UInt8) (r:Int×Int) (h:fH a0=some r):ay Tryz.prog 104 #[jS a0] .triv (aB) (fun v A' N=>v= .tuple #[jI r.1,jI r.2]∧A'=aB∧N = []):=by
 refine aL Tryz.func104 Z Tryz.ntmps104 Z ?_
 intro F w hX
 unfold fH at h
 refine T.seq (T.region Z (TL.run am [0,1] Z Z (TL.nil (X.seq (T.seq (T.seq (T.region Z (TL.run am [0] Z Z (TL.q Z .u (AW Z CZ) Z (TL.run am [2] Z Z ?_))))))))))
 rcases jF h with⟨c1,h⟩ | ⟨c1,h⟩
 ·refine TL.nil (X.seq (Am Z (CN c1) (T.seq (T.region Z (TL.run am [0,1] Z Z ?_)))))
  obtain rfl:=CP h
  exact TL.nil (X.seq (T.ret (Al (AL [0] El (Aj Z) (Aj Z) ⟨Z,Z,Z⟩ (by rfl) (.inl Z)))))
 ·refine TL.nil (X.seq (Ap Z (CO c1) (T.skip (X.seq (T.seq (T.seq (T.region Z ?_)))))))
  replace h:=ak h
  obtain⟨c2,h⟩:=h
  refine TL.run am [0] Z Z ?_
  replace c2:2≤a0.length:=c2
  refine TL.q Z .u (Ba (p:=0) (q:=2) (m:=(a0.take 2)) Z CZ .none (.some Z Z) (by first | omega | (dsimp only; omega)) (by simp)) Z ?_
  obtain⟨x3,hx4,h⟩:=CM h
  refine Ax Z .u (.fn Tryz.call63 Z) (AN (fun w=>dt (a0.take 2) _ hx4 w)) (fun _ _=>RX.reads_triv _ _) Z (TL.run am [3] Z Z ?_)
  rcases jF h with⟨c5,h⟩ | ⟨c5,h⟩
  ·refine TL.nil (X.seq (Ap Z (az (CN c5)) (T.skip (X.seq (T.seq (T.seq (T.region Z (TL.run am [0] Z Z (TL.q Z .u (AW Z CZ) Z (TL.run am [2] Z Z ?_))))))))))
   rcases jF h with⟨c6,h⟩ | ⟨c6,h⟩
   ·refine TL.nil (X.seq (Am Z (CN c6) (T.seq (T.region Z (TL.run am [0,1] Z Z ?_)))))
    obtain rfl:=CP h
    exact TL.nil (X.seq (T.ret (Al (AL [0] El (Aj Z) (Aj Z) ⟨Z,Z,Z⟩ (by rfl) (.inl Z)))))
   ·refine TL.nil (X.seq (Ap Z (CO c6) (T.skip (X.seq (T.seq (T.region Z ?_))))))
    replace h:=ak h
    obtain⟨c7,h⟩:=h
    refine TL.run am [0] Z Z ?_
    replace c7:4≤a0.length:=c7
    refine TL.q Z .u (Ba (p:=2) (q:=4) (m:=((a0.drop 2).take 2)) Z CZ (.some Z Z) (.some Z Z) (by first | omega | (dsimp only; omega)) Z) Z ?_
    obtain⟨x8,hx9,h⟩:=CM h
    refine Ax Z .u (.fn Tryz.call63 Z) (AN (fun w=>dt ((a0.drop 2).take 2) _ hx9 w)) (fun _ _=>RX.reads_triv _ _) Z (TL.run am [3] Z Z (TL.nil (X.seq (T.seq (T.seq (T.region Z ?_))))))
    rcases jF h with⟨c10,h⟩ | ⟨c10,h⟩
    ·refine TL.run am [0,1,2] Z Z ?_
     iterate 2 refine An Z (.gn Z Z (az (CN c10))) Z ?_
     refine TL.q Z .u (Ar Z (az (CN c10)) Z) Z (TL.nil (X.seq (Ap Z Z (T.skip (X.seq (T.seq (T.seq (T.region Z (TL.run am [0] Z Z (TL.q Z .u (AW Z CZ) Z (TL.run am [2] Z Z ?_)))))))))))
     rcases jF h with⟨c11,h⟩ | ⟨c11,h⟩
     ·refine TL.nil (X.seq (Am Z (CN c11) (T.seq (T.region Z (TL.run am [0,1] Z Z ?_)))))
      obtain rfl:=CP h
      exact TL.nil (X.seq (T.ret (Al (AL [0] El (Aj Z) (Aj Z) ⟨Z,Z,Z⟩ (by rfl) (.inl Z)))))
     ·refine TL.nil (X.seq (Ap Z (CO c11) (T.skip (X.seq (T.seq (T.region Z (TL.run am [0,1,2] Z Z ?_)))))))
      obtain rfl:=CP h
      exact TL.nil (X.seq (T.ret (AL [0] El (Aj Z) (Aj Z) ⟨Z,Z,Z⟩ (by rfl) (.inl Z))))
    ·refine TL.run am [0,1,2] Z Z ?_
     iterate 2 refine TL.q Z (.g Z Z (aD (CO c10))) (Ao am Z) Z ?_
     refine TL.q Z .u (Aq Z (aD (CO c10)) Z) Z ?_
     rcases jF h with⟨c12,h⟩ | ⟨c12,h⟩
     ·refine TL.nil (X.seq (Ap Z (az (CN c12)) (T.skip (X.seq (T.seq (T.seq (T.region Z (TL.run am [0] Z Z (TL.q Z .u (AW Z CZ) Z (TL.run am [2] Z Z ?_))))))))))
      rcases jF h with⟨c13,h⟩ | ⟨c13,h⟩
      ·refine TL.nil (X.seq (Am Z (CN c13) (T.seq (T.region Z (TL.run am [0,1] Z Z ?_)))))
       obtain rfl:=CP h
       exact TL.nil (X.seq (T.ret (Al (AL [0] El (Aj Z) (Aj Z) ⟨Z,Z,Z⟩ (by rfl) (.inl Z)))))
      ·refine TL.nil (X.seq (Ap Z (CO c13) (T.skip (X.seq (T.seq (T.region Z (TL.run am [0,1,2] Z Z ?_)))))))
       obtain rfl:=CP h
       exact TL.nil (X.seq (T.ret (AL [0] El (Aj Z) (Aj Z) ⟨Z,Z,Z⟩ (by rfl) (.inl Z))))
     ·refine TL.nil (X.seq (Am Z (aD (CO c12)) (T.seq (T.region Z (TL.run am [0,1] Z Z ?_)))))
      obtain rfl:=CP h
      exact TL.nil (X.seq (T.ret (Al (AL [0] El (Aj Z) (Aj Z) ⟨Z,Z,Z⟩ (by rfl) (.inl Z)))))
  ·refine TL.nil (X.seq (Am Z (aD (CO c5)) (T.seq (T.region Z (TL.run am [0,1] Z Z ?_)))))
   obtain rfl:=CP h
   exact TL.nil (X.seq (T.ret (Al (AL [0] El (Aj Z) (Aj Z) ⟨Z,Z,Z⟩ (by rfl) (.inl Z)))))
def eR (a0:List UInt8):Option (Int×Int):=if (a0.length:Int)<2 then some (0,1) else (if 2≤a0.length then ((kO (a0.take 2)).bind fun x3=>if x3=0 then (if (a0.length:Int)<6 then some (0,1) else (if 6≤a0.length then ((kO ((a0.drop 2).take 4)).bind fun x8=>if x8<0 then some (0,11) else (if (a0.length:Int)>6 then some (0,2) else some (x8,0))) else none)) else some (0,7)) else none)
theorem lH (a0:List UInt8) (r:Int×Int) (h:eR a0=some r):ay Tryz.prog 105 #[jS a0] .triv (aB) (fun v A' N=>v= .tuple #[jI r.1,jI r.2]∧A'=aB∧N = []):=by
 refine aL Tryz.func105 Z Tryz.ntmps105 Z ?_
 intro F w hX
 unfold eR at h
 refine T.seq (T.region Z (TL.run am [0,1] Z Z (TL.nil (X.seq (T.seq (T.seq (T.region Z (TL.run am [0] Z Z (TL.q Z .u (AW Z CZ) Z (TL.run am [2] Z Z ?_))))))))))
 rcases jF h with⟨c1,h⟩ | ⟨c1,h⟩
 ·refine TL.nil (X.seq (Am Z (CN c1) (T.seq (T.region Z (TL.run am [0,1] Z Z ?_)))))
  obtain rfl:=CP h
  exact TL.nil (X.seq (T.ret (Al (AL [0] EF (Aj Z) (Aj Z) ⟨Z,Z,Z⟩ (by rfl) (.inl Z)))))
 ·refine TL.nil (X.seq (Ap Z (CO c1) (T.skip (X.seq (T.seq (T.seq (T.region Z ?_)))))))
  replace h:=ak h
  obtain⟨c2,h⟩:=h
  refine TL.run am [0] Z Z ?_
  replace c2:2≤a0.length:=c2
  refine TL.q Z .u (Ba (p:=0) (q:=2) (m:=(a0.take 2)) Z CZ .none (.some Z Z) (by first | omega | (dsimp only; omega)) (by simp)) Z ?_
  obtain⟨x3,hx4,h⟩:=CM h
  refine Ax Z .u (.fn Tryz.call63 Z) (AN (fun w=>dt (a0.take 2) _ hx4 w)) (fun _ _=>RX.reads_triv _ _) Z (TL.run am [3] Z Z ?_)
  rcases jF h with⟨c5,h⟩ | ⟨c5,h⟩
  ·refine TL.nil (X.seq (Ap Z (az (CN c5)) (T.skip (X.seq (T.seq (T.seq (T.region Z (TL.run am [0] Z Z (TL.q Z .u (AW Z CZ) Z (TL.run am [2] Z Z ?_))))))))))
   rcases jF h with⟨c6,h⟩ | ⟨c6,h⟩
   ·refine TL.nil (X.seq (Am Z (CN c6) (T.seq (T.region Z (TL.run am [0,1] Z Z ?_)))))
    obtain rfl:=CP h
    exact TL.nil (X.seq (T.ret (Al (AL [0] EF (Aj Z) (Aj Z) ⟨Z,Z,Z⟩ (by rfl) (.inl Z)))))
   ·refine TL.nil (X.seq (Ap Z (CO c6) (T.skip (X.seq (T.seq (T.region Z ?_))))))
    replace h:=ak h
    obtain⟨c7,h⟩:=h
    refine TL.run am [0] Z Z ?_
    replace c7:6≤a0.length:=c7
    refine TL.q Z .u (Ba (p:=2) (q:=6) (m:=((a0.drop 2).take 4)) Z CZ (.some Z Z) (.some Z Z) (by first | omega | (dsimp only; omega)) Z) Z ?_
    obtain⟨x8,hx9,h⟩:=CM h
    refine Ax Z .u (.fn Tryz.call63 Z) (AN (fun w=>dt ((a0.drop 2).take 4) _ hx9 w)) (fun _ _=>RX.reads_triv _ _) Z (TL.run am [3] Z Z (TL.nil (X.seq (T.seq (T.seq (T.region Z (TL.run am [0,1] Z Z ?_)))))))
    rcases jF h with⟨c10,h⟩ | ⟨c10,h⟩
    ·refine TL.nil (X.seq (Am Z (CN c10) (T.seq (T.region Z (TL.run am [0,1] Z Z ?_)))))
     obtain rfl:=CP h
     exact TL.nil (X.seq (T.ret (Al (AL [0] EF (Aj Z) (Aj Z) ⟨Z,Z,Z⟩ (by rfl) (.inl Z)))))
    ·refine TL.nil (X.seq (Ap Z (CO c10) (T.skip (X.seq (T.seq (T.seq (T.region Z (TL.run am [0] Z Z (TL.q Z .u (AW Z CZ) Z (TL.run am [2] Z Z ?_))))))))))
     rcases jF h with⟨c11,h⟩ | ⟨c11,h⟩
     ·refine TL.nil (X.seq (Am Z (CN c11) (T.seq (T.region Z (TL.run am [0,1] Z Z ?_)))))
      obtain rfl:=CP h
      exact TL.nil (X.seq (T.ret (Al (AL [0] EF (Aj Z) (Aj Z) ⟨Z,Z,Z⟩ (by rfl) (.inl Z)))))
     ·refine TL.nil (X.seq (Ap Z (CO c11) (T.skip (X.seq (T.seq (T.region Z (TL.run am [0,1,2] Z Z ?_)))))))
      obtain rfl:=CP h
      exact TL.nil (X.seq (T.ret (AL [0] EF (Aj Z) (Aj Z) ⟨Z,Z,Z⟩ (by rfl) (.inl Z))))
  ·refine TL.nil (X.seq (Am Z (aD (CO c5)) (T.seq (T.region Z (TL.run am [0,1] Z Z ?_)))))
   obtain rfl:=CP h
   exact TL.nil (X.seq (T.ret (Al (AL [0] EF (Aj Z) (Aj Z) ⟨Z,Z,Z⟩ (by rfl) (.inl Z)))))
def ff (a0:Rec):Option (Int×Int×Int):=if a0.Cs.null=true then some (0,0,12) else (if a0.Cg.null=true then some (0,0,12) else (if (a0.Cn.length:Int)>0 then some (0,0,12) else (if a0.Cv=0 then ((fH a0.Cs.data).bind fun (x8,x9)=>if x9=0 then ((eR a0.Cg.data).bind fun (x12,x13)=>if x13=0 then some (x8,x12,0) else some (0,0,x13)) else some (0,0,x9)) else some (0,0,12))))
theorem ph (a0:Rec) (A1:Option Addr) (c2:Nat) (r:Int×Int×Int) (h:ff a0=some r):ay Tryz.prog 46 #[.agg #[jI a0.CC,jI a0.Cv,.bool a0.Cs.null,jS a0.Cs.data,.bool a0.Cg.null,jS a0.Cg.data,.slice A1 a0.Cn.length c2]] (RX.of (av 3 bf) [.slice A1 a0.Cn.length c2] a0.Cn) (aB) (fun v A' N=>v= .tuple #[jI r.1,jI r.2.1,jI r.2.2]∧A'=aB∧N = []):=by
 refine aL Tryz.func46 Z Tryz.ntmps46 Z ?_
 intro F w hX
 unfold ff at h
 refine T.seq (T.region Z (TL.box Z .u Z Z (fun b3=>(TL.run am [1,2,3] Z Z (TL.nil (X.seq (T.seq (T.seq (T.region Z (TL.run am [0,1] Z Z (TL.q Z .u (Ai 0 Z Dd Z Z) Z ?_)))))))))))
 rcases jF h with⟨c4,h⟩ | ⟨c4,h⟩
 ·refine TL.run am [3] Z Z ?_
  iterate 3 refine An Z (.gn Z Z c4) Z ?_
  refine TL.q Z .u (Aq Z c4 Z) Z (TL.run am [8] Z Z ?_)
  iterate 4 refine An Z (.gn Z Z Z) Z ?_
  refine TL.q Z .u (Aq Z Z Z) Z (TL.run am [14] Z Z ?_)
  iterate 3 refine An Z (.gn Z Z Z) Z ?_
  refine TL.q Z .u (Aq Z Z Z) Z (TL.nil (X.seq (Am Z Z (T.seq (T.region Z (TL.run am [0,1,2] Z Z ?_))))))
  obtain rfl:=CP h
  exact TL.nil (X.seq (T.ret (Al (AX [1] EA (Aj Z) (Aj Z) (Aj Z) ⟨Z,Z,Z⟩ (by rfl) (.inl Z)))))
 ·replace c4:=CX c4
  refine TL.run am [3] Z Z ?_
  iterate 2 refine TL.q Z (.g Z Z c4) (Ao am Z) Z ?_
  refine TL.q Z (.g Z Z c4) (Ai 0 Z Dd Z Z) Z (TL.q Z .u (Ar Z c4 Z) Z ?_)
  rcases jF h with⟨c5,h⟩ | ⟨c5,h⟩
  ·refine TL.run am [8] Z Z ?_
   iterate 4 refine An Z (.gn Z Z c5) Z ?_
   refine TL.q Z .u (Aq Z c5 Z) Z (TL.run am [14] Z Z ?_)
   iterate 3 refine An Z (.gn Z Z Z) Z ?_
   refine TL.q Z .u (Aq Z Z Z) Z (TL.nil (X.seq (Am Z Z (T.seq (T.region Z (TL.run am [0,1,2] Z Z ?_))))))
   obtain rfl:=CP h
   exact TL.nil (X.seq (T.ret (Al (AX [1] EA (Aj Z) (Aj Z) (Aj Z) ⟨Z,Z,Z⟩ (by rfl) (.inl Z)))))
  ·replace c5:=CX c5
   refine TL.run am [8] Z Z (TL.q Z (.g Z Z c5) (Ao am Z) Z (TL.q Z (.g Z Z c5) (Ai 0 Z EB Z Z) Z (TL.q Z (.g Z Z c5) (AA Z Dl) Z (TL.q Z (.g Z Z c5) (Ao am Z) Z (TL.q Z .u (Ar Z c5 Z) Z ?_)))))
   rcases jF h with⟨c6,h⟩ | ⟨c6,h⟩
   ·refine TL.run am [14] Z Z ?_
    iterate 3 refine An Z (.gn Z Z (CN c6)) Z ?_
    refine TL.q Z .u (Aq Z (CN c6) Z) Z (TL.nil (X.seq (Am Z Z (T.seq (T.region Z (TL.run am [0,1,2] Z Z ?_))))))
    obtain rfl:=CP h
    exact TL.nil (X.seq (T.ret (Al (AX [1] EA (Aj Z) (Aj Z) (Aj Z) ⟨Z,Z,Z⟩ (by rfl) (.inl Z)))))
   ·refine TL.run am [14] Z Z (TL.q Z (.g Z Z (CO c6)) (Ao am Z) Z (TL.q Z (.g Z Z (CO c6)) (Ai 0 Z CV Z Z) Z (TL.q Z (.g Z Z (CO c6)) (Ao am Z) Z (TL.q Z .u (Ar Z (CO c6) Z) Z ?_))))
    rcases jF h with⟨c7,h⟩ | ⟨c7,h⟩
    ·refine TL.nil (X.seq (Ap Z (az (CN c7)) (T.skip (X.seq (T.seq (T.region Z (TL.run am [0,1] Z Z (TL.q Z .u (Ai 0 Z Dp Z Z) Z ?_))))))))
     obtain⟨⟨x8,x9⟩,hx10,h⟩:=CM h
     try dsimp only at h
     refine Ax Z .u (.fn Tryz.call104 Z) (mP a0.Cs.data _ hx10) (fun _ hs=>(RX.reads_triv _ _)) Z (TL.run am [4,5,6,7,8] Z Z (TL.nil (X.seq (T.seq (T.seq (T.region Z (TL.run am [0,1] Z Z ?_)))))))
     rcases jF h with⟨c11,h⟩ | ⟨c11,h⟩
     ·refine TL.nil (X.seq (Ap Z (az (CN c11)) (T.skip (X.seq (T.seq (T.region Z (TL.run am [0,1] Z Z (TL.q Z .u (Ai 0 Z Dp Z Z) Z ?_))))))))
      obtain⟨⟨x12,x13⟩,hx14,h⟩:=CM h
      try dsimp only at h
      refine Ax Z .u (.fn Tryz.call105 Z) (lH a0.Cg.data _ hx14) (fun _ hs=>(RX.reads_triv _ _)) Z (TL.run am [4,5,6,7,8] Z Z (TL.nil (X.seq (T.seq (T.seq (T.region Z (TL.run am [0,1] Z Z ?_)))))))
      rcases jF h with⟨c15,h⟩ | ⟨c15,h⟩
      ·refine TL.nil (X.seq (Ap Z (az (CN c15)) (T.skip (X.seq (T.seq (T.region Z (TL.run am [0,1,2,3,4] Z Z ?_)))))))
       obtain rfl:=CP h
       exact TL.nil (X.seq (T.ret (AX [1] EA (Aj Z) (Aj Z) (Aj Z) ⟨Z,Z,Z⟩ (by rfl) (.inl Z))))
      ·refine TL.nil (X.seq (Am Z (aD (CO c15)) (T.seq (T.region Z (TL.run am [0,1,2,3] Z Z ?_)))))
       obtain rfl:=CP h
       exact TL.nil (X.seq (T.ret (Al (AX [1] EA (Aj Z) (Aj Z) (Aj Z) ⟨Z,Z,Z⟩ (by rfl) (.inl Z)))))
     ·refine TL.nil (X.seq (Am Z (aD (CO c11)) (T.seq (T.region Z (TL.run am [0,1,2,3] Z Z ?_)))))
      obtain rfl:=CP h
      exact TL.nil (X.seq (T.ret (Al (AX [1] EA (Aj Z) (Aj Z) (Aj Z) ⟨Z,Z,Z⟩ (by rfl) (.inl Z)))))
    ·refine TL.nil (X.seq (Am Z (aD (CO c7)) (T.seq (T.region Z (TL.run am [0,1,2] Z Z ?_)))))
     obtain rfl:=CP h
     exact TL.nil (X.seq (T.ret (Al (AX [1] EA (Aj Z) (Aj Z) (Aj Z) ⟨Z,Z,Z⟩ (by rfl) (.inl Z)))))
end Go.Proofs.YtcoppaggpbfcmaaGreat.Sl
