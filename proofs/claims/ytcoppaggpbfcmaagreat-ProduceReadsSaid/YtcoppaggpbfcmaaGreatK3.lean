/- produceReads_holds: part 3. -/
import Derived.Test.YtcoppaggpbfcmaaGreatK2
set_option maxRecDepth 100000
set_option maxHeartbeats 4000000
set_option linter.defProp false
namespace Go.Proofs.YtcoppaggpbfcmaaGreat.Sl
open Go.RowKit
set_option linter.unusedVariables false
set_option linter.unusedSimpArgs false
def C1 := @Tryz.sizeOf203
def Dc := @Tryz.runUnderlying199
def De := @Tryz.runUnderlying160
def DA := @Tryz.isAgg203
def DB := @Tryz.isAgg201
def DS := @Tryz.runUnderlying107
def DU := @Tryz.runUnderlying3
def D1 := @Tryz.sizeOf160
def Ey := @Tryz.results50
def ED := @Tryz.isAgg160
def EE := @Tryz.results111
def Fc := @Tryz.runUnderlying205
def Fd := @Tryz.runUnderlying206
def Fe := @Tryz.runUnderlying203
def Fi := @Tryz.results112
def Fk := @Tryz.sizeOf107
def vf:fv := [(35,0,0),(35,1,1),(38,1,1),(38,2,2),(38,3,4),(38,4,6)]
theorem au:(vf).OK Tryz.prog:=⟨FOK.mk DD rfl DK rfl,FOK.mk DD rfl DT rfl,FOK.mk Dj rfl CY rfl,FOK.mk Dj rfl C7 rfl,FOK.mk Dj rfl C7 rfl,FOK.mk Dj rfl En rfl,trivial⟩
def ck (st:I)  : Option (I):=(fG st 2).bind fun (x1,st2)=>if x1=0 then some st2 else ((bE st2 7).bind fun st5=>some st5)
theorem gk (g:Nat) (st:I)  (r:I) (h:ck st  = some r):ay Tryz.prog 146 #[jP g] .triv (InR g st) (fun v A' N=>v= .tuple #[]∧A'=InR g r∧N = []):=by
 refine aL Tryz.func146 Z Tryz.ntmps146 Z ?_
 intro F w hX
 unfold ck at h
 refine T.seq (T.region Z ?_)
 obtain⟨⟨x1,st2⟩,hx3,h⟩:=CM h
 try dsimp only at h
 refine TL.run au [0] Z Z (AZ Z .u (.fn Tryz.call57 Z) (bN g st 2 _ hx3) (fun _ hs=>(Src.triv _)) Z (TL.run au [2] Z Z ?_))
 rcases jF h with⟨c4,h⟩ | ⟨c4,h⟩
 ·refine TL.nil (X.seq (Ap Z (az (CN c4)) ?_))
  obtain rfl:=CP h
  exact T.skip (BH [0] Tryz.results146 ⟨Z,Z,Z⟩ (by rfl) (.inr Z))
 ·refine TL.nil (X.seq (Am Z (aD (CO c4)) (T.region Z ?_)))
  obtain⟨st5,hx6,h⟩:=CM h
  refine TL.run au [0] Z Z (AZ Z .u (.fn Tryz.call61 Z) (bg g st2 7 _ hx6) (fun _ hs=>(Src.triv _)) Z ?_)
  obtain rfl:=CP h
  exact TL.nil (BH [0] Tryz.results146 ⟨Z,Z,Z⟩ (by rfl) (.inr Z))
def cQ (a0:List UInt8):Option (Int×Int):=(rf a0).bind fun st1=>(ck st1).bind fun st4=>(fG st4 2).bind fun (x6,st7)=>if x6=0 then ((dM st7).bind fun (x10,st11)=>if x10=0 then some (x6,0) else some (0,x10)) else (if x6=1 then ((dM st7).bind fun (x15,st16)=>if x15=0 then some (x6,0) else some (0,x15)) else ((bE st7 12).bind fun st19=>(dM st19).bind fun (x21,st22)=>if x21=0 then some (x6,0) else some (0,x21)))
theorem kA (a0:List UInt8) (r:Int×Int) (h:cQ a0=some r):ay Tryz.prog 111 #[jS a0] .triv (aB) (fun v A' N=>v= .tuple #[jI r.1,jI r.2]∧A'=aB∧N = []):=by
 refine aL Tryz.func111 Z Tryz.ntmps111 Z ?_
 intro F w hX
 unfold cQ at h
 refine T.seq (T.region Z (TL.run au [0,1] Z Z (TL.nil (X.seq (T.seq (T.region Z ?_))))))
 obtain⟨st1,hx2,h⟩:=CM h
 refine TL.run au [0] Z Z (AP Z .u (.fn Tryz.call18 Z) (iH a0 _ hx2) (fun _ hs=>(RX.reads_triv _ _)) Z ?_)
 rintro _ _ _ ⟨b3,rfl,rfl,rfl⟩
 refine AC [0,0] Z (TL.run au [2] Z Z (TL.nil (X.seq (T.seq (T.region Z ?_)))))
 obtain⟨st4,hx5,h⟩:=CM h
 refine TL.run au [0] Z Z (AZ Z .u (.fn Tryz.call146 Z) (gk b3 st1 _ hx5) (fun _ hs=>(Src.triv _)) Z (TL.nil (X.seq (T.seq (T.region Z ?_)))))
 obtain⟨⟨x6,st7⟩,hx8,h⟩:=CM h
 try dsimp only at h
 refine TL.run au [0] Z Z (AZ Z .u (.fn Tryz.call57 Z) (bN b3 st4 2 _ hx8) (fun _ hs=>(Src.triv _)) Z (TL.run au [2] Z Z (TL.nil (X.seq (T.seq (T.seq (T.region Z ?_)))))))
 rcases jF h with⟨c9,h⟩ | ⟨c9,h⟩
 ·refine TL.run au [0,1,2] Z Z ?_
  iterate 2 refine An Z (.gn Z Z (az (CN c9))) Z ?_
  refine TL.q Z .u (Ar Z (az (CN c9)) Z) Z (TL.nil (X.seq (Ap Z Z (T.skip (X.seq (T.seq (T.seq (T.region Z ?_))))))))
  obtain⟨⟨x10,st11⟩,hx12,h⟩:=CM h
  try dsimp only at h
  refine TL.run au [0] Z Z (AZ Z .u (.fn Tryz.call32 Z) (dX b3 st7 _ hx12) (fun _ hs=>(Src.triv _)) Z (TL.run au [2] Z Z (TL.nil (X.seq (T.seq (T.region Z (TL.run au [0,1] Z Z ?_)))))))
  rcases jF h with⟨c13,h⟩ | ⟨c13,h⟩
  ·refine TL.nil (X.seq (Ap Z (az (CN c13)) (T.skip (X.seq (T.seq (T.region Z (TL.run au [0,1,2] Z Z ?_)))))))
   obtain rfl:=CP h
   exact TL.nil (X.seq (T.ret (AL [1] EE (Aj Z) (Aj Z) ⟨Z,Z,Z⟩ (by rfl) (.inl Z))))
  ·refine TL.nil (X.seq (Am Z (aD (CO c13)) (T.seq (T.region Z (TL.run au [0,1,2] Z Z ?_)))))
   obtain rfl:=CP h
   exact TL.nil (X.seq (T.ret (Al (AL [1] EE (Aj Z) (Aj Z) ⟨Z,Z,Z⟩ (by rfl) (.inl Z)))))
 ·refine TL.run au [0,1,2] Z Z ?_
  iterate 2 refine TL.q Z (.g Z Z (aD (CO c9))) (Ao au Z) Z ?_
  refine TL.q Z .u (Aq Z (aD (CO c9)) Z) Z ?_
  rcases jF h with⟨c14,h⟩ | ⟨c14,h⟩
  ·refine TL.nil (X.seq (Ap Z (az (CN c14)) (T.skip (X.seq (T.seq (T.seq (T.region Z ?_)))))))
   obtain⟨⟨x15,st16⟩,hx17,h⟩:=CM h
   try dsimp only at h
   refine TL.run au [0] Z Z (AZ Z .u (.fn Tryz.call32 Z) (dX b3 st7 _ hx17) (fun _ hs=>(Src.triv _)) Z (TL.run au [2] Z Z (TL.nil (X.seq (T.seq (T.region Z (TL.run au [0,1] Z Z ?_)))))))
   rcases jF h with⟨c18,h⟩ | ⟨c18,h⟩
   ·refine TL.nil (X.seq (Ap Z (az (CN c18)) (T.skip (X.seq (T.seq (T.region Z (TL.run au [0,1,2] Z Z ?_)))))))
    obtain rfl:=CP h
    exact TL.nil (X.seq (T.ret (AL [1] EE (Aj Z) (Aj Z) ⟨Z,Z,Z⟩ (by rfl) (.inl Z))))
   ·refine TL.nil (X.seq (Am Z (aD (CO c18)) (T.seq (T.region Z (TL.run au [0,1,2] Z Z ?_)))))
    obtain rfl:=CP h
    exact TL.nil (X.seq (T.ret (Al (AL [1] EE (Aj Z) (Aj Z) ⟨Z,Z,Z⟩ (by rfl) (.inl Z)))))
  ·refine TL.nil (X.seq (Am Z (aD (CO c14)) (T.region Z ?_)))
   obtain⟨st19,hx20,h⟩:=CM h
   refine TL.run au [0] Z Z (AZ Z .u (.fn Tryz.call61 Z) (bg b3 st7 12 _ hx20) (fun _ hs=>(Src.triv _)) Z (TL.nil (X.seq (T.seq (T.seq (T.region Z ?_))))))
   obtain⟨⟨x21,st22⟩,hx23,h⟩:=CM h
   try dsimp only at h
   refine TL.run au [0] Z Z (AZ Z .u (.fn Tryz.call32 Z) (dX b3 st19 _ hx23) (fun _ hs=>(Src.triv _)) Z (TL.run au [2] Z Z (TL.nil (X.seq (T.seq (T.region Z (TL.run au [0,1] Z Z ?_)))))))
   rcases jF h with⟨c24,h⟩ | ⟨c24,h⟩
   ·refine TL.nil (X.seq (Ap Z (az (CN c24)) (T.skip (X.seq (T.seq (T.region Z (TL.run au [0,1,2] Z Z ?_)))))))
    obtain rfl:=CP h
    exact TL.nil (X.seq (T.ret (AL [1] EE (Aj Z) (Aj Z) ⟨Z,Z,Z⟩ (by rfl) (.inl Z))))
   ·refine TL.nil (X.seq (Am Z (aD (CO c24)) (T.seq (T.region Z (TL.run au [0,1,2] Z Z ?_)))))
    obtain rfl:=CP h
    exact TL.nil (X.seq (T.ret (Al (AL [1] EE (Aj Z) (Aj Z) ⟨Z,Z,Z⟩ (by rfl) (.inl Z)))))
def ci (a0:List UInt8):Option (Int×Int):=(rf a0).bind fun st1=>(ck st1).bind fun st4=>(fG st4 4).bind fun (x6,st7)=>if x6<0 then ((bE st7 11).bind fun st10=>(dM st10).bind fun (x12,st13)=>if x12=0 then some (x6,0) else some (0,x12)) else ((dM st7).bind fun (x16,st17)=>if x16=0 then some (x6,0) else some (0,x16))
theorem jH (a0:List UInt8) (r:Int×Int) (h:ci a0=some r):ay Tryz.prog 112 #[jS a0] .triv (aB) (fun v A' N=>v= .tuple #[jI r.1,jI r.2]∧A'=aB∧N = []):=by
 refine aL Tryz.func112 Z Tryz.ntmps112 Z ?_
 intro F w hX
 unfold ci at h
 refine T.seq (T.region Z (TL.run au [0,1] Z Z (TL.nil (X.seq (T.seq (T.region Z ?_))))))
 obtain⟨st1,hx2,h⟩:=CM h
 refine TL.run au [0] Z Z (AP Z .u (.fn Tryz.call18 Z) (iH a0 _ hx2) (fun _ hs=>(RX.reads_triv _ _)) Z ?_)
 rintro _ _ _ ⟨b3,rfl,rfl,rfl⟩
 refine AC [0,0] Z (TL.run au [2] Z Z (TL.nil (X.seq (T.seq (T.region Z ?_)))))
 obtain⟨st4,hx5,h⟩:=CM h
 refine TL.run au [0] Z Z (AZ Z .u (.fn Tryz.call146 Z) (gk b3 st1 _ hx5) (fun _ hs=>(Src.triv _)) Z (TL.nil (X.seq (T.seq (T.region Z ?_)))))
 obtain⟨⟨x6,st7⟩,hx8,h⟩:=CM h
 try dsimp only at h
 refine TL.run au [0] Z Z (AZ Z .u (.fn Tryz.call57 Z) (bN b3 st4 4 _ hx8) (fun _ hs=>(Src.triv _)) Z (TL.run au [2] Z Z (TL.nil (X.seq (T.seq (T.seq (T.region Z (TL.run au [0,1] Z Z ?_))))))))
 rcases jF h with⟨c9,h⟩ | ⟨c9,h⟩
 ·refine TL.nil (X.seq (Am Z (CN c9) (T.region Z ?_)))
  obtain⟨st10,hx11,h⟩:=CM h
  refine TL.run au [0] Z Z (AZ Z .u (.fn Tryz.call61 Z) (bg b3 st7 11 _ hx11) (fun _ hs=>(Src.triv _)) Z (TL.nil (X.seq (T.seq (T.seq (T.region Z ?_))))))
  obtain⟨⟨x12,st13⟩,hx14,h⟩:=CM h
  try dsimp only at h
  refine TL.run au [0] Z Z (AZ Z .u (.fn Tryz.call32 Z) (dX b3 st10 _ hx14) (fun _ hs=>(Src.triv _)) Z (TL.run au [2] Z Z (TL.nil (X.seq (T.seq (T.region Z (TL.run au [0,1] Z Z ?_)))))))
  rcases jF h with⟨c15,h⟩ | ⟨c15,h⟩
  ·refine TL.nil (X.seq (Ap Z (az (CN c15)) (T.skip (X.seq (T.seq (T.region Z (TL.run au [0,1,2] Z Z ?_)))))))
   obtain rfl:=CP h
   exact TL.nil (X.seq (T.ret (AL [1] Fi (Aj Z) (Aj Z) ⟨Z,Z,Z⟩ (by rfl) (.inl Z))))
  ·refine TL.nil (X.seq (Am Z (aD (CO c15)) (T.seq (T.region Z (TL.run au [0,1,2] Z Z ?_)))))
   obtain rfl:=CP h
   exact TL.nil (X.seq (T.ret (Al (AL [1] Fi (Aj Z) (Aj Z) ⟨Z,Z,Z⟩ (by rfl) (.inl Z)))))
 ·refine TL.nil (X.seq (Ap Z (CO c9) (T.skip (X.seq (T.seq (T.seq (T.region Z ?_)))))))
  obtain⟨⟨x16,st17⟩,hx18,h⟩:=CM h
  try dsimp only at h
  refine TL.run au [0] Z Z (AZ Z .u (.fn Tryz.call32 Z) (dX b3 st7 _ hx18) (fun _ hs=>(Src.triv _)) Z (TL.run au [2] Z Z (TL.nil (X.seq (T.seq (T.region Z (TL.run au [0,1] Z Z ?_)))))))
  rcases jF h with⟨c19,h⟩ | ⟨c19,h⟩
  ·refine TL.nil (X.seq (Ap Z (az (CN c19)) (T.skip (X.seq (T.seq (T.region Z (TL.run au [0,1,2] Z Z ?_)))))))
   obtain rfl:=CP h
   exact TL.nil (X.seq (T.ret (AL [1] Fi (Aj Z) (Aj Z) ⟨Z,Z,Z⟩ (by rfl) (.inl Z))))
  ·refine TL.nil (X.seq (Am Z (aD (CO c19)) (T.seq (T.region Z (TL.run au [0,1,2] Z Z ?_)))))
   obtain rfl:=CP h
   exact TL.nil (X.seq (T.ret (Al (AL [1] Fi (Aj Z) (Aj Z) ⟨Z,Z,Z⟩ (by rfl) (.inl Z)))))
def cu (a0:Rec):Option (Int×Int×Int):=if a0.Cs.null=true then some (0,0,12) else (if a0.Cg.null=true then some (0,0,12) else (if (a0.Cn.length:Int)>0 then some (0,0,12) else (if a0.Cv=0 then ((cQ a0.Cs.data).bind fun (x8,x9)=>if x9=0 then ((ci a0.Cg.data).bind fun (x12,x13)=>if x13=0 then some (x8,x12,0) else some (0,0,x13)) else some (0,0,x9)) else some (0,0,12))))
theorem mf (a0:Rec) (A1:Option Addr) (c2:Nat) (r:Int×Int×Int) (h:cu a0=some r):ay Tryz.prog 50 #[.agg #[jI a0.CC,jI a0.Cv,.bool a0.Cs.null,jS a0.Cs.data,.bool a0.Cg.null,jS a0.Cg.data,.slice A1 a0.Cn.length c2]] (RX.of (av 3 bf) [.slice A1 a0.Cn.length c2] a0.Cn) (aB) (fun v A' N=>v= .tuple #[jI r.1,jI r.2.1,jI r.2.2]∧A'=aB∧N = []):=by
 refine aL Tryz.func50 Z Tryz.ntmps50 Z ?_
 intro F w hX
 unfold cu at h
 refine T.seq (T.region Z (TL.box Z .u Z Z (fun b3=>(TL.run au [1,2,3] Z Z (TL.nil (X.seq (T.seq (T.seq (T.region Z (TL.run au [0,1] Z Z (TL.q Z .u (Ai 0 Z Dd Z Z) Z ?_)))))))))))
 rcases jF h with⟨c4,h⟩ | ⟨c4,h⟩
 ·refine TL.run au [3] Z Z ?_
  iterate 3 refine An Z (.gn Z Z c4) Z ?_
  refine TL.q Z .u (Aq Z c4 Z) Z (TL.run au [8] Z Z ?_)
  iterate 4 refine An Z (.gn Z Z Z) Z ?_
  refine TL.q Z .u (Aq Z Z Z) Z (TL.run au [14] Z Z ?_)
  iterate 3 refine An Z (.gn Z Z Z) Z ?_
  refine TL.q Z .u (Aq Z Z Z) Z (TL.nil (X.seq (Am Z Z (T.seq (T.region Z (TL.run au [0,1,2] Z Z ?_))))))
  obtain rfl:=CP h
  exact TL.nil (X.seq (T.ret (Al (AX [1] Ey (Aj Z) (Aj Z) (Aj Z) ⟨Z,Z,Z⟩ (by rfl) (.inl Z)))))
 ·replace c4:=CX c4
  refine TL.run au [3] Z Z ?_
  iterate 2 refine TL.q Z (.g Z Z c4) (Ao au Z) Z ?_
  refine TL.q Z (.g Z Z c4) (Ai 0 Z Dd Z Z) Z (TL.q Z .u (Ar Z c4 Z) Z ?_)
  rcases jF h with⟨c5,h⟩ | ⟨c5,h⟩
  ·refine TL.run au [8] Z Z ?_
   iterate 4 refine An Z (.gn Z Z c5) Z ?_
   refine TL.q Z .u (Aq Z c5 Z) Z (TL.run au [14] Z Z ?_)
   iterate 3 refine An Z (.gn Z Z Z) Z ?_
   refine TL.q Z .u (Aq Z Z Z) Z (TL.nil (X.seq (Am Z Z (T.seq (T.region Z (TL.run au [0,1,2] Z Z ?_))))))
   obtain rfl:=CP h
   exact TL.nil (X.seq (T.ret (Al (AX [1] Ey (Aj Z) (Aj Z) (Aj Z) ⟨Z,Z,Z⟩ (by rfl) (.inl Z)))))
  ·replace c5:=CX c5
   refine TL.run au [8] Z Z (TL.q Z (.g Z Z c5) (Ao au Z) Z (TL.q Z (.g Z Z c5) (Ai 0 Z EB Z Z) Z (TL.q Z (.g Z Z c5) (AA Z Dl) Z (TL.q Z (.g Z Z c5) (Ao au Z) Z (TL.q Z .u (Ar Z c5 Z) Z ?_)))))
   rcases jF h with⟨c6,h⟩ | ⟨c6,h⟩
   ·refine TL.run au [14] Z Z ?_
    iterate 3 refine An Z (.gn Z Z (CN c6)) Z ?_
    refine TL.q Z .u (Aq Z (CN c6) Z) Z (TL.nil (X.seq (Am Z Z (T.seq (T.region Z (TL.run au [0,1,2] Z Z ?_))))))
    obtain rfl:=CP h
    exact TL.nil (X.seq (T.ret (Al (AX [1] Ey (Aj Z) (Aj Z) (Aj Z) ⟨Z,Z,Z⟩ (by rfl) (.inl Z)))))
   ·refine TL.run au [14] Z Z (TL.q Z (.g Z Z (CO c6)) (Ao au Z) Z (TL.q Z (.g Z Z (CO c6)) (Ai 0 Z CV Z Z) Z (TL.q Z (.g Z Z (CO c6)) (Ao au Z) Z (TL.q Z .u (Ar Z (CO c6) Z) Z ?_))))
    rcases jF h with⟨c7,h⟩ | ⟨c7,h⟩
    ·refine TL.nil (X.seq (Ap Z (az (CN c7)) (T.skip (X.seq (T.seq (T.seq (T.region Z (TL.run au [0,1] Z Z (TL.q Z .u (Ai 0 Z Dp Z Z) Z ?_)))))))))
     obtain⟨⟨x8,x9⟩,hx10,h⟩:=CM h
     try dsimp only at h
     refine Ax Z .u (.fn Tryz.call111 Z) (kA a0.Cs.data _ hx10) (fun _ hs=>(RX.reads_triv _ _)) Z (TL.run au [4,5,6,7,8] Z Z (TL.nil (X.seq (T.seq (T.region Z (TL.run au [0,1] Z Z ?_))))))
     rcases jF h with⟨c11,h⟩ | ⟨c11,h⟩
     ·refine TL.nil (X.seq (Ap Z (az (CN c11)) (T.skip (X.seq (T.seq (T.seq (T.region Z (TL.run au [0,1] Z Z (TL.q Z .u (Ai 0 Z Dp Z Z) Z ?_)))))))))
      obtain⟨⟨x12,x13⟩,hx14,h⟩:=CM h
      try dsimp only at h
      refine Ax Z .u (.fn Tryz.call112 Z) (jH a0.Cg.data _ hx14) (fun _ hs=>(RX.reads_triv _ _)) Z (TL.run au [4,5,6,7,8] Z Z (TL.nil (X.seq (T.seq (T.region Z (TL.run au [0,1] Z Z ?_))))))
      rcases jF h with⟨c15,h⟩ | ⟨c15,h⟩
      ·refine TL.nil (X.seq (Ap Z (az (CN c15)) (T.skip (X.seq (T.seq (T.region Z (TL.run au [0,1,2,3,4] Z Z ?_)))))))
       obtain rfl:=CP h
       exact TL.nil (X.seq (T.ret (AX [1] Ey (Aj Z) (Aj Z) (Aj Z) ⟨Z,Z,Z⟩ (by rfl) (.inl Z))))
      ·refine TL.nil (X.seq (Am Z (aD (CO c15)) (T.seq (T.region Z (TL.run au [0,1,2,3] Z Z ?_)))))
       obtain rfl:=CP h
       exact TL.nil (X.seq (T.ret (Al (AX [1] Ey (Aj Z) (Aj Z) (Aj Z) ⟨Z,Z,Z⟩ (by rfl) (.inl Z)))))
     ·refine TL.nil (X.seq (Am Z (aD (CO c11)) (T.seq (T.region Z (TL.run au [0,1,2,3] Z Z ?_)))))
      obtain rfl:=CP h
      exact TL.nil (X.seq (T.ret (Al (AX [1] Ey (Aj Z) (Aj Z) (Aj Z) ⟨Z,Z,Z⟩ (by rfl) (.inl Z)))))
    ·refine TL.nil (X.seq (Am Z (aD (CO c7)) (T.seq (T.region Z (TL.run au [0,1,2] Z Z ?_)))))
     obtain rfl:=CP h
     exact TL.nil (X.seq (T.ret (Al (AX [1] Ey (Aj Z) (Aj Z) (Aj Z) ⟨Z,Z,Z⟩ (by rfl) (.inl Z)))))
def ft_crc:fv := []
theorem aJ:(ft_crc).OK Tryz.prog:=trivial
theorem zR:Tryz.prog.follows .mixedOrders=true:=by kernel_rfl
def d7:Nat→Int→Nat→Option (Int×Nat)
 | 0,_,_=>none
 | m40+1,y35,k36=>if (k36:Int)<8 then ((if (Go.bits .and .u32 y35 1)=1 then (some (Go.bits .xor .u32 (rk .u32 y35 1) 2197175160)) else some (rk .u32 y35 1)).bind fun y46=>if -9223372036854775808≤((k36:Int)+1)∧((k36:Int)+1)≤9223372036854775807 then (d7 m40 y46 (k36+1)) else none) else some (y35,k36)
def eF:Nat→Nat→List Int→Option (Nat×List Int)
 | 0,_,_=>none
 | m7+1,k2,st3=>if (k2:Int)<256 then (((d7 ((8:Int).toNat+1) (IntKind.u32.wrap (k2:Int)) 0).bind fun (y52,k53)=>(st3[k2]?).bind fun x54=>some (st3.set k2 y52)).bind fun st33=>if -9223372036854775808≤((k2:Int)+1)∧((k2:Int)+1)≤9223372036854775807 then (eF m7 (k2+1) st33) else none) else some (k2,st3)
def iJ  : Option (List Int):=(eF ((256:Int).toNat+1) 0 (List.replicate 256 (0:Int))).bind fun (k57,st58)=>some st58
theorem gl  (r:List Int) (h:iJ  = some r):ay Tryz.prog 99 #[] .triv (aB) (fun v A' N=> ∃ q:Nat,v=jP q∧A'=aB∧N = [jk 205 q r]):=by
 refine aL Tryz.func99 Z Tryz.ntmps99 Z ?_
 intro F w hX
 unfold iJ at h
 refine T.seq (T.region Z (TL.run aJ [0] Z Z (TL.nil (X.seq (T.seq (T.region Z (TL.q Z .u (Ex.bldZ Tryz.zeroValue205 Fc Fk) Z ?_)))))))
 refine TL.tNew Z .u Z (by kernel_rfl) Z (fun b1=> ?_)
 refine TL.run aJ [2] Z Z (TL.nil (X.seq (T.seq (T.seq (T.region Z (TL.run aJ [0] Z Z (TL.nil (X.seq (T.block ?_)))))))))
 obtain⟨E4,hE5,hO6⟩:=CM h
 refine AV (fun m e Rs=> ∃ (k2:Nat) (st3:List Int),e = [(0,.pointer none),(1,jP b1),(6,jI (k2:Int))]∧Rs = [jk 205 b1 st3,aB]∧eF m k2 st3=some E4) ((256:Int).toNat+1) [0,0] ⟨0,(List.replicate 256 (0:Int)),Z,Z,by exact hE5⟩ (by rfl) (by rfl) ?_
 rintro m7 _ _ ⟨k2,st3,rfl,rfl,hl9⟩
 clear hE5 h
 cases m7 with
 | zero =>
  rw[eF] at hl9
  cases hl9
 | succ m7 =>
  have h:=hl9
  clear hl9
  rw[eF] at h
  refine T.seq (T.region Z (TL.run aJ [0] Z Z ?_))
  rcases jF h with⟨c11,h⟩ | ⟨c11,h⟩
  ·refine TL.nil (X.seq (T.seq (Am Z (CN c11) (T.skip (X.seq (T.seq ?_))))))
   obtain⟨st33,h,hk34⟩:=CM h
   refine Bg (fun e Rs=>e = [(0,.pointer none),(1,jP b1),(6,jI (k2:Int))]∧Rs = [jk 205 b1 st33,aB]) ?_ ?_
   ·clear hk34
    refine T.block (T.seq (T.region Z (TL.run aJ [0,1] Z Z (TL.nil (X.seq (T.seq (T.region Z (TL.run aJ [0] Z Z (TL.q Z .u (B8 Z DU DS) Z (TL.run aJ [2] Z Z (TL.nil (X.seq (T.seq (T.seq (T.region Z (TL.run aJ [0] Z Z ?_))))))))))))))))
    refine TL.nil (X.seq (T.block ?_))
    obtain⟨E37,hE38,hO39⟩:=CM h
    refine AV (fun m e Rs=> ∃ (y35:Int) (k36:Nat),e = [(0,.pointer none),(1,jP b1),(2,jI (k2:Int)),(3,.int .u32 y35),(6,jI (k2:Int)),(11,jI (k36:Int))]∧Rs = [jk 205 b1 st3,aB]∧d7 m y35 k36=some E37) ((8:Int).toNat+1) [0,0] ⟨(IntKind.u32.wrap (k2:Int)),0,Z,Z,by exact hE38⟩ (by rfl) (by rfl) ?_
    rintro m40 _ _ ⟨y35,k36,rfl,rfl,hl42⟩
    clear hE38 h
    cases m40 with
    | zero =>
     rw[d7] at hl42
     cases hl42
    | succ m40 =>
     have h:=hl42
     clear hl42
     rw[d7] at h
     refine T.seq (T.region Z (TL.run aJ [0] Z Z ?_))
     rcases jF h with⟨c44,h⟩ | ⟨c44,h⟩
     ·refine TL.nil (X.seq (T.seq (Am Z (CN c44) (T.skip (X.seq (T.seq (T.block (T.seq (T.region Z (TL.run aJ [0] Z Z (TL.q Z .u (Ex.bitw Z Z Z) Z (TL.run aJ [2] Z Z (TL.nil (X.seq ?_))))))))))))))
      obtain⟨y46,h,hk47⟩:=CM h
      refine Bg (fun e Rs=>e = [(0,.pointer none),(1,jP b1),(2,jI (k2:Int)),(3,.int .u32 y46),(6,jI (k2:Int)),(11,jI (k36:Int))]∧Rs = [jk 205 b1 st3,aB]) ?_ ?_
      ·clear hk47
       rcases jF h with⟨c48,h⟩ | ⟨c48,h⟩
       ·refine Am Z (CN c48) (T.region Z (TL.run aJ [0] Z Z (TL.q Z .u (Ex.shr Z Z (by decide)) Z (TL.q Z .u (Ex.bitw Z Z Z) Z (TL.run aJ [3] Z Z ?_)))))
        cases h
        exact TL.nil (AB [0,0] ⟨Z,Z⟩ (by rfl) (by rfl))
       ·refine Ap Z (CO c48) (T.region Z (TL.run aJ [0] Z Z (TL.q Z .u (Ex.shr Z Z (by decide)) Z (TL.run aJ [2] Z Z ?_))))
        cases h
        exact TL.nil (AB [0,0] ⟨Z,Z⟩ (by rfl) (by rfl))
      ·rintro _ _ ⟨rfl,rfl⟩
       clear h
       have h:=hk47
       clear hk47
       try dsimp only at h
       replace h:=ak h
       obtain⟨c49,h⟩:=h
       exact Az (X.seq (T.region Z (TL.q Z .u (Ex.add Z Z c49) Z (TL.run aJ [1] Z Z (TL.nil (X.back (m':=m40) [0,0] (by omega) ⟨y46,k36+1,Z,Z,h⟩ (by rfl) (by rfl)))))))
     ·refine TL.nil (X.seq (T.seq (Ap Z (CO c44) ?_)))
      obtain rfl:=CP h
      replace h:=hO39
      clear hO39
      try dsimp only at h
      refine T.exit (Au (Au (AS (X.seq (T.region Z ?_)))))
      obtain⟨x50,hx51,h⟩:=CM h
      refine TL.run aJ [0,1,2,3] Z Z (TL.q Z .u (Ex.tIx (k:=k2) 0 Z Z Z Fc Fk Z hx51) Z (TL.tSt (k:=k2) 0 Z .u Z Z Fk Z hx51 (AC [0,0] Z ?_)))
      cases h
      exact TL.nil (Az (AB [0,0] ⟨Z,Z⟩ (by rfl) (by rfl)))
   ·rintro _ _ ⟨rfl,rfl⟩
    clear h
    have h:=hk34
    clear hk34
    try dsimp only at h
    replace h:=ak h
    obtain⟨c56,h⟩:=h
    exact X.seq (T.region Z (TL.q Z .u (Ex.add Z Z c56) Z (TL.run aJ [1] Z Z (TL.nil (X.back (m':=m7) [0,0] (by omega) ⟨k2+1,st33,Z,Z,h⟩ (by rfl) (by rfl))))))
  ·refine TL.nil (X.seq (T.seq (Ap Z (CO c11) ?_)))
   obtain rfl:=CP h
   replace h:=hO6
   clear hO6
   try dsimp only at h
   refine T.exit (Au (Au (AS (X.seq (T.seq (T.region Z (TL.run aJ [0,1] Z Z ?_)))))))
   obtain rfl:=CP h
   exact TL.nil (X.seq (T.ret (Ak [1,0] Tryz.results99 (Aj Z) ⟨_,Z,Z,Z⟩ (by rfl) (.inl Z))))
def cH (a2:List UInt8):Nat→Int→Nat→List Int→Option (Int×Nat×List Int)
 | 0,_,_,_=>none
 | m7+1,y1,k2,st3=>if (k2:Int)<(a2.length:Int) then ((a2[k2]?).bind fun ch12=>if 0≤(Go.bits .xor .u8 (IntKind.u8.wrap y1) (ch12.toNat:Int)) then ((st3[(Go.bits .xor .u8 (IntKind.u8.wrap y1) (ch12.toNat:Int)).toNat]?).bind fun x15=>if -9223372036854775808≤((k2:Int)+1)∧((k2:Int)+1)≤9223372036854775807 then (cH a2 m7 (Go.bits .xor .u32 x15 (rk .u32 y1 8)) (k2+1) st3) else none) else none) else some (y1,k2,st3)
def eP (st:List Int) (a1:Int) (a2:List UInt8):Option (Int×List Int):=(cH a2 (((a2.length:Int)).toNat+1) (Go.bits .xor .u32 4294967295 a1) 0 st).bind fun (y18,k19,st20)=>some ((Go.bits .xor .u32 4294967295 y18),st20)
theorem lD (g:Nat) (st:List Int) (a1:Int) (a2:List UInt8) (r:Int×List Int) (h:eP st a1 a2=some r):ay Tryz.prog 142 #[jP g,.int .u32 a1,jS a2] .triv (jk 205 g st) (fun v A' N=>v= .int .u32 r.1∧A'=jk 205 g r.2∧N = []):=by
 refine aL Tryz.func142 Z Tryz.ntmps142 Z ?_
 intro F w hX
 unfold eP at h
 refine T.seq (T.region Z (TL.run aJ [0] Z Z (TL.nil (X.seq (T.seq (T.region Z (TL.run aJ [0] Z Z (TL.q Z .u (Ex.notK Z) Z (TL.run aJ [2] Z Z (TL.nil (X.seq (T.seq (T.seq (T.region Z (TL.run aJ [0] Z Z ?_)))))))))))))))
 refine TL.q Z .u (AW Z CZ) Z (TL.run aJ [2] Z Z (TL.nil (X.seq (T.block ?_))))
 obtain⟨E4,hE5,hO6⟩:=CM h
 refine AV (fun m e Rs=> ∃ (y1:Int) (k2:Nat) (st3:List Int),e = [(0,jP g),(2,jS a2),(6,.int .u32 0),(7,.int .u32 y1),(12,jI (a2.length:Int)),(13,jI (k2:Int))]∧Rs = [jk 205 g st3]∧cH a2 m y1 k2 st3=some E4) (((a2.length:Int)).toNat+1) [0] ⟨(Go.bits .xor .u32 4294967295 a1),0,st,Z,Z,by exact hE5⟩ (by rfl) (by rfl) ?_
 rintro m7 _ _ ⟨y1,k2,st3,rfl,rfl,hl9⟩
 clear hE5 h
 cases m7 with
 | zero =>
  rw[cH] at hl9
  cases hl9
 | succ m7 =>
  have h:=hl9
  clear hl9
  rw[cH] at h
  refine T.seq (T.region Z (TL.run aJ [0] Z Z ?_))
  rcases jF h with⟨c11,h⟩ | ⟨c11,h⟩
  ·refine TL.nil (X.seq (T.seq (Am Z (CN c11) (T.skip (X.seq (T.seq (T.block (T.seq (T.region Z (TL.run aJ [0,1] Z Z ?_))))))))))
   refine TL.nil (X.seq (AH (.q 0 (.q 1 (.q 2 (.q 3 (.q 4 (.q 5 (.q 6 (.q 7 (.q 8 (.q 9 (.q 10 (.q 11 (.q 12 (.q 13 .nil)))))))))))))) [0] Z zR (NoP.blk (NoP.seq (NoP.seq (NoP.blk (NoP.seq aM))))) (by kernel_rfl) ?_))
   refine TD.run aJ [0,1] Z Z (TD.q Z .u (B8 Z DS D0) Z ?_)
   obtain⟨ch12,hc13,h⟩:=CM h
   refine TD.run aJ [3,4] Z Z (TD.q Z .u (B6 Z Z Z Tryz.underlying9 hc13) Z (TD.q Z .u (Ex.bitw Z Z Z) Z ?_))
   replace h:=ak h
   obtain⟨c14,h⟩:=h
   obtain⟨x15,hx16,h⟩:=CM h
   refine TD.run aJ [7] Z Z (TD.q Z .u (Ex.tIx (k:=(Go.bits .xor .u8 (IntKind.u8.wrap y1) (ch12.toNat:Int)).toNat) 0 Z Z ((Int.toNat_of_nonneg c14).symm) Fc Fk Z hx16) Z (TD.q Z .u (Ex.tLd (k:=(Go.bits .xor .u8 (IntKind.u8.wrap y1) (ch12.toNat:Int)).toNat) 0 Z Tryz.isAgg107 Z hx16) Z (TD.run aJ [10] Z Z (TD.q Z .u (Ex.shr Z Z (by decide)) Z (TD.q Z .u (Ex.bitw Z Z Z) Z (TD.run aJ [13] Z Z ?_))))))
   replace h:=ak h
   obtain⟨c17,h⟩:=h
   exact TD.nil (Az (X.seq (T.region Z (TL.q Z .u (Ex.add Z Z c17) Z (TL.run aJ [1] Z Z (TL.nil (X.back (m':=m7) [0] (by omega) ⟨(Go.bits .xor .u32 x15 (rk .u32 y1 8)),k2+1,st3,Z,Z,h⟩ (by rfl) (by rfl))))))))
  ·refine TL.nil (X.seq (T.seq (Ap Z (CO c11) ?_)))
   obtain rfl:=CP h
   replace h:=hO6
   clear hO6
   try dsimp only at h
   refine T.exit (Au (Au (AS (X.seq (T.seq (T.region Z (TL.run aJ [0] Z Z (TL.q Z .u (Ex.notK Z) Z (TL.run aJ [2] Z Z ?_)))))))))
   obtain rfl:=CP h
   exact TL.nil (X.seq (T.ret (Ak [0] Tryz.results142 (Aj Z) ⟨Z,Z,Z⟩ (by rfl) (.inl Z))))
def cm:List (List UInt8)→Int→List Int→Option (Int×List Int)
 | [],y3,st5=>some (y3,st5)
 | x10::xs,y3,st5=>(eP st5 y3 x10).bind fun (x14,st15)=>cm xs x14 st15
def es (st:List Int) (a1:List (List UInt8)):Option (Int×List Int):=(cm a1 0 st).bind fun (y17,st19)=>some (y17,st19)
theorem ej (g:Nat) (st:List Int) (a1:List (List UInt8)) (A1:Option Addr) (c2:Nat) (r:Int×List Int) (h:es st a1=some r):ay Tryz.prog 100 #[jP g,.slice A1 a1.length c2] (RX.of (av 1 uI) [.slice A1 a1.length c2] a1) (jk 205 g st) (fun v A' N=>v= .int .u32 r.1∧A'=jk 205 g r.2∧N = []):=by
 refine aL Tryz.func100 Z Tryz.ntmps100 Z ?_
 intro F w hX
 unfold es at h
 refine T.seq (T.region Z (TL.run aJ [0] Z Z (TL.nil (X.seq (T.seq (T.region Z (TL.run aJ [0] Z Z (TL.nil (X.seq (T.seq (T.seq (T.region Z (TL.run aJ [0] Z Z (TL.q Z .u (AA Z Fd) Z (TL.run aJ [2] Z Z ?_)))))))))))))))
 refine TL.nil (X.seq (T.block ?_))
 obtain⟨E6,hE7,hO8⟩:=CM h
 have hk12len:=Bf hX
 refine AV (fun m e Rs=> ∃ (y3:Int) (k4:Nat) (st5:List Int),k4+m=a1.length∧e = [(0,jP g),(4,.int .u32 0),(5,.int .u32 y3),(8,.slice A1 a1.length c2),(9,jI (a1.length:Int)),(10,jI (k4:Int))]∧Rs = [jk 205 g st5]∧cm (a1.drop k4) y3 st5=some E6) (a1.length) [0] ⟨0,0,st,by simp,Z,Z,by rw[List.drop_zero]; exact hE7⟩ (by rfl) (by rfl) ?_
 rintro m9 _ _ ⟨y3,k4,st5,hk12,rfl,rfl,hl11⟩
 clear hE7 h
 cases m9 with
 | zero =>
  have h:=hl11
  clear hl11
  rw[List.drop_of_length_le (by omega),cm] at h
  have hk12ge: ¬ ((k4:Int)<(a1.length:Int)):=by omega
  refine T.seq (T.region Z (TL.run aJ [0] Z Z (TL.nil (X.seq (T.seq (Ap Z (CO hk12ge) ?_))))))
  obtain rfl:=CP h
  replace h:=hO8
  clear hO8
  try dsimp only at h
  refine T.exit (Au (Au (AS (X.seq (T.seq (T.region Z (TL.run aJ [0,1] Z Z ?_)))))))
  obtain rfl:=CP h
  exact TL.nil (X.seq (T.ret (Ak [0] Tryz.results100 (Aj Z) ⟨Z,Z,Z⟩ (by rfl) (.inl Z))))
 | succ m9 =>
  have h:=hl11
  clear hl11
  obtain⟨x10,hxx10⟩: ∃ x,a1[k4]? = some x:=⟨_,List.getElem?_eq_getElem (by omega)⟩
  rw[bU hxx10,cm] at h
  have hk12lt:(k4:Int)<(a1.length:Int):=by omega
  refine T.seq (T.region Z (TL.run aJ [0] Z Z (TL.nil (X.seq (T.seq (Am Z (CN hk12lt) ?_))))))
  obtain⟨gz13,oz13,rfl,z13cs,z13cl,z13cc,z13nf,z13r⟩:=AK (by decide) hX hxx10
  obtain⟨z13S,z13r,z13rr⟩:=z13r
  obtain rfl:z13cs = [jS x10]:=z13r
  refine T.skip (X.seq (T.seq (T.block (T.seq (T.region Z ?_)))))
  refine TL.q Z .u (Aw (k:=k4) Z Z Z Fd DT (CU hxx10).1) Z ?_
  refine TL.q Z .u (AY 0 Z Dp z13nf z13cc Z Z) Z (TL.run aJ [2] Z Z (TL.nil (X.seq (T.region Z ?_))))
  obtain⟨⟨x14,st15⟩,hx16,h⟩:=CM h
  try dsimp only at h
  exact TL.run aJ [0,1,2] Z Z (AZ Z .u (.fn Tryz.call142 Z) (lD g st5 y3 x10 _ hx16) (fun _ hs=>(Src.triv _)) Z (TL.run aJ [4] Z Z (TL.nil (Az (X.seq (T.region Z (TL.q Z .u (Ex.add Z Z (by omega)) Z (TL.run aJ [1] Z Z (TL.nil (X.back (m':=m9) [0] (by omega) ⟨x14,k4+1,st15,by omega,Z,Z,h⟩ (by rfl) (by rfl)))))))))))
def xp:fv := [(160,0,0),(160,1,1),(160,2,2),(160,3,3),(160,4,4),(160,5,5),(160,6,6),(160,7,7),(160,8,8),(160,9,9),(160,10,10),(160,11,11),(203,0,0),(203,1,1)]
theorem aj:(xp).OK Tryz.prog:=⟨FOK.mk De rfl CY rfl,FOK.mk De rfl CY rfl,FOK.mk De rfl CY rfl,FOK.mk De rfl CY rfl,FOK.mk De rfl CY rfl,FOK.mk De rfl CY rfl,FOK.mk De rfl CY rfl,FOK.mk De rfl CY rfl,FOK.mk De rfl CY rfl,FOK.mk De rfl CY rfl,FOK.mk De rfl CY rfl,FOK.mk De rfl CY rfl,FOK.mk Fe rfl Tryz.sizeOf201 rfl,FOK.mk Fe rfl CY rfl,trivial⟩
theorem aS:Tryz.prog.follows .mixedOrders=true:=by kernel_rfl
theorem qj:BOK Tryz.prog 160 #[.int .i64 0,.int .i64 0,.int .i64 0,.int .i64 0,.int .i64 0,.int .i64 0,.int .i64 0,.int .i64 0,.int .i64 0,.int .i64 0,.int .i64 0,.int .i64 0] [(0,1),(1,1),(2,1),(3,1),(4,1),(5,1),(6,1),(7,1),(8,1),(9,1),(10,1),(11,1)]:=BOK.mk Tryz.zeroValue160 De (by intro w; simp)
theorem bA:BOK Tryz.prog 203 #[.pointer none,.int .i64 0] [(0,1),(1,1)]:=BOK.mk Tryz.zeroValue203 Fe (by intro w; simp)
theorem nl:SOK Tryz.prog 199 203 13 2 #[.pointer none,.int .i64 0,.pointer none,.int .i64 0,.pointer none,.int .i64 0,.pointer none,.int .i64 0,.pointer none,.int .i64 0,.pointer none,.int .i64 0,.pointer none,.int .i64 0,.pointer none,.int .i64 0,.pointer none,.int .i64 0,.pointer none,.int .i64 0,.pointer none,.int .i64 0,.pointer none,.int .i64 0,.pointer none,.int .i64 0]:=SOK.mk Dc C1 Tryz.zeroValue203 (by decide) (by kernel_rfl)
def gC (p0:Nat) (p1:Nat):Option (Unit):=some ()
theorem fc (p0:Nat) (p1:Nat) (r:Unit) (h:gC p0 p1=some r):ay Tryz.prog 141 #[jP p0,jP p1] .triv (aB) (fun v A' N=> ∃ q:Nat,v= .slice (some ⟨q,0,none⟩) 13 13∧A'=aB∧N = [aC q 203 #[jP p0,jI 8,.pointer (some ⟨p0,1,none⟩),jI 4,.pointer (some ⟨p0,2,none⟩),jI 4,jP p1,jI 1,.pointer (some ⟨p0,3,none⟩),jI 4,.pointer (some ⟨p0,4,none⟩),jI 2,.pointer (some ⟨p0,5,none⟩),jI 4,.pointer (some ⟨p0,6,none⟩),jI 8,.pointer (some ⟨p0,7,none⟩),jI 8,.pointer (some ⟨p0,8,none⟩),jI 8,.pointer (some ⟨p0,9,none⟩),jI 2,.pointer (some ⟨p0,10,none⟩),jI 4,.pointer (some ⟨p0,11,none⟩),jI 4]]):=by
 refine aL Tryz.func141 Z Tryz.ntmps141 Z ?_
 intro F w hX
 unfold gC at h
 refine T.seq (T.region Z (TL.run aj [0] Z Z ?_))
 refine TL.nil (X.seq (T.seq (AH (.q 0 (.q 1 (.q 2 (.q 3 (.q 4 (.q 5 (.q 6 (.q 7 (.q 8 (.q 9 (.q 10 (.q 11 (.q 12 (.q 13 (.q 14 (.q 15 (.q 16 (.q 17 (.q 18 (.q 19 (.q 20 (.q 21 (.q 22 (.q 23 (.q 24 (.q 25 (.q 26 (.q 27 (.q 28 (.q 29 (.q 30 (.q 31 (.q 32 (.q 33 (.q 34 (.q 35 (.q 36 (.q 37 (.q 38 (.q 39 (.q 40 (.q 41 (.q 42 (.q 43 (.q 44 (.q 45 (.q 46 (.q 47 (.q 48 (.q 49 (.e 50 (.q 51 .nil)))))))))))))))))))))))))))))))))))))))))))))))))))) [0] Z aS (NoP.seq aM) (by kernel_rfl) ?_)))
 refine TD.run aj [0,1,2] Z Z ?_
 refine TD.q Z .u (AD (cells:= #[jP p0,jI 8]) bA Z (by kernel_rfl)) Z ?_
 refine TD.run aj [4,5,6] Z Z ?_
 refine TD.q Z .u (AD (cells:= #[.pointer (some ⟨p0,1,none⟩),jI 4]) bA Z (by kernel_rfl)) Z ?_
 refine TD.run aj [8,9,10] Z Z ?_
 refine TD.q Z .u (AD (cells:= #[.pointer (some ⟨p0,2,none⟩),jI 4]) bA Z (by kernel_rfl)) Z ?_
 refine TD.run aj [12] Z Z ?_
 refine TD.q Z .u (AD (cells:= #[jP p1,jI 1]) bA Z (by kernel_rfl)) Z ?_
 refine TD.run aj [14,15,16] Z Z ?_
 refine TD.q Z .u (AD (cells:= #[.pointer (some ⟨p0,3,none⟩),jI 4]) bA Z (by kernel_rfl)) Z ?_
 refine TD.run aj [18,19,20] Z Z ?_
 refine TD.q Z .u (AD (cells:= #[.pointer (some ⟨p0,4,none⟩),jI 2]) bA Z (by kernel_rfl)) Z ?_
 refine TD.run aj [22,23,24] Z Z ?_
 refine TD.q Z .u (AD (cells:= #[.pointer (some ⟨p0,5,none⟩),jI 4]) bA Z (by kernel_rfl)) Z ?_
 refine TD.run aj [26,27,28] Z Z ?_
 refine TD.q Z .u (AD (cells:= #[.pointer (some ⟨p0,6,none⟩),jI 8]) bA Z (by kernel_rfl)) Z ?_
 refine TD.run aj [30,31,32] Z Z ?_
 refine TD.q Z .u (AD (cells:= #[.pointer (some ⟨p0,7,none⟩),jI 8]) bA Z (by kernel_rfl)) Z ?_
 refine TD.run aj [34,35,36] Z Z ?_
 refine TD.q Z .u (AD (cells:= #[.pointer (some ⟨p0,8,none⟩),jI 8]) bA Z (by kernel_rfl)) Z ?_
 refine TD.run aj [38,39,40] Z Z ?_
 refine TD.q Z .u (AD (cells:= #[.pointer (some ⟨p0,9,none⟩),jI 2]) bA Z (by kernel_rfl)) Z ?_
 refine TD.run aj [42,43,44] Z Z ?_
 refine TD.q Z .u (AD (cells:= #[.pointer (some ⟨p0,10,none⟩),jI 4]) bA Z (by kernel_rfl)) Z ?_
 refine TD.run aj [46,47,48] Z Z ?_
 refine TD.q Z .u (AD (cells:= #[.pointer (some ⟨p0,11,none⟩),jI 4]) bA Z (by kernel_rfl)) Z ?_
 refine Bx (cells:= #[jP p0,jI 8,.pointer (some ⟨p0,1,none⟩),jI 4,.pointer (some ⟨p0,2,none⟩),jI 4,jP p1,jI 1,.pointer (some ⟨p0,3,none⟩),jI 4,.pointer (some ⟨p0,4,none⟩),jI 2,.pointer (some ⟨p0,5,none⟩),jI 4,.pointer (some ⟨p0,6,none⟩),jI 8,.pointer (some ⟨p0,7,none⟩),jI 8,.pointer (some ⟨p0,8,none⟩),jI 8,.pointer (some ⟨p0,9,none⟩),jI 2,.pointer (some ⟨p0,10,none⟩),jI 4,.pointer (some ⟨p0,11,none⟩),jI 4]) Z .u nl Z (by kernel_rfl) Z [1] (fun _=>Z) (fun b1=> ?_)
 refine TD.run aj [51] Z Z ?_
 obtain rfl:=CP h
 exact TD.nil (X.seq (T.ret (Ak [1,0] Tryz.results141 (Aj Z) ⟨_,Z,Z,Z⟩ (by rfl) (.inl Z))))
def dk (st:List UInt8×Int) (a1:Pfx):Option (List UInt8×Int):=(if a1.CL<0 then some true else (if a1.CL>4294967295 then some true else some false)).bind fun y4=>(if y4=true then ((ku st 11).bind fun st14=>some st14) else some st).bind fun st11=>if -9223372036854775808≤(IntKind.i32.wrap (IntKind.u32.wrap a1.CL))∧(IntKind.i32.wrap (IntKind.u32.wrap a1.CL))≤9223372036854775807 then ((fa st11 a1.Cu 8).bind fun st19=>(fa st19 a1.CF 4).bind fun st22=>(fa st22 a1.Co 4).bind fun st25=>(fa st25 2 1).bind fun st28=>(fa st28 (IntKind.i32.wrap (IntKind.u32.wrap a1.CL)) 4).bind fun st31=>(fa st31 a1.CJ 2).bind fun st34=>(fa st34 a1.Cr 4).bind fun st37=>(fa st37 a1.Cl 8).bind fun st40=>(fa st40 a1.Cy 8).bind fun st43=>(fa st43 a1.Ci 8).bind fun st46=>(fa st46 a1.Cp 2).bind fun st49=>(fa st49 a1.Ch 4).bind fun st52=>(fa st52 a1.CK 4).bind fun st55=>some st55) else none
theorem fC (g:Nat) (st:List UInt8×Int) (a1:Pfx) (r:List UInt8×Int) (h:dk st a1=some r):ay Tryz.prog 98 #[jP g,.agg #[jI a1.Cu,jI a1.CF,jI a1.Co,jI a1.CL,jI a1.CJ,jI a1.Cr,jI a1.Cl,jI a1.Cy,jI a1.Ci,jI a1.Cp,jI a1.Ch,jI a1.CK]] .triv (aW g st) (fun v A' N=>v= .tuple #[]∧A'=aW g r∧N = []):=by
 refine aL Tryz.func98 Z Tryz.ntmps98 Z ?_
 intro F w hX
 unfold dk at h
 refine T.seq (T.region Z (TL.box Z .u Z Z (fun b1=>(TL.nil (X.seq (T.seq (T.region Z (TL.alloc Z .u Tryz.zeroValue3 Z (fun b2=>(Ay (cs':= #[jI 2]) Z .u Z Z CY Z Z Z Z (TL.nil (X.seq (T.seq (T.seq ?_))))))))))))))
 obtain⟨y4,h,hk5⟩:=CM h
 refine Bg (fun e Rs=>e = [(0,jP g),(3,jP b1),(4,jP b2),(14,.bool y4)]∧Rs = [aC b2 3 #[jI 2],aC b1 160 #[jI a1.Cu,jI a1.CF,jI a1.Co,jI a1.CL,jI a1.CJ,jI a1.Cr,jI a1.Cl,jI a1.Cy,jI a1.Ci,jI a1.Cp,jI a1.Ch,jI a1.CK],aW g st]) ?_ ?_
 ·clear hk5
  refine T.region Z (TL.run aj [0] Z Z (TL.q Z .u (Ai 1 Z CV Z Z) Z ?_))
  rcases jF h with⟨c6,h⟩ | ⟨c6,h⟩
  ·refine TL.run aj [2,3] Z Z ?_
   iterate 3 refine An Z (.gn Z Z (CN c6)) Z ?_
   refine TL.q Z .u (Aq Z (CN c6) Z) Z ?_
   cases h
   exact TL.nil (AB [0,0,0] ⟨Z,Z⟩ (by rfl) (by rfl))
  ·refine TL.run aj [2,3] Z Z (TL.q Z (.g Z Z (CO c6)) (Ao aj Z) Z (TL.q Z (.g Z Z (CO c6)) (Ai 1 Z CV Z Z) Z (TL.q Z (.g Z Z (CO c6)) (Ao aj Z) Z (TL.q Z .u (Ar Z (CO c6) Z) Z ?_))))
   rcases jF h with⟨c7,h⟩ | ⟨c7,h⟩
   ·cases h
    exact TL.nil (Bh (d:=14) (v':= .bool true) Z (congrArg Value.bool (CN c7)) (AB [0,0,0] ⟨Z,Z⟩ (by rfl) (by rfl)))
   ·cases h
    exact TL.nil (Bh (d:=14) (v':= .bool false) Z (congrArg Value.bool (CO c7)) (AB [0,0,0] ⟨Z,Z⟩ (by rfl) (by rfl)))
 ·rintro _ _ ⟨rfl,rfl⟩
  clear h
  have h:=hk5
  clear hk5
  try dsimp only at h
  refine X.seq ?_
  obtain⟨st11,h,hk12⟩:=CM h
  refine Bg (fun e Rs=>e = [(0,jP g),(3,jP b1),(4,jP b2)]∧Rs = [aC b2 3 #[jI 2],aC b1 160 #[jI a1.Cu,jI a1.CF,jI a1.Co,jI a1.CL,jI a1.CJ,jI a1.Cr,jI a1.Cl,jI a1.Cy,jI a1.Ci,jI a1.Cp,jI a1.Ch,jI a1.CK],aW g st11]) ?_ ?_
  ·clear hk12
   rcases jF h with⟨c13,h⟩ | ⟨c13,h⟩
   ·refine Am Z c13 (T.region Z ?_)
    obtain⟨st14,hx15,h⟩:=CM h
    refine TL.run aj [0] Z Z (BA Z .u (.fn Tryz.call69 Z) (gX g st 11 _ hx15) (fun _ hs=>(Src.triv _)) Z ?_)
    cases h
    exact TL.nil (AB [0,0,0] ⟨Z,Z⟩ (by rfl) (by rfl))
   ·replace c13:=CX c13
    refine Ap Z c13 ?_
    cases h
    exact T.skip (AB [0,0,0] ⟨Z,Z⟩ (by rfl) (by rfl))
  ·rintro _ _ ⟨rfl,rfl⟩
   clear h
   have h:=hk12
   clear hk12
   try dsimp only at h
   refine X.seq (T.seq (T.region Z (TL.run aj [0] Z Z (TL.q Z .u (Ai 1 Z CV Z Z) Z (TL.q Z .u (B8 Z DU DS) Z (TL.q Z .u (B8 Z DS Tryz.runUnderlying21) Z ?_))))))
   replace h:=ak h
   obtain⟨c16,h⟩:=h
   refine TL.q Z .u (Bz Z Tryz.runUnderlying21 DU c16) Z (TL.run aj [5] Z Z (BL (cs':= #[jI a1.Cu,jI a1.CF,jI a1.Co,jI (IntKind.i32.wrap (IntKind.u32.wrap a1.CL)),jI a1.CJ,jI a1.Cr,jI a1.Cl,jI a1.Cy,jI a1.Ci,jI a1.Cp,jI a1.Ch,jI a1.CK]) Z .u Z Z CY Z Z Z Z (TL.nil (X.seq (T.seq (T.region Z (AP Z .u (.fn Tryz.call141 Z) (fc b1 b2 () Z) (fun _ hs=>RX.reads_triv _ _) Z ?_)))))))
   rintro _ _ _ ⟨b17,rfl,rfl,rfl⟩
   refine AC [0,0,0,0] rfl (TL.q rfl .u (AA rfl Dc) rfl (TL.run aj [2] rfl rfl (TL.nil (X.seq (T.block (T.unroll0 (TW.step (T.seq (T.region rfl (TL.run aj [0] rfl rfl (TL.nil (X.seq (T.seq (Am rfl (CN (show 0<13 by omega)) ?_))))))))))))))
   refine T.skip (X.seq (T.seq (T.block (T.seq (T.region Z (TL.q Z .u (Be (k:=0) (r:=0) Z Z Z Dc C1 (by decide) Z) Z (TL.q Z .u (Av (us := [jP b1,jI 8]) 0 Z DA C1 Z Z Z) Z (TL.alloc Z .u Tryz.zeroValue203 Z (fun b18=>(Ay (cs':= #[jP b1,jI 8]) Z .u Z Z C1 Z Z Z Z ?_))))))))))
   refine TL.nil (X.seq (AH (.q 0 (.q 1 (.q 2 (.q 3 (.q 4 (.q 5 (.q 6 (.e 7 .nil)))))))) [0,0,0,0] Z aS (NoP.blk (NoP.seq (NoP.seq (NoP.blk aM)))) (by kernel_rfl) ?_))
   refine TD.run aj [0,1] Z Z (TD.q Z .u (Ai 0 Z DB Z Z) Z (TD.run aj [3] Z Z (TD.q Z .u (Ai 3 Z CV Z Z) Z (TD.run aj [5] Z Z (TD.q Z .u (Ai 0 Z CV Z Z) Z ?_)))))
   obtain⟨st19,hx20,h⟩:=CM h
   refine TD.c4 rfl .u (.fn Tryz.call71 rfl) (bK g st11 a1.Cu 8 _ hx20) (fun _ hs=>(Src.triv _)) rfl [0,0,0,0] (rfl) (TD.nil (Az (X.seq (T.region rfl (TL.q rfl .u (Ex.add rfl rfl (by omega)) rfl (TL.run aj [1] rfl rfl (TL.nil (Bv (TW.step (T.seq (T.region rfl (TL.run aj [0] rfl rfl (TL.nil (X.seq (T.seq (Am rfl (CN (show 1<13 by omega)) ?_))))))))))))))))
   refine T.skip (X.seq (T.seq (T.block (T.seq (T.region Z (TL.q Z .u (Be (k:=1) (r:=2) Z Z Z Dc C1 (by decide) Z) Z (TL.q Z .u (Av (us := [.pointer (some ⟨b1,1,none⟩),jI 4]) 1 Z DA C1 Z Z Z) Z (TL.alloc Z .u Tryz.zeroValue203 Z (fun b21=>(Ay (cs':= #[.pointer (some ⟨b1,1,none⟩),jI 4]) Z .u Z Z C1 Z Z Z Z ?_))))))))))
   refine TL.nil (X.seq (AH (.q 0 (.q 1 (.q 2 (.q 3 (.q 4 (.q 5 (.q 6 (.e 7 .nil)))))))) [0,0,0,0,0] Z aS (NoP.blk (NoP.seq (NoP.seq (NoP.blk aM)))) (by kernel_rfl) ?_))
   refine TD.run aj [0,1] Z Z (TD.q Z .u (Ai 0 Z DB Z Z) Z (TD.run aj [3] Z Z (TD.q Z .u (Ai 4 Z CV Z Z) Z (TD.run aj [5] Z Z (TD.q Z .u (Ai 0 Z CV Z Z) Z ?_)))))
   obtain⟨st22,hx23,h⟩:=CM h
   refine BI Z .u (.fn Tryz.call71 Z) (bK g st19 a1.CF 4 _ hx23) (fun _ hs=>(Src.triv _)) Z [0,0,0,0,0] (Z) (TD.nil (Az (X.seq (T.region Z (TL.q Z .u (Ex.add Z Z (by omega)) Z (TL.run aj [1] Z Z (TL.nil (AQ [0,1,1,1,1] Z (Bv (TW.step (T.seq (T.region Z (TL.run aj [0] Z Z ?_)))))))))))))
   refine TL.nil (X.seq (T.seq (Am rfl (CN (show 2<13 by omega)) (T.skip (X.seq (T.seq (T.block (T.seq (T.region rfl (TL.q rfl .u (Be (k:=2) (r:=4) rfl rfl rfl Dc C1 (by decide) rfl) rfl (TL.q rfl .u (Av (us := [.pointer (some ⟨b1,2,none⟩),jI 4]) 1 rfl DA C1 rfl rfl rfl) rfl (TL.alloc rfl .u Tryz.zeroValue203 rfl (fun b24=>(Ay (cs':= #[.pointer (some ⟨b1,2,none⟩),jI 4]) rfl .u rfl rfl C1 rfl rfl rfl rfl ?_))))))))))))))
   refine TL.nil (X.seq (AH (.q 0 (.q 1 (.q 2 (.q 3 (.q 4 (.q 5 (.q 6 (.e 7 .nil)))))))) [0,0,0,0,0] Z aS (NoP.blk (NoP.seq (NoP.seq (NoP.blk aM)))) (by kernel_rfl) ?_))
   refine TD.run aj [0,1] Z Z (TD.q Z .u (Ai 0 Z DB Z Z) Z (TD.run aj [3] Z Z (TD.q Z .u (Ai 4 Z CV Z Z) Z (TD.run aj [5] Z Z (TD.q Z .u (Ai 0 Z CV Z Z) Z ?_)))))
   obtain⟨st25,hx26,h⟩:=CM h
   refine BI Z .u (.fn Tryz.call71 Z) (bK g st22 a1.Co 4 _ hx26) (fun _ hs=>(Src.triv _)) Z [0,0,0,0,0] (Z) (TD.nil (Az (X.seq (T.region Z (TL.q Z .u (Ex.add Z Z (by omega)) Z (TL.run aj [1] Z Z (TL.nil (AQ [0,1,1,1,1] Z (Bv (TW.step (T.seq (T.region Z (TL.run aj [0] Z Z ?_)))))))))))))
   refine TL.nil (X.seq (T.seq (Am rfl (CN (show 3<13 by omega)) (T.skip (X.seq (T.seq (T.block (T.seq (T.region rfl (TL.q rfl .u (Be (k:=3) (r:=6) rfl rfl rfl Dc C1 (by decide) rfl) rfl (TL.q rfl .u (Av (us := [jP b2,jI 1]) 1 rfl DA C1 rfl rfl rfl) rfl (TL.alloc rfl .u Tryz.zeroValue203 rfl (fun b27=>(Ay (cs':= #[jP b2,jI 1]) rfl .u rfl rfl C1 rfl rfl rfl rfl ?_))))))))))))))
   refine TL.nil (X.seq (AH (.q 0 (.q 1 (.q 2 (.q 3 (.q 4 (.q 5 (.q 6 (.e 7 .nil)))))))) [0,0,0,0,0] Z aS (NoP.blk (NoP.seq (NoP.seq (NoP.blk aM)))) (by kernel_rfl) ?_))
   refine TD.run aj [0,1] Z Z (TD.q Z .u (Ai 0 Z DB Z Z) Z (TD.run aj [3] Z Z (TD.q Z .u (Ai 3 Z CV Z Z) Z (TD.run aj [5] Z Z (TD.q Z .u (Ai 0 Z CV Z Z) Z ?_)))))
   obtain⟨st28,hx29,h⟩:=CM h
   refine BI Z .u (.fn Tryz.call71 Z) (bK g st25 2 1 _ hx29) (fun _ hs=>(Src.triv _)) Z [0,0,0,0,0] (Z) (TD.nil (Az (X.seq (T.region Z (TL.q Z .u (Ex.add Z Z (by omega)) Z (TL.run aj [1] Z Z (TL.nil (AQ [0,1,1,1,1] Z (Bv (TW.step (T.seq (T.region Z (TL.run aj [0] Z Z ?_)))))))))))))
   refine TL.nil (X.seq (T.seq (Am rfl (CN (show 4<13 by omega)) (T.skip (X.seq (T.seq (T.block (T.seq (T.region rfl (TL.q rfl .u (Be (k:=4) (r:=8) rfl rfl rfl Dc C1 (by decide) rfl) rfl (TL.q rfl .u (Av (us := [.pointer (some ⟨b1,3,none⟩),jI 4]) 1 rfl DA C1 rfl rfl rfl) rfl (TL.alloc rfl .u Tryz.zeroValue203 rfl (fun b30=>(Ay (cs':= #[.pointer (some ⟨b1,3,none⟩),jI 4]) rfl .u rfl rfl C1 rfl rfl rfl rfl ?_))))))))))))))
   refine TL.nil (X.seq (AH (.q 0 (.q 1 (.q 2 (.q 3 (.q 4 (.q 5 (.q 6 (.e 7 .nil)))))))) [0,0,0,0,0] Z aS (NoP.blk (NoP.seq (NoP.seq (NoP.blk aM)))) (by kernel_rfl) ?_))
   refine TD.run aj [0,1] Z Z (TD.q Z .u (Ai 0 Z DB Z Z) Z (TD.run aj [3] Z Z (TD.q Z .u (Ai 4 Z CV Z Z) Z (TD.run aj [5] Z Z (TD.q Z .u (Ai 0 Z CV Z Z) Z ?_)))))
   obtain⟨st31,hx32,h⟩:=CM h
   refine BI Z .u (.fn Tryz.call71 Z) (bK g st28 (IntKind.i32.wrap (IntKind.u32.wrap a1.CL)) 4 _ hx32) (fun _ hs=>(Src.triv _)) Z [0,0,0,0,0] (Z) (TD.nil (Az (X.seq (T.region Z (TL.q Z .u (Ex.add Z Z (by omega)) Z (TL.run aj [1] Z Z (TL.nil (AQ [0,1,1,1,1] Z (Bv (TW.step (T.seq (T.region Z (TL.run aj [0] Z Z ?_)))))))))))))
   refine TL.nil (X.seq (T.seq (Am rfl (CN (show 5<13 by omega)) (T.skip (X.seq (T.seq (T.block (T.seq (T.region rfl (TL.q rfl .u (Be (k:=5) (r:=10) rfl rfl rfl Dc C1 (by decide) rfl) rfl (TL.q rfl .u (Av (us := [.pointer (some ⟨b1,4,none⟩),jI 2]) 1 rfl DA C1 rfl rfl rfl) rfl (TL.alloc rfl .u Tryz.zeroValue203 rfl (fun b33=>(Ay (cs':= #[.pointer (some ⟨b1,4,none⟩),jI 2]) rfl .u rfl rfl C1 rfl rfl rfl rfl ?_))))))))))))))
   refine TL.nil (X.seq (AH (.q 0 (.q 1 (.q 2 (.q 3 (.q 4 (.q 5 (.q 6 (.e 7 .nil)))))))) [0,0,0,0,0] Z aS (NoP.blk (NoP.seq (NoP.seq (NoP.blk aM)))) (by kernel_rfl) ?_))
   refine TD.run aj [0,1] Z Z (TD.q Z .u (Ai 0 Z DB Z Z) Z (TD.run aj [3] Z Z (TD.q Z .u (Ai 4 Z CV Z Z) Z (TD.run aj [5] Z Z (TD.q Z .u (Ai 0 Z CV Z Z) Z ?_)))))
   obtain⟨st34,hx35,h⟩:=CM h
   refine BI Z .u (.fn Tryz.call71 Z) (bK g st31 a1.CJ 2 _ hx35) (fun _ hs=>(Src.triv _)) Z [0,0,0,0,0] (Z) (TD.nil (Az (X.seq (T.region Z (TL.q Z .u (Ex.add Z Z (by omega)) Z (TL.run aj [1] Z Z (TL.nil (AQ [0,1,1,1,1] Z (Bv (TW.step (T.seq (T.region Z (TL.run aj [0] Z Z ?_)))))))))))))
   refine TL.nil (X.seq (T.seq (Am rfl (CN (show 6<13 by omega)) (T.skip (X.seq (T.seq (T.block (T.seq (T.region rfl (TL.q rfl .u (Be (k:=6) (r:=12) rfl rfl rfl Dc C1 (by decide) rfl) rfl (TL.q rfl .u (Av (us := [.pointer (some ⟨b1,5,none⟩),jI 4]) 1 rfl DA C1 rfl rfl rfl) rfl (TL.alloc rfl .u Tryz.zeroValue203 rfl (fun b36=>(Ay (cs':= #[.pointer (some ⟨b1,5,none⟩),jI 4]) rfl .u rfl rfl C1 rfl rfl rfl rfl ?_))))))))))))))
   refine TL.nil (X.seq (AH (.q 0 (.q 1 (.q 2 (.q 3 (.q 4 (.q 5 (.q 6 (.e 7 .nil)))))))) [0,0,0,0,0] Z aS (NoP.blk (NoP.seq (NoP.seq (NoP.blk aM)))) (by kernel_rfl) ?_))
   refine TD.run aj [0,1] Z Z (TD.q Z .u (Ai 0 Z DB Z Z) Z (TD.run aj [3] Z Z (TD.q Z .u (Ai 4 Z CV Z Z) Z (TD.run aj [5] Z Z (TD.q Z .u (Ai 0 Z CV Z Z) Z ?_)))))
   obtain⟨st37,hx38,h⟩:=CM h
   refine BI Z .u (.fn Tryz.call71 Z) (bK g st34 a1.Cr 4 _ hx38) (fun _ hs=>(Src.triv _)) Z [0,0,0,0,0] (Z) (TD.nil (Az (X.seq (T.region Z (TL.q Z .u (Ex.add Z Z (by omega)) Z (TL.run aj [1] Z Z (TL.nil (AQ [0,1,1,1,1] Z (Bv (TW.step (T.seq (T.region Z (TL.run aj [0] Z Z ?_)))))))))))))
   refine TL.nil (X.seq (T.seq (Am rfl (CN (show 7<13 by omega)) (T.skip (X.seq (T.seq (T.block (T.seq (T.region rfl (TL.q rfl .u (Be (k:=7) (r:=14) rfl rfl rfl Dc C1 (by decide) rfl) rfl (TL.q rfl .u (Av (us := [.pointer (some ⟨b1,6,none⟩),jI 8]) 1 rfl DA C1 rfl rfl rfl) rfl (TL.alloc rfl .u Tryz.zeroValue203 rfl (fun b39=>(Ay (cs':= #[.pointer (some ⟨b1,6,none⟩),jI 8]) rfl .u rfl rfl C1 rfl rfl rfl rfl ?_))))))))))))))
   refine TL.nil (X.seq (AH (.q 0 (.q 1 (.q 2 (.q 3 (.q 4 (.q 5 (.q 6 (.e 7 .nil)))))))) [0,0,0,0,0] Z aS (NoP.blk (NoP.seq (NoP.seq (NoP.blk aM)))) (by kernel_rfl) ?_))
   refine TD.run aj [0,1] Z Z (TD.q Z .u (Ai 0 Z DB Z Z) Z (TD.run aj [3] Z Z (TD.q Z .u (Ai 4 Z CV Z Z) Z (TD.run aj [5] Z Z (TD.q Z .u (Ai 0 Z CV Z Z) Z ?_)))))
   obtain⟨st40,hx41,h⟩:=CM h
   refine BI Z .u (.fn Tryz.call71 Z) (bK g st37 a1.Cl 8 _ hx41) (fun _ hs=>(Src.triv _)) Z [0,0,0,0,0] (Z) (TD.nil (Az (X.seq (T.region Z (TL.q Z .u (Ex.add Z Z (by omega)) Z (TL.run aj [1] Z Z (TL.nil (AQ [0,1,1,1,1] Z (Bv (TW.step (T.seq (T.region Z (TL.run aj [0] Z Z ?_)))))))))))))
   refine TL.nil (X.seq (T.seq (Am rfl (CN (show 8<13 by omega)) (T.skip (X.seq (T.seq (T.block (T.seq (T.region rfl (TL.q rfl .u (Be (k:=8) (r:=16) rfl rfl rfl Dc C1 (by decide) rfl) rfl (TL.q rfl .u (Av (us := [.pointer (some ⟨b1,7,none⟩),jI 8]) 1 rfl DA C1 rfl rfl rfl) rfl (TL.alloc rfl .u Tryz.zeroValue203 rfl (fun b42=>(Ay (cs':= #[.pointer (some ⟨b1,7,none⟩),jI 8]) rfl .u rfl rfl C1 rfl rfl rfl rfl ?_))))))))))))))
   refine TL.nil (X.seq (AH (.q 0 (.q 1 (.q 2 (.q 3 (.q 4 (.q 5 (.q 6 (.e 7 .nil)))))))) [0,0,0,0,0] Z aS (NoP.blk (NoP.seq (NoP.seq (NoP.blk aM)))) (by kernel_rfl) ?_))
   refine TD.run aj [0,1] Z Z (TD.q Z .u (Ai 0 Z DB Z Z) Z (TD.run aj [3] Z Z (TD.q Z .u (Ai 4 Z CV Z Z) Z (TD.run aj [5] Z Z (TD.q Z .u (Ai 0 Z CV Z Z) Z ?_)))))
   obtain⟨st43,hx44,h⟩:=CM h
   refine BI Z .u (.fn Tryz.call71 Z) (bK g st40 a1.Cy 8 _ hx44) (fun _ hs=>(Src.triv _)) Z [0,0,0,0,0] (Z) (TD.nil (Az (X.seq (T.region Z (TL.q Z .u (Ex.add Z Z (by omega)) Z (TL.run aj [1] Z Z (TL.nil (AQ [0,1,1,1,1] Z (Bv (TW.step (T.seq (T.region Z (TL.run aj [0] Z Z ?_)))))))))))))
   refine TL.nil (X.seq (T.seq (Am rfl (CN (show 9<13 by omega)) (T.skip (X.seq (T.seq (T.block (T.seq (T.region rfl (TL.q rfl .u (Be (k:=9) (r:=18) rfl rfl rfl Dc C1 (by decide) rfl) rfl (TL.q rfl .u (Av (us := [.pointer (some ⟨b1,8,none⟩),jI 8]) 1 rfl DA C1 rfl rfl rfl) rfl (TL.alloc rfl .u Tryz.zeroValue203 rfl (fun b45=>(Ay (cs':= #[.pointer (some ⟨b1,8,none⟩),jI 8]) rfl .u rfl rfl C1 rfl rfl rfl rfl ?_))))))))))))))
   refine TL.nil (X.seq (AH (.q 0 (.q 1 (.q 2 (.q 3 (.q 4 (.q 5 (.q 6 (.e 7 .nil)))))))) [0,0,0,0,0] Z aS (NoP.blk (NoP.seq (NoP.seq (NoP.blk aM)))) (by kernel_rfl) ?_))
   refine TD.run aj [0,1] Z Z (TD.q Z .u (Ai 0 Z DB Z Z) Z (TD.run aj [3] Z Z (TD.q Z .u (Ai 4 Z CV Z Z) Z (TD.run aj [5] Z Z (TD.q Z .u (Ai 0 Z CV Z Z) Z ?_)))))
   obtain⟨st46,hx47,h⟩:=CM h
   refine BI Z .u (.fn Tryz.call71 Z) (bK g st43 a1.Ci 8 _ hx47) (fun _ hs=>(Src.triv _)) Z [0,0,0,0,0] (Z) (TD.nil (Az (X.seq (T.region Z (TL.q Z .u (Ex.add Z Z (by omega)) Z (TL.run aj [1] Z Z (TL.nil (AQ [0,1,1,1,1] Z (Bv (TW.step (T.seq (T.region Z (TL.run aj [0] Z Z ?_)))))))))))))
   refine TL.nil (X.seq (T.seq (Am rfl (CN (show 10<13 by omega)) (T.skip (X.seq (T.seq (T.block (T.seq (T.region rfl (TL.q rfl .u (Be (k:=10) (r:=20) rfl rfl rfl Dc C1 (by decide) rfl) rfl (TL.q rfl .u (Av (us := [.pointer (some ⟨b1,9,none⟩),jI 2]) 1 rfl DA C1 rfl rfl rfl) rfl (TL.alloc rfl .u Tryz.zeroValue203 rfl (fun b48=>(Ay (cs':= #[.pointer (some ⟨b1,9,none⟩),jI 2]) rfl .u rfl rfl C1 rfl rfl rfl rfl ?_))))))))))))))
   refine TL.nil (X.seq (AH (.q 0 (.q 1 (.q 2 (.q 3 (.q 4 (.q 5 (.q 6 (.e 7 .nil)))))))) [0,0,0,0,0] Z aS (NoP.blk (NoP.seq (NoP.seq (NoP.blk aM)))) (by kernel_rfl) ?_))
   refine TD.run aj [0,1] Z Z (TD.q Z .u (Ai 0 Z DB Z Z) Z (TD.run aj [3] Z Z (TD.q Z .u (Ai 4 Z CV Z Z) Z (TD.run aj [5] Z Z (TD.q Z .u (Ai 0 Z CV Z Z) Z ?_)))))
   obtain⟨st49,hx50,h⟩:=CM h
   refine BI Z .u (.fn Tryz.call71 Z) (bK g st46 a1.Cp 2 _ hx50) (fun _ hs=>(Src.triv _)) Z [0,0,0,0,0] (Z) (TD.nil (Az (X.seq (T.region Z (TL.q Z .u (Ex.add Z Z (by omega)) Z (TL.run aj [1] Z Z (TL.nil (AQ [0,1,1,1,1] Z (Bv (TW.step (T.seq (T.region Z (TL.run aj [0] Z Z ?_)))))))))))))
   refine TL.nil (X.seq (T.seq (Am rfl (CN (show 11<13 by omega)) (T.skip (X.seq (T.seq (T.block (T.seq (T.region rfl (TL.q rfl .u (Be (k:=11) (r:=22) rfl rfl rfl Dc C1 (by decide) rfl) rfl (TL.q rfl .u (Av (us := [.pointer (some ⟨b1,10,none⟩),jI 4]) 1 rfl DA C1 rfl rfl rfl) rfl (TL.alloc rfl .u Tryz.zeroValue203 rfl (fun b51=>(Ay (cs':= #[.pointer (some ⟨b1,10,none⟩),jI 4]) rfl .u rfl rfl C1 rfl rfl rfl rfl ?_))))))))))))))
   refine TL.nil (X.seq (AH (.q 0 (.q 1 (.q 2 (.q 3 (.q 4 (.q 5 (.q 6 (.e 7 .nil)))))))) [0,0,0,0,0] Z aS (NoP.blk (NoP.seq (NoP.seq (NoP.blk aM)))) (by kernel_rfl) ?_))
   refine TD.run aj [0,1] Z Z (TD.q Z .u (Ai 0 Z DB Z Z) Z (TD.run aj [3] Z Z (TD.q Z .u (Ai 4 Z CV Z Z) Z (TD.run aj [5] Z Z (TD.q Z .u (Ai 0 Z CV Z Z) Z ?_)))))
   obtain⟨st52,hx53,h⟩:=CM h
   refine BI Z .u (.fn Tryz.call71 Z) (bK g st49 a1.Ch 4 _ hx53) (fun _ hs=>(Src.triv _)) Z [0,0,0,0,0] (Z) (TD.nil (Az (X.seq (T.region Z (TL.q Z .u (Ex.add Z Z (by omega)) Z (TL.run aj [1] Z Z (TL.nil (AQ [0,1,1,1,1] Z (Bv (TW.step (T.seq (T.region Z (TL.run aj [0] Z Z ?_)))))))))))))
   refine TL.nil (X.seq (T.seq (Am rfl (CN (show 12<13 by omega)) (T.skip (X.seq (T.seq (T.block (T.seq (T.region rfl (TL.q rfl .u (Be (k:=12) (r:=24) rfl rfl rfl Dc C1 (by decide) rfl) rfl (TL.q rfl .u (Av (us := [.pointer (some ⟨b1,11,none⟩),jI 4]) 1 rfl DA C1 rfl rfl rfl) rfl (TL.alloc rfl .u Tryz.zeroValue203 rfl (fun b54=>(Ay (cs':= #[.pointer (some ⟨b1,11,none⟩),jI 4]) rfl .u rfl rfl C1 rfl rfl rfl rfl ?_))))))))))))))
   refine TL.nil (X.seq (AH (.q 0 (.q 1 (.q 2 (.q 3 (.q 4 (.q 5 (.q 6 (.e 7 .nil)))))))) [0,0,0,0,0] Z aS (NoP.blk (NoP.seq (NoP.seq (NoP.blk aM)))) (by kernel_rfl) ?_))
   refine TD.run aj [0,1] Z Z (TD.q Z .u (Ai 0 Z DB Z Z) Z (TD.run aj [3] Z Z (TD.q Z .u (Ai 4 Z CV Z Z) Z (TD.run aj [5] Z Z (TD.q Z .u (Ai 0 Z CV Z Z) Z ?_)))))
   obtain⟨st55,hx56,h⟩:=CM h
   refine BI Z .u (.fn Tryz.call71 Z) (bK g st52 a1.CK 4 _ hx56) (fun _ hs=>(Src.triv _)) Z [0,0,0,0,0] (Z) (TD.nil (Az (X.seq (T.region Z (TL.q Z .u (Ex.add Z Z (by omega)) Z (TL.run aj [1] Z Z (TL.nil (AQ [0,1,1,1,1] Z (Bv (TW.step (T.seq (T.region Z (TL.run aj [0] Z Z ?_)))))))))))))
   refine TL.nil (X.seq (T.seq (Ap rfl (CO (show ¬ (13<13) by omega)) ?_)))
   obtain rfl:=CP h
   exact T.exit (Au (Au (AS (BH [4] Tryz.results98 ⟨Z,Z,Z⟩ (by rfl) (.inr Z)))))
def gV (st:I)  : Option (Pfx×I):=(fG st 8).bind fun (x6,st7)=>(fG st7 4).bind fun (x10,st11)=>(fG st11 4).bind fun (x14,st15)=>(fG st15 1).bind fun (x18,st19)=>(fG st19 4).bind fun (x22,st23)=>(fG st23 2).bind fun (x26,st27)=>(fG st27 4).bind fun (x30,st31)=>(fG st31 8).bind fun (x34,st35)=>(fG st35 8).bind fun (x38,st39)=>(fG st39 8).bind fun (x42,st43)=>(fG st43 2).bind fun (x46,st47)=>(fG st47 4).bind fun (x50,st51)=>(fG st51 4).bind fun (x54,st55)=>(iD st55).bind fun (x57,st58)=>(if x57=0 then ((if x18=2 then ((if x10<49 then ((bE st58 4).bind fun st164=>some st164) else ((if x54<0 then ((bE st58 10).bind fun st172=>some st172) else some st58).bind fun st169=>some st169)).bind fun st161=>some st161) else ((bE st58 6).bind fun st174=>some st174)).bind fun st147=>some st147) else some st58).bind fun st117=>(iD st117).bind fun (x176,st177)=>if x176=0 then (some ((⟨x6,x10,x14,(Go.bits .and .i64 x22 4294967295),x26,x30,x34,x38,x42,x46,x50,x54⟩:Pfx),st177)) else (some ((⟨0,0,0,0,0,0,0,0,0,0,0,0⟩:Pfx),st177))
theorem mO (g:Nat) (st:I)  (r:Pfx×I) (h:gV st  = some r):ay Tryz.prog 108 #[jP g] .triv (InR g st) (fun v A' N=>v= .agg #[jI r.1.Cu,jI r.1.CF,jI r.1.Co,jI r.1.CL,jI r.1.CJ,jI r.1.Cr,jI r.1.Cl,jI r.1.Cy,jI r.1.Ci,jI r.1.Cp,jI r.1.Ch,jI r.1.CK]∧A'=InR g r.2∧N = []):=by
 refine aL Tryz.func108 Z Tryz.ntmps108 Z ?_
 intro F w hX
 unfold gV at h
 refine T.seq (T.region Z (TL.alloc Z .u Tryz.zeroValue160 Z (fun b1=>(TL.nil (X.seq (T.seq (T.region Z (TL.alloc Z .u Tryz.zeroValue160 Z (fun b2=>(TL.nil (X.seq (T.seq (T.region Z (TL.alloc Z .u Tryz.zeroValue3 Z (fun b3=>(Ay (cs':= #[jI 0]) Z .u Z Z CY Z Z Z Z (TL.nil (X.seq (T.seq (T.seq (T.region Z ?_)))))))))))))))))))))
 refine AP Z .u (.fn Tryz.call141 Z) (fc b2 b3 () Z) (fun _ hs=>RX.reads_triv _ _) Z ?_
 rintro _ _ _ ⟨b4,rfl,rfl,rfl⟩
 refine AC [0,0,0,0,0] rfl (TL.q rfl .u (AA rfl Dc) rfl (TL.run aj [2] rfl rfl (TL.nil (X.seq (T.block (T.unroll0 (TW.step (T.seq (T.region rfl (TL.run aj [0] rfl rfl (TL.nil (X.seq (T.seq (Am rfl (CN (show 0<13 by omega)) ?_))))))))))))))
 refine T.skip (X.seq (T.seq (T.block (T.seq (T.region Z (TL.q Z .u (Be (k:=0) (r:=0) Z Z Z Dc C1 (by decide) Z) Z (TL.q Z .u (Av (us := [jP b2,jI 8]) 0 Z DA C1 Z Z Z) Z (TL.alloc Z .u Tryz.zeroValue203 Z (fun b5=>(Ay (cs':= #[jP b2,jI 8]) Z .u Z Z C1 Z Z Z Z ?_))))))))))
 refine TL.nil (X.seq (AH (.q 0 (.q 1 (.q 2 (.q 3 (.q 4 (.e 5 (.q 6 (.e 7 .nil)))))))) [0,0,0,1] Z aS (NoP.blk (NoP.seq (NoP.seq (NoP.blk (NoP.seq aM))))) (by kernel_rfl) ?_))
 refine TD.run aj [0] Z Z (TD.q Z .u (Ai 0 Z DB Z Z) Z (TD.run aj [2,3] Z Z (TD.q Z .u (Ai 0 Z CV Z Z) Z ?_)))
 obtain⟨⟨x6,st7⟩,hx8,h⟩:=CM h
 try dsimp only at h
 refine BI Z .u (.fn Tryz.call57 Z) (bN g st 8 _ hx8) (fun _ hs=>(Src.triv _)) Z [0,0,0,1] (Z) (TD.run aj [6] Z Z (BS (cs':= #[jI x6,jI 0,jI 0,jI 0,jI 0,jI 0,jI 0,jI 0,jI 0,jI 0,jI 0,jI 0]) Z .u Z Z CY Z Z Z Z [0,0,0,1] (Z) (TD.nil (Az (X.seq (T.region Z (TL.q Z .u (Ex.add Z Z (by omega)) Z (TL.run aj [1] Z Z (TL.nil (Bv (TW.step (T.seq (T.region Z (TL.run aj [0] Z Z ?_))))))))))))))
 refine TL.nil (X.seq (T.seq (Am rfl (CN (show 1<13 by omega)) (T.skip (X.seq (T.seq (T.block (T.seq (T.region rfl (TL.q rfl .u (Be (k:=1) (r:=2) rfl rfl rfl Dc C1 (by decide) rfl) rfl (TL.q rfl .u (Av (us := [.pointer (some ⟨b2,1,none⟩),jI 4]) 1 rfl DA C1 rfl rfl rfl) rfl (TL.alloc rfl .u Tryz.zeroValue203 rfl (fun b9=>(Ay (cs':= #[.pointer (some ⟨b2,1,none⟩),jI 4]) rfl .u rfl rfl C1 rfl rfl rfl rfl ?_))))))))))))))
 refine TL.nil (X.seq (AH (.q 0 (.q 1 (.q 2 (.q 3 (.q 4 (.e 5 (.q 6 (.e 7 .nil)))))))) [0,0,0,0,1] Z aS (NoP.blk (NoP.seq (NoP.seq (NoP.blk (NoP.seq aM))))) (by kernel_rfl) ?_))
 refine TD.run aj [0] Z Z (TD.q Z .u (Ai 0 Z DB Z Z) Z (TD.run aj [2,3] Z Z (TD.q Z .u (Ai 0 Z CV Z Z) Z ?_)))
 obtain⟨⟨x10,st11⟩,hx12,h⟩:=CM h
 try dsimp only at h
 refine BM Z .u (.fn Tryz.call57 Z) (bN g st7 4 _ hx12) (fun _ hs=>(Src.triv _)) Z [0,0,0,0,1] (Z) (TD.run aj [6] Z Z (BE (cs':= #[jI x6,jI x10,jI 0,jI 0,jI 0,jI 0,jI 0,jI 0,jI 0,jI 0,jI 0,jI 0]) Z .u Z Z CY Z Z Z Z [0,0,0,0,1] (Z) (TD.nil (Az (X.seq (T.region Z (TL.q Z .u (Ex.add Z Z (by omega)) Z (TL.run aj [1] Z Z (TL.nil (AQ [0,1,1,1,1,1] Z ?_))))))))))
 refine Bv (TW.step (T.seq (T.region rfl (TL.run aj [0] rfl rfl (TL.nil (X.seq (T.seq (Am rfl (CN (show 2<13 by omega)) (T.skip (X.seq (T.seq (T.block (T.seq (T.region rfl (TL.q rfl .u (Be (k:=2) (r:=4) rfl rfl rfl Dc C1 (by decide) rfl) rfl (TL.q rfl .u (Av (us := [.pointer (some ⟨b2,2,none⟩),jI 4]) 1 rfl DA C1 rfl rfl rfl) rfl (TL.alloc rfl .u Tryz.zeroValue203 rfl (fun b13=> ?_))))))))))))))))))
 refine Ay (cs':= #[.pointer (some ⟨b2,2,none⟩),jI 4]) Z .u Z Z C1 Z Z Z Z ?_
 refine TL.nil (X.seq (AH (.q 0 (.q 1 (.q 2 (.q 3 (.q 4 (.e 5 (.q 6 (.e 7 .nil)))))))) [0,0,0,0,1] Z aS (NoP.blk (NoP.seq (NoP.seq (NoP.blk (NoP.seq aM))))) (by kernel_rfl) ?_))
 refine TD.run aj [0] Z Z (TD.q Z .u (Ai 0 Z DB Z Z) Z (TD.run aj [2,3] Z Z (TD.q Z .u (Ai 0 Z CV Z Z) Z ?_)))
 obtain⟨⟨x14,st15⟩,hx16,h⟩:=CM h
 try dsimp only at h
 refine BM Z .u (.fn Tryz.call57 Z) (bN g st11 4 _ hx16) (fun _ hs=>(Src.triv _)) Z [0,0,0,0,1] (Z) (TD.run aj [6] Z Z (BE (cs':= #[jI x6,jI x10,jI x14,jI 0,jI 0,jI 0,jI 0,jI 0,jI 0,jI 0,jI 0,jI 0]) Z .u Z Z CY Z Z Z Z [0,0,0,0,1] (Z) (TD.nil (Az (X.seq (T.region Z (TL.q Z .u (Ex.add Z Z (by omega)) Z (TL.run aj [1] Z Z (TL.nil (AQ [0,1,1,1,1,1] Z ?_))))))))))
 refine Bv (TW.step (T.seq (T.region rfl (TL.run aj [0] rfl rfl (TL.nil (X.seq (T.seq (Am rfl (CN (show 3<13 by omega)) (T.skip (X.seq (T.seq (T.block (T.seq (T.region rfl (TL.q rfl .u (Be (k:=3) (r:=6) rfl rfl rfl Dc C1 (by decide) rfl) rfl (TL.q rfl .u (Av (us := [jP b3,jI 1]) 1 rfl DA C1 rfl rfl rfl) rfl (TL.alloc rfl .u Tryz.zeroValue203 rfl (fun b17=> ?_))))))))))))))))))
 refine Ay (cs':= #[jP b3,jI 1]) Z .u Z Z C1 Z Z Z Z ?_
 refine TL.nil (X.seq (AH (.q 0 (.q 1 (.q 2 (.q 3 (.q 4 (.e 5 (.q 6 (.e 7 .nil)))))))) [0,0,0,1,1] Z aS (NoP.blk (NoP.seq (NoP.seq (NoP.blk (NoP.seq aM))))) (by kernel_rfl) ?_))
 refine TD.run aj [0] Z Z (TD.q Z .u (Ai 0 Z DB Z Z) Z (TD.run aj [2,3] Z Z (TD.q Z .u (Ai 0 Z CV Z Z) Z ?_)))
 obtain⟨⟨x18,st19⟩,hx20,h⟩:=CM h
 try dsimp only at h
 refine BM Z .u (.fn Tryz.call57 Z) (bN g st15 1 _ hx20) (fun _ hs=>(Src.triv _)) Z [0,0,0,1,1] (Z) (TD.run aj [6] Z Z (BS (cs':= #[jI x18]) Z .u Z Z CY Z Z Z Z [0,0,0,1,1] (Z) (TD.nil (Az (X.seq (T.region Z (TL.q Z .u (Ex.add Z Z (by omega)) Z (TL.run aj [1] Z Z (TL.nil (AQ [0,1,1,1,1,1] Z ?_))))))))))
 refine Bv (TW.step (T.seq (T.region rfl (TL.run aj [0] rfl rfl (TL.nil (X.seq (T.seq (Am rfl (CN (show 4<13 by omega)) (T.skip (X.seq (T.seq (T.block (T.seq (T.region rfl (TL.q rfl .u (Be (k:=4) (r:=8) rfl rfl rfl Dc C1 (by decide) rfl) rfl (TL.q rfl .u (Av (us := [.pointer (some ⟨b2,3,none⟩),jI 4]) 1 rfl DA C1 rfl rfl rfl) rfl (TL.alloc rfl .u Tryz.zeroValue203 rfl (fun b21=> ?_))))))))))))))))))
 refine Ay (cs':= #[.pointer (some ⟨b2,3,none⟩),jI 4]) Z .u Z Z C1 Z Z Z Z ?_
 refine TL.nil (X.seq (AH (.q 0 (.q 1 (.q 2 (.q 3 (.q 4 (.e 5 (.q 6 (.e 7 .nil)))))))) [0,0,0,0,1] Z aS (NoP.blk (NoP.seq (NoP.seq (NoP.blk (NoP.seq aM))))) (by kernel_rfl) ?_))
 refine TD.run aj [0] Z Z (TD.q Z .u (Ai 0 Z DB Z Z) Z (TD.run aj [2,3] Z Z (TD.q Z .u (Ai 0 Z CV Z Z) Z ?_)))
 obtain⟨⟨x22,st23⟩,hx24,h⟩:=CM h
 try dsimp only at h
 refine BM Z .u (.fn Tryz.call57 Z) (bN g st19 4 _ hx24) (fun _ hs=>(Src.triv _)) Z [0,0,0,0,1] (Z) (TD.run aj [6] Z Z (BE (cs':= #[jI x6,jI x10,jI x14,jI x22,jI 0,jI 0,jI 0,jI 0,jI 0,jI 0,jI 0,jI 0]) Z .u Z Z CY Z Z Z Z [0,0,0,0,1] (Z) (TD.nil (Az (X.seq (T.region Z (TL.q Z .u (Ex.add Z Z (by omega)) Z (TL.run aj [1] Z Z (TL.nil (AQ [0,1,1,1,1,1] Z ?_))))))))))
 refine Bv (TW.step (T.seq (T.region rfl (TL.run aj [0] rfl rfl (TL.nil (X.seq (T.seq (Am rfl (CN (show 5<13 by omega)) (T.skip (X.seq (T.seq (T.block (T.seq (T.region rfl (TL.q rfl .u (Be (k:=5) (r:=10) rfl rfl rfl Dc C1 (by decide) rfl) rfl (TL.q rfl .u (Av (us := [.pointer (some ⟨b2,4,none⟩),jI 2]) 1 rfl DA C1 rfl rfl rfl) rfl (TL.alloc rfl .u Tryz.zeroValue203 rfl (fun b25=> ?_))))))))))))))))))
 refine Ay (cs':= #[.pointer (some ⟨b2,4,none⟩),jI 2]) Z .u Z Z C1 Z Z Z Z ?_
 refine TL.nil (X.seq (AH (.q 0 (.q 1 (.q 2 (.q 3 (.q 4 (.e 5 (.q 6 (.e 7 .nil)))))))) [0,0,0,0,1] Z aS (NoP.blk (NoP.seq (NoP.seq (NoP.blk (NoP.seq aM))))) (by kernel_rfl) ?_))
 refine TD.run aj [0] Z Z (TD.q Z .u (Ai 0 Z DB Z Z) Z (TD.run aj [2,3] Z Z (TD.q Z .u (Ai 0 Z CV Z Z) Z ?_)))
 obtain⟨⟨x26,st27⟩,hx28,h⟩:=CM h
 try dsimp only at h
 refine BM Z .u (.fn Tryz.call57 Z) (bN g st23 2 _ hx28) (fun _ hs=>(Src.triv _)) Z [0,0,0,0,1] (Z) (TD.run aj [6] Z Z (BE (cs':= #[jI x6,jI x10,jI x14,jI x22,jI x26,jI 0,jI 0,jI 0,jI 0,jI 0,jI 0,jI 0]) Z .u Z Z CY Z Z Z Z [0,0,0,0,1] (Z) (TD.nil (Az (X.seq (T.region Z (TL.q Z .u (Ex.add Z Z (by omega)) Z (TL.run aj [1] Z Z (TL.nil (AQ [0,1,1,1,1,1] Z ?_))))))))))
 refine Bv (TW.step (T.seq (T.region rfl (TL.run aj [0] rfl rfl (TL.nil (X.seq (T.seq (Am rfl (CN (show 6<13 by omega)) (T.skip (X.seq (T.seq (T.block (T.seq (T.region rfl (TL.q rfl .u (Be (k:=6) (r:=12) rfl rfl rfl Dc C1 (by decide) rfl) rfl (TL.q rfl .u (Av (us := [.pointer (some ⟨b2,5,none⟩),jI 4]) 1 rfl DA C1 rfl rfl rfl) rfl (TL.alloc rfl .u Tryz.zeroValue203 rfl (fun b29=> ?_))))))))))))))))))
 refine Ay (cs':= #[.pointer (some ⟨b2,5,none⟩),jI 4]) Z .u Z Z C1 Z Z Z Z ?_
 refine TL.nil (X.seq (AH (.q 0 (.q 1 (.q 2 (.q 3 (.q 4 (.e 5 (.q 6 (.e 7 .nil)))))))) [0,0,0,0,1] Z aS (NoP.blk (NoP.seq (NoP.seq (NoP.blk (NoP.seq aM))))) (by kernel_rfl) ?_))
 refine TD.run aj [0] Z Z (TD.q Z .u (Ai 0 Z DB Z Z) Z (TD.run aj [2,3] Z Z (TD.q Z .u (Ai 0 Z CV Z Z) Z ?_)))
 obtain⟨⟨x30,st31⟩,hx32,h⟩:=CM h
 try dsimp only at h
 refine BM Z .u (.fn Tryz.call57 Z) (bN g st27 4 _ hx32) (fun _ hs=>(Src.triv _)) Z [0,0,0,0,1] (Z) (TD.run aj [6] Z Z (BE (cs':= #[jI x6,jI x10,jI x14,jI x22,jI x26,jI x30,jI 0,jI 0,jI 0,jI 0,jI 0,jI 0]) Z .u Z Z CY Z Z Z Z [0,0,0,0,1] (Z) (TD.nil (Az (X.seq (T.region Z (TL.q Z .u (Ex.add Z Z (by omega)) Z (TL.run aj [1] Z Z (TL.nil (AQ [0,1,1,1,1,1] Z ?_))))))))))
 refine Bv (TW.step (T.seq (T.region rfl (TL.run aj [0] rfl rfl (TL.nil (X.seq (T.seq (Am rfl (CN (show 7<13 by omega)) (T.skip (X.seq (T.seq (T.block (T.seq (T.region rfl (TL.q rfl .u (Be (k:=7) (r:=14) rfl rfl rfl Dc C1 (by decide) rfl) rfl (TL.q rfl .u (Av (us := [.pointer (some ⟨b2,6,none⟩),jI 8]) 1 rfl DA C1 rfl rfl rfl) rfl (TL.alloc rfl .u Tryz.zeroValue203 rfl (fun b33=> ?_))))))))))))))))))
 refine Ay (cs':= #[.pointer (some ⟨b2,6,none⟩),jI 8]) Z .u Z Z C1 Z Z Z Z ?_
 refine TL.nil (X.seq (AH (.q 0 (.q 1 (.q 2 (.q 3 (.q 4 (.e 5 (.q 6 (.e 7 .nil)))))))) [0,0,0,0,1] Z aS (NoP.blk (NoP.seq (NoP.seq (NoP.blk (NoP.seq aM))))) (by kernel_rfl) ?_))
 refine TD.run aj [0] Z Z (TD.q Z .u (Ai 0 Z DB Z Z) Z (TD.run aj [2,3] Z Z (TD.q Z .u (Ai 0 Z CV Z Z) Z ?_)))
 obtain⟨⟨x34,st35⟩,hx36,h⟩:=CM h
 try dsimp only at h
 refine BM Z .u (.fn Tryz.call57 Z) (bN g st31 8 _ hx36) (fun _ hs=>(Src.triv _)) Z [0,0,0,0,1] (Z) (TD.run aj [6] Z Z (BE (cs':= #[jI x6,jI x10,jI x14,jI x22,jI x26,jI x30,jI x34,jI 0,jI 0,jI 0,jI 0,jI 0]) Z .u Z Z CY Z Z Z Z [0,0,0,0,1] (Z) (TD.nil (Az (X.seq (T.region Z (TL.q Z .u (Ex.add Z Z (by omega)) Z (TL.run aj [1] Z Z (TL.nil (AQ [0,1,1,1,1,1] Z ?_))))))))))
 refine Bv (TW.step (T.seq (T.region rfl (TL.run aj [0] rfl rfl (TL.nil (X.seq (T.seq (Am rfl (CN (show 8<13 by omega)) (T.skip (X.seq (T.seq (T.block (T.seq (T.region rfl (TL.q rfl .u (Be (k:=8) (r:=16) rfl rfl rfl Dc C1 (by decide) rfl) rfl (TL.q rfl .u (Av (us := [.pointer (some ⟨b2,7,none⟩),jI 8]) 1 rfl DA C1 rfl rfl rfl) rfl (TL.alloc rfl .u Tryz.zeroValue203 rfl (fun b37=> ?_))))))))))))))))))
 refine Ay (cs':= #[.pointer (some ⟨b2,7,none⟩),jI 8]) Z .u Z Z C1 Z Z Z Z ?_
 refine TL.nil (X.seq (AH (.q 0 (.q 1 (.q 2 (.q 3 (.q 4 (.e 5 (.q 6 (.e 7 .nil)))))))) [0,0,0,0,1] Z aS (NoP.blk (NoP.seq (NoP.seq (NoP.blk (NoP.seq aM))))) (by kernel_rfl) ?_))
 refine TD.run aj [0] Z Z (TD.q Z .u (Ai 0 Z DB Z Z) Z (TD.run aj [2,3] Z Z (TD.q Z .u (Ai 0 Z CV Z Z) Z ?_)))
 obtain⟨⟨x38,st39⟩,hx40,h⟩:=CM h
 try dsimp only at h
 refine BM Z .u (.fn Tryz.call57 Z) (bN g st35 8 _ hx40) (fun _ hs=>(Src.triv _)) Z [0,0,0,0,1] (Z) (TD.run aj [6] Z Z (BE (cs':= #[jI x6,jI x10,jI x14,jI x22,jI x26,jI x30,jI x34,jI x38,jI 0,jI 0,jI 0,jI 0]) Z .u Z Z CY Z Z Z Z [0,0,0,0,1] (Z) (TD.nil (Az (X.seq (T.region Z (TL.q Z .u (Ex.add Z Z (by omega)) Z (TL.run aj [1] Z Z (TL.nil (AQ [0,1,1,1,1,1] Z ?_))))))))))
 refine Bv (TW.step (T.seq (T.region rfl (TL.run aj [0] rfl rfl (TL.nil (X.seq (T.seq (Am rfl (CN (show 9<13 by omega)) (T.skip (X.seq (T.seq (T.block (T.seq (T.region rfl (TL.q rfl .u (Be (k:=9) (r:=18) rfl rfl rfl Dc C1 (by decide) rfl) rfl (TL.q rfl .u (Av (us := [.pointer (some ⟨b2,8,none⟩),jI 8]) 1 rfl DA C1 rfl rfl rfl) rfl (TL.alloc rfl .u Tryz.zeroValue203 rfl (fun b41=> ?_))))))))))))))))))
 refine Ay (cs':= #[.pointer (some ⟨b2,8,none⟩),jI 8]) Z .u Z Z C1 Z Z Z Z ?_
 refine TL.nil (X.seq (AH (.q 0 (.q 1 (.q 2 (.q 3 (.q 4 (.e 5 (.q 6 (.e 7 .nil)))))))) [0,0,0,0,1] Z aS (NoP.blk (NoP.seq (NoP.seq (NoP.blk (NoP.seq aM))))) (by kernel_rfl) ?_))
 refine TD.run aj [0] Z Z (TD.q Z .u (Ai 0 Z DB Z Z) Z (TD.run aj [2,3] Z Z (TD.q Z .u (Ai 0 Z CV Z Z) Z ?_)))
 obtain⟨⟨x42,st43⟩,hx44,h⟩:=CM h
 try dsimp only at h
 refine BM Z .u (.fn Tryz.call57 Z) (bN g st39 8 _ hx44) (fun _ hs=>(Src.triv _)) Z [0,0,0,0,1] (Z) (TD.run aj [6] Z Z (BE (cs':= #[jI x6,jI x10,jI x14,jI x22,jI x26,jI x30,jI x34,jI x38,jI x42,jI 0,jI 0,jI 0]) Z .u Z Z CY Z Z Z Z [0,0,0,0,1] (Z) (TD.nil (Az (X.seq (T.region Z (TL.q Z .u (Ex.add Z Z (by omega)) Z (TL.run aj [1] Z Z (TL.nil (AQ [0,1,1,1,1,1] Z ?_))))))))))
 refine Bv (TW.step (T.seq (T.region rfl (TL.run aj [0] rfl rfl (TL.nil (X.seq (T.seq (Am rfl (CN (show 10<13 by omega)) (T.skip (X.seq (T.seq (T.block (T.seq (T.region rfl (TL.q rfl .u (Be (k:=10) (r:=20) rfl rfl rfl Dc C1 (by decide) rfl) rfl (TL.q rfl .u (Av (us := [.pointer (some ⟨b2,9,none⟩),jI 2]) 1 rfl DA C1 rfl rfl rfl) rfl (TL.alloc rfl .u Tryz.zeroValue203 rfl (fun b45=> ?_))))))))))))))))))
 refine Ay (cs':= #[.pointer (some ⟨b2,9,none⟩),jI 2]) Z .u Z Z C1 Z Z Z Z ?_
 refine TL.nil (X.seq (AH (.q 0 (.q 1 (.q 2 (.q 3 (.q 4 (.e 5 (.q 6 (.e 7 .nil)))))))) [0,0,0,0,1] Z aS (NoP.blk (NoP.seq (NoP.seq (NoP.blk (NoP.seq aM))))) (by kernel_rfl) ?_))
 refine TD.run aj [0] Z Z (TD.q Z .u (Ai 0 Z DB Z Z) Z (TD.run aj [2,3] Z Z (TD.q Z .u (Ai 0 Z CV Z Z) Z ?_)))
 obtain⟨⟨x46,st47⟩,hx48,h⟩:=CM h
 try dsimp only at h
 refine BM Z .u (.fn Tryz.call57 Z) (bN g st43 2 _ hx48) (fun _ hs=>(Src.triv _)) Z [0,0,0,0,1] (Z) (TD.run aj [6] Z Z (BE (cs':= #[jI x6,jI x10,jI x14,jI x22,jI x26,jI x30,jI x34,jI x38,jI x42,jI x46,jI 0,jI 0]) Z .u Z Z CY Z Z Z Z [0,0,0,0,1] (Z) (TD.nil (Az (X.seq (T.region Z (TL.q Z .u (Ex.add Z Z (by omega)) Z (TL.run aj [1] Z Z (TL.nil (AQ [0,1,1,1,1,1] Z ?_))))))))))
 refine Bv (TW.step (T.seq (T.region rfl (TL.run aj [0] rfl rfl (TL.nil (X.seq (T.seq (Am rfl (CN (show 11<13 by omega)) (T.skip (X.seq (T.seq (T.block (T.seq (T.region rfl (TL.q rfl .u (Be (k:=11) (r:=22) rfl rfl rfl Dc C1 (by decide) rfl) rfl (TL.q rfl .u (Av (us := [.pointer (some ⟨b2,10,none⟩),jI 4]) 1 rfl DA C1 rfl rfl rfl) rfl (TL.alloc rfl .u Tryz.zeroValue203 rfl (fun b49=> ?_))))))))))))))))))
 refine Ay (cs':= #[.pointer (some ⟨b2,10,none⟩),jI 4]) Z .u Z Z C1 Z Z Z Z ?_
 refine TL.nil (X.seq (AH (.q 0 (.q 1 (.q 2 (.q 3 (.q 4 (.e 5 (.q 6 (.e 7 .nil)))))))) [0,0,0,0,1] Z aS (NoP.blk (NoP.seq (NoP.seq (NoP.blk (NoP.seq aM))))) (by kernel_rfl) ?_))
 refine TD.run aj [0] Z Z (TD.q Z .u (Ai 0 Z DB Z Z) Z (TD.run aj [2,3] Z Z (TD.q Z .u (Ai 0 Z CV Z Z) Z ?_)))
 obtain⟨⟨x50,st51⟩,hx52,h⟩:=CM h
 try dsimp only at h
 refine BM Z .u (.fn Tryz.call57 Z) (bN g st47 4 _ hx52) (fun _ hs=>(Src.triv _)) Z [0,0,0,0,1] (Z) (TD.run aj [6] Z Z (BE (cs':= #[jI x6,jI x10,jI x14,jI x22,jI x26,jI x30,jI x34,jI x38,jI x42,jI x46,jI x50,jI 0]) Z .u Z Z CY Z Z Z Z [0,0,0,0,1] (Z) (TD.nil (Az (X.seq (T.region Z (TL.q Z .u (Ex.add Z Z (by omega)) Z (TL.run aj [1] Z Z (TL.nil (AQ [0,1,1,1,1,1] Z ?_))))))))))
 refine Bv (TW.step (T.seq (T.region rfl (TL.run aj [0] rfl rfl (TL.nil (X.seq (T.seq (Am rfl (CN (show 12<13 by omega)) (T.skip (X.seq (T.seq (T.block (T.seq (T.region rfl (TL.q rfl .u (Be (k:=12) (r:=24) rfl rfl rfl Dc C1 (by decide) rfl) rfl (TL.q rfl .u (Av (us := [.pointer (some ⟨b2,11,none⟩),jI 4]) 1 rfl DA C1 rfl rfl rfl) rfl (TL.alloc rfl .u Tryz.zeroValue203 rfl (fun b53=> ?_))))))))))))))))))
 refine Ay (cs':= #[.pointer (some ⟨b2,11,none⟩),jI 4]) Z .u Z Z C1 Z Z Z Z ?_
 refine TL.nil (X.seq (AH (.q 0 (.q 1 (.q 2 (.q 3 (.q 4 (.e 5 (.q 6 (.e 7 .nil)))))))) [0,0,0,0,1] Z aS (NoP.blk (NoP.seq (NoP.seq (NoP.blk (NoP.seq aM))))) (by kernel_rfl) ?_))
 refine TD.run aj [0] Z Z (TD.q Z .u (Ai 0 Z DB Z Z) Z (TD.run aj [2,3] Z Z (TD.q Z .u (Ai 0 Z CV Z Z) Z ?_)))
 obtain⟨⟨x54,st55⟩,hx56,h⟩:=CM h
 try dsimp only at h
 refine BM Z .u (.fn Tryz.call57 Z) (bN g st51 4 _ hx56) (fun _ hs=>(Src.triv _)) Z [0,0,0,0,1] (Z) (TD.run aj [6] Z Z (BE (cs':= #[jI x6,jI x10,jI x14,jI x22,jI x26,jI x30,jI x34,jI x38,jI x42,jI x46,jI x50,jI x54]) Z .u Z Z CY Z Z Z Z [0,0,0,0,1] (Z) (TD.nil (Az (X.seq (T.region Z (TL.q Z .u (Ex.add Z Z (by omega)) Z (TL.run aj [1] Z Z (TL.nil (AQ [0,1,1,1,1,1] Z ?_))))))))))
 refine Bv (TW.step (T.seq (T.region rfl (TL.run aj [0] rfl rfl (TL.nil (X.seq (T.seq (Ap rfl (CO (show ¬ (13<13) by omega)) (T.exit (Au (Au (AS (X.seq (T.seq (T.region rfl (TL.run aj [0] rfl rfl (TL.q rfl .u (Ai 3 rfl CV rfl rfl) rfl (TL.q rfl .u (Ex.bitw rfl rfl rfl) rfl ?_))))))))))))))))))
 refine TL.run aj [3] Z Z (A5 (cs':= #[jI x6,jI x10,jI x14,jI (Go.bits .and .i64 x22 4294967295),jI x26,jI x30,jI x34,jI x38,jI x42,jI x46,jI x50,jI x54]) Z .u Z Z CY Z Z Z Z (TL.nil (X.seq (T.seq (T.block (T.seq (T.region Z ?_)))))))
 obtain⟨⟨x57,st58⟩,hx59,h⟩:=CM h
 try dsimp only at h
 refine TL.run aj [0] Z Z (BZ Z .u (.fn Tryz.call21 Z) (dr g st55 _ hx59) (fun _ hs=>(Src.triv _)) Z (TL.run aj [2,3] Z Z (TL.nil (X.seq ?_))))
 obtain⟨st117,h,hk118⟩:=CM h
 refine Bg (fun e Rs=>e = [(0,jP g),(2,jP b1),(3,jP b2)]∧Rs = [aC b53 203 #[.pointer (some ⟨b2,11,none⟩),jI 4],aC b4 203 #[jP b2,jI 8,.pointer (some ⟨b2,1,none⟩),jI 4,.pointer (some ⟨b2,2,none⟩),jI 4,jP b3,jI 1,.pointer (some ⟨b2,3,none⟩),jI 4,.pointer (some ⟨b2,4,none⟩),jI 2,.pointer (some ⟨b2,5,none⟩),jI 4,.pointer (some ⟨b2,6,none⟩),jI 8,.pointer (some ⟨b2,7,none⟩),jI 8,.pointer (some ⟨b2,8,none⟩),jI 8,.pointer (some ⟨b2,9,none⟩),jI 2,.pointer (some ⟨b2,10,none⟩),jI 4,.pointer (some ⟨b2,11,none⟩),jI 4],aC b3 3 #[jI x18],aC b2 160 #[jI x6,jI x10,jI x14,jI (Go.bits .and .i64 x22 4294967295),jI x26,jI x30,jI x34,jI x38,jI x42,jI x46,jI x50,jI x54],aC b1 160 #[jI 0,jI 0,jI 0,jI 0,jI 0,jI 0,jI 0,jI 0,jI 0,jI 0,jI 0,jI 0],InR g st117]) ?_ ?_
 ·clear hk118
  rcases jF h with⟨c119,h⟩ | ⟨c119,h⟩
  ·refine Ap Z (az (CN c119)) (T.seq (T.region Z (TL.q Z .u (Ai 2 Z CV Z Z) Z (TL.run aj [1,2] Z Z (TL.nil (X.seq ?_))))))
   obtain⟨st147,h,hk148⟩:=CM h
   refine Bg (fun e Rs=>e = [(0,jP g),(2,jP b1),(3,jP b2)]∧Rs = [aC b53 203 #[.pointer (some ⟨b2,11,none⟩),jI 4],aC b4 203 #[jP b2,jI 8,.pointer (some ⟨b2,1,none⟩),jI 4,.pointer (some ⟨b2,2,none⟩),jI 4,jP b3,jI 1,.pointer (some ⟨b2,3,none⟩),jI 4,.pointer (some ⟨b2,4,none⟩),jI 2,.pointer (some ⟨b2,5,none⟩),jI 4,.pointer (some ⟨b2,6,none⟩),jI 8,.pointer (some ⟨b2,7,none⟩),jI 8,.pointer (some ⟨b2,8,none⟩),jI 8,.pointer (some ⟨b2,9,none⟩),jI 2,.pointer (some ⟨b2,10,none⟩),jI 4,.pointer (some ⟨b2,11,none⟩),jI 4],aC b3 3 #[jI x18],aC b2 160 #[jI x6,jI x10,jI x14,jI (Go.bits .and .i64 x22 4294967295),jI x26,jI x30,jI x34,jI x38,jI x42,jI x46,jI x50,jI x54],aC b1 160 #[jI 0,jI 0,jI 0,jI 0,jI 0,jI 0,jI 0,jI 0,jI 0,jI 0,jI 0,jI 0],InR g st147]) ?_ ?_
   ·clear hk148
    rcases jF h with⟨c149,h⟩ | ⟨c149,h⟩
    ·refine Ap Z (az (CN c149)) (T.seq (T.region Z (TL.run aj [0] Z Z (TL.q Z .u (Ai 3 Z CV Z Z) Z (TL.run aj [2,3] Z Z (TL.nil (X.seq ?_)))))))
     obtain⟨st161,h,hk162⟩:=CM h
     refine Bg (fun e Rs=>e = [(0,jP g),(2,jP b1),(3,jP b2)]∧Rs = [aC b53 203 #[.pointer (some ⟨b2,11,none⟩),jI 4],aC b4 203 #[jP b2,jI 8,.pointer (some ⟨b2,1,none⟩),jI 4,.pointer (some ⟨b2,2,none⟩),jI 4,jP b3,jI 1,.pointer (some ⟨b2,3,none⟩),jI 4,.pointer (some ⟨b2,4,none⟩),jI 2,.pointer (some ⟨b2,5,none⟩),jI 4,.pointer (some ⟨b2,6,none⟩),jI 8,.pointer (some ⟨b2,7,none⟩),jI 8,.pointer (some ⟨b2,8,none⟩),jI 8,.pointer (some ⟨b2,9,none⟩),jI 2,.pointer (some ⟨b2,10,none⟩),jI 4,.pointer (some ⟨b2,11,none⟩),jI 4],aC b3 3 #[jI x18],aC b2 160 #[jI x6,jI x10,jI x14,jI (Go.bits .and .i64 x22 4294967295),jI x26,jI x30,jI x34,jI x38,jI x42,jI x46,jI x50,jI x54],aC b1 160 #[jI 0,jI 0,jI 0,jI 0,jI 0,jI 0,jI 0,jI 0,jI 0,jI 0,jI 0,jI 0],InR g st161]) ?_ ?_
     ·clear hk162
      rcases jF h with⟨c163,h⟩ | ⟨c163,h⟩
      ·refine Am Z (CN c163) (T.region Z ?_)
       obtain⟨st164,hx165,h⟩:=CM h
       refine TL.run aj [0] Z Z (BZ Z .u (.fn Tryz.call61 Z) (bg g st58 4 _ hx165) (fun _ hs=>(Src.triv _)) Z ?_)
       cases h
       exact TL.nil (AB [0,0,0,0,0,0] ⟨Z,Z⟩ (by rfl) (by rfl))
      ·refine Ap Z (CO c163) (T.seq (T.region Z (TL.run aj [0] Z Z (TL.q Z .u (Ai 3 Z CV Z Z) Z (TL.run aj [2,3] Z Z (TL.nil (X.seq ?_)))))))
       obtain⟨st169,h,hk170⟩:=CM h
       refine Bg (fun e Rs=>e = [(0,jP g),(2,jP b1),(3,jP b2)]∧Rs = [aC b53 203 #[.pointer (some ⟨b2,11,none⟩),jI 4],aC b4 203 #[jP b2,jI 8,.pointer (some ⟨b2,1,none⟩),jI 4,.pointer (some ⟨b2,2,none⟩),jI 4,jP b3,jI 1,.pointer (some ⟨b2,3,none⟩),jI 4,.pointer (some ⟨b2,4,none⟩),jI 2,.pointer (some ⟨b2,5,none⟩),jI 4,.pointer (some ⟨b2,6,none⟩),jI 8,.pointer (some ⟨b2,7,none⟩),jI 8,.pointer (some ⟨b2,8,none⟩),jI 8,.pointer (some ⟨b2,9,none⟩),jI 2,.pointer (some ⟨b2,10,none⟩),jI 4,.pointer (some ⟨b2,11,none⟩),jI 4],aC b3 3 #[jI x18],aC b2 160 #[jI x6,jI x10,jI x14,jI (Go.bits .and .i64 x22 4294967295),jI x26,jI x30,jI x34,jI x38,jI x42,jI x46,jI x50,jI x54],aC b1 160 #[jI 0,jI 0,jI 0,jI 0,jI 0,jI 0,jI 0,jI 0,jI 0,jI 0,jI 0,jI 0],InR g st169]) ?_ ?_
       ·clear hk170
        rcases jF h with⟨c171,h⟩ | ⟨c171,h⟩
        ·refine Am Z (CN c171) (T.region Z ?_)
         obtain⟨st172,hx173,h⟩:=CM h
         refine TL.run aj [0] Z Z (BZ Z .u (.fn Tryz.call61 Z) (bg g st58 10 _ hx173) (fun _ hs=>(Src.triv _)) Z ?_)
         cases h
         exact TL.nil (AB [0,0,0,0,0,0] ⟨Z,Z⟩ (by rfl) (by rfl))
        ·refine Ap Z (CO c171) ?_
         cases h
         exact T.skip (AB [0,0,0,0,0,0] ⟨Z,Z⟩ (by rfl) (by rfl))
       ·rintro _ _ ⟨rfl,rfl⟩
        clear h
        have h:=hk170
        clear hk170
        try dsimp only at h
        cases h
        exact AB [0,0,0,0,0,0] ⟨Z,Z⟩ (by rfl) (by rfl)
     ·rintro _ _ ⟨rfl,rfl⟩
      clear h
      have h:=hk162
      clear hk162
      try dsimp only at h
      cases h
      exact AB [0,0,0,0,0,0] ⟨Z,Z⟩ (by rfl) (by rfl)
    ·refine Am Z (aD (CO c149)) (T.region Z ?_)
     obtain⟨st174,hx175,h⟩:=CM h
     refine TL.run aj [0] Z Z (BZ Z .u (.fn Tryz.call61 Z) (bg g st58 6 _ hx175) (fun _ hs=>(Src.triv _)) Z ?_)
     cases h
     exact TL.nil (AB [0,0,0,0,0,0] ⟨Z,Z⟩ (by rfl) (by rfl))
   ·rintro _ _ ⟨rfl,rfl⟩
    clear h
    have h:=hk148
    clear hk148
    try dsimp only at h
    cases h
    exact AB [0,0,0,0,0,0] ⟨Z,Z⟩ (by rfl) (by rfl)
  ·refine Am Z (aD (CO c119)) ?_
   cases h
   exact T.skip (AB [0,0,0,0,0,0] ⟨Z,Z⟩ (by rfl) (by rfl))
 ·rintro _ _ ⟨rfl,rfl⟩
  clear h
  have h:=hk118
  clear hk118
  try dsimp only at h
  refine Az (X.seq (T.seq (T.seq (T.region Z ?_))))
  obtain⟨⟨x176,st177⟩,hx178,h⟩:=CM h
  try dsimp only at h
  refine TL.run aj [0] Z Z (BZ Z .u (.fn Tryz.call21 Z) (dr g st117 _ hx178) (fun _ hs=>(Src.triv _)) Z (TL.run aj [2] Z Z ?_))
  rcases jF h with⟨c179,h⟩ | ⟨c179,h⟩
  ·refine TL.nil (X.seq (Ap Z (az (CN c179)) (T.skip (X.seq (T.seq (T.region Z (TL.q Z .u (Av (us := [jI x6,jI x10,jI x14,jI (Go.bits .and .i64 x22 4294967295),jI x26,jI x30,jI x34,jI x38,jI x42,jI x46,jI x50,jI x54]) 3 Z ED D1 Z Z Z) Z (Bn (cs':= #[jI x6,jI x10,jI x14,jI (Go.bits .and .i64 x22 4294967295),jI x26,jI x30,jI x34,jI x38,jI x42,jI x46,jI x50,jI x54]) Z .u Z Z D1 Z Z Z Z ?_))))))))
   obtain rfl:=CP h
   exact TL.nil (X.seq (T.ret (Ak [5] Tryz.results108 (AF (us:= #[jI x6,jI x10,jI x14,jI (Go.bits .and .i64 x22 4294967295),jI x26,jI x30,jI x34,jI x38,jI x42,jI x46,jI x50,jI x54]) 4 Z ED D1 Z Z) ⟨Z,Z,Z⟩ (by rfl) (.inl Z))))
  ·refine TL.nil (X.seq (Am Z (aD (CO c179)) (T.seq (T.region Z ?_))))
   refine TL.q Z .u (AD (cells:= #[jI 0,jI 0,jI 0,jI 0,jI 0,jI 0,jI 0,jI 0,jI 0,jI 0,jI 0,jI 0]) qj Z (by kernel_rfl)) Z ?_
   refine Bn (cs':= #[jI 0,jI 0,jI 0,jI 0,jI 0,jI 0,jI 0,jI 0,jI 0,jI 0,jI 0,jI 0]) Z .u Z Z D1 Z Z Z Z ?_
   obtain rfl:=CP h
   exact TL.nil (X.seq (T.ret (Al (Ak [5] Tryz.results108 (AF (us:= #[jI 0,jI 0,jI 0,jI 0,jI 0,jI 0,jI 0,jI 0,jI 0,jI 0,jI 0,jI 0]) 4 Z ED D1 Z Z) ⟨Z,Z,Z⟩ (by rfl) (.inl Z)))))
end Go.Proofs.YtcoppaggpbfcmaaGreat.Sl
