/- splitRows_holds: part 8. -/
import Derived.Test.YtheikonlgjdopaaGreatK7
set_option maxRecDepth 100000
set_option maxHeartbeats 4000000
set_option linter.defProp false
namespace Go.Proofs.YtheikonlgjdopaaGreat.Sl
open Go.RowKit
set_option linter.unusedVariables false
set_option linter.unusedSimpArgs false
def OA := @Tryz.sizeOf25
def OG := @Tryz.sizeOf36
def OV := @Tryz.runUnderlying25
def Pg := @Tryz.isAgg25
def Pq := @Tryz.isAgg36
def PQ := @Tryz.results191
def PR := @Tryz.results115
def P8 := @Tryz.ntmps191
def Qf := @Tryz.results194
def Qg := @Tryz.results195
def Qh := @Tryz.results156
def Qn := @Tryz.func191
def Qq := @Tryz.results93
def QI := @Tryz.results120
def DV:eO := [(23,0,0),(23,1,1),(36,0,0),(36,1,2),(36,2,3),(36,3,4),(97,3,3),(97,4,4),(176,0,0),(176,1,1),(179,0,0),(179,1,1)]
theorem ak:(DV).OK Tryz.prog:=⟨FOK.mk N2 rfl Oe rfl,FOK.mk N2 rfl N6 rfl,FOK.mk OX rfl NM rfl,FOK.mk OX rfl NG rfl,FOK.mk OX rfl NG rfl,FOK.mk OX rfl Tryz.sizeOf34 rfl,FOK.mk NZ rfl Oe rfl,FOK.mk NZ rfl Oe rfl,FOK.mk PC rfl N6 rfl,FOK.mk PC rfl Qp rfl,FOK.mk PS rfl NG rfl,FOK.mk PS rfl PT rfl,trivial⟩
def DW:List Nat := [3,4,9,34,174,177]
theorem bj:NOK Tryz.prog DW:=⟨NH,Oz,Oc,Tryz.isAgg34,P5,Ph,trivial⟩
theorem n7:Tryz.prog.follows .mixedOrders=true:=by kernel_rfl
theorem kF:BOK Tryz.prog 36 #[.bool false,.string ⟨#[]⟩,.int .i64 0,.int .i64 0,.slice none 0 0] [(0,2),(2,1),(3,1),(4,1)]:=BOK.mk Tryz.zeroValue36 OX (by intro w; simp)
theorem wA:BOK Tryz.prog 176 #[.string ⟨#[]⟩,.slice none 0 0] [(0,1),(1,1)]:=BOK.mk Tryz.zeroValue176 PC (by intro w; simp)
theorem wC:BOK Tryz.prog 179 #[.int .i64 0,.slice none 0 0] [(0,1),(1,1)]:=BOK.mk Tryz.zeroValue179 PS (by intro w; simp)
theorem vo:SOK Tryz.prog 34 176 1 2 #[.string ⟨#[]⟩,.slice none 0 0]:=SOK.mk Ox OD Tryz.zeroValue176 QS QU
theorem kG:SOK Tryz.prog 174 179 1 2 #[.int .i64 0,.slice none 0 0]:=SOK.mk Ow Ov Tryz.zeroValue179 QS QU
theorem kH:SOK Tryz.prog 177 97 1 12 #[.int .i64 0,.int .i64 0,.bool false,.bool false,.bool false,.int .i64 0,.int .i64 0,.int .i64 0,.int .i64 0,.int .i64 0,.int .i64 0,.slice none 0 0]:=SOK.mk N7 NR Tryz.zeroValue97 QS QU
theorem nz:(Tryz.prog.info? 97).map (fun i=>(i.zero,i.size,i.bytes))=some (some (.agg #[.int .i64 0,.int .i64 0,.bool false,.bool false,.bool false,.int .i64 0,.int .i64 0,.int .i64 0,.int .i64 0,.int .i64 0,.int .i64 0,.slice none 0 0]),12,96):=by kernel_rfl
theorem wD:(Tryz.prog.info? 176).map (fun i=>(i.zero,i.size,i.bytes))=some (some (.agg #[.string ⟨#[]⟩,.slice none 0 0]),2,40):=by kernel_rfl
theorem md:(Tryz.prog.info? 179).map (fun i=>(i.zero,i.size,i.bytes))=some (some (.agg #[.int .i64 0,.slice none 0 0]),2,32):=by kernel_rfl
def dO (x10:aJ):List aY->Int->Nat->Option (Lp Int Int)
 | [],y158,k159=>some (Lp.go y158)
 | x164::xs,y158,k159=>(if x164.M8<0 then some true else ((jy x164.M8 4).bind fun x223=>if x223=true then (if (k159:Int)>0 then (if -9223372036854775808<=((k159:Int) - 1)/\((k159:Int) - 1)<=9223372036854775807 then (if 0<=((k159:Int) - 1) then ((x10.MP[((k159:Int) - 1).toNat]?).bind fun x229=>if x229.M8>=x164.M8 then some true else some false) else none) else none) else some false) else some true)).bind fun y220=>if y220=true then some (Lp.ret 13) else (dO x10 xs y158 (k159+1))
def cT (a0:List aJ):List aJ->Int->Nat->Option (Lp Int Int)
 | [],y4,k5=>some (Lp.go y4)
 | x10::xs,y4,k5=>if (x10.MP.length:Int)=0 then some (Lp.ret 10) else ((if x10.MV = [] then some true else (if (x10.MV.length:Int)>32767 then some true else (if (k5:Int)>0 then (if -9223372036854775808<=((k5:Int) - 1)/\((k5:Int) - 1)<=9223372036854775807 then (if 0<=((k5:Int) - 1) then ((a0[((k5:Int) - 1).toNat]?).bind fun x150=>if (Op.bytesLess x150.MV x10.MV)=true then some false else some true) else none) else none) else some false))).bind fun y143=>if y143=true then some (Lp.ret 13) else ((dO x10 x10.MP y4 0).bind fun e=>match e with | .ret r=>some (Lp.ret r) | .go y237=>(cT a0 xs y237 (k5+1))))
theorem rM (a0:List aJ) (y4:Int) (k5:Nat):cT a0 [] y4 k5=(some (Lp.go y4)):=rfl
theorem rN (a0:List aJ) (x10:aJ) (xs:List aJ) (y4:Int) (k5:Nat):cT a0 (x10::xs) y4 k5=(if (x10.MP.length:Int)=0 then some (Lp.ret 10) else ((if x10.MV = [] then some true else (if (x10.MV.length:Int)>32767 then some true else (if (k5:Int)>0 then (if -9223372036854775808<=((k5:Int) - 1)/\((k5:Int) - 1)<=9223372036854775807 then (if 0<=((k5:Int) - 1) then ((a0[((k5:Int) - 1).toNat]?).bind fun x150=>if (Op.bytesLess x150.MV x10.MV)=true then some false else some true) else none) else none) else some false))).bind fun y143=>if y143=true then some (Lp.ret 13) else ((dO x10 x10.MP y4 0).bind fun e=>match e with | .ret r=>some (Lp.ret r) | .go y237=>(cT a0 xs y237 (k5+1))))):=rfl
def je (a0:List aJ):Option (Int):=if (a0.length:Int)=0 then some 10 else ((cT a0 a0 0 0).bind fun e=>match e with | .ret r=>some r | .go y239=>some 0)
theorem rO (a0:List aJ) (A1:Option Addr) (c2:Nat) (r:Int) (h:je a0=some r):aG Tryz.prog 194 #[.slice A1 a0.length c2] (RX.of (aq 2 aP) [.slice A1 a0.length c2] a0) (aL) (fun v A' N=>v=jI r/\A'=aL/\N = []):=by
 refine aU Tryz.func194 Z Tryz.ntmps194 Z ?_;intro F w hX;unfold je at h;refine KN Z (KX ak Z (T.seq (KN Z (KM ak 1 Z (KO Z (K4 Z Ox) Z (KM ak 1 Z ?_))))));rcases jF h with⟨c3,h⟩ | ⟨c3,h⟩
 ·refine Lh Z c3 (KN Z (KM ak 1 Z ?_));obtain rfl:=Nz h;exact KP (T.ret (KT (KY [0] Qf (KQ Z))))
 refine Lg Z c3 (K8 (T.seq (KN Z (KM ak 1 Z (KO Z (K4 Z Ox) Z (KX ak Z (T.block ?_)))))));obtain⟨E6,hE7,hO8⟩:=Ny h;have hk12len:=LG hX;refine LB (fun m e Rs=> ∃ (y4:Int) (k5:Nat),k5+m=a0.length/\e = [(0,.slice A1 a0.length c2),(2,jI y4),(10,.slice A1 a0.length c2),(11,jI (a0.length:Int)),(12,jI (k5:Int))]/\Rs = [aL]/\cT a0 (a0.drop k5) y4 k5=some E6) (a0.length) [0] ⟨0,0,by simp,Z,Z,by rw[List.drop_zero]; exact hE7⟩ QW QW ?_;clear hE7 h;rintro m9 _ _ ⟨y4,k5,hk12,rfl,rfl,h⟩
 cases m9 with
 | zero =>
  rw[List.drop_of_length_le QR,rM] at h;have hk12ge: ¬ ((k5:Int)<(a0.length:Int)):=by omega
  refine KN Z (KX ak Z (T.seq (Li Z (NC hk12ge) ?_)));obtain rfl:=Nz h;replace h:=hO8;clear hO8;refine T.exit (K5 (K5 (Ly (X.seq (KN Z (KM ak 1 Z ?_))))));obtain rfl:=Nz h;exact KP (T.ret (KY [0] Qf (KQ Z)))
 | succ m9 =>
  obtain⟨x10,hxx10⟩: ∃ x,a0[k5]? = some x:=⟨_,List.getElem?_eq_getElem QR⟩;rw[bH hxx10,rN] at h;have hk12lt:(k5:Int)<(a0.length:Int):=by omega
  refine KN Z (KX ak Z (T.seq (K1 Z (NB hk12lt) (K8 (T.seq (T.block (KN Z ?_)))))));obtain⟨gz126,oz126,rfl,z126cs,z126cl,z126cc,z126nf,z126r⟩:=Lm QS hX hxx10;obtain⟨z126S,z126r,z126rr⟩:=z126r;obtain⟨A127,c128,rfl,z126s0⟩:=z126r;have hX129:(RX.of (aq 2 ca) [.slice A127 x10.MP.length c128] x10.MP).reads w F:=⟨z126S,z126s0,z126rr⟩;refine KM ak 1 Z ?_;refine KO Z (K6 (k:=k5) Z Z Z Ox OD (ND hxx10).1) Z ?_;refine KO Z (LM (us := [jS x10.MV,.slice A127 x10.MP.length c128]) 0 Z P6 OD z126nf z126cc Z Z Z) Z (TL.alloc Z .u Tryz.zeroValue176 Z (fun b130=>(KM ak 1 Z (K3 0 Z (cs':= #[jS x10.MV,.slice A127 x10.MP.length c128]) Z .u Z Z OD Z Z Z Z Z (KP (T.seq (KN Z (KR ak bj 0 Z 2 Z Z (KO Z (K4 Z Ow) Z (KM ak 1 Z ?_))))))))));rcases jF h with⟨c131,h⟩ | ⟨c131,h⟩
  ·refine Lh Z c131 (KN Z (KM ak 1 Z ?_));obtain rfl:=Nz h;obtain rfl:=Nz hO8;exact KP (T.ret (KT (K2 (KT (KT (K2 (KT (KY [1] Qf (KQ Z)))))))))
  refine Lg Z c131 (K8 (L0 ?_));obtain⟨y143,h,hk144⟩:=Ny h;refine LE (fun e Rs=>e = [(0,.slice (some ⟨gz126,oz126,none⟩) a0.length c2),(2,jI y4),(4,jP b130),(10,.slice (some ⟨gz126,oz126,none⟩) a0.length c2),(11,jI (a0.length:Int)),(12,jI (k5:Int)),(44,.bool y143)]/\Rs = [aV b130 176 #[jS x10.MV,.slice A127 x10.MP.length c128],aL]) ?_ ?_
  ·clear hk144;refine Ls (.q 0 (.q 1 (.q 2 (.q 3 (.q 4 (.q 5 (.q 6 (.q 7 (.q 8 (.q 9 (.q 10 (.q 11 (.q 12 (.q 13 (.q 14 (.q 15 (.q 16 (.q 17 (.q 18 (.q 19 (.q 20 (.q 21 (.q 22 (.q 23 .nil)))))))))))))))))))))))) [0,0] Z n7 (NoP.seq (NoP.seq (NoP.seq (NoP.blk (NoP.seq (NoP.seq (NoP.blk (NoP.seq bq)))))))) QU ?_;refine TD.run ak [0] Z Z (KU Z (Lc 0 Z Oc Z Z) Z (KU Z (Ex.sEq Z (m := []) Z) Z ?_));rcases jF h with⟨c145,h⟩ | ⟨c145,h⟩
   ·refine TD.run ak [3] Z Z ?_;iterate 4 refine LO Z (.gn Z Z (NB c145)) Z ?_
    refine KU Z (LX Z (NB c145) Z) Z (TD.run ak [9] Z Z ?_);iterate 3 refine LO Z (.gn Z Z Z) Z ?_
    iterate 9 refine LO Z (.gu Z Z) Z ?_
    refine LO Z (.gn Z Z Z) Z (KU Z (LX Z Z Z) Z ?_);cases h;exact TD.nil (K0 [0,0])
   refine TD.run ak [3] Z Z (TD.q Z (.g Z Z (NC c145)) (LC ak Z) Z (TD.q Z (.g Z Z (NC c145)) (Lc 0 Z Oc Z Z) Z (TD.q Z (.g Z Z (NC c145)) (LD Z NK) Z (TD.q Z (.g Z Z (NC c145)) (LC ak Z) Z (KU Z (LU Z (NC c145) Z) Z ?_)))));rcases jF h with⟨c146,h⟩ | ⟨c146,h⟩
   ·refine TD.run ak [9] Z Z ?_;iterate 3 refine LO Z (.gn Z Z (NB c146)) Z ?_
    iterate 9 refine LO Z (.gu Z Z) Z ?_
    refine LO Z (.gn Z Z (NB c146)) Z (KU Z (LX Z (NB c146) Z) Z ?_);cases h;exact TD.nil (K0 [0,0])
   refine TD.run ak [9] Z Z ?_;iterate 3 refine TD.q Z (.g Z Z (NC c146)) (LC ak Z) Z ?_
   rcases jF h with⟨c147,h⟩ | ⟨c147,h⟩
   ·refine TD.q Z (.g Z Z (NB c147)) (LC ak Z) Z (TD.q Z (.g Z Z (NB c147)) (LC ak Z) Z ?_);obtain⟨c148,h⟩:=al h;refine TD.q Z (.g Z Z (NB c147)) (Ex.sub Z Z c148) Z ?_;obtain⟨c149,h⟩:=al h;obtain⟨x150,hx151,h⟩:=Ny h;obtain⟨z152cs,z152cl,z152cc,z152nf,z152r⟩:=Ml QS hX hx151;obtain⟨z152S,z152r,z152rr⟩:=z152r;obtain⟨A153,c154,rfl,z152s0⟩:=z152r;have hX155:(RX.of (aq 2 ca) [.slice A153 x150.MP.length c154] x150.MP).reads w F:=⟨z152S,z152s0,z152rr⟩;refine TD.q Z (.g Z Z (NB c147)) (K6 (k:=((k5:Int) - 1).toNat) Z Z ((Int.toNat_of_nonneg c149).symm) Ox OD (ND hx151).1) Z ?_;refine TD.q Z (.g Z Z (NB c147)) (LC ak Z) Z (TD.q Z (.g Z Z (NB c147)) (Lw 0 Z Oc z152nf z152cc Z Z) Z (TD.q Z (.g Z Z (NB c147)) (LC ak Z) Z (TD.q Z (.g Z Z (NB c147)) (Lc 0 Z Oc Z Z) Z (TD.q Z (.g Z Z (NB c147)) (Ex.sGe Z Z) Z (TD.q Z (.g Z Z (NC c146)) (LX Z (NB c147) Z) Z (KU Z (LU Z (NC c146) Z) Z ?_))))));rcases jF h with⟨c156,h⟩ | ⟨c156,h⟩
    ·cases h;exact TD.nil (LH (d:=44) (v':= .bool false) Z (congrArg Value.bool (bi c156)) (K0 [0,0]))
    replace c156:=NF c156;cases h;exact TD.nil (LH (d:=44) (v':= .bool true) Z (congrArg Value.bool (bF c156)) (K0 [0,0]))
   refine LO Z (.gn Z Z (NC c147)) Z ?_;iterate 8 refine LO Z (.gn Z Z (NC c147)) Z ?_
   refine TD.q Z (.g Z Z (NC c146)) (LU Z (NC c147) Z) Z (KU Z (LU Z (NC c146) Z) Z ?_);cases h;exact TD.nil (K0 [0,0])
  rintro _ _ ⟨rfl,rfl⟩;clear h;have h:=hk144;clear hk144;try dsimp only at h
  rcases jF h with⟨c157,h⟩ | ⟨c157,h⟩
  ·refine X.seq (K1 Z c157 (KN Z (KM ak 1 Z ?_)));obtain rfl:=Nz h;obtain rfl:=Nz hO8;exact KP (T.ret (KT (K2 (KT (KT (K2 (KT (KY [1] Qf (KQ Z)))))))))
  replace c157:=NF c157;refine X.seq (Li Z c157 (Lk Z (KR ak bj 0 Z 2 Z Z (KO Z (K4 Z Ow) Z (KX ak Z (T.block ?_))))));obtain⟨E160,hE161,hO162⟩:=Ny h;have hk166len:=LG hX129;refine LB (fun m e Rs=> ∃ (y158:Int) (k159:Nat),k159+m=x10.MP.length/\e = [(0,.slice (some ⟨gz126,oz126,none⟩) a0.length c2),(2,jI y158),(4,jP b130),(10,.slice (some ⟨gz126,oz126,none⟩) a0.length c2),(11,jI (a0.length:Int)),(12,jI (k5:Int)),(46,.slice A127 x10.MP.length c128),(47,jI (x10.MP.length:Int)),(48,jI (k159:Int))]/\Rs = [aV b130 176 #[jS x10.MV,.slice A127 x10.MP.length c128],aL]/\dO x10 (x10.MP.drop k159) y158 k159=some E160) (x10.MP.length) [0,0] ⟨y4,0,by simp,Z,Z,by rw[List.drop_zero]; exact hE161⟩ QW QW ?_;clear hE161 h;rintro m163 _ _ ⟨y158,k159,hk166,rfl,rfl,h⟩
  cases m163 with
  | zero =>
   rw[List.drop_of_length_le QR,dO] at h;have hk166ge: ¬ ((k159:Int)<(x10.MP.length:Int)):=by omega
   refine KN Z (KX ak Z (T.seq (Li Z (NC hk166ge) ?_)));obtain rfl:=Nz h;replace h:=hO162;clear hO162;exact T.exit (K5 (K5 (Ly (La (X.seq (T.region Z (KO Z (Ex.add Z Z QR) Z (KM ak 1 Z (TL.nil (X.back (m':=m9) [1] QR ⟨y158,k5+1,by omega,Z,Z,h⟩ QW QW))))))))))
  | succ m163 =>
   obtain⟨x164,hxx164⟩: ∃ x,x10.MP[k159]? = some x:=⟨_,List.getElem?_eq_getElem QR⟩;rw[bH hxx164,dO] at h;have hk166lt:(k159:Int)<(x10.MP.length:Int):=by omega
   refine KN Z (KX ak Z (T.seq (K1 Z (NB hk166lt) (K8 (T.seq (T.block (KN Z ?_)))))));obtain⟨gz202,oz202,rfl,z202cs,z202cl,z202cc,z202nf,z202r⟩:=Lm QS hX129 hxx164;obtain⟨z202S,z202r,z202rr⟩:=z202r;obtain⟨A203,c204,rfl,z202s0⟩:=z202r;have hX205:(RX.of (aq 12 dJ) [.slice A203 x164.MW.length c204] x164.MW).reads w F:=⟨z202S,z202s0,z202rr⟩;refine KM ak 1 Z ?_;refine KO Z (K6 (k:=k159) Z Z Z Ow Ov (ND hxx164).1) Z ?_;refine KO Z (LM (us := [jI x164.M8,.slice A203 x164.MW.length c204]) 0 Z PI Ov z202nf z202cc Z Z Z) Z (TL.alloc Z .u Tryz.zeroValue179 Z (fun b206=>(KM ak 1 Z (K3 0 Z (cs':= #[jI x164.M8,.slice A203 x164.MW.length c204]) Z .u Z Z Ov Z Z Z Z Z (KP (T.seq ?_))))));obtain⟨y220,h,hk221⟩:=Ny h;refine LE (fun e Rs=>e = [(0,.slice (some ⟨gz126,oz126,none⟩) a0.length c2),(2,jI y158),(4,jP b130),(10,.slice (some ⟨gz126,oz126,none⟩) a0.length c2),(11,jI (a0.length:Int)),(12,jI (k5:Int)),(46,.slice (some ⟨gz202,oz202,none⟩) x10.MP.length c128),(47,jI (x10.MP.length:Int)),(48,jI (k159:Int)),(77,.bool y220)]/\Rs = [aV b206 179 #[jI x164.M8,.slice A203 x164.MW.length c204],aV b130 176 #[jS x10.MV,.slice (some ⟨gz202,oz202,none⟩) x10.MP.length c128],aL]) ?_ ?_
   ·clear hk221;refine Ls (.q 0 (.q 1 (.q 2 (.q 3 (.q 4 (.q 5 (.e 6 (.q 7 (.q 8 (.q 9 (.q 10 (.q 11 (.q 12 (.q 13 (.q 14 (.q 15 (.q 16 (.q 17 (.q 18 (.q 19 (.q 20 (.q 21 (.q 22 (.q 23 (.q 24 .nil))))))))))))))))))))))))) [0,0,0] Z n7 (NoP.seq (NoP.seq (NoP.blk (NoP.seq (NoP.seq (NoP.blk (NoP.blk (NoP.seq (NoP.seq (NoP.blk (NoP.seq bq))))))))))) QU ?_;refine TD.run ak [0] Z Z (KU Z (Lc 0 Z NH Z Z) Z ?_);rcases jF h with⟨c222,h⟩ | ⟨c222,h⟩
    ·refine TD.run ak [2,3] Z Z ?_;iterate 2 refine LO Z (.gn Z Z (NB c222)) Z ?_
     refine Mo Z (.gn Z Z (NB c222)) Z [0,0,0] Z (LO Z (.gn Z Z (NB c222)) Z (KU Z (LX Z (NB c222) Z) Z (TD.run ak [9] Z Z ?_)));iterate 3 refine LO Z (.gn Z Z Z) Z ?_
     iterate 10 refine LO Z (.gu Z Z) Z ?_
     refine LO Z (.gn Z Z Z) Z (KU Z (LX Z Z Z) Z ?_);cases h;exact TD.nil (K0 [0,0,0])
    refine TD.run ak [2,3] Z Z (TD.q Z (.g Z Z (NC c222)) (LC ak Z) Z (TD.q Z (.g Z Z (NC c222)) (Lc 0 Z NH Z Z) Z ?_));obtain⟨x223,hx224,h⟩:=Ny h;refine LF Z (.g Z Z (NC c222)) (.fn Tryz.call101 Z) (LL (fun w=>dI x164.M8 4 _ hx224 w)) (fun _ _=>Lv _ _) Z [0,0,0] (Z) (TD.q Z (.g Z Z (NC c222)) (LC ak Z) Z (KU Z (LU Z (NC c222) Z) Z ?_));rcases jF h with⟨c225,h⟩ | ⟨c225,h⟩
    ·refine TD.run ak [9] Z Z ?_;iterate 3 refine TD.q Z (.g Z Z (bi c225)) (LC ak Z) Z ?_
     rcases jF h with⟨c226,h⟩ | ⟨c226,h⟩
     ·refine TD.q Z (.g Z Z (NB c226)) (LC ak Z) Z (TD.q Z (.g Z Z (NB c226)) (Lc 1 Z P5 Z Z) Z (TD.q Z (.g Z Z (NB c226)) (LC ak Z) Z ?_));obtain⟨c227,h⟩:=al h;refine TD.q Z (.g Z Z (NB c226)) (Ex.sub Z Z c227) Z ?_;obtain⟨c228,h⟩:=al h;obtain⟨x229,hx230,h⟩:=Ny h;obtain⟨z231cs,z231cl,z231cc,z231nf,z231r⟩:=Ml QS hX129 hx230;obtain⟨z231S,z231r,z231rr⟩:=z231r;obtain⟨A232,c233,rfl,z231s0⟩:=z231r;have hX234:(RX.of (aq 12 dJ) [.slice A232 x229.MW.length c233] x229.MW).reads w F:=⟨z231S,z231s0,z231rr⟩;refine TD.q Z (.g Z Z (NB c226)) (K6 (k:=((k159:Int) - 1).toNat) Z Z ((Int.toNat_of_nonneg c228).symm) Ow Ov (ND hx230).1) Z ?_;refine TD.q Z (.g Z Z (NB c226)) (LC ak Z) Z (TD.q Z (.g Z Z (NB c226)) (Lw 0 Z NH z231nf z231cc Z Z) Z (TD.q Z (.g Z Z (NB c226)) (LC ak Z) Z (TD.q Z (.g Z Z (NB c226)) (Lc 0 Z NH Z Z) Z (TD.q Z (.g Z Z (NB c226)) (LC ak Z) Z (TD.q Z (.g Z Z (bi c225)) (LX Z (NB c226) Z) Z (KU Z (LU Z (bi c225) Z) Z ?_))))));rcases jF h with⟨c235,h⟩ | ⟨c235,h⟩
      ·cases h;exact TD.nil (LH (d:=77) (v':= .bool true) Z (congrArg Value.bool (NB c235)) (K0 [0,0,0]))
      cases h;exact TD.nil (LH (d:=77) (v':= .bool false) Z (congrArg Value.bool (NC c235)) (K0 [0,0,0]))
     refine LO Z (.gn Z Z (NC c226)) Z ?_;iterate 9 refine LO Z (.gn Z Z (NC c226)) Z ?_
     refine TD.q Z (.g Z Z (bi c225)) (LU Z (NC c226) Z) Z (KU Z (LU Z (bi c225) Z) Z ?_);cases h;exact TD.nil (K0 [0,0,0])
    replace c225:=NF c225;refine TD.run ak [9] Z Z ?_;iterate 3 refine LO Z (.gn Z Z (bF c225)) Z ?_
    iterate 10 refine LO Z (.gu Z Z) Z ?_
    refine LO Z (.gn Z Z (bF c225)) Z (KU Z (LX Z (bF c225) Z) Z ?_);cases h;exact TD.nil (K0 [0,0,0])
   rintro _ _ ⟨rfl,rfl⟩;clear h;have h:=hk221;clear hk221;try dsimp only at h
   rcases jF h with⟨c236,h⟩ | ⟨c236,h⟩
   ·refine X.seq (K1 Z c236 (KN Z (KM ak 1 Z ?_)));obtain rfl:=Nz h;obtain rfl:=Nz hO162;obtain rfl:=Nz hO8;exact KP (T.ret (K2 (KT (KT (K2 (K2 (KT (KT (K2 (KT (KY [2] Qf (KQ Z))))))))))))
   replace c236:=NF c236;exact X.seq (Li Z c236 (T.skip (La (X.seq (T.region Z (KO Z (Ex.add Z Z QR) Z (KM ak 1 Z (TL.nil (X.back (m':=m163) [1,1] QR ⟨y158,k159+1,by omega,Z,Z,h⟩ QW QW)))))))))
def cc (a0:aA):List Bat->Int->Option (Lp Int Int)
 | [],y14=>some (Lp.go y14)
 | x20::xs,y14=>(dY x20).bind fun x28=>if x28=0 then (if x20.Nl=true then some (Lp.ret 12) else (if (x20.Ni == a0.MU.null)=true then some (Lp.ret 8) else (cc a0 xs y14))) else some (Lp.ret x28)
def dZ (a0:aA) (a1:List Bat) (a2:Int):Option (Int):=(if (a1.length:Int)=0 then some true else (if a2<4 then (if (a1.length:Int)>1 then some true else some false) else some false)).bind fun y8=>if y8=true then some 10 else ((cc a0 a1 0).bind fun e=>match e with | .ret r=>some r | .go y33=>some 0)
theorem lR (a0:aA) (A1:Option Addr) (c2:Nat) (a1:List Bat) (A3:Option Addr) (c4:Nat) (a2:Int) (r:Int) (h:dZ a0 a1 a2=some r):aG Tryz.prog 195 #[.agg #[.bool a0.MU.null,jS a0.MU.data,jI a0.Nc,jI a0.MT,.slice A1 a0.MN.length c2],.slice A3 a1.length c4,jI a2] (RX.and (RX.of (aq 2 aP) [.slice A1 a0.MN.length c2] a0.MN) (RX.of (aq 12 dJ) [.slice A3 a1.length c4] a1)) (aL) (fun v A' N=>v=jI r/\A'=aL/\N = []):=by
 refine aU Tryz.func195 Z Tryz.ntmps195 Z ?_;intro F w hX;unfold dZ at h;refine KN Z (TL.box Z .u Z Z (fun b5=>(KX ak Z (L0 ?_))));obtain⟨y8,h,hk9⟩:=Ny h;refine LE (fun e Rs=>e = [(1,.slice A3 a1.length c4),(3,jP b5),(6,jI 0),(21,.bool y8)]/\Rs = [aV b5 36 #[.bool a0.MU.null,jS a0.MU.data,jI a0.Nc,jI a0.MT,.slice A1 a0.MN.length c2],aL]) ?_ ?_
 ·clear hk9;refine T.region Z (KM ak 1 Z (KO Z (K4 Z N7) Z ?_));rcases jF h with⟨c10,h⟩ | ⟨c10,h⟩
  ·refine KM ak 2 Z (KV 13 Z (NB c10) (KW ak 8 Z ?_));cases h;exact TL.nil (K0 [0,0])
  refine KM ak 2 Z (KV 13 Z (NC c10) ?_);rcases jF h with⟨c11,h⟩ | ⟨c11,h⟩
  ·refine KW ak 3 Z (KV 16 Z (NB c11) (KW ak 1 Z (TL.q Z (.g Z Z Z) (K4 Z N7) Z (KW ak 3 Z ?_))));rcases jF h with⟨c12,h⟩ | ⟨c12,h⟩
   ·cases h;exact TL.nil (LH (d:=21) (v':= .bool true) Z (congrArg Value.bool (NB c12)) (K0 [0,0]))
   cases h;exact TL.nil (LH (d:=21) (v':= .bool false) Z (congrArg Value.bool (NC c12)) (K0 [0,0]))
  refine KW ak 3 Z (KV 16 Z (NC c11) (KW ak 5 Z ?_));cases h;exact TL.nil (K0 [0,0])
 rintro _ _ ⟨rfl,rfl⟩;clear h;have h:=hk9;clear hk9;try dsimp only at h
 rcases jF h with⟨c13,h⟩ | ⟨c13,h⟩
 ·refine X.seq (K1 Z c13 (KN Z (KM ak 1 Z ?_)));obtain rfl:=Nz h;exact KP (T.ret (KT (KY [1] Qg (KQ Z))))
 replace c13:=NF c13;refine X.seq (Li Z c13 (K8 (T.seq (KN Z (KM ak 1 Z (KO Z (K4 Z N7) Z (KX ak Z (T.block ?_))))))));obtain⟨E16,hE17,hO18⟩:=Ny h;have hk22len:=LG (Lf hX);refine LB (fun m e Rs=> ∃ (y14:Int) (k15:Nat),k15+m=a1.length/\e = [(3,jP b5),(6,jI y14),(22,.slice A3 a1.length c4),(23,jI (a1.length:Int)),(24,jI (k15:Int))]/\Rs = [aV b5 36 #[.bool a0.MU.null,jS a0.MU.data,jI a0.Nc,jI a0.MT,.slice A1 a0.MN.length c2],aL]/\cc a0 (a1.drop k15) y14=some E16) (a1.length) [0,0] ⟨0,0,by simp,Z,Z,by rw[List.drop_zero]; exact hE17⟩ QW QW ?_;clear hE17 h;rintro m19 _ _ ⟨y14,k15,hk22,rfl,rfl,h⟩
 cases m19 with
 | zero =>
  rw[List.drop_of_length_le QR,cc] at h;have hk22ge: ¬ ((k15:Int)<(a1.length:Int)):=by omega
  refine KN Z (KX ak Z (T.seq (Li Z (NC hk22ge) ?_)));obtain rfl:=Nz h;replace h:=hO18;clear hO18;refine T.exit (K5 (K5 (Ly (X.seq (KN Z (KM ak 1 Z ?_))))));obtain rfl:=Nz h;exact KP (T.ret (KY [1] Qg (KQ Z)))
 | succ m19 =>
  obtain⟨x20,hxx20⟩: ∃ x,a1[k15]? = some x:=⟨_,List.getElem?_eq_getElem QR⟩;rw[bH hxx20,cc] at h;have hk22lt:(k15:Int)<(a1.length:Int):=by omega
  refine KN Z (KX ak Z (T.seq (K1 Z (NB hk22lt) ?_)));obtain⟨gz23,oz23,rfl,z23cs,z23cl,z23cc,z23nf,z23r⟩:=Lm QS (Lf hX) hxx20;obtain⟨z23S,z23r,z23rr⟩:=z23r;obtain⟨A24,c25,rfl,z23s0⟩:=z23r;have hX26:(RX.of (aq 7 cZ) [.slice A24 x20.MS.length c25] x20.MS).reads w F:=⟨z23S,z23s0,z23rr⟩;refine K8 (T.seq (T.block (KN Z ?_)));refine KO Z (K6 (k:=k15) Z Z Z N7 NR (ND hxx20).1) Z ?_;refine KO Z (LM (us:=wL5 x20 A24 c25) 0 Z Od NR z23nf z23cc Z Z Z) Z (TL.alloc Z .u Tryz.zeroValue97 Z (fun b27=>(K3 0 Z (cs':=wA0 x20 A24 c25) Z .u Z Z NR Z Z Z Z Z (KP (T.seq (KN Z (KO Z (K9 (us:=wL5 x20 A24 c25) 0 Z Od NR Z Z Z) Z ?_)))))));obtain⟨x28,hx29,h⟩:=Ny h;refine Lb Z .u (.fn Tryz.call81 Z) (jZ x20 _ _ _ hx29) (fun _ hs=>(K7 hs hX26)) Z (Le ak Z Z (KM ak 2 Z ?_));rcases jF h with⟨c30,h⟩ | ⟨c30,h⟩
  ·refine Lr Z c30 (K8 (T.block (KN Z (KR ak bj 0 Z 3 Z Z ?_))));rcases jF h with⟨c31,h⟩ | ⟨c31,h⟩
   ·refine KP (K1 Z c31 (KN Z (KM ak 1 Z ?_)));obtain rfl:=Nz h;obtain rfl:=Nz hO18;exact KP (T.ret (K2 (K2 (KT (KT (K2 (KT (KY [2] Qg (KQ Z)))))))))
   replace c31:=NF c31;refine KP (Li Z c31 (KN Z (KR ak bj 0 Z 4 Z Z (KR ak bj 1 Z 1 Z Z (KO Z (Ex.bEq Z Z Z Z N8) Z (KM ak 1 Z ?_))))));rcases jF h with⟨c32,h⟩ | ⟨c32,h⟩
   ·refine KP (K1 Z c32 (KN Z (KM ak 1 Z ?_)));obtain rfl:=Nz h;obtain rfl:=Nz hO18;exact KP (T.ret (K2 (K2 (KT (KT (K2 (KT (KY [2] Qg (KQ Z)))))))))
   replace c32:=NF c32;exact KP (Li Z c32 (T.skip (La (La (X.seq (T.region Z (KO Z (Ex.add Z Z QR) Z (KM ak 1 Z (TL.nil (X.back (m':=m19) [1,1] QR ⟨y14,k15+1,by omega,Z,Z,h⟩ QW QW))))))))))
  refine Lq Z c30 (KN Z (KM ak 2 Z ?_));obtain rfl:=Nz h;obtain rfl:=Nz hO18;exact KP (T.ret (KT (K2 (KT (KT (K2 (KT (KY [2] Qg (KQ Z)))))))))
def cu (a0:aA) (a1:Int):List aY->Int->Option (Lp Int Int)
 | [],y51=>some (Lp.go y51)
 | x57::xs,y51=>(dZ a0 x57.MW a1).bind fun x65=>if x65=0 then (cu a0 a1 xs y51) else some (Lp.ret x65)
def cv (a0:aA) (a1:Int):List aJ->Int->Option (Lp Int Int)
 | [],y37=>some (Lp.go y37)
 | x43::xs,y37=>(cu a0 a1 x43.MP y37).bind fun e=>match e with | .ret r=>some (Lp.ret r) | .go y68=>(cv a0 a1 xs y68)
def cC (a0:aA) (a1:Int):Option (Int):=((qo a0.MU).bind fun x12=>if x12=true then (if a0.MU.null=true then some false else ((nQ a0.MU.data).bind fun x16=>if x16=true then some false else some true)) else some true).bind fun y10=>if y10=true then some 4 else ((if a0.Nc<(-1) then some true else (if a0.Nc>1 then some true else (if a0.MT<0 then some true else ((jy a0.MT 4).bind fun x30=>if x30=true then some false else some true)))).bind fun y25=>if y25=true then some 11 else ((je a0.MN).bind fun x34=>if x34=0 then ((cv a0 a1 a0.MN 0).bind fun e=>match e with | .ret r=>some r | .go y70=>some 0) else some x34))
theorem iN (a0:aA) (A1:Option Addr) (c2:Nat) (a1:Int) (r:Int) (h:cC a0 a1=some r):aG Tryz.prog 156 #[.agg #[.bool a0.MU.null,jS a0.MU.data,jI a0.Nc,jI a0.MT,.slice A1 a0.MN.length c2],jI a1] (RX.of (aq 2 aP) [.slice A1 a0.MN.length c2] a0.MN) (aL) (fun v A' N=>v=jI r/\A'=aL/\N = []):=by
 refine aU Tryz.func156 Z Tryz.ntmps156 Z ?_;intro F w hX;unfold cC at h;refine KN Z (TL.box Z .u Z Z (fun b3=>(KX ak Z (T.seq (T.block (T.seq ?_))))));obtain⟨y10,h,hk11⟩:=Ny h;refine LE (fun e Rs=>e = [(1,jI a1),(2,jP b3),(4,jI 0),(11,.bool y10)]/\Rs = [aV b3 36 #[.bool a0.MU.null,jS a0.MU.data,jI a0.Nc,jI a0.MT,.slice A1 a0.MN.length c2],aL]) ?_ ?_
 ·clear hk11;refine T.region Z (KM ak 1 Z (KO Z (K9 (us:=wL6 a0.MU) 0 Z Oa NM Z Z Z) Z ?_));obtain⟨x12,hx13,h⟩:=Ny h;refine Lb Z .u (.fn Tryz.call148 Z) (nO a0.MU _ hx13) rT Z ?_;rcases jF h with⟨c14,h⟩ | ⟨c14,h⟩
  ·refine KM ak 2 Z (KV 16 Z (bi c14) ?_);rcases jF h with⟨c15,h⟩ | ⟨c15,h⟩
   ·refine KR ak bj 0 Z 5 Z Z (KV 21 Z (bi c15) (KW ak 8 Z ?_));cases h;exact TL.nil (K0 [0,0])
   replace c15:=NF c15;refine KR ak bj 0 Z 5 Z Z (KV 21 Z (bF c15) ?_);obtain⟨x16,hx17,h⟩:=Ny h;refine KR ak bj 0 Z 3 Z Z (Lb Z (.g Z Z Z) (.fn Tryz.call87 Z) (LL (fun w=>mA a0.MU.data _ hx17 w)) (fun _ _=>Lv _ _) Z (KW ak 4 Z ?_));rcases jF h with⟨c18,h⟩ | ⟨c18,h⟩
   ·cases h;exact TL.nil (LH (d:=11) (v':= .bool false) Z (congrArg Value.bool (bi c18)) (K0 [0,0]))
   replace c18:=NF c18;cases h;exact TL.nil (LH (d:=11) (v':= .bool true) Z (congrArg Value.bool (bF c18)) (K0 [0,0]))
  replace c14:=NF c14;refine KM ak 2 Z (KV 16 Z (bF c14) (KW ak 13 Z ?_));cases h;exact TL.nil (K0 [0,0])
 rintro _ _ ⟨rfl,rfl⟩;clear h;have h:=hk11;clear hk11;try dsimp only at h
 rcases jF h with⟨c19,h⟩ | ⟨c19,h⟩
 ·refine X.seq (K1 Z c19 (KN Z (KM ak 1 Z ?_)));obtain rfl:=Nz h;exact KP (T.ret (K2 (KT (KY [1] Qh (KQ Z)))))
 replace c19:=NF c19;refine X.seq (Li Z c19 (T.seq ?_));obtain⟨y25,h,hk26⟩:=Ny h;refine LE (fun e Rs=>e = [(1,jI a1),(2,jP b3),(4,jI 0),(29,.bool y25)]/\Rs = [aV b3 36 #[.bool a0.MU.null,jS a0.MU.data,jI a0.Nc,jI a0.MT,.slice A1 a0.MN.length c2],aL]) ?_ ?_
 ·clear hk26;refine T.region Z ?_;rcases jF h with⟨c27,h⟩ | ⟨c27,h⟩
  ·refine KR ak bj 0 Z 4 Z Z (KV 33 Z (NB c27) (KW ak 16 Z ?_));cases h;exact TL.nil (K0 [0,0])
  refine KR ak bj 0 Z 4 Z Z (KV 33 Z (NC c27) ?_);rcases jF h with⟨c28,h⟩ | ⟨c28,h⟩
  ·refine KR ak bj 0 Z 5 Z Z (KV 38 Z (NB c28) (KW ak 11 Z ?_));cases h;exact TL.nil (K0 [0,0])
  refine KR ak bj 0 Z 5 Z Z (KV 38 Z (NC c28) ?_);rcases jF h with⟨c29,h⟩ | ⟨c29,h⟩
  ·refine KR ak bj 0 Z 5 Z Z (KV 43 Z (NB c29) (KW ak 6 Z ?_));cases h;exact TL.nil (K0 [0,0])
  refine KR ak bj 0 Z 5 Z Z (KV 43 Z (NC c29) ?_);obtain⟨x30,hx31,h⟩:=Ny h;refine KR ak bj 0 Z 2 Z Z (Lb Z (.g Z Z Z) (.fn Tryz.call101 Z) (LL (fun w=>dI a0.MT 4 _ hx31 w)) (fun _ _=>Lv _ _) Z (KW ak 3 Z ?_));rcases jF h with⟨c32,h⟩ | ⟨c32,h⟩
  ·cases h;exact TL.nil (LH (d:=29) (v':= .bool false) Z (congrArg Value.bool (bi c32)) (K0 [0,0]))
  replace c32:=NF c32;cases h;exact TL.nil (LH (d:=29) (v':= .bool true) Z (congrArg Value.bool (bF c32)) (K0 [0,0]))
 rintro _ _ ⟨rfl,rfl⟩;clear h;have h:=hk26;clear hk26;try dsimp only at h
 rcases jF h with⟨c33,h⟩ | ⟨c33,h⟩
 ·refine X.seq (K1 Z c33 (KN Z (KM ak 1 Z ?_)));obtain rfl:=Nz h;exact KP (T.ret (K2 (KT (KY [1] Qh (KQ Z)))))
 replace c33:=NF c33;refine X.seq (Li Z c33 (T.skip (La (X.seq (T.seq (KN Z ?_))))));obtain⟨x34,hx35,h⟩:=Ny h;refine KR ak bj 0 Z 2 Z Z (Lb Z .u (.fn Tryz.call194 Z) (rO a0.MN _ _ _ hx35) (fun _ hs=>(K7 hs hX)) Z (Le ak Z Z (KM ak 2 Z ?_)));rcases jF h with⟨c36,h⟩ | ⟨c36,h⟩
 ·refine Lr Z c36 (K8 (T.seq (KN Z (KR ak bj 0 Z 2 Z Z (KO Z (K4 Z Ox) Z (KX ak Z (T.block ?_)))))));obtain⟨E39,hE40,hO41⟩:=Ny h;have hk45len:=LG hX;refine LB (fun m e Rs=> ∃ (y37:Int) (k38:Nat),k38+m=a0.MN.length/\e = [(1,jI a1),(2,jP b3),(4,jI y37),(56,.slice A1 a0.MN.length c2),(57,jI (a0.MN.length:Int)),(58,jI (k38:Int))]/\Rs = [aV b3 36 #[.bool a0.MU.null,jS a0.MU.data,jI a0.Nc,jI a0.MT,.slice A1 a0.MN.length c2],aL]/\cv a0 a1 (a0.MN.drop k38) y37=some E39) (a0.MN.length) [0,0] ⟨0,0,by simp,Z,Z,by rw[List.drop_zero]; exact hE40⟩ QW QW ?_;clear hE40 h;rintro m42 _ _ ⟨y37,k38,hk45,rfl,rfl,h⟩
  cases m42 with
  | zero =>
   rw[List.drop_of_length_le QR,cv] at h;have hk45ge: ¬ ((k38:Int)<(a0.MN.length:Int)):=by omega
   refine KN Z (KX ak Z (T.seq (Li Z (NC hk45ge) ?_)));obtain rfl:=Nz h;replace h:=hO41;clear hO41;refine T.exit (K5 (K5 (Ly (X.seq (KN Z (KM ak 1 Z ?_))))));obtain rfl:=Nz h;exact KP (T.ret (KY [1] Qh (KQ Z)))
  | succ m42 =>
   obtain⟨x43,hxx43⟩: ∃ x,a0.MN[k38]? = some x:=⟨_,List.getElem?_eq_getElem QR⟩;rw[bH hxx43,cv] at h;have hk45lt:(k38:Int)<(a0.MN.length:Int):=by omega
   refine KN Z (KX ak Z (T.seq (K1 Z (NB hk45lt) ?_)));obtain⟨gz46,oz46,rfl,z46cs,z46cl,z46cc,z46nf,z46r⟩:=Lm QS hX hxx43;obtain⟨z46S,z46r,z46rr⟩:=z46r;obtain⟨A47,c48,rfl,z46s0⟩:=z46r;have hX49:(RX.of (aq 2 ca) [.slice A47 x43.MP.length c48] x43.MP).reads w F:=⟨z46S,z46s0,z46rr⟩;refine K8 (T.seq (T.block (KN Z ?_)));refine KO Z (K6 (k:=k38) Z Z Z Ox OD (ND hxx43).1) Z ?_;refine KO Z (LM (us := [jS x43.MV,.slice A47 x43.MP.length c48]) 0 Z P6 OD z46nf z46cc Z Z Z) Z (TL.alloc Z .u Tryz.zeroValue176 Z (fun b50=>(K3 0 Z (cs':= #[jS x43.MV,.slice A47 x43.MP.length c48]) Z .u Z Z OD Z Z Z Z Z (Ld Z (KR ak bj 0 Z 2 Z Z (KO Z (K4 Z Ow) Z (KX ak Z (T.block ?_))))))));obtain⟨E53,hE54,hO55⟩:=Ny h;have hk59len:=LG hX49;refine LB (fun m e Rs=> ∃ (y51:Int) (k52:Nat),k52+m=x43.MP.length/\e = [(1,jI a1),(2,jP b3),(4,jI y51),(56,.slice (some ⟨gz46,oz46,none⟩) a0.MN.length c2),(57,jI (a0.MN.length:Int)),(58,jI (k38:Int)),(63,.slice A47 x43.MP.length c48),(64,jI (x43.MP.length:Int)),(65,jI (k52:Int))]/\Rs = [aV b50 176 #[jS x43.MV,.slice A47 x43.MP.length c48],aV b3 36 #[.bool a0.MU.null,jS a0.MU.data,jI a0.Nc,jI a0.MT,.slice (some ⟨gz46,oz46,none⟩) a0.MN.length c2],aL]/\cu a0 a1 (x43.MP.drop k52) y51=some E53) (x43.MP.length) [0,0,0] ⟨y37,0,by simp,Z,Z,by rw[List.drop_zero]; exact hE54⟩ QW QW ?_;clear hE54 h;rintro m56 _ _ ⟨y51,k52,hk59,rfl,rfl,h⟩
   cases m56 with
   | zero =>
    rw[List.drop_of_length_le QR,cu] at h;have hk59ge: ¬ ((k52:Int)<(x43.MP.length:Int)):=by omega
    refine KN Z (KX ak Z (T.seq (Li Z (NC hk59ge) ?_)));obtain rfl:=Nz h;replace h:=hO55;clear hO55;exact T.exit (K5 (K5 (Ly (La (X.seq (T.region Z (KO Z (Ex.add Z Z QR) Z (KM ak 1 Z (TL.nil (X.back (m':=m42) [1,1] QR ⟨y51,k38+1,by omega,Z,Z,h⟩ QW QW))))))))))
   | succ m56 =>
    obtain⟨x57,hxx57⟩: ∃ x,x43.MP[k52]? = some x:=⟨_,List.getElem?_eq_getElem QR⟩;rw[bH hxx57,cu] at h;have hk59lt:(k52:Int)<(x43.MP.length:Int):=by omega
    refine KN Z (KX ak Z (T.seq (K1 Z (NB hk59lt) ?_)));obtain⟨gz60,oz60,rfl,z60cs,z60cl,z60cc,z60nf,z60r⟩:=Lm QS hX49 hxx57;obtain⟨z60S,z60r,z60rr⟩:=z60r;obtain⟨A61,c62,rfl,z60s0⟩:=z60r;have hX63:(RX.of (aq 12 dJ) [.slice A61 x57.MW.length c62] x57.MW).reads w F:=⟨z60S,z60s0,z60rr⟩;refine K8 (T.seq (T.block (KN Z ?_)));refine KO Z (K6 (k:=k52) Z Z Z Ow Ov (ND hxx57).1) Z ?_;refine KO Z (LM (us := [jI x57.M8,.slice A61 x57.MW.length c62]) 0 Z PI Ov z60nf z60cc Z Z Z) Z (TL.alloc Z .u Tryz.zeroValue179 Z (fun b64=>(K3 0 Z (cs':= #[jI x57.M8,.slice A61 x57.MW.length c62]) Z .u Z Z Ov Z Z Z Z Z (Ld Z (KO Z (K9 (us := [.bool a0.MU.null,jS a0.MU.data,jI a0.Nc,jI a0.MT,.slice (some ⟨gz46,oz46,none⟩) a0.MN.length c2]) 2 Z Pq OG Z Z Z) Z ?_)))));obtain⟨x65,hx66,h⟩:=Ny h;refine KR ak bj 0 Z 3 Z Z (Lb Z .u (.fn Tryz.call195 Z) (lR a0 _ _ x57.MW _ _ a1 _ hx66) (fun _ hs=>(RX.reads_and (K7 hs hX) (K7 hs hX63))) Z (Le ak Z Z (KM ak 2 Z ?_)));rcases jF h with⟨c67,h⟩ | ⟨c67,h⟩
    ·exact Lr Z c67 (T.skip (La (X.seq (T.region Z (KO Z (Ex.add Z Z QR) Z (KM ak 1 Z (TL.nil (X.back (m':=m56) [1,1,1] QR ⟨y51,k52+1,by omega,Z,Z,h⟩ QW QW))))))))
    refine Lq Z c67 (KN Z (KM ak 2 Z ?_));obtain rfl:=Nz h;obtain rfl:=Nz hO55;obtain rfl:=Nz hO41;exact KP (T.ret (K2 (KT (KT (K2 (K2 (KT (KT (K2 (KT (KY [3] Qh (KQ Z))))))))))))
 refine Lq Z c36 (KN Z (KM ak 2 Z ?_));obtain rfl:=Nz h;exact KP (T.ret (KT (KY [1] Qh (KQ Z))))
def dG:List aY->(List UInt8×Int)->Option (List UInt8×Int)
 | [],st78=>some st78
 | x83::xs,st78=>(qD x83.MW).bind fun (x91,x92)=>(if x92=0 then some st78 else ((l7 st78 x92).bind fun st100=>some st100)).bind fun st97=>(ed st97 x83.M8 4).bind fun st102=>(gOf x91).bind fun x104=>(mK st102 x104 4).bind fun st106=>dG xs st106
def dH:List aJ->(List UInt8×Int)->Option (List UInt8×Int)
 | [],st16=>some st16
 | x21::xs,st16=>((oG st16 x21.MV).bind fun st73=>(ed st73 (x21.MP.length:Int) 4).bind fun st75=>(dG x21.MP st75).bind fun st109=>some st109).bind fun st66=>dH xs st66
def im (st:List UInt8×Int) (a0:aA) (a2:Int):Option (List UInt8×Int):=(cC a0 a2).bind fun x4=>if x4=0 then ((mK st a0.MU 2).bind fun st7=>(ed st7 a0.Nc 2).bind fun st9=>(ed st9 a0.MT 4).bind fun st11=>(ed st11 (a0.MN.length:Int) 4).bind fun st13=>(dH a0.MN st13).bind fun st111=>some st111) else ((l7 st x4).bind fun st112=>some st112)
theorem mE (g:Nat) (st:List UInt8×Int) (a0:aA) (A1:Option Addr) (c2:Nat) (a2:Int) (r:List UInt8×Int) (h:im st a0 a2=some r):aG Tryz.prog 100 #[.agg #[.bool a0.MU.null,jS a0.MU.data,jI a0.Nc,jI a0.MT,.slice A1 a0.MN.length c2],jP g,jI a2] (RX.of (aq 2 aP) [.slice A1 a0.MN.length c2] a0.MN) (bC g st) (fun v A' N=>v= .tuple #[]/\A'=bC g r/\N = []):=by
 refine aU Tryz.func100 Z Tryz.ntmps100 Z ?_;intro F w hX;unfold im at h;refine KN Z (TL.box Z .u Z Z (fun b3=>(KP (T.seq (KN Z (KO Z (K9 (us := [.bool a0.MU.null,jS a0.MU.data,jI a0.Nc,jI a0.MT,.slice A1 a0.MN.length c2]) 0 Z Pq OG Z Z Z) Z ?_))))));obtain⟨x4,hx5,h⟩:=Ny h;refine KM ak 1 Z (Lb Z .u (.fn Tryz.call156 Z) (iN a0 _ _ a2 _ hx5) (fun _ hs=>(K7 hs hX)) Z (Le ak Z Z (KM ak 2 Z ?_)));rcases jF h with⟨c6,h⟩ | ⟨c6,h⟩
 ·refine Lr Z c6 (Lk Z (KM ak 2 Z (KO Z (K9 (us:=wL6 a0.MU) 0 Z Oa NM Z Z Z) Z ?_)));obtain⟨st7,hx8,h⟩:=Ny h;refine KZ 1 Z Z .u (.fn Tryz.call95 Z) (kr g st a0.MU 2 _ hx8) sT Z Z (Ld Z ?_);obtain⟨st9,hx10,h⟩:=Ny h;refine KR ak bj 0 Z 3 Z Z (KZ 1 Z Z .u (.fn Tryz.call51 Z) (bu g st7 a0.Nc 2 _ hx10) sT Z Z (Ld Z ?_));obtain⟨st11,hx12,h⟩:=Ny h;refine KR ak bj 0 Z 3 Z Z (KZ 1 Z Z .u (.fn Tryz.call51 Z) (bu g st9 a0.MT 4 _ hx12) sT Z Z (Ld Z (KR ak bj 0 Z 3 Z Z (KO Z (K4 Z Ox) Z ?_))));obtain⟨st13,hx14,h⟩:=Ny h;refine KZ 1 Z Z .u (.fn Tryz.call51 Z) (bu g st11 (a0.MN.length:Int) 4 _ hx14) sT Z Z (Ld Z (KR ak bj 0 Z 2 Z Z (KO Z (K4 Z Ox) Z (KX ak Z (T.block ?_)))));obtain⟨E17,hE18,hO19⟩:=Ny h;have hk23len:=LG hX;refine LB (fun m e Rs=> ∃ (k15:Nat) (st16:List UInt8×Int),k15+m=a0.MN.length/\e = [(1,jP g),(39,.slice A1 a0.MN.length c2),(40,jI (a0.MN.length:Int)),(41,jI (k15:Int))]/\Rs = [aV b3 36 #[.bool a0.MU.null,jS a0.MU.data,jI a0.Nc,jI a0.MT,.slice A1 a0.MN.length c2],bC g st16]/\dH (a0.MN.drop k15) st16=some E17) (a0.MN.length) [0,0] ⟨0,st13,by simp,Z,Z,by rw[List.drop_zero]; exact hE18⟩ QW QW ?_;clear hE18 h;rintro m20 _ _ ⟨k15,st16,hk23,rfl,rfl,h⟩
  cases m20 with
  | zero =>
   rw[List.drop_of_length_le QR,dH] at h;have hk23ge: ¬ ((k15:Int)<(a0.MN.length:Int)):=by omega
   refine KN Z (KX ak Z (T.seq (Li Z (NC hk23ge) ?_)));obtain rfl:=Nz h;obtain rfl:=Nz hO19;exact T.exit (K5 (K5 (Ly (LQ [1] Tryz.results100 ⟨Z,Z,Z⟩ QW (.inr Z)))))
  | succ m20 =>
   obtain⟨x21,hxx21⟩: ∃ x,a0.MN[k15]? = some x:=⟨_,List.getElem?_eq_getElem QR⟩;rw[bH hxx21,dH] at h;have hk23lt:(k15:Int)<(a0.MN.length:Int):=by omega
   refine KN Z (KX ak Z (T.seq (K1 Z (NB hk23lt) (K8 (T.seq ?_)))));obtain⟨st66,h,hk67⟩:=Ny h;refine LE (fun e Rs=>e = [(1,jP g),(39,.slice A1 a0.MN.length c2),(40,jI (a0.MN.length:Int)),(41,jI (k15:Int))]/\Rs = [aV b3 36 #[.bool a0.MU.null,jS a0.MU.data,jI a0.Nc,jI a0.MT,.slice A1 a0.MN.length c2],bC g st66]) ?_ ?_
   ·clear hk67;obtain⟨gz68,oz68,rfl,z68cs,z68cl,z68cc,z68nf,z68r⟩:=Lm QS hX hxx21;obtain⟨z68S,z68r,z68rr⟩:=z68r;obtain⟨A69,c70,rfl,z68s0⟩:=z68r;have hX71:(RX.of (aq 2 ca) [.slice A69 x21.MP.length c70] x21.MP).reads w F:=⟨z68S,z68s0,z68rr⟩;refine T.block (KN Z ?_);refine KO Z (K6 (k:=k15) Z Z Z Ox OD (ND hxx21).1) Z ?_;refine KO Z (LM (us := [jS x21.MV,.slice A69 x21.MP.length c70]) 0 Z P6 OD z68nf z68cc Z Z Z) Z (TL.alloc Z .u Tryz.zeroValue176 Z (fun b72=>(K3 0 Z (cs':= #[jS x21.MV,.slice A69 x21.MP.length c70]) Z .u Z Z OD Z Z Z Z Z (Ld Z ?_))));obtain⟨st73,hx74,h⟩:=Ny h;refine KR ak bj 0 Z 3 Z Z (KZ 2 Z Z .u (.fn Tryz.call88 Z) (lx g st16 x21.MV _ hx74) sT Z Z (Ld Z (KR ak bj 0 Z 3 Z Z (KO Z (K4 Z Ow) Z ?_))));obtain⟨st75,hx76,h⟩:=Ny h;refine KZ 2 Z Z .u (.fn Tryz.call51 Z) (bu g st73 (x21.MP.length:Int) 4 _ hx76) sT Z Z (Ld Z (KR ak bj 0 Z 2 Z Z (KO Z (K4 Z Ow) Z (KX ak Z (T.block ?_)))));obtain⟨E79,hE80,hO81⟩:=Ny h;have hk85len:=LG hX71;refine LB (fun m e Rs=> ∃ (k77:Nat) (st78:List UInt8×Int),k77+m=x21.MP.length/\e = [(1,jP g),(39,.slice (some ⟨gz68,oz68,none⟩) a0.MN.length c2),(40,jI (a0.MN.length:Int)),(41,jI (k15:Int)),(55,.slice A69 x21.MP.length c70),(56,jI (x21.MP.length:Int)),(57,jI (k77:Int))]/\Rs = [aV b72 176 #[jS x21.MV,.slice A69 x21.MP.length c70],aV b3 36 #[.bool a0.MU.null,jS a0.MU.data,jI a0.Nc,jI a0.MT,.slice (some ⟨gz68,oz68,none⟩) a0.MN.length c2],bC g st78]/\dG (x21.MP.drop k77) st78=some E79) (x21.MP.length) [0,0,0] ⟨0,st75,by simp,Z,Z,by rw[List.drop_zero]; exact hE80⟩ QW QW ?_;clear hE80 h;rintro m82 _ _ ⟨k77,st78,hk85,rfl,rfl,h⟩
    cases m82 with
    | zero =>
     rw[List.drop_of_length_le QR,dG] at h;have hk85ge: ¬ ((k77:Int)<(x21.MP.length:Int)):=by omega
     refine KN Z (KX ak Z (T.seq (Li Z (NC hk85ge) ?_)));obtain rfl:=Nz h;replace h:=hO81;clear hO81;try dsimp only at h
     cases h;exact T.exit (K5 (K5 (Ly (La (K0 [1,1])))))
    | succ m82 =>
     obtain⟨x83,hxx83⟩: ∃ x,x21.MP[k77]? = some x:=⟨_,List.getElem?_eq_getElem QR⟩;rw[bH hxx83,dG] at h;have hk85lt:(k77:Int)<(x21.MP.length:Int):=by omega
     refine KN Z (KX ak Z (T.seq (K1 Z (NB hk85lt) ?_)));obtain⟨gz86,oz86,rfl,z86cs,z86cl,z86cc,z86nf,z86r⟩:=Lm QS hX71 hxx83;obtain⟨z86S,z86r,z86rr⟩:=z86r;obtain⟨A87,c88,rfl,z86s0⟩:=z86r;have hX89:(RX.of (aq 12 dJ) [.slice A87 x83.MW.length c88] x83.MW).reads w F:=⟨z86S,z86s0,z86rr⟩;refine K8 (T.seq (T.block (KN Z ?_)));refine KO Z (K6 (k:=k77) Z Z Z Ow Ov (ND hxx83).1) Z ?_;refine KO Z (LM (us := [jI x83.M8,.slice A87 x83.MW.length c88]) 0 Z PI Ov z86nf z86cc Z Z Z) Z (TL.alloc Z .u Tryz.zeroValue179 Z (fun b90=>(K3 0 Z (cs':= #[jI x83.M8,.slice A87 x83.MW.length c88]) Z .u Z Z Ov Z Z Z Z Z (Ld Z ?_))));obtain⟨⟨x91,x92⟩,hx93,h⟩:=Ny h;refine KR ak bj 0 Z 2 Z Z (Lb Z .u (.fn Tryz.call157 Z) (vn x83.MW _ _ _ hx93) (fun _ hs=>(K7 hs hX89)) Z (KX ak Z (T.seq (KN Z (KX ak Z ?_)))));obtain⟨st97,h,hk98⟩:=Ny h;refine LE (fun e Rs=>e = [(1,jP g),(10,jP b90),(11,jS x91),(39,.slice (some ⟨gz68,oz68,none⟩) a0.MN.length c2),(40,jI (a0.MN.length:Int)),(41,jI (k15:Int)),(55,.slice (some ⟨gz86,oz86,none⟩) x21.MP.length c70),(56,jI (x21.MP.length:Int)),(57,jI (k77:Int))]/\Rs = [aV b90 179 #[jI x83.M8,.slice A87 x83.MW.length c88],aV b72 176 #[jS x21.MV,.slice (some ⟨gz86,oz86,none⟩) x21.MP.length c70],aV b3 36 #[.bool a0.MU.null,jS a0.MU.data,jI a0.Nc,jI a0.MT,.slice (some ⟨gz68,oz68,none⟩) a0.MN.length c2],bC g st97]) ?_ ?_
     ·clear hk98;rcases jF h with⟨c99,h⟩ | ⟨c99,h⟩
      ·refine T.nn Z c99 ?_;cases h;exact T.skip (K0 [0,0,0,0])
      refine T.yn Z c99 (T.region Z ?_);obtain⟨st100,hx101,h⟩:=Ny h;refine KM ak 2 Z (KZ 3 Z Z .u (.fn Tryz.call94 Z) (g6 g st78 x92 _ hx101) sT Z Z ?_);cases h;exact TL.nil (K0 [0,0,0,0])
     rintro _ _ ⟨rfl,rfl⟩;clear h;have h:=hk98;clear hk98;refine X.seq (KN Z ?_);obtain⟨st102,hx103,h⟩:=Ny h;refine KR ak bj 0 Z 3 Z Z (KZ 3 Z Z .u (.fn Tryz.call51 Z) (bu g st97 x83.M8 4 _ hx103) sT Z Z (KP (T.region Z ?_)));obtain⟨x104,hx105,h⟩:=Ny h;refine KM ak 2 Z (Lb Z .u (.fn Tryz.call143 Z) (Hr x91 _ hx105) rT Z ?_);obtain⟨st106,hx107,h⟩:=Ny h;exact KZ 3 Z Z .u (.fn Tryz.call95 Z) (kr g st102 x104 4 _ hx107) sT Z Z (TL.nil (La (X.seq (T.region Z (KO Z (Ex.add Z Z QR) Z (KM ak 1 Z (TL.nil (X.back (m':=m82) [1,1,1] QR ⟨k77+1,st106,by omega,Z,Z,h⟩ QW QW))))))))
   rintro _ _ ⟨rfl,rfl⟩;clear h;have h:=hk67;clear hk67;exact X.seq (T.region Z (KO Z (Ex.add Z Z QR) Z (KM ak 1 Z (TL.nil (X.back (m':=m20) [0,0] QR ⟨k15+1,st66,by omega,Z,Z,h⟩ QW QW)))))
 refine Lq Z c6 (KN Z ?_);obtain⟨st112,hx113,h⟩:=Ny h;refine KM ak 2 Z (KZ 1 Z Z .u (.fn Tryz.call94 Z) (g6 g st x4 _ hx113) sT Z Z ?_);obtain rfl:=Nz h;exact KP (T.ret (KT (LQ [1] Tryz.results100 ⟨Z,Z,Z⟩ QW (.inl Z))))
def cD:Nat->List Bat->I->I->Option (List Bat×I×I)
 | 0,_,_,_=>none
 | m29+1,y21,st24,st25=>((iF st25).bind fun (x44,st45)=>if x44=0 then ((xf st24).bind fun (x48,st49)=>if x48>0 then some (true,st49,st45) else some (false,st49,st45)) else some (false,st24,st45)).bind fun (y40,st41,st42)=>if y40=true then ((jt st41).bind fun (x53,st56)=>if (y21.length+1)*96<=140737488355328 then ((iF st56).bind fun (x62,st63)=>(if x62=0 then some st42 else ((ck st42 x62).bind fun st71=>some st71)).bind fun st68=>cD m29 (y21 ++ [x53]) st63 st68) else none) else some (y21,st41,st42)
def gT (st:I)  : Option (aY×I):=(d9 st 4).bind fun (x2,st3)=>(kW st3 4).bind fun (x6,st7)=>(if x6.null=true then ((ck st7 4).bind fun st16=>some st16) else some st7).bind fun st13=>(wc x6.data).bind fun st18=>(cD (((st18.rest.length:Int)+(st13.rest.length:Int)+1).toNat+1) [] st18 st13).bind fun (y73,st76,st77)=>some ((⟨x2,y73⟩:aY),st77)
theorem mw (g:Nat) (st:I)  (r:aY×I) (h:gT st  = some r):aG Tryz.prog 173 #[jP g] .triv (InR g st) (fun v A' N=> ∃ (A78:Option Addr) (c79:Nat),v= .agg #[jI r.1.M8,.slice A78 r.1.MW.length c79]/\A'=InR g r.2/\N = [RdR (aq 12 dJ) [.slice A78 r.1.MW.length c79] r.1.MW]):=by
 refine aU Tryz.func173 Z Tryz.ntmps173 Z ?_;intro F w hX;unfold gT at h;refine KN Z (TL.alloc Z .u Tryz.zeroValue179 Z (fun b1=>(Ld Z ?_)));obtain⟨⟨x2,st3⟩,hx4,h⟩:=Ny h;refine KM ak 1 Z (KZ 1 Z Z .u (.fn Tryz.call68 Z) (bz g st 4 _ hx4) sT Z Z ?_);refine KO Z (Lo (cells:= #[jI x2,.slice none 0 0]) wC Z QU) Z ?_;refine TL.alloc Z .u Tryz.zeroValue179 Z (fun b5=>(K3 0 Z (cs':= #[jI x2,.slice none 0 0]) Z .u Z Z Ov Z Z Z Z Z (Ld Z ?_)));obtain⟨⟨x6,st7⟩,hx8,h⟩:=Ny h;refine KM ak 1 Z (KZ 2 Z Z .u (.fn Tryz.call142 Z) (j9 g st3 4 _ hx8) sT Z Z (TL.alloc Z .u Tryz.zeroValue23 Z (fun b9=>(K3 0 Z (cs':=wA7 x6) Z .u Z Z NM Z Z Z Z Z (KP (T.seq (KN Z (L6 ak bj 0 Z Z Z ?_))))))));obtain⟨st13,h,hk14⟩:=Ny h;refine LE (fun e Rs=>e = [(0,jP g),(2,jP b1),(3,jP b5),(4,jP b9)]/\Rs = [aV b9 23 (wA7 x6),aV b5 179 #[jI x2,.slice none 0 0],aV b1 179 #[jI 0,.slice none 0 0],InR g st13]) ?_ ?_
 ·clear hk14;rcases jF h with⟨c15,h⟩ | ⟨c15,h⟩
  ·refine K1 Z c15 (T.region Z ?_);obtain⟨st16,hx17,h⟩:=Ny h;refine KM ak 1 Z (KZ 3 Z Z .u (.fn Tryz.call70 Z) (bK g st7 4 _ hx17) sT Z Z ?_);cases h;exact TL.nil (K0 [0,0,0,0])
  replace c15:=NF c15;refine Li Z c15 ?_;cases h;exact T.skip (K0 [0,0,0,0])
 rintro _ _ ⟨rfl,rfl⟩;clear h;have h:=hk14;clear hk14;refine X.seq (KN Z ?_);obtain⟨st18,hx19,h⟩:=Ny h;refine KR ak bj 0 Z 2 Z Z (Mb Z .u (.fn Tryz.call19 Z) (j8 x6.data _ hx19) rT Z ?_);rintro _ _ _ ⟨b20,rfl,rfl,rfl⟩;refine Lt [0,0,0,0,0] Z (KX ak Z (T.seq (T.block (LY 97 12 dJ ?_))));obtain⟨E26,hE27,hO28⟩:=Ny h;refine LB (fun m e Rs=> ∃ (y21:List Bat) (A22:Option Addr) (c23:Nat) (st24:I) (st25:I),e = [(0,jP g),(2,jP b1),(3,jP b5),(5,jP b20)]/\Rs = [bG 97 12 dJ (.slice A22 y21.length c23) y21,InR b20 st24,aV b9 23 (wA7 x6),aV b5 179 #[jI x2,.slice A22 y21.length c23],aV b1 179 #[jI 0,.slice none 0 0],InR g st25]/\cD m y21 st24 st25=some E26) (((st18.rest.length:Int)+(st13.rest.length:Int)+1).toNat+1) [0,0,0,0,0,0] ⟨[],none,0,st18,st13,Z,Z,by exact hE27⟩ QW QW ?_;clear hE27 h;rintro m29 _ _ ⟨y21,A22,c23,st24,st25,rfl,rfl,h⟩
 cases m29 with
 | zero =>
  rw[cD] at h;cases h
 | succ m29 =>
  rw[cD] at h;refine L0 ?_;obtain⟨⟨y40,st41,st42⟩,h,hk43⟩:=Ny h;refine LE (fun e Rs=>e = [(0,jP g),(2,jP b1),(3,jP b5),(5,jP b20),(26,.bool y40)]/\Rs = [bG 97 12 dJ (.slice A22 y21.length c23) y21,InR b20 st41,aV b9 23 (wA7 x6),aV b5 179 #[jI x2,.slice A22 y21.length c23],aV b1 179 #[jI 0,.slice none 0 0],InR g st42]) ?_ ?_
  ·clear hk43;refine T.region Z ?_;obtain⟨⟨x44,st45⟩,hx46,h⟩:=Ny h;refine KM ak 1 Z (KZ 5 Z Z .u (.fn Tryz.call23 Z) (cy g st25 _ hx46) sT Z Z ?_);rcases jF h with⟨c47,h⟩ | ⟨c47,h⟩
   ·refine KM ak 2 Z (KV 22 Z (NB c47) ?_);obtain⟨⟨x48,st49⟩,hx50,h⟩:=Ny h;refine KW ak 1 Z (KZ 1 Z Z (.g Z Z Z) (.fn Tryz.call71 Z) (pe b20 st24 _ hx50) sT Z Z (KW ak 2 Z ?_));rcases jF h with⟨c51,h⟩ | ⟨c51,h⟩
    ·cases h;exact TL.nil (LH (d:=26) (v':= .bool true) Z (congrArg Value.bool (NB c51)) (K0 [0,0,0,0,0,0]))
    cases h;exact TL.nil (LH (d:=26) (v':= .bool false) Z (congrArg Value.bool (NC c51)) (K0 [0,0,0,0,0,0]))
   refine KM ak 2 Z (KV 22 Z (NC c47) (KW ak 4 Z ?_));cases h;exact TL.nil (K0 [0,0,0,0,0,0])
  rintro _ _ ⟨rfl,rfl⟩;clear h;have h:=hk43;clear hk43;try dsimp only at h
  rcases jF h with⟨c52,h⟩ | ⟨c52,h⟩
  ·refine X.seq (K1 Z c52 ?_);obtain⟨⟨x53,st56⟩,hx57,h⟩:=Ny h;try dsimp only at h
   obtain⟨c59,h⟩:=al h;refine K8 (T.block (T.seq ?_));refine Mr (fun e Rs=> ∃ (A54:Option Addr) (c55:Nat) (b58:Nat) (A60:Option Addr) (c61:Nat),e = [(0,jP g),(2,jP b1),(3,jP b5),(5,jP b20)]/\Rs = [bG 97 12 dJ (.slice A60 (y21 ++ [x53]).length c61) (y21 ++ [x53]),InR b20 st56,aV b9 23 (wA7 x6),aV b5 179 #[jI x2,.slice A60 (y21 ++ [x53]).length c61],aV b1 179 #[jI 0,.slice none 0 0],InR g st42]) ?_ ?_
   ·refine Ls (.q 0 (.q 2 (.br 1 (.e 3 (.e 4 (.e 5 (.q 6 (.e 7 .nil))))) (.e 3 (.br 1 (.e 4 (.e 5 (.q 6 (.e 7 .nil)))) (.e 4 (.e 1 (.e 5 (.q 6 (.e 7 .nil)))))))))) [2,3,3] Z n7 r8 QU ?_;refine TD.run ak [0,2] Z Z ?_;refine TD.br ?_ ?_
    ·refine Mh Z .u (Lc 3 Z Ph Z Z) Z [2,3,3] Z ?_;refine TD.cg1 Z .u (.fn Tryz.call80 Z) (nZ b20 st41 _ hx57) sT Z [3,4,4] ?_ ?_
     ·rintro _ _ _ ⟨A54,c55,rfl,rfl,rfl⟩;rfl
     rintro _ _ _ ⟨A54,c55,rfl,rfl,rfl⟩;refine LV [0,0,0,0,0,0,0] Z ?_;refine L8 (cells:=wA0 x53 A54 c55) Z .u kH Z QU Z [4,5,5] (fun _=>Z) (fun b58=> ?_);refine MH 1 0 Z .u (us:=wL5 x53 A54 c55) (u:=x53) (l:=y21) (E:=dJ) Tryz.underlying177 nz Z QS Z Z Z Z Z Z Z (fun w G hG=>⟨_,_,Z,hG.1⟩) (by have hq:=c59; omega) (by have hq:=c59; omega) Z [2,3,3] (fun _ _=>Z) (fun A60 c61=> ?_);exact LV [0,0,0,0,0,0] Z (TD.run ak [6] Z Z (LP 3 Z (cs':= #[jI x2,.slice A60 (y21 ++ [x53]).length c61]) Z .u Z Z PT Z Z Z Z Z [2,3,3] (Z) (TD.nil (L9 [0,0,0,0,0,0] ⟨A54,c55,b58,A60,c61,Z,Z⟩ QW QW))))
    refine TD.cg1 Z .u (.fn Tryz.call80 Z) (nZ b20 st41 _ hx57) sT Z [3,4,4] ?_ ?_
    ·rintro _ _ _ ⟨A54,c55,rfl,rfl,rfl⟩;rfl
    rintro _ _ _ ⟨A54,c55,rfl,rfl,rfl⟩;refine LV [0,0,0,0,0,0,0] Z ?_;refine TD.br ?_ ?_
    ·refine Mh Z .u (Lc 4 Z Ph Z Z) Z [3,4,4] Z ?_;refine L8 (cells:=wA0 x53 A54 c55) Z .u kH Z QU Z [4,5,5] (fun _=>Z) (fun b58=> ?_);refine MH 1 0 Z .u (us:=wL5 x53 A54 c55) (u:=x53) (l:=y21) (E:=dJ) Tryz.underlying177 nz Z QS Z Z Z Z Z Z Z (fun w G hG=>⟨_,_,Z,hG.1⟩) (by have hq:=c59; omega) (by have hq:=c59; omega) Z [2,3,3] (fun _ _=>Z) (fun A60 c61=> ?_);exact LV [0,0,0,0,0,0] Z (TD.run ak [6] Z Z (LP 3 Z (cs':= #[jI x2,.slice A60 (y21 ++ [x53]).length c61]) Z .u Z Z PT Z Z Z Z Z [2,3,3] (Z) (TD.nil (L9 [0,0,0,0,0,0] ⟨A54,c55,b58,A60,c61,Z,Z⟩ QW QW))))
    refine L8 (cells:=wA0 x53 A54 c55) Z .u kH Z QU Z [4,5,5] (fun _=>Z) (fun b58=> ?_);refine Mh Z .u (Lc 5 Z Ph Z Z) Z [4,5,5] Z ?_;refine MH 1 0 Z .u (us:=wL5 x53 A54 c55) (u:=x53) (l:=y21) (E:=dJ) Tryz.underlying177 nz Z QS Z Z Z Z Z Z Z (fun w G hG=>⟨_,_,Z,hG.1⟩) (by have hq:=c59; omega) (by have hq:=c59; omega) Z [2,3,3] (fun _ _=>Z) (fun A60 c61=> ?_);exact LV [0,0,0,0,0,0] Z (TD.run ak [6] Z Z (LP 3 Z (cs':= #[jI x2,.slice A60 (y21 ++ [x53]).length c61]) Z .u Z Z PT Z Z Z Z Z [2,3,3] (Z) (TD.nil (L9 [0,0,0,0,0,0] ⟨A54,c55,b58,A60,c61,Z,Z⟩ QW QW))))
   rintro _ _ ⟨A54,c55,b58,A60,c61,rfl,rfl⟩;refine X.seq (KN Z ?_);obtain⟨⟨x62,st63⟩,hx64,h⟩:=Ny h;refine KM ak 1 Z (KZ 1 Z Z .u (.fn Tryz.call23 Z) (cy b20 st56 _ hx64) sT Z Z (Le ak Z Z (KX ak Z ?_)));obtain⟨st68,h,hk69⟩:=Ny h;refine LE (fun e Rs=>e = [(0,jP g),(2,jP b1),(3,jP b5),(5,jP b20)]/\Rs = [bG 97 12 dJ (.slice A60 (y21 ++ [x53]).length c61) (y21 ++ [x53]),InR b20 st63,aV b9 23 (wA7 x6),aV b5 179 #[jI x2,.slice A60 (y21 ++ [x53]).length c61],aV b1 179 #[jI 0,.slice none 0 0],InR g st68]) ?_ ?_
   ·clear hk69;rcases jF h with⟨c70,h⟩ | ⟨c70,h⟩
    ·refine T.nn Z c70 ?_;cases h;exact T.skip (K0 [0,0,0,0,0,0])
    refine T.yn Z c70 (T.region Z ?_);obtain⟨st71,hx72,h⟩:=Ny h;refine KM ak 2 Z (KZ 5 Z Z .u (.fn Tryz.call70 Z) (bK g st42 x62 _ hx72) sT Z Z ?_);cases h;exact TL.nil (K0 [0,0,0,0,0,0])
   rintro _ _ ⟨rfl,rfl⟩;clear h;have h:=hk69;clear hk69;try dsimp only at h
   exact La (X.back (m':=m29) [0,0,0,0,0,0] QR ⟨(y21 ++ [x53]),A60,c61,st63,st68,Z,Z,h⟩ QW QW)
  replace c52:=NF c52;refine X.seq (Li Z c52 ?_);obtain rfl:=Nz h;replace h:=hO28;clear hO28;refine T.exit (K5 (K5 (Ly (X.seq (KN Z (KO Z (K9 (us := [jI x2,.slice A22 y21.length c23]) 3 Z PI Ov Z Z Z) Z (K3 4 Z (cs':= #[jI x2,.slice A22 y21.length c23]) Z .u Z Z Ov Z Z Z Z Z ?_)))))));obtain rfl:=Nz h;exact KP (T.ret (Ms QS 0 Z (LJ [0,0,0,0,0,0] Z (Ll [5,0] Tryz.results173 (LI (us:= #[jI x2,.slice A22 y21.length c23]) 4 Z PI Ov Z Z) ⟨_,_,Z,Z,Z⟩ QW (.inl Z)))))
def cj (x32:Int):Nat->Nat->List aY->I->Option (Lp (aA×I) (Nat×List aY×I))
 | 0,_,_,_=>none
 | m43+1,k35,y36,st39=>if (k35:Int)<x32 then ((gT st39).bind fun (x48,st51)=>if (y36.length+1)*32<=140737488355328 then ((iF st51).bind fun (x57,st58)=>if x57=0 then (if -9223372036854775808<=((k35:Int)+1)/\((k35:Int)+1)<=9223372036854775807 then (cj x32 m43 (k35+1) (y36 ++ [x48]) st58) else none) else (some (Lp.ret ((⟨(⟨false,[]⟩:Bl),0,0,[]⟩:aA),st58)))) else none) else (some (Lp.go (k35,y36,st39)))
def dj (x12:Int):Nat->Nat->List aJ->I->Option (Lp (aA×I) (Nat×List aJ×I))
 | 0,_,_,_=>none
 | m23+1,k15,y16,st19=>if (k15:Int)<x12 then ((tc st19).bind fun (x28,st29)=>(jB st29 4 8).bind fun (x32,st33)=>(cj x32 ((x32).toNat+1) 0 [] st33).bind fun e=>match e with | .ret r=>some (Lp.ret r) | .go (k71,y72,st75)=>((iF st75).bind fun (x76,st77)=>if x76=0 then (if (y16.length+1)*40<=140737488355328 then (if -9223372036854775808<=((k15:Int)+1)/\((k15:Int)+1)<=9223372036854775807 then (dj x12 m23 (k15+1) (y16 ++ [(⟨x28,y72⟩:aJ)]) st77) else none) else none) else (some (Lp.ret ((⟨(⟨false,[]⟩:Bl),0,0,[]⟩:aA),st77))))) else (some (Lp.go (k15,y16,st19)))
theorem rP (x12:Int) (u1:Nat) (u2:List aJ) (u3:I):dj x12 0 u1 u2 u3=none:=rfl
theorem gJ (x12:Int) (m23:Nat) (k15:Nat) (y16:List aJ) (st19:I):dj x12 (m23+1) k15 y16 st19=(if (k15:Int)<x12 then ((tc st19).bind fun (x28,st29)=>(jB st29 4 8).bind fun (x32,st33)=>(cj x32 ((x32).toNat+1) 0 [] st33).bind fun e=>match e with | .ret r=>some (Lp.ret r) | .go (k71,y72,st75)=>((iF st75).bind fun (x76,st77)=>if x76=0 then (if (y16.length+1)*40<=140737488355328 then (if -9223372036854775808<=((k15:Int)+1)/\((k15:Int)+1)<=9223372036854775807 then (dj x12 m23 (k15+1) (y16 ++ [(⟨x28,y72⟩:aJ)]) st77) else none) else none) else (some (Lp.ret ((⟨(⟨false,[]⟩:Bl),0,0,[]⟩:aA),st77))))) else (some (Lp.go (k15,y16,st19)))):=rfl
def eB (st:I) (a1:Int):Option (aA×I):=(kW st 2).bind fun (x2,st3)=>(d9 st3 2).bind fun (x5,st6)=>(d9 st6 4).bind fun (x8,st9)=>(jB st9 4 6).bind fun (x12,st13)=>(dj x12 ((x12).toNat+1) 0 [] st13).bind fun e=>match e with | .ret r=>some r | .go (k116,y117,st120)=>((iF st120).bind fun (x121,st122)=>(if x121=0 then ((cC (⟨x2,x5,x8,y117⟩:aA) a1).bind fun x138=>(if x138=0 then some st122 else ((ck st122 x138).bind fun st146=>some st146)).bind fun st143=>some st143) else some st122).bind fun st135=>(iF st135).bind fun (x148,st149)=>if x148=0 then (some ((⟨x2,x5,x8,y117⟩:aA),st149)) else (some ((⟨(⟨false,[]⟩:Bl),0,0,[]⟩:aA),st149)))
theorem rQ (g:Nat) (st:I) (a1:Int) (r:aA×I) (h:eB st a1=some r):aG Tryz.prog 120 #[jP g,jI a1] .triv (InR g st) (fun v A' N=> ∃ (A152:Option Addr) (c153:Nat),v= .agg #[.bool r.1.MU.null,jS r.1.MU.data,jI r.1.Nc,jI r.1.MT,.slice A152 r.1.MN.length c153]/\A'=InR g r.2/\N = [RdR (aq 2 aP) [.slice A152 r.1.MN.length c153] r.1.MN]):=by
 refine aU Tryz.func120 Z Tryz.ntmps120 Z ?_;intro F w hX;unfold eB at h;refine KN Z (TL.alloc Z .u Tryz.zeroValue36 Z (fun b1=>(Ld Z ?_)));obtain⟨⟨x2,st3⟩,hx4,h⟩:=Ny h;refine KM ak 1 Z (KZ 1 Z Z .u (.fn Tryz.call142 Z) (j9 g st 2 _ hx4) sT Z Z ?_);obtain⟨⟨x5,st6⟩,hx7,h⟩:=Ny h;refine KM ak 1 Z (KZ 1 Z Z .u (.fn Tryz.call68 Z) (bz g st3 2 _ hx7) sT Z Z ?_);obtain⟨⟨x8,st9⟩,hx10,h⟩:=Ny h;refine KM ak 1 Z (KZ 1 Z Z .u (.fn Tryz.call68 Z) (bz g st6 4 _ hx10) sT Z Z ?_);refine KO Z (Lo (cells:= #[.bool x2.null,jS x2.data,jI x5,jI x8,.slice none 0 0]) kF Z QU) Z ?_;refine TL.alloc Z .u Tryz.zeroValue36 Z (fun b11=>(K3 0 Z (cs':= #[.bool x2.null,jS x2.data,jI x5,jI x8,.slice none 0 0]) Z .u Z Z OG Z Z Z Z Z (KP (T.seq (KN Z ?_)))));obtain⟨⟨x12,st13⟩,hx14,h⟩:=Ny h;refine KM ak 1 Z (KZ 2 Z Z .u (.fn Tryz.call144 Z) (lE g st9 4 6 _ hx14) sT Z Z (KX ak Z (T.block (LY 176 2 aP ?_))));obtain⟨E20,hE21,hO22⟩:=Ny h;refine LB (fun m e Rs=> ∃ (k15:Nat) (y16:List aJ) (A17:Option Addr) (c18:Nat) (st19:I),e = [(0,jP g),(1,jI a1),(4,jP b1),(5,jP b11),(16,jI x12),(17,jI (k15:Int))]/\Rs = [bG 176 2 aP (.slice A17 y16.length c18) y16,aV b11 36 (DO x5 x8 A17 c18 (y16).length x2),aV b1 36 vA0,InR g st19]/\dj x12 m k15 y16 st19=some E20) ((x12).toNat+1) [0,0,0,0] ⟨0,[],none,0,st13,Z,Z,by exact hE21⟩ QW QW ?_;clear hE21 h;rintro m23 _ _ ⟨k15,y16,A17,c18,st19,rfl,rfl,h⟩
 cases m23 with
 | zero =>
  rw[rP] at h;cases h
 | succ m23 =>
  rw[gJ] at h;refine KN Z (KM ak 1 Z ?_);rcases jF h with⟨c27,h⟩ | ⟨c27,h⟩
  ·refine KP (T.seq (L2 Z c27 (K8 (T.seq (T.block (KN Z ?_))))));obtain⟨⟨x28,st29⟩,hx30,h⟩:=Ny h;refine KM ak 1 Z (KZ 3 Z Z .u (.fn Tryz.call86 Z) (pg g st19 _ hx30) sT Z Z ?_);refine KO Z (Lo (cells:= #[jS x28,.slice none 0 0]) wA Z QU) Z ?_;refine TL.alloc Z .u Tryz.zeroValue176 Z (fun b31=>(K3 0 Z (cs':= #[jS x28,.slice none 0 0]) Z .u Z Z OD Z Z Z Z Z (KP (T.seq (KN Z ?_)))));obtain⟨⟨x32,st33⟩,hx34,h⟩:=Ny h;refine KM ak 1 Z (KZ 4 Z Z .u (.fn Tryz.call144 Z) (lE g st29 4 8 _ hx34) sT Z Z (KX ak Z (T.block (LY 179 2 ca ?_))));obtain⟨E40,hE41,hO42⟩:=Ny h;refine LB (fun m e Rs=> ∃ (k35:Nat) (y36:List aY) (A37:Option Addr) (c38:Nat) (st39:I),e = [(0,jP g),(1,jI a1),(4,jP b1),(5,jP b11),(6,jP b31),(16,jI x12),(17,jI (k15:Int)),(23,jI x32),(24,jI (k35:Int))]/\Rs = [bG 179 2 ca (.slice A37 y36.length c38) y36,aV b31 176 #[jS x28,.slice A37 y36.length c38],bG 176 2 aP (.slice A17 y16.length c18) y16,aV b11 36 (DO x5 x8 A17 c18 (y16).length x2),aV b1 36 vA0,InR g st39]/\cj x32 m k35 y36 st39=some E40) ((x32).toNat+1) [0,0,0,0,0,0] ⟨0,[],none,0,st33,Z,Z,by exact hE41⟩ QW QW ?_;clear hE41 h;rintro m43 _ _ ⟨k35,y36,A37,c38,st39,rfl,rfl,h⟩
   cases m43 with
   | zero =>
    rw[cj] at h;cases h
   | succ m43 =>
    rw[cj] at h;refine KN Z (KM ak 1 Z ?_);rcases jF h with⟨c47,h⟩ | ⟨c47,h⟩
    ·refine KP (T.seq (L2 Z c47 ?_));obtain⟨⟨x48,st51⟩,hx52,h⟩:=Ny h;try dsimp only at h
     obtain⟨c54,h⟩:=al h;refine K8 (T.seq (T.block (T.seq ?_)));refine Mr (fun e Rs=> ∃ (A49:Option Addr) (c50:Nat) (b53:Nat) (A55:Option Addr) (c56:Nat),e = [(0,jP g),(1,jI a1),(4,jP b1),(5,jP b11),(6,jP b31),(16,jI x12),(17,jI (k15:Int)),(23,jI x32),(24,jI (k35:Int))]/\Rs = [bG 179 2 ca (.slice A55 (y36 ++ [x48]).length c56) (y36 ++ [x48]),aV b31 176 #[jS x28,.slice A55 (y36 ++ [x48]).length c56],bG 176 2 aP (.slice A17 y16.length c18) y16,aV b11 36 (DO x5 x8 A17 c18 (y16).length x2),aV b1 36 vA0,InR g st51]) ?_ ?_
     ·refine Ls (.q 0 (.q 2 (.br 1 (.e 3 (.e 4 (.e 5 (.q 6 (.e 7 .nil))))) (.e 3 (.br 1 (.e 4 (.e 5 (.q 6 (.e 7 .nil)))) (.e 4 (.e 1 (.e 5 (.q 6 (.e 7 .nil)))))))))) [2,2,2] Z n7 r8 QU ?_;refine TD.run ak [0,2] Z Z ?_;refine TD.br ?_ ?_
      ·refine Mh Z .u (Lc 1 Z P5 Z Z) Z [2,2,2] Z ?_;refine TD.cg5 Z .u (.fn Tryz.call173 Z) (mw g st39 _ hx52) sT Z [3,3,3] ?_ ?_
       ·rintro _ _ _ ⟨A49,c50,rfl,rfl,rfl⟩;rfl
       rintro _ _ _ ⟨A49,c50,rfl,rfl,rfl⟩;refine LV [0,0,0,0,0,0,0] Z (L8 (cells:= #[jI x48.M8,.slice A49 x48.MW.length c50]) Z .u kG Z QW Z [4,4,4] (fun _=>Z) (fun b53=> ?_));refine MH 1 0 Z .u (us := [jI x48.M8,.slice A49 x48.MW.length c50]) (u:=x48) (l:=y36) (E:=ca) Tryz.underlying174 md Z QS Z Z Z Z Z Z Z (fun w G hG=>⟨_,_,Z,hG.1⟩) (by have hq:=c54; omega) (by have hq:=c54; omega) Z [2,2,2] (fun _ _=>Z) (fun A55 c56=> ?_);exact LV [0,0,0,0,0,0] Z (TD.run ak [6] Z Z (LP 1 Z (cs':= #[jS x28,.slice A55 (y36 ++ [x48]).length c56]) Z .u Z Z Qp Z Z Z Z Z [2,2,2] (Z) (TD.nil (L9 [0,0,0,0,0,0] ⟨A49,c50,b53,A55,c56,Z,Z⟩ QW QW))))
      refine TD.cg5 Z .u (.fn Tryz.call173 Z) (mw g st39 _ hx52) sT Z [3,3,3] ?_ ?_
      ·rintro _ _ _ ⟨A49,c50,rfl,rfl,rfl⟩;rfl
      rintro _ _ _ ⟨A49,c50,rfl,rfl,rfl⟩;refine LV [0,0,0,0,0,0,0] Z ?_;refine TD.br ?_ ?_
      ·refine Mh Z .u (Lc 2 Z P5 Z Z) Z [3,3,3] Z (L8 (cells:= #[jI x48.M8,.slice A49 x48.MW.length c50]) Z .u kG Z QW Z [4,4,4] (fun _=>Z) (fun b53=> ?_));refine MH 1 0 Z .u (us := [jI x48.M8,.slice A49 x48.MW.length c50]) (u:=x48) (l:=y36) (E:=ca) Tryz.underlying174 md Z QS Z Z Z Z Z Z Z (fun w G hG=>⟨_,_,Z,hG.1⟩) (by have hq:=c54; omega) (by have hq:=c54; omega) Z [2,2,2] (fun _ _=>Z) (fun A55 c56=> ?_);exact LV [0,0,0,0,0,0] Z (TD.run ak [6] Z Z (LP 1 Z (cs':= #[jS x28,.slice A55 (y36 ++ [x48]).length c56]) Z .u Z Z Qp Z Z Z Z Z [2,2,2] (Z) (TD.nil (L9 [0,0,0,0,0,0] ⟨A49,c50,b53,A55,c56,Z,Z⟩ QW QW))))
      refine L8 (cells:= #[jI x48.M8,.slice A49 x48.MW.length c50]) Z .u kG Z QW Z [4,4,4] (fun _=>Z) (fun b53=>(Mh Z .u (Lc 3 Z P5 Z Z) Z [4,4,4] Z ?_));refine MH 1 0 Z .u (us := [jI x48.M8,.slice A49 x48.MW.length c50]) (u:=x48) (l:=y36) (E:=ca) Tryz.underlying174 md Z QS Z Z Z Z Z Z Z (fun w G hG=>⟨_,_,Z,hG.1⟩) (by have hq:=c54; omega) (by have hq:=c54; omega) Z [2,2,2] (fun _ _=>Z) (fun A55 c56=> ?_);exact LV [0,0,0,0,0,0] Z (TD.run ak [6] Z Z (LP 1 Z (cs':= #[jS x28,.slice A55 (y36 ++ [x48]).length c56]) Z .u Z Z Qp Z Z Z Z Z [2,2,2] (Z) (TD.nil (L9 [0,0,0,0,0,0] ⟨A49,c50,b53,A55,c56,Z,Z⟩ QW QW))))
     rintro _ _ ⟨A49,c50,b53,A55,c56,rfl,rfl⟩;refine X.seq (KN Z ?_);obtain⟨⟨x57,st58⟩,hx59,h⟩:=Ny h;refine KM ak 1 Z (KZ 5 Z Z .u (.fn Tryz.call23 Z) (cy g st51 _ hx59) sT Z Z (KM ak 1 Z ?_));rcases jF h with⟨c60,h⟩ | ⟨c60,h⟩
     ·refine Lr Z c60 ?_;obtain⟨c61,h⟩:=al h;exact T.skip (La (X.seq (T.region Z (KO Z (Ex.add Z Z c61) Z (KM ak 1 Z (TL.nil (X.back (m':=m43) [0,0,0,0,0,0] QR ⟨k35+1,(y36 ++ [x48]),A55,c56,st58,Z,Z,h⟩ QW QW)))))))
     refine Lq Z c60 (KN Z ?_);refine KO Z (Lo (cells:=vA0) kF Z QU) Z ?_;refine K3 4 Z (cs':=vA0) Z .u Z Z OG Z Z Z Z Z ?_;obtain rfl:=Nz h;obtain rfl:=Nz hO42;obtain rfl:=Nz hO22;exact KP (T.ret (K2 (KT (KT (K2 (KT (K2 (KT (KT (K2 (KT (Lj 2 aP (Ll [6,0] QI (LI (us:=vA0) 5 Z Pq OG Z Z) ⟨_,_,Z,Z,Z⟩ QW (.inl Z))))))))))))))
    refine KP (T.seq (L3 Z c47 ?_));obtain rfl:=Nz h;replace h:=hO42;clear hO42;refine T.exit (K5 (K5 (Ly (X.seq (T.seq (KN Z ?_))))));obtain⟨⟨x62,st63⟩,hx64,h⟩:=Ny h;refine KM ak 1 Z (KZ 5 Z Z .u (.fn Tryz.call23 Z) (cy g st39 _ hx64) sT Z Z (KM ak 1 Z ?_));rcases jF h with⟨c65,h⟩ | ⟨c65,h⟩
    ·refine Lr Z c65 (K8 (T.region Z (KR ak bj 3 Z 2 Z Z (KO Z (K9 (us := [jS x28,.slice A37 y36.length c38]) 1 Z P6 OD Z Z Z) Z (L4 (cells:= #[jS x28,.slice A37 y36.length c38]) Z .u vo Z QW Z (fun b66=> ?_))))));obtain⟨c67,h⟩:=al h;refine Mw 2 0 Z .u (us := [jS x28,.slice A37 y36.length c38]) (u:=(⟨x28,y36⟩:aJ)) (l:=y16) (E:=aP) Tryz.underlying34 wD Z QS Z Z Z Z Z Z Z (fun w G hG=>⟨_,_,Z,bX QS _ _ hG⟩) (by have hq:=c67; omega) (by have hq:=c67; omega) Z (fun A68 c69=> ?_);refine Lt [0,0,0,0,0] Z (KM ak 1 Z (K3 2 Z (cs':= #[.bool x2.null,jS x2.data,jI x5,jI x8,.slice A68 (y16 ++ [(⟨x28,y36⟩:aJ)]).length c69]) Z .u Z Z Tryz.sizeOf34 Z Z Z Z Z ?_));obtain⟨c70,h⟩:=al h;exact TL.nil (La (X.seq (T.region Z (KO Z (Ex.add Z Z c70) Z (KM ak 1 Z (TL.nil (X.back (m':=m23) [0,1,1,1] QR ⟨k15+1,(y16 ++ [(⟨x28,y36⟩:aJ)]),A68,c69,st63,Z,Z,h⟩ QW QW)))))))
    refine Lq Z c65 (KN Z ?_);refine KO Z (Lo (cells:=vA0) kF Z QU) Z ?_;refine K3 4 Z (cs':=vA0) Z .u Z Z OG Z Z Z Z Z ?_;obtain rfl:=Nz h;obtain rfl:=Nz hO22;exact KP (T.ret (KT (K2 (KT (KT (K2 (KT (Lj 2 aP (Ll [6,0] QI (LI (us:=vA0) 5 Z Pq OG Z Z) ⟨_,_,Z,Z,Z⟩ QW (.inl Z))))))))))
  refine KP (T.seq (L3 Z c27 ?_));obtain rfl:=Nz h;replace h:=hO22;clear hO22;refine T.exit (K5 (K5 (Ly (X.seq (T.seq (KN Z ?_))))));obtain⟨⟨x85,st86⟩,hx87,h⟩:=Ny h;refine KM ak 1 Z (KZ 3 Z Z .u (.fn Tryz.call23 Z) (cy g st19 _ hx87) sT Z Z (KX ak Z ?_));obtain⟨st99,h,hk100⟩:=Ny h;refine LE (fun e Rs=>e = [(0,jP g),(4,jP b1),(5,jP b11)]/\Rs = [bG 176 2 aP (.slice A17 y16.length c18) y16,aV b11 36 (DO x5 x8 A17 c18 (y16).length x2),aV b1 36 vA0,InR g st99]) ?_ ?_
  ·clear hk100;rcases jF h with⟨c101,h⟩ | ⟨c101,h⟩
   ·refine L2 Z c101 (KN Z (KO Z (K9 (us := [.bool x2.null,jS x2.data,jI x5,jI x8,.slice A17 y16.length c18]) 1 Z Pq OG Z Z Z) Z ?_));obtain⟨x102,hx103,h⟩:=Ny h;refine KM ak 1 Z (Lb Z .u (.fn Tryz.call156 Z) (iN (⟨x2,x5,x8,y16⟩:aA) _ _ a1 _ hx103) (fun _ hs=>(SrcE.res 0 hs Z (fun w G h=>bX QS w G h))) Z (Le ak Z Z (KX ak Z ?_)));obtain⟨st107,h,hk108⟩:=Ny h;refine LE (fun e Rs=>e = [(0,jP g),(4,jP b1),(5,jP b11)]/\Rs = [bG 176 2 aP (.slice A17 y16.length c18) y16,aV b11 36 (DO x5 x8 A17 c18 (y16).length x2),aV b1 36 vA0,InR g st107]) ?_ ?_
    ·clear hk108;rcases jF h with⟨c109,h⟩ | ⟨c109,h⟩
     ·refine T.nn Z c109 ?_;cases h;exact T.skip (K0 [0,0,0,0])
     refine T.yn Z c109 (T.region Z ?_);obtain⟨st110,hx111,h⟩:=Ny h;refine KM ak 2 Z (KZ 3 Z Z .u (.fn Tryz.call70 Z) (bK g st86 x102 _ hx111) sT Z Z ?_);cases h;exact TL.nil (K0 [0,0,0,0])
    rintro _ _ ⟨rfl,rfl⟩;clear h;have h:=hk108;clear hk108;try dsimp only at h
    cases h;exact K0 [0,0,0,0]
   refine L3 Z c101 ?_;cases h;exact T.skip (K0 [0,0,0,0])
  rintro _ _ ⟨rfl,rfl⟩;clear h;have h:=hk100;clear hk100;refine X.seq (T.seq (KN Z ?_));obtain⟨⟨x112,st113⟩,hx114,h⟩:=Ny h;refine KM ak 1 Z (KZ 3 Z Z .u (.fn Tryz.call23 Z) (cy g st99 _ hx114) sT Z Z (KM ak 1 Z ?_));rcases jF h with⟨c115,h⟩ | ⟨c115,h⟩
  ·refine Lr Z c115 (Lk Z (KO Z (K9 (us := [.bool x2.null,jS x2.data,jI x5,jI x8,.slice A17 y16.length c18]) 1 Z Pq OG Z Z Z) Z (K3 2 Z (cs':=DO x5 x8 A17 c18 (y16).length x2) Z .u Z Z OG Z Z Z Z Z ?_)));obtain rfl:=Nz h;exact KP (T.ret (Ms QS 0 Z (LJ [0,0,0,0] Z (Ll [3,0] QI (LI (us:=DO x5 x8 A17 c18 (y16).length x2) 2 Z Pq OG Z Z) ⟨_,_,Z,Z,Z⟩ QW (.inl Z)))))
  refine Lq Z c115 (KN Z ?_);refine KO Z (Lo (cells:=vA0) kF Z QU) Z ?_;refine K3 2 Z (cs':=vA0) Z .u Z Z OG Z Z Z Z Z ?_;obtain rfl:=Nz h;exact KP (T.ret (KT (Lj 2 aP (Ll [4,0] QI (LI (us:=vA0) 3 Z Pq OG Z Z) ⟨_,_,Z,Z,Z⟩ QW (.inl Z)))))
theorem sH {w W:World} (h:Below w.heap.size w W) (o:Obj):Below w.heap.size w (W.alloc o):=h.alloc h.size o
theorem Gs {w W:World} (h:Below w.heap.size w W) (i:Nat) (u:Value):Below w.heap.size w (W.setCell ⟨w.heap.size,i,none⟩ u):=h.setCell (p:=⟨w.heap.size,i,none⟩) (N0 _) u
def nA:Array Value:= #[.int .i64 0,.string ⟨#[112,114,111,100,117,99,101]⟩,.int .i64 3,.int .i64 4,.int .i64 22,.string ⟨#[98,101,103,105,110]⟩,.int .i64 0,.int .i64 1,
 .int .i64 24,.string ⟨#[97,100,100]⟩,.int .i64 0,.int .i64 0,.int .i64 26,.string ⟨#[101,110,100]⟩,.int .i64 0,.int .i64 0,.int .i64 27,.string ⟨#[109,97,114,107]⟩,.int .i64 0,.int .i64 1]
theorem DX:nA.all (·.oneCell')=true:=by simp[nA,Value.oneCell']
theorem DY:(Tryz.prog.info? 317).map (·.size)=some 20:=by kernel_rfl
theorem mP (w:World) :
 Calls Tryz.prog 219 #[] w fun e w'=>e= .returned (.agg nA)/\Below w.heap.size w w':=by
 have hi:=DY;go_enter Tryz.func219,Tryz.ntmps219
 go_wp2_with (refine ua (w:=w) rfl 317 _ _ rfl 317 _ nA rfl rfl DY rfl DX ?_)
 refine bodyPost_ret (v:= .agg nA) ?_ rfl ?_
 ·exact results_cell_row QW _ _ w.heap.size 317 nA (0,0) _ rfl (heap_alloc_new w _) Tryz.underlying317 rfl DY
 ·exact⟨rfl,(Below.refl _ _).alloc (N0 _) _⟩
def kI (k:Int):Value×Bool :=
 if k=0 then (.agg #[.int .i64 0,.string ⟨#[112,114,111,100,117,99,101]⟩,.int .i64 3,.int .i64 4],true)
 else if k=22 then (.agg #[.int .i64 22,.string ⟨#[98,101,103,105,110]⟩,.int .i64 0,.int .i64 1],true)
 else if k=24 then (.agg #[.int .i64 24,.string ⟨#[97,100,100]⟩,.int .i64 0,.int .i64 0],true)
 else if k=26 then (.agg #[.int .i64 26,.string ⟨#[101,110,100]⟩,.int .i64 0,.int .i64 0],true)
 else if k=27 then (.agg #[.int .i64 27,.string ⟨#[109,97,114,107]⟩,.int .i64 0,.int .i64 1],true)
 else (.agg #[.int .i64 0,.string ⟨#[]⟩,.int .i64 0,.int .i64 0],false)
theorem dk {w w1:World} {c:Array Value} {t:TypeId} (hb:Below (w.alloc (.cells c t)).heap.size (w.alloc (.cells c t)) w1) (i:Nat):w1.cell? ⟨w.heap.size,i,none⟩=c[i]? /\ w1.frozen? ⟨w.heap.size,i,none⟩=false:=by
 have h:w1.heap[w.heap.size]? = some (.cells c t (0,0)):=(hb.block w.heap.size (by simp)).trans (heap_alloc_new w _);exact⟨bt h i,dA h i⟩
theorem rm {w w1:World} {o:Obj} (hb:Below (w.alloc o).heap.size (w.alloc o) w1):w.heap.size<w1.heap.size:=by
 have:=hb.size;simp at this;omega
theorem H7 (k:Int) (w:World) :
 Calls Tryz.prog 191 #[.int .i64 k] w fun e w'=>e= .returned (.tuple #[(kI k).1,.bool (kI k).2])/\Below w.heap.size w w':=by
 have i0: ∀ w:World,(Instr.index 317 (.agg nA) (.int .i64 0)).run Tryz.prog w= .ok (.agg #[.int .i64 0,.string ⟨#[112,114,111,100,117,99,101]⟩,.int .i64 3,.int .i64 4]) w:=fun _=>by kernel_rfl
 have i1: ∀ w:World,(Instr.index 317 (.agg nA) (.int .i64 1)).run Tryz.prog w= .ok (.agg #[.int .i64 22,.string ⟨#[98,101,103,105,110]⟩,.int .i64 0,.int .i64 1]) w:=fun _=>by kernel_rfl
 have i2: ∀ w:World,(Instr.index 317 (.agg nA) (.int .i64 2)).run Tryz.prog w= .ok (.agg #[.int .i64 24,.string ⟨#[97,100,100]⟩,.int .i64 0,.int .i64 0]) w:=fun _=>by kernel_rfl
 have i3: ∀ w:World,(Instr.index 317 (.agg nA) (.int .i64 3)).run Tryz.prog w= .ok (.agg #[.int .i64 26,.string ⟨#[101,110,100]⟩,.int .i64 0,.int .i64 0]) w:=fun _=>by kernel_rfl
 have i4: ∀ w:World,(Instr.index 317 (.agg nA) (.int .i64 4)).run Tryz.prog w= .ok (.agg #[.int .i64 27,.string ⟨#[109,97,114,107]⟩,.int .i64 0,.int .i64 1]) w:=fun _=>by kernel_rfl
 have way:k=0\/k=22\/k=24\/k=26\/k=27\/((0 == k)=false/\(22 == k)=false/\(24 == k)=false/\(26 == k)=false/\(27 == k)=false/\kI k=(.agg #[.int .i64 0,.string ⟨#[]⟩,.int .i64 0,.int .i64 0],false)):=by
  by_cases h0:k=0
  ·simp[h0]
  by_cases h1:k=22
  ·simp[h1]
  by_cases h2:k=24
  ·simp[h2]
  by_cases h3:k=26
  ·simp[h3]
  by_cases h4:k=27
  ·simp[h4]
  refine .inr (.inr (.inr (.inr (.inr ⟨?_,?_,?_,?_,?_,by simp[kI,h0,h1,h2,h3,h4]⟩))));all_goals (rw[beq_eq_false_iff_ne]; omega)
 rcases way with rfl | rfl | rfl | rfl | rfl | ⟨h0,h1,h2,h3,h4,hv⟩
 ·go_enter Qn,P8
  go_wp2_with (go_at_call 219; refine (mP _).mono ?_; rintro e w1 ⟨rfl,hb⟩; obtain⟨d0,e0⟩:=dk hb 0; obtain⟨d1,e1⟩:=dk hb 1; obtain⟨d2,e2⟩:=dk hb 2; obtain⟨d3,e3⟩:=dk hb 3; simp at d0 d1 d2 d3; have HB:=Lib.hid hb; have hz:=rm hb; have hz1:w.heap.size<w1.heap.size+1:=(by omega); have hz2:w.heap.size<w1.heap.size+1+1:=(by omega); have hz3:w.heap.size<w1.heap.size+1+1+1:=(by omega); have hz4:w.heap.size<w1.heap.size+1+1+1+1:=(by omega); have hz5:w.heap.size<w1.heap.size+1+1+1+1+1:=(by omega); clear hb)
  refine wp_loop_rounds 6 ?_;repeat (rw[rounds_succ]; go_wp2_with fail)
  have hbel:Below w.heap.size w w1:=((Below.refl _ _).alloc (N0 _) _).trans (HB.out.mono (by simp));refine bodyPost_ret (v:= .tuple #[(kI 0).1,.bool (kI 0).2]) ?_ rfl ⟨rfl,?_⟩
  ·simp[results,PQ,go_sem,d0,d1,d2,d3,hz,hz1,hz2,hz3,hz4,hz5,kI]
  ·repeat (first | (with_reducible exact hbel) | (with_reducible refine Gs ?_ _ _) | (with_reducible refine sH ?_ _))
 ·go_enter Qn,P8
  go_wp2_with (go_at_call 219; refine (mP _).mono ?_; rintro e w1 ⟨rfl,hb⟩; obtain⟨d0,e0⟩:=dk hb 0; obtain⟨d1,e1⟩:=dk hb 1; obtain⟨d2,e2⟩:=dk hb 2; obtain⟨d3,e3⟩:=dk hb 3; simp at d0 d1 d2 d3; have HB:=Lib.hid hb; have hz:=rm hb; have hz1:w.heap.size<w1.heap.size+1:=(by omega); have hz2:w.heap.size<w1.heap.size+1+1:=(by omega); have hz3:w.heap.size<w1.heap.size+1+1+1:=(by omega); have hz4:w.heap.size<w1.heap.size+1+1+1+1:=(by omega); have hz5:w.heap.size<w1.heap.size+1+1+1+1+1:=(by omega); clear hb)
  refine wp_loop_rounds 6 ?_;repeat (rw[rounds_succ]; go_wp2_with fail)
  have hbel:Below w.heap.size w w1:=((Below.refl _ _).alloc (N0 _) _).trans (HB.out.mono (by simp));refine bodyPost_ret (v:= .tuple #[(kI 22).1,.bool (kI 22).2]) ?_ rfl ⟨rfl,?_⟩
  ·simp[results,PQ,go_sem,d0,d1,d2,d3,hz,hz1,hz2,hz3,hz4,hz5,kI]
  ·repeat (first | (with_reducible exact hbel) | (with_reducible refine Gs ?_ _ _) | (with_reducible refine sH ?_ _))
 ·go_enter Qn,P8
  go_wp2_with (go_at_call 219; refine (mP _).mono ?_; rintro e w1 ⟨rfl,hb⟩; obtain⟨d0,e0⟩:=dk hb 0; obtain⟨d1,e1⟩:=dk hb 1; obtain⟨d2,e2⟩:=dk hb 2; obtain⟨d3,e3⟩:=dk hb 3; simp at d0 d1 d2 d3; have HB:=Lib.hid hb; have hz:=rm hb; have hz1:w.heap.size<w1.heap.size+1:=(by omega); have hz2:w.heap.size<w1.heap.size+1+1:=(by omega); have hz3:w.heap.size<w1.heap.size+1+1+1:=(by omega); have hz4:w.heap.size<w1.heap.size+1+1+1+1:=(by omega); have hz5:w.heap.size<w1.heap.size+1+1+1+1+1:=(by omega); clear hb)
  refine wp_loop_rounds 6 ?_;repeat (rw[rounds_succ]; go_wp2_with fail)
  have hbel:Below w.heap.size w w1:=((Below.refl _ _).alloc (N0 _) _).trans (HB.out.mono (by simp));refine bodyPost_ret (v:= .tuple #[(kI 24).1,.bool (kI 24).2]) ?_ rfl ⟨rfl,?_⟩
  ·simp[results,PQ,go_sem,d0,d1,d2,d3,hz,hz1,hz2,hz3,hz4,hz5,kI]
  ·repeat (first | (with_reducible exact hbel) | (with_reducible refine Gs ?_ _ _) | (with_reducible refine sH ?_ _))
 ·go_enter Qn,P8
  go_wp2_with (go_at_call 219; refine (mP _).mono ?_; rintro e w1 ⟨rfl,hb⟩; obtain⟨d0,e0⟩:=dk hb 0; obtain⟨d1,e1⟩:=dk hb 1; obtain⟨d2,e2⟩:=dk hb 2; obtain⟨d3,e3⟩:=dk hb 3; simp at d0 d1 d2 d3; have HB:=Lib.hid hb; have hz:=rm hb; have hz1:w.heap.size<w1.heap.size+1:=(by omega); have hz2:w.heap.size<w1.heap.size+1+1:=(by omega); have hz3:w.heap.size<w1.heap.size+1+1+1:=(by omega); have hz4:w.heap.size<w1.heap.size+1+1+1+1:=(by omega); have hz5:w.heap.size<w1.heap.size+1+1+1+1+1:=(by omega); clear hb)
  refine wp_loop_rounds 6 ?_;repeat (rw[rounds_succ]; go_wp2_with fail)
  have hbel:Below w.heap.size w w1:=((Below.refl _ _).alloc (N0 _) _).trans (HB.out.mono (by simp));refine bodyPost_ret (v:= .tuple #[(kI 26).1,.bool (kI 26).2]) ?_ rfl ⟨rfl,?_⟩
  ·simp[results,PQ,go_sem,d0,d1,d2,d3,hz,hz1,hz2,hz3,hz4,hz5,kI]
  ·repeat (first | (with_reducible exact hbel) | (with_reducible refine Gs ?_ _ _) | (with_reducible refine sH ?_ _))
 ·go_enter Qn,P8
  go_wp2_with (go_at_call 219; refine (mP _).mono ?_; rintro e w1 ⟨rfl,hb⟩; obtain⟨d0,e0⟩:=dk hb 0; obtain⟨d1,e1⟩:=dk hb 1; obtain⟨d2,e2⟩:=dk hb 2; obtain⟨d3,e3⟩:=dk hb 3; simp at d0 d1 d2 d3; have HB:=Lib.hid hb; have hz:=rm hb; have hz1:w.heap.size<w1.heap.size+1:=(by omega); have hz2:w.heap.size<w1.heap.size+1+1:=(by omega); have hz3:w.heap.size<w1.heap.size+1+1+1:=(by omega); have hz4:w.heap.size<w1.heap.size+1+1+1+1:=(by omega); have hz5:w.heap.size<w1.heap.size+1+1+1+1+1:=(by omega); clear hb)
  refine wp_loop_rounds 6 ?_;repeat (rw[rounds_succ]; go_wp2_with fail)
  have hbel:Below w.heap.size w w1:=((Below.refl _ _).alloc (N0 _) _).trans (HB.out.mono (by simp));refine bodyPost_ret (v:= .tuple #[(kI 27).1,.bool (kI 27).2]) ?_ rfl ⟨rfl,?_⟩
  ·simp[results,PQ,go_sem,d0,d1,d2,d3,hz,hz1,hz2,hz3,hz4,hz5,kI]
  ·repeat (first | (with_reducible exact hbel) | (with_reducible refine Gs ?_ _ _) | (with_reducible refine sH ?_ _))
 ·go_enter Qn,P8
  go_wp2_with (go_at_call 219; refine (mP _).mono ?_; rintro e w1 ⟨rfl,hb⟩; obtain⟨d0,e0⟩:=dk hb 0; obtain⟨d1,e1⟩:=dk hb 1; obtain⟨d2,e2⟩:=dk hb 2; obtain⟨d3,e3⟩:=dk hb 3; simp at d0 d1 d2 d3; have HB:=Lib.hid hb; have hz:=rm hb; have hz1:w.heap.size<w1.heap.size+1:=(by omega); have hz2:w.heap.size<w1.heap.size+1+1:=(by omega); have hz3:w.heap.size<w1.heap.size+1+1+1:=(by omega); have hz4:w.heap.size<w1.heap.size+1+1+1+1:=(by omega); have hz5:w.heap.size<w1.heap.size+1+1+1+1+1:=(by omega); clear hb)
  refine wp_loop_rounds 6 ?_;repeat (rw[rounds_succ]; go_wp2_with fail)
  have hbel:Below w.heap.size w w1:=((Below.refl _ _).alloc (N0 _) _).trans (HB.out.mono (by simp));refine bodyPost_ret (v:= .tuple #[(kI k).1,.bool (kI k).2]) ?_ rfl ⟨rfl,?_⟩
  ·rw[hv];simp[results,PQ,go_sem,d0,d1,d2,d3,hz,hz1,hz2,hz3,hz4,hz5]
  ·repeat (first | (with_reducible exact hbel) | (with_reducible refine Gs ?_ _ _) | (with_reducible refine sH ?_ _))
theorem J3 (k:Int) (r:Value) (b:Bool) (h:kI k=(r,b)) (w:World) :
 Calls Tryz.prog 191 #[.int .i64 k] w fun e w'=>e= .returned (.tuple #[r,.bool b])/\Below w.heap.size w w':=by
 have:=H7 k w
 rwa [h] at this
def gU (k:Int):Int×Int×ByteArray×Bool :=
 if k=0 then (3,4,⟨#[112,114,111,100,117,99,101]⟩,true) else if k=22 then (0,1,⟨#[98,101,103,105,110]⟩,true)
 else if k=24 then (0,0,⟨#[97,100,100]⟩,true) else if k=26 then (0,0,⟨#[101,110,100]⟩,true) else if k=27 then (0,1,⟨#[109,97,114,107]⟩,true) else (0,0,⟨#[]⟩,false)
theorem DZ (k:Int): ∃ k2,kI k=(.agg #[.int .i64 k2,.string (gU k).2.2.1,.int .i64 (gU k).1,.int .i64 (gU k).2.1],(gU k).2.2.2):=by
 by_cases h0:k=0
 ·exact⟨0,by simp[kI,gU,h0]⟩
 by_cases h1:k=22
 ·exact⟨22,by simp[kI,gU,h1]⟩
 by_cases h2:k=24
 ·exact⟨24,by simp[kI,gU,h2]⟩
 by_cases h3:k=26
 ·exact⟨26,by simp[kI,gU,h3]⟩
 by_cases h4:k=27
 ·exact⟨27,by simp[kI,gU,h4]⟩
 exact⟨0,by simp[kI,gU,h0,h1,h2,h3,h4]⟩
def gV (k v:Int):Int:=if (gU k).2.2.2=false then 12 else if v<(gU k).1\/(gU k).2.1<v then 7 else 0
theorem Cg (k v:Int):j7 Tryz.prog 147 #[.int .i64 k,.int .i64 v] (fun r N=>r= .int .i64 (gV k v)/\N = []):=by
 intro w;obtain⟨k2,hr⟩:=DZ k;have HC:=Lib.hid (show gV k v=if (gU k).2.2.2=false then 12 else if v<(gU k).1\/(gU k).2.1<v then 7 else 0 from rfl);generalize gV k v=c at *;generalize gU k=q at *;obtain⟨lo,hi,nm,ok⟩:=q;simp only at hr;have HF:=Lib.hid (J3 k _ _ hr);clear hr;have way:(ok=false/\c=12)\/(ok=true/\v<lo/\c=7)\/(ok=true/\ ¬ v<lo/\hi<v/\c=7)\/(ok=true/\ ¬ v<lo/\ ¬ hi<v/\c=0):=by
  rw[HC.out];cases ok
  ·simp
  ·by_cases h1:v<lo <;> by_cases h2:hi<v <;> simp[h1,h2]
 clear HC;rcases way with⟨rfl,rfl⟩ | ⟨rfl,h1,rfl⟩ | ⟨rfl,h1,h2,rfl⟩ | ⟨rfl,h1,h2,rfl⟩;all_goals
  go_enter Tryz.func147,Tryz.ntmps147
  go_wp2_with (go_at_call 191; refine (HF.out _).mono ?_; rintro e w1 ⟨rfl,hb⟩; have HB:=Lib.hid hb; clear hb)
  go_ret
  exact⟨_,_,rfl,⟨rfl,rfl⟩,Mm (sH HB.out _),trivial⟩
def wJ (k v:Int):Option Int:=some (gV k v)
theorem D0 (k v:Int):wJ k v=some (gV k v):=rfl
theorem tC (k v:Int) (r:Int) (h:wJ k v=some r):aG Tryz.prog 147 #[.int .i64 k,.int .i64 v] .triv aL (fun u A' N=>u= .int .i64 r/\A'=aL/\N = []):=by
 obtain rfl:=Nz h;exact LT (Cg k v)
def D1:eO := [(23,1,1),(25,0,0),(25,1,1),(25,2,2),(25,3,3)]
theorem aT:(D1).OK Tryz.prog:=⟨FOK.mk N2 rfl N6 rfl,FOK.mk OV rfl NG rfl,FOK.mk OV rfl NG rfl,FOK.mk OV rfl NG rfl,FOK.mk OV rfl NM rfl,trivial⟩
def D2:List Nat := [3,9]
theorem gC:NOK Tryz.prog D2:=⟨NH,Oc,trivial⟩
theorem kJ:BOK Tryz.prog 25 #[.int .i64 0,.int .i64 0,.int .i64 0,.bool false,.string ⟨#[]⟩] [(0,1),(1,1),(2,1),(3,2)]:=BOK.mk Tryz.zeroValue25 OV (by intro w; simp)
def me (a0:fO):Option (Int):=(wJ a0.M1 a0.MY).bind fun x2=>if x2=0 then ((jy a0.M6 4).bind fun x5=>if x5=true then ((qo a0.MX).bind fun x8=>if x8=true then (if (a0.MX.data.length:Int)>32767 then some 4 else some 0) else some 4) else some 11) else some x2
theorem qE (a0:fO) (r:Int) (h:me a0=some r):aG Tryz.prog 93 #[.agg #[jI a0.M1,jI a0.MY,jI a0.M6,.bool a0.MX.null,jS a0.MX.data]] .triv (aL) (fun v A' N=>v=jI r/\A'=aL/\N = []):=by
 refine aU Tryz.func93 Z Tryz.ntmps93 Z ?_;intro F w hX;unfold me at h;refine KN Z (TL.box Z .u Z Z (fun b1=>(KX aT Z (T.seq (KN Z ?_)))));obtain⟨x2,hx3,h⟩:=Ny h;refine KR aT gC 0 Z 4 Z Z (Lb Z .u (.fn Tryz.call147 Z) (tC a0.M1 a0.MY _ hx3) rT Z (Le aT Z Z (KM aT 2 Z ?_)));rcases jF h with⟨c4,h⟩ | ⟨c4,h⟩
 ·refine Lr Z c4 (K8 (T.seq (T.block (KN Z ?_))));obtain⟨x5,hx6,h⟩:=Ny h;refine KR aT gC 0 Z 2 Z Z (Lb Z .u (.fn Tryz.call101 Z) (LL (fun w=>dI a0.M6 4 _ hx6 w)) (fun _ _=>Lv _ _) Z (KM aT 2 Z ?_));rcases jF h with⟨c7,h⟩ | ⟨c7,h⟩
  ·refine KP (Li Z (bi c7) (KN Z (KM aT 1 Z (KO Z (K9 (us:=wL6 a0.MX) 0 Z Oa NM Z Z Z) Z ?_))));obtain⟨x8,hx9,h⟩:=Ny h;refine Lb Z .u (.fn Tryz.call148 Z) (nO a0.MX _ hx9) rT Z ?_;rcases jF h with⟨c10,h⟩ | ⟨c10,h⟩
   ·refine KM aT 2 Z (KV 22 Z (bi c10) (KR aT gC 0 Z 3 Z Z (TL.q Z (.g Z Z Z) (LD Z NK) Z (KW aT 3 Z ?_))));rcases jF h with⟨c11,h⟩ | ⟨c11,h⟩
    ·refine Lh Z c11 (KN Z (KM aT 1 Z ?_));obtain rfl:=Nz h;exact KP (T.ret (K2 (KT (KY [1] Qq (KQ Z)))))
    refine Lg Z c11 (T.skip (La (X.seq (KN Z (KM aT 1 Z ?_)))));obtain rfl:=Nz h;exact KP (T.ret (KY [1] Qq (KQ Z)))
   replace c10:=NF c10;refine KM aT 2 Z (KV 22 Z (bF c10) (Lz aT Z (K1 Z Z (KN Z (KM aT 1 Z ?_)))));obtain rfl:=Nz h;exact KP (T.ret (K2 (KT (KY [1] Qq (KQ Z)))))
  replace c7:=NF c7;refine KP (K1 Z (bF c7) (KN Z (KM aT 1 Z ?_)));obtain rfl:=Nz h;exact KP (T.ret (K2 (KT (KY [1] Qq (KQ Z)))))
 refine Lq Z c4 (KN Z (KM aT 2 Z ?_));obtain rfl:=Nz h;exact KP (T.ret (KT (KY [1] Qq (KQ Z))))
def mf (st:List UInt8×Int) (a1:fO):Option (List UInt8×Int):=(me a1).bind fun x2=>if x2=0 then ((ed st a1.M1 2).bind fun st5=>(ed st5 a1.MY 2).bind fun st7=>(ed st7 a1.M6 4).bind fun st9=>(mK st9 a1.MX 2).bind fun st11=>some st11) else ((l7 st x2).bind fun st13=>some st13)
theorem qF (g:Nat) (st:List UInt8×Int) (a1:fO) (r:List UInt8×Int) (h:mf st a1=some r):aG Tryz.prog 47 #[jP g,.agg #[jI a1.M1,jI a1.MY,jI a1.M6,.bool a1.MX.null,jS a1.MX.data]] .triv (bC g st) (fun v A' N=>v= .tuple #[]/\A'=bC g r/\N = []):=by
 refine aU Tryz.func47 Z Tryz.ntmps47 Z ?_;intro F w hX;unfold mf at h;refine KN Z (TL.box Z .u Z Z (fun b1=>(KP (T.seq (KN Z (KO Z (K9 (us := [jI a1.M1,jI a1.MY,jI a1.M6,.bool a1.MX.null,jS a1.MX.data]) 0 Z Pg OA Z Z Z) Z ?_))))));obtain⟨x2,hx3,h⟩:=Ny h;refine Lb Z .u (.fn Tryz.call93 Z) (qE a1 _ hx3) rT Z (Le aT Z Z (KM aT 2 Z ?_));rcases jF h with⟨c4,h⟩ | ⟨c4,h⟩
 ·refine Lr Z c4 (Lk Z ?_);obtain⟨st5,hx6,h⟩:=Ny h;refine KR aT gC 0 Z 3 Z Z (KZ 1 Z Z .u (.fn Tryz.call51 Z) (bu g st a1.M1 2 _ hx6) sT Z Z (Ld Z ?_));obtain⟨st7,hx8,h⟩:=Ny h;refine KR aT gC 0 Z 3 Z Z (KZ 1 Z Z .u (.fn Tryz.call51 Z) (bu g st5 a1.MY 2 _ hx8) sT Z Z (Ld Z ?_));obtain⟨st9,hx10,h⟩:=Ny h;refine KR aT gC 0 Z 3 Z Z (KZ 1 Z Z .u (.fn Tryz.call51 Z) (bu g st7 a1.M6 4 _ hx10) sT Z Z (KP (T.region Z (KM aT 2 Z (KO Z (K9 (us:=wL6 a1.MX) 0 Z Oa NM Z Z Z) Z ?_)))));obtain⟨st11,hx12,h⟩:=Ny h;refine KZ 1 Z Z .u (.fn Tryz.call95 Z) (kr g st9 a1.MX 2 _ hx12) sT Z Z ?_;obtain rfl:=Nz h;exact TL.nil (LQ [1] Tryz.results47 ⟨Z,Z,Z⟩ QW (.inr Z))
 refine Lq Z c4 (KN Z ?_);obtain⟨st13,hx14,h⟩:=Ny h;refine KM aT 2 Z (KZ 1 Z Z .u (.fn Tryz.call94 Z) (g6 g st x2 _ hx14) sT Z Z ?_);obtain rfl:=Nz h;exact KP (T.ret (KT (LQ [1] Tryz.results47 ⟨Z,Z,Z⟩ QW (.inl Z))))
def gW (st:I)  : Option (fO×I):=(d9 st 2).bind fun (x2,st3)=>(d9 st3 2).bind fun (x5,st6)=>(iF st6).bind fun (x9,st10)=>if x9=0 then ((wJ x2 x5).bind fun x13=>if x13=0 then ((d9 st10 4).bind fun (x16,st17)=>(kW st17 2).bind fun (x19,st20)=>(iF st20).bind fun (x22,st23)=>if x22=0 then (some ((⟨x2,x5,x16,x19⟩:fO),st23)) else (some ((⟨0,0,0,(⟨false,[]⟩:Bl)⟩:fO),st23))) else ((ck st10 x13).bind fun st26=>(d9 st26 4).bind fun (x28,st29)=>(kW st29 2).bind fun (x31,st32)=>(iF st32).bind fun (x34,st35)=>if x34=0 then (some ((⟨x2,x5,x28,x31⟩:fO),st35)) else (some ((⟨0,0,0,(⟨false,[]⟩:Bl)⟩:fO),st35)))) else ((d9 st10 4).bind fun (x38,st39)=>(kW st39 2).bind fun (x41,st42)=>(iF st42).bind fun (x44,st45)=>if x44=0 then (some ((⟨x2,x5,x38,x41⟩:fO),st45)) else (some ((⟨0,0,0,(⟨false,[]⟩:Bl)⟩:fO),st45)))
theorem rR (g:Nat) (st:I)  (r:fO×I) (h:gW st  = some r):aG Tryz.prog 115 #[jP g] .triv (InR g st) (fun v A' N=>v= .agg #[jI r.1.M1,jI r.1.MY,jI r.1.M6,.bool r.1.MX.null,jS r.1.MX.data]/\A'=InR g r.2/\N = []):=by
 refine aU Tryz.func115 Z Tryz.ntmps115 Z ?_;intro F w hX;unfold gW at h;refine KN Z (TL.alloc Z .u Tryz.zeroValue25 Z (fun b1=>(Ld Z ?_)));obtain⟨⟨x2,st3⟩,hx4,h⟩:=Ny h;refine KM aT 1 Z (KZ 1 Z Z .u (.fn Tryz.call68 Z) (bz g st 2 _ hx4) sT Z Z ?_);obtain⟨⟨x5,st6⟩,hx7,h⟩:=Ny h;refine KM aT 1 Z (KZ 1 Z Z .u (.fn Tryz.call68 Z) (bz g st3 2 _ hx7) sT Z Z ?_);refine KO Z (Lo (cells:= #[jI x2,jI x5,jI 0,.bool false,.string ⟨#[]⟩]) kJ Z QU) Z ?_;refine TL.alloc Z .u Tryz.zeroValue25 Z (fun b8=>(K3 0 Z (cs':= #[jI x2,jI x5,jI 0,.bool false,.string ⟨#[]⟩]) Z .u Z Z OA Z Z Z Z Z (KP (T.seq (KN Z ?_)))));obtain⟨⟨x9,st10⟩,hx11,h⟩:=Ny h;refine KM aT 1 Z (KZ 2 Z Z .u (.fn Tryz.call23 Z) (cy g st6 _ hx11) sT Z Z (KM aT 1 Z ?_));rcases jF h with⟨c12,h⟩ | ⟨c12,h⟩
 ·refine Lh Z c12 (KN Z ?_);obtain⟨x13,hx14,h⟩:=Ny h;refine KR aT gC 0 Z 4 Z Z (Lb Z .u (.fn Tryz.call147 Z) (tC x2 x5 _ hx14) rT Z (Le aT Z Z (KM aT 2 Z ?_)));rcases jF h with⟨c15,h⟩ | ⟨c15,h⟩
  ·refine Lr Z c15 (Lk Z ?_);obtain⟨⟨x16,st17⟩,hx18,h⟩:=Ny h;refine KM aT 1 Z (KZ 2 Z Z .u (.fn Tryz.call68 Z) (bz g st10 4 _ hx18) sT Z Z (KM aT 1 Z (K3 0 Z (cs':= #[jI x2,jI x5,jI x16,.bool false,.string ⟨#[]⟩]) Z .u Z Z NG Z Z Z Z Z (Ld Z ?_))));obtain⟨⟨x19,st20⟩,hx21,h⟩:=Ny h;refine KM aT 1 Z (KZ 2 Z Z .u (.fn Tryz.call142 Z) (j9 g st17 2 _ hx21) sT Z Z (KM aT 1 Z (K3 0 Z (cs':=AX x2 x5 x16 x19) Z .u Z Z NM Z Z Z Z Z (KP (T.seq (KN Z ?_))))));obtain⟨⟨x22,st23⟩,hx24,h⟩:=Ny h;refine KM aT 1 Z (KZ 2 Z Z .u (.fn Tryz.call23 Z) (cy g st20 _ hx24) sT Z Z (KM aT 1 Z ?_));rcases jF h with⟨c25,h⟩ | ⟨c25,h⟩
   ·refine Lr Z c25 (Lk Z (KO Z (K9 (us := [jI x2,jI x5,jI x16,.bool x19.null,jS x19.data]) 0 Z Pg OA Z Z Z) Z (K3 1 Z (cs':=AX x2 x5 x16 x19) Z .u Z Z OA Z Z Z Z Z ?_)));obtain rfl:=Nz h;exact KP (T.ret (KY [2] PR (LI (us:=AX x2 x5 x16 x19) 1 Z Pg OA Z Z)))
   refine Lq Z c25 (KN Z ?_);refine KO Z (Lo (cells:=AY) kJ Z QU) Z ?_;refine K3 1 Z (cs':=AY) Z .u Z Z OA Z Z Z Z Z ?_;obtain rfl:=Nz h;exact KP (T.ret (KT (KY [2] PR (LI (us:=AY) 1 Z Pg OA Z Z))))
  refine Lq Z c15 (T.region Z ?_);obtain⟨st26,hx27,h⟩:=Ny h;refine KM aT 2 Z (KZ 2 Z Z .u (.fn Tryz.call70 Z) (bK g st10 x13 _ hx27) sT Z Z (Ld Z ?_));obtain⟨⟨x28,st29⟩,hx30,h⟩:=Ny h;refine KM aT 1 Z (KZ 2 Z Z .u (.fn Tryz.call68 Z) (bz g st26 4 _ hx30) sT Z Z (KM aT 1 Z (K3 0 Z (cs':= #[jI x2,jI x5,jI x28,.bool false,.string ⟨#[]⟩]) Z .u Z Z NG Z Z Z Z Z (Ld Z ?_))));obtain⟨⟨x31,st32⟩,hx33,h⟩:=Ny h;refine KM aT 1 Z (KZ 2 Z Z .u (.fn Tryz.call142 Z) (j9 g st29 2 _ hx33) sT Z Z (KM aT 1 Z (K3 0 Z (cs':=AX x2 x5 x28 x31) Z .u Z Z NM Z Z Z Z Z (KP (T.seq (KN Z ?_))))));obtain⟨⟨x34,st35⟩,hx36,h⟩:=Ny h;refine KM aT 1 Z (KZ 2 Z Z .u (.fn Tryz.call23 Z) (cy g st32 _ hx36) sT Z Z (KM aT 1 Z ?_));rcases jF h with⟨c37,h⟩ | ⟨c37,h⟩
  ·refine Lr Z c37 (Lk Z (KO Z (K9 (us := [jI x2,jI x5,jI x28,.bool x31.null,jS x31.data]) 0 Z Pg OA Z Z Z) Z (K3 1 Z (cs':=AX x2 x5 x28 x31) Z .u Z Z OA Z Z Z Z Z ?_)));obtain rfl:=Nz h;exact KP (T.ret (KY [2] PR (LI (us:=AX x2 x5 x28 x31) 1 Z Pg OA Z Z)))
  refine Lq Z c37 (KN Z ?_);refine KO Z (Lo (cells:=AY) kJ Z QU) Z ?_;refine K3 1 Z (cs':=AY) Z .u Z Z OA Z Z Z Z Z ?_;obtain rfl:=Nz h;exact KP (T.ret (KT (KY [2] PR (LI (us:=AY) 1 Z Pg OA Z Z))))
 refine Lg Z c12 (Lk Z ?_);obtain⟨⟨x38,st39⟩,hx40,h⟩:=Ny h;refine KM aT 1 Z (KZ 2 Z Z .u (.fn Tryz.call68 Z) (bz g st10 4 _ hx40) sT Z Z (KM aT 1 Z (K3 0 Z (cs':= #[jI x2,jI x5,jI x38,.bool false,.string ⟨#[]⟩]) Z .u Z Z NG Z Z Z Z Z (Ld Z ?_))));obtain⟨⟨x41,st42⟩,hx43,h⟩:=Ny h;refine KM aT 1 Z (KZ 2 Z Z .u (.fn Tryz.call142 Z) (j9 g st39 2 _ hx43) sT Z Z (KM aT 1 Z (K3 0 Z (cs':=AX x2 x5 x38 x41) Z .u Z Z NM Z Z Z Z Z (KP (T.seq (KN Z ?_))))));obtain⟨⟨x44,st45⟩,hx46,h⟩:=Ny h;refine KM aT 1 Z (KZ 2 Z Z .u (.fn Tryz.call23 Z) (cy g st42 _ hx46) sT Z Z (KM aT 1 Z ?_));rcases jF h with⟨c47,h⟩ | ⟨c47,h⟩
 ·refine Lr Z c47 (Lk Z (KO Z (K9 (us := [jI x2,jI x5,jI x38,.bool x41.null,jS x41.data]) 0 Z Pg OA Z Z Z) Z (K3 1 Z (cs':=AX x2 x5 x38 x41) Z .u Z Z OA Z Z Z Z Z ?_)));obtain rfl:=Nz h;exact KP (T.ret (KY [2] PR (LI (us:=AX x2 x5 x38 x41) 1 Z Pg OA Z Z)))
 refine Lq Z c47 (KN Z ?_);refine KO Z (Lo (cells:=AY) kJ Z QU) Z ?_;refine K3 1 Z (cs':=AY) Z .u Z Z OA Z Z Z Z Z ?_;obtain rfl:=Nz h;exact KP (T.ret (KT (KY [2] PR (LI (us:=AY) 1 Z Pg OA Z Z))))
end Go.Proofs.YtheikonlgjdopaaGreat.Sl
