/- wholeFrames_holds: part 6. -/
import Derived.Test.YtheikonlgjdopaaGreatK5
set_option maxRecDepth 100000
set_option maxHeartbeats 4000000
set_option linter.defProp false
namespace Go.Proofs.YtheikonlgjdopaaGreat.Sl
open Go.RowKit
set_option linter.unusedVariables false
set_option linter.unusedSimpArgs false
def Ke := @Tryz.sizeOf25
def Kk := @Tryz.sizeOf36
def KB := @Tryz.runUnderlying25
def KP := @Tryz.isAgg25
def KX := @Tryz.isAgg36
def Li := @Tryz.results191
def Lj := @Tryz.results115
def Ly := @Tryz.ntmps191
def LE := @Tryz.results194
def LF := @Tryz.results195
def LG := @Tryz.results156
def LL := @Tryz.func191
def LP := @Tryz.results93
def L4 := @Tryz.results120
def Ap:ey := [(23,0,0),(23,1,1),(36,0,0),(36,1,2),(36,2,3),(36,3,4),(97,3,3),(97,4,4),(176,0,0),(176,1,1),(179,0,0),(179,1,1)]
theorem ab:(Ap).OK Tryz.prog:=⟨FOK.mk JT rfl JW rfl,FOK.mk JT rfl JO rfl,FOK.mk Kz rfl JB rfl,FOK.mk Kz rfl Jv rfl,FOK.mk Kz rfl Jv rfl,FOK.mk Kz rfl Tryz.sizeOf34 rfl,FOK.mk JH rfl JW rfl,FOK.mk JH rfl JW rfl,FOK.mk K5 rfl JO rfl,FOK.mk K5 rfl LN rfl,FOK.mk Ll rfl Jv rfl,FOK.mk Ll rfl Lm rfl,trivial⟩
def Aq:List Nat := [3,4,9,34,174,177]
theorem aX:NOK Tryz.prog Aq:=⟨Jy,Ky,JZ,Tryz.isAgg34,Lv,Lb,trivial⟩
theorem lM:Tryz.prog.follows .mixedOrders=true:=by kernel_rfl
theorem iZ:BOK Tryz.prog 36 #[.bool false,.string ⟨#[]⟩,.int .i64 0,.int .i64 0,.slice none 0 0] [(0,2),(2,1),(3,1),(4,1)]:=BOK.mk Tryz.zeroValue36 Kz (by intro w; simp)
theorem tj:BOK Tryz.prog 176 #[.string ⟨#[]⟩,.slice none 0 0] [(0,1),(1,1)]:=BOK.mk Tryz.zeroValue176 K5 (by intro w; simp)
theorem tk:BOK Tryz.prog 179 #[.int .i64 0,.slice none 0 0] [(0,1),(1,1)]:=BOK.mk Tryz.zeroValue179 Ll (by intro w; simp)
theorem rY:SOK Tryz.prog 34 176 1 2 #[.string ⟨#[]⟩,.slice none 0 0]:=SOK.mk Kd Kg Tryz.zeroValue176 Md Me
theorem jb:SOK Tryz.prog 174 179 1 2 #[.int .i64 0,.slice none 0 0]:=SOK.mk Kc Ka Tryz.zeroValue179 Md Me
theorem jc:SOK Tryz.prog 177 97 1 12 #[.int .i64 0,.int .i64 0,.bool false,.bool false,.bool false,.int .i64 0,.int .i64 0,.int .i64 0,.int .i64 0,.int .i64 0,.int .i64 0,.slice none 0 0]:=SOK.mk J7 JF Tryz.zeroValue97 Md Me
theorem lh:(Tryz.prog.info? 97).map (fun i=>(i.zero,i.size,i.bytes))=some (some (.agg #[.int .i64 0,.int .i64 0,.bool false,.bool false,.bool false,.int .i64 0,.int .i64 0,.int .i64 0,.int .i64 0,.int .i64 0,.int .i64 0,.slice none 0 0]),12,96):=by kernel_rfl
theorem tl:(Tryz.prog.info? 176).map (fun i=>(i.zero,i.size,i.bytes))=some (some (.agg #[.string ⟨#[]⟩,.slice none 0 0]),2,40):=by kernel_rfl
theorem kj:(Tryz.prog.info? 179).map (fun i=>(i.zero,i.size,i.bytes))=some (some (.agg #[.int .i64 0,.slice none 0 0]),2,32):=by kernel_rfl
def dj (x10:az):List aL->Int->Nat->Option (Lp Int Int)
 | [],y158,k159=>some (Lp.go y158)
 | x164::xs,y158,k159=>(if x164.I8<0 then some true else ((ib x164.I8 4).bind fun x223=>if x223=true then (if (k159:Int)>0 then (if -9223372036854775808<=((k159:Int) - 1)/\((k159:Int) - 1)<=9223372036854775807 then (if 0<=((k159:Int) - 1) then ((x10.IH[((k159:Int) - 1).toNat]?).bind fun x229=>if x229.I8>=x164.I8 then some true else some false) else none) else none) else some false) else some true)).bind fun y220=>if y220=true then some (Lp.ret 13) else (dj x10 xs y158 (k159+1))
def cw (a0:List az):List az->Int->Nat->Option (Lp Int Int)
 | [],y4,k5=>some (Lp.go y4)
 | x10::xs,y4,k5=>if (x10.IH.length:Int)=0 then some (Lp.ret 10) else ((if x10.IW = [] then some true else (if (x10.IW.length:Int)>32767 then some true else (if (k5:Int)>0 then (if -9223372036854775808<=((k5:Int) - 1)/\((k5:Int) - 1)<=9223372036854775807 then (if 0<=((k5:Int) - 1) then ((a0[((k5:Int) - 1).toNat]?).bind fun x150=>if (Op.bytesLess x150.IW x10.IW)=true then some false else some true) else none) else none) else some false))).bind fun y143=>if y143=true then some (Lp.ret 13) else ((dj x10 x10.IH y4 0).bind fun e=>match e with | .ret r=>some (Lp.ret r) | .go y237=>(cw a0 xs y237 (k5+1))))
theorem o5 (a0:List az) (y4:Int) (k5:Nat):cw a0 [] y4 k5=(some (Lp.go y4)):=rfl
theorem o6 (a0:List az) (x10:az) (xs:List az) (y4:Int) (k5:Nat):cw a0 (x10::xs) y4 k5=(if (x10.IH.length:Int)=0 then some (Lp.ret 10) else ((if x10.IW = [] then some true else (if (x10.IW.length:Int)>32767 then some true else (if (k5:Int)>0 then (if -9223372036854775808<=((k5:Int) - 1)/\((k5:Int) - 1)<=9223372036854775807 then (if 0<=((k5:Int) - 1) then ((a0[((k5:Int) - 1).toNat]?).bind fun x150=>if (Op.bytesLess x150.IW x10.IW)=true then some false else some true) else none) else none) else some false))).bind fun y143=>if y143=true then some (Lp.ret 13) else ((dj x10 x10.IH y4 0).bind fun e=>match e with | .ret r=>some (Lp.ret r) | .go y237=>(cw a0 xs y237 (k5+1))))):=rfl
def gV (a0:List az):Option (Int):=if (a0.length:Int)=0 then some 10 else ((cw a0 a0 0 0).bind fun e=>match e with | .ret r=>some r | .go y239=>some 0)
theorem o7 (a0:List az) (A1:Option Addr) (c2:Nat) (r:Int) (h:gV a0=some r):aC Tryz.prog 194 #[.slice A1 a0.length c2] (RX.of (ai 2 ay) [.slice A1 a0.length c2] a0) (aO) (fun v A' N=>v=jI r/\A'=aO/\N = []):=by
 refine aU Tryz.func194 Z Tryz.ntmps194 Z ?_;intro F w hX;unfold gV at h;refine Gq Z (Gx ab Z (T.seq (Gq Z (Gp ab 1 Z (Gr Z (GK Z Kd) Z (Gp ab 1 Z ?_))))));rcases jF h with⟨c3,h⟩ | ⟨c3,h⟩
 ·refine Hg Z c3 (Gq Z (Gp ab 1 Z ?_));obtain rfl:=Jp h;exact Gs (T.ret (Gv (GD [0] LE (Gu Z))))
 refine Hh Z c3 (GQ (T.seq (Gq Z (Gp ab 1 Z (Gr Z (GK Z Kd) Z (Gx ab Z (T.block ?_)))))));obtain⟨E6,hE7,hO8⟩:=Jn h;have hk12len:=Ha hX;refine Hl (fun m e Rs=> ∃ (y4:Int) (k5:Nat),k5+m=a0.length/\e = [(0,.slice A1 a0.length c2),(2,jI y4),(10,.slice A1 a0.length c2),(11,jI (a0.length:Int)),(12,jI (k5:Int))]/\Rs = [aO]/\cw a0 (a0.drop k5) y4 k5=some E6) (a0.length) [0] ⟨0,0,by simp,Z,Z,by rw[List.drop_zero]; exact hE7⟩ Mf Mf ?_;clear hE7 h;rintro m9 _ _ ⟨y4,k5,hk12,rfl,rfl,h⟩
 cases m9 with
 | zero =>
  rw[List.drop_of_length_le Mc,o5] at h;have hk12ge: ¬ ((k5:Int)<(a0.length:Int)):=by omega
  refine Gq Z (Gx ab Z (T.seq (GU Z (Jr hk12ge) ?_)));obtain rfl:=Jp h;replace h:=hO8;clear hO8;refine T.exit (GL (GL (Hi (X.seq (Gq Z (Gp ab 1 Z ?_))))));obtain rfl:=Jp h;exact Gs (T.ret (GD [0] LE (Gu Z)))
 | succ m9 =>
  obtain⟨x10,hxx10⟩: ∃ x,a0[k5]? = some x:=⟨_,List.getElem?_eq_getElem Mc⟩;rw[bz hxx10,o6] at h;have hk12lt:(k5:Int)<(a0.length:Int):=by omega
  refine Gq Z (Gx ab Z (T.seq (GF Z (Jq hk12lt) (GQ (T.seq (T.block (Gq Z ?_)))))));obtain⟨gz126,oz126,rfl,z126cs,z126cl,z126cc,z126nf,z126r⟩:=G4 Md hX hxx10;obtain⟨z126S,z126r,z126rr⟩:=z126r;obtain⟨A127,c128,rfl,z126s0⟩:=z126r;have hX129:(RX.of (ai 2 bL) [.slice A127 x10.IH.length c128] x10.IH).reads w F:=⟨z126S,z126s0,z126rr⟩;refine Gp ab 1 Z ?_;refine Gr Z (GS (k:=k5) Z Z Z Kd Kg (Jt hxx10).1) Z ?_;refine Gr Z (Ho (us := [jS x10.IW,.slice A127 x10.IH.length c128]) 0 Z Lx Kg z126nf z126cc Z Z Z) Z (TL.alloc Z .u Tryz.zeroValue176 Z (fun b130=>(Gp ab 1 Z (GC 0 Z (cs':= #[jS x10.IW,.slice A127 x10.IH.length c128]) Z .u Z Z Kg Z Z Z Z Z (Gs (T.seq (Gq Z (Gt ab aX 0 Z 2 Z Z (Gr Z (GK Z Kc) Z (Gp ab 1 Z ?_))))))))));rcases jF h with⟨c131,h⟩ | ⟨c131,h⟩
  ·refine Hg Z c131 (Gq Z (Gp ab 1 Z ?_));obtain rfl:=Jp h;obtain rfl:=Jp hO8;exact Gs (T.ret (Gv (GI (Gv (Gv (GI (Gv (GD [1] LE (Gu Z)))))))))
  refine Hh Z c131 (GQ (Ig ?_));obtain⟨y143,h,hk144⟩:=Jn h;refine Hj (fun e Rs=>e = [(0,.slice (some ⟨gz126,oz126,none⟩) a0.length c2),(2,jI y4),(4,jP b130),(10,.slice (some ⟨gz126,oz126,none⟩) a0.length c2),(11,jI (a0.length:Int)),(12,jI (k5:Int)),(44,.bool y143)]/\Rs = [aN b130 176 #[jS x10.IW,.slice A127 x10.IH.length c128],aO]) ?_ ?_
  ·clear hk144;refine G6 (.q 0 (.q 1 (.q 2 (.q 3 (.q 4 (.q 5 (.q 6 (.q 7 (.q 8 (.q 9 (.q 10 (.q 11 (.q 12 (.q 13 (.q 14 (.q 15 (.q 16 (.q 17 (.q 18 (.q 19 (.q 20 (.q 21 (.q 22 (.q 23 .nil)))))))))))))))))))))))) [0,0] Z lM (NoP.seq (NoP.seq (NoP.seq (NoP.blk (NoP.seq (NoP.seq (NoP.blk (NoP.seq bA)))))))) Me ?_;refine TD.run ab [0] Z Z (Gw Z (GM 0 Z JZ Z Z) Z (Gw Z (Ex.sEq Z (m := []) Z) Z ?_));rcases jF h with⟨c145,h⟩ | ⟨c145,h⟩
   ·refine TD.run ab [3] Z Z ?_;iterate 4 refine He Z (.gn Z Z (Jq c145)) Z ?_
    refine Gw Z (Hy Z (Jq c145) Z) Z (TD.run ab [9] Z Z ?_);iterate 3 refine He Z (.gn Z Z Z) Z ?_
    iterate 9 refine He Z (.gu Z Z) Z ?_
    refine He Z (.gn Z Z Z) Z (Gw Z (Hy Z Z Z) Z ?_);cases h;exact TD.nil (GE [0,0])
   refine TD.run ab [3] Z Z (TD.q Z (.g Z Z (Jr c145)) (G7 ab Z) Z (TD.q Z (.g Z Z (Jr c145)) (GM 0 Z JZ Z Z) Z (TD.q Z (.g Z Z (Jr c145)) (Hv Z JJ) Z (TD.q Z (.g Z Z (Jr c145)) (G7 ab Z) Z (Gw Z (Hq Z (Jr c145) Z) Z ?_)))));rcases jF h with⟨c146,h⟩ | ⟨c146,h⟩
   ·refine TD.run ab [9] Z Z ?_;iterate 3 refine He Z (.gn Z Z (Jq c146)) Z ?_
    iterate 9 refine He Z (.gu Z Z) Z ?_
    refine He Z (.gn Z Z (Jq c146)) Z (Gw Z (Hy Z (Jq c146) Z) Z ?_);cases h;exact TD.nil (GE [0,0])
   refine TD.run ab [9] Z Z ?_;iterate 3 refine TD.q Z (.g Z Z (Jr c146)) (G7 ab Z) Z ?_
   rcases jF h with⟨c147,h⟩ | ⟨c147,h⟩
   ·refine TD.q Z (.g Z Z (Jq c147)) (G7 ab Z) Z (TD.q Z (.g Z Z (Jq c147)) (G7 ab Z) Z ?_);obtain⟨c148,h⟩:=aE h;refine TD.q Z (.g Z Z (Jq c147)) (Ex.sub Z Z c148) Z ?_;obtain⟨c149,h⟩:=aE h;obtain⟨x150,hx151,h⟩:=Jn h;obtain⟨z152cs,z152cl,z152cc,z152nf,z152r⟩:=RX.elem' Md hX hx151;obtain⟨z152S,z152r,z152rr⟩:=z152r;obtain⟨A153,c154,rfl,z152s0⟩:=z152r;have hX155:(RX.of (ai 2 bL) [.slice A153 x150.IH.length c154] x150.IH).reads w F:=⟨z152S,z152s0,z152rr⟩;refine TD.q Z (.g Z Z (Jq c147)) (GS (k:=((k5:Int) - 1).toNat) Z Z ((Int.toNat_of_nonneg c149).symm) Kd Kg (Jt hx151).1) Z ?_;refine TD.q Z (.g Z Z (Jq c147)) (G7 ab Z) Z (TD.q Z (.g Z Z (Jq c147)) (Hr 0 Z JZ z152nf z152cc Z Z) Z (TD.q Z (.g Z Z (Jq c147)) (G7 ab Z) Z (TD.q Z (.g Z Z (Jq c147)) (GM 0 Z JZ Z Z) Z (TD.q Z (.g Z Z (Jq c147)) (Ex.sGe Z Z) Z (TD.q Z (.g Z Z (Jr c146)) (Hy Z (Jq c147) Z) Z (Gw Z (Hq Z (Jr c146) Z) Z ?_))))));rcases jF h with⟨c156,h⟩ | ⟨c156,h⟩
    ·cases h;exact TD.nil (Hn (d:=44) (v':= .bool false) Z (congrArg Value.bool (bd c156)) (GE [0,0]))
    replace c156:=Ju c156;cases h;exact TD.nil (Hn (d:=44) (v':= .bool true) Z (congrArg Value.bool (bM c156)) (GE [0,0]))
   refine He Z (.gn Z Z (Jr c147)) Z ?_;iterate 8 refine He Z (.gn Z Z (Jr c147)) Z ?_
   refine TD.q Z (.g Z Z (Jr c146)) (Hq Z (Jr c147) Z) Z (Gw Z (Hq Z (Jr c146) Z) Z ?_);cases h;exact TD.nil (GE [0,0])
  rintro _ _ ⟨rfl,rfl⟩;clear h;have h:=hk144;clear hk144;try dsimp only at h
  rcases jF h with⟨c157,h⟩ | ⟨c157,h⟩
  ·refine X.seq (GF Z c157 (Gq Z (Gp ab 1 Z ?_)));obtain rfl:=Jp h;obtain rfl:=Jp hO8;exact Gs (T.ret (Gv (GI (Gv (Gv (GI (Gv (GD [1] LE (Gu Z)))))))))
  replace c157:=Ju c157;refine X.seq (GU Z c157 (G3 Z (Gt ab aX 0 Z 2 Z Z (Gr Z (GK Z Kc) Z (Gx ab Z (T.block ?_))))));obtain⟨E160,hE161,hO162⟩:=Jn h;have hk166len:=Ha hX129;refine Hl (fun m e Rs=> ∃ (y158:Int) (k159:Nat),k159+m=x10.IH.length/\e = [(0,.slice (some ⟨gz126,oz126,none⟩) a0.length c2),(2,jI y158),(4,jP b130),(10,.slice (some ⟨gz126,oz126,none⟩) a0.length c2),(11,jI (a0.length:Int)),(12,jI (k5:Int)),(46,.slice A127 x10.IH.length c128),(47,jI (x10.IH.length:Int)),(48,jI (k159:Int))]/\Rs = [aN b130 176 #[jS x10.IW,.slice A127 x10.IH.length c128],aO]/\dj x10 (x10.IH.drop k159) y158 k159=some E160) (x10.IH.length) [0,0] ⟨y4,0,by simp,Z,Z,by rw[List.drop_zero]; exact hE161⟩ Mf Mf ?_;clear hE161 h;rintro m163 _ _ ⟨y158,k159,hk166,rfl,rfl,h⟩
  cases m163 with
  | zero =>
   rw[List.drop_of_length_le Mc,dj] at h;have hk166ge: ¬ ((k159:Int)<(x10.IH.length:Int)):=by omega
   refine Gq Z (Gx ab Z (T.seq (GU Z (Jr hk166ge) ?_)));obtain rfl:=Jp h;replace h:=hO162;clear hO162;exact T.exit (GL (GL (Hi (GN (X.seq (T.region Z (Gr Z (Ex.add Z Z Mc) Z (Gp ab 1 Z (TL.nil (X.back (m':=m9) [1] Mc ⟨y158,k5+1,by omega,Z,Z,h⟩ Mf Mf))))))))))
  | succ m163 =>
   obtain⟨x164,hxx164⟩: ∃ x,x10.IH[k159]? = some x:=⟨_,List.getElem?_eq_getElem Mc⟩;rw[bz hxx164,dj] at h;have hk166lt:(k159:Int)<(x10.IH.length:Int):=by omega
   refine Gq Z (Gx ab Z (T.seq (GF Z (Jq hk166lt) (GQ (T.seq (T.block (Gq Z ?_)))))));obtain⟨gz202,oz202,rfl,z202cs,z202cl,z202cc,z202nf,z202r⟩:=G4 Md hX129 hxx164;obtain⟨z202S,z202r,z202rr⟩:=z202r;obtain⟨A203,c204,rfl,z202s0⟩:=z202r;have hX205:(RX.of (ai 12 dY) [.slice A203 x164.IM.length c204] x164.IM).reads w F:=⟨z202S,z202s0,z202rr⟩;refine Gp ab 1 Z ?_;refine Gr Z (GS (k:=k159) Z Z Z Kc Ka (Jt hxx164).1) Z ?_;refine Gr Z (Ho (us := [jI x164.I8,.slice A203 x164.IM.length c204]) 0 Z Lc Ka z202nf z202cc Z Z Z) Z (TL.alloc Z .u Tryz.zeroValue179 Z (fun b206=>(Gp ab 1 Z (GC 0 Z (cs':= #[jI x164.I8,.slice A203 x164.IM.length c204]) Z .u Z Z Ka Z Z Z Z Z (Gs (T.seq ?_))))));obtain⟨y220,h,hk221⟩:=Jn h;refine Hj (fun e Rs=>e = [(0,.slice (some ⟨gz126,oz126,none⟩) a0.length c2),(2,jI y158),(4,jP b130),(10,.slice (some ⟨gz126,oz126,none⟩) a0.length c2),(11,jI (a0.length:Int)),(12,jI (k5:Int)),(46,.slice (some ⟨gz202,oz202,none⟩) x10.IH.length c128),(47,jI (x10.IH.length:Int)),(48,jI (k159:Int)),(77,.bool y220)]/\Rs = [aN b206 179 #[jI x164.I8,.slice A203 x164.IM.length c204],aN b130 176 #[jS x10.IW,.slice (some ⟨gz202,oz202,none⟩) x10.IH.length c128],aO]) ?_ ?_
   ·clear hk221;refine G6 (.q 0 (.q 1 (.q 2 (.q 3 (.q 4 (.q 5 (.e 6 (.q 7 (.q 8 (.q 9 (.q 10 (.q 11 (.q 12 (.q 13 (.q 14 (.q 15 (.q 16 (.q 17 (.q 18 (.q 19 (.q 20 (.q 21 (.q 22 (.q 23 (.q 24 .nil))))))))))))))))))))))))) [0,0,0] Z lM (NoP.seq (NoP.seq (NoP.blk (NoP.seq (NoP.seq (NoP.blk (NoP.blk (NoP.seq (NoP.seq (NoP.blk (NoP.seq bA))))))))))) Me ?_;refine TD.run ab [0] Z Z (Gw Z (GM 0 Z Jy Z Z) Z ?_);rcases jF h with⟨c222,h⟩ | ⟨c222,h⟩
    ·refine TD.run ab [2,3] Z Z ?_;iterate 2 refine He Z (.gn Z Z (Jq c222)) Z ?_
     refine H5 Z (.gn Z Z (Jq c222)) Z [0,0,0] Z (He Z (.gn Z Z (Jq c222)) Z (Gw Z (Hy Z (Jq c222) Z) Z (TD.run ab [9] Z Z ?_)));iterate 3 refine He Z (.gn Z Z Z) Z ?_
     iterate 10 refine He Z (.gu Z Z) Z ?_
     refine He Z (.gn Z Z Z) Z (Gw Z (Hy Z Z Z) Z ?_);cases h;exact TD.nil (GE [0,0,0])
    refine TD.run ab [2,3] Z Z (TD.q Z (.g Z Z (Jr c222)) (G7 ab Z) Z (TD.q Z (.g Z Z (Jr c222)) (GM 0 Z Jy Z Z) Z ?_));obtain⟨x223,hx224,h⟩:=Jn h;refine Ih Z (.g Z Z (Jr c222)) (.fn Tryz.call101 Z) (Hk (fun w=>db x164.I8 4 _ hx224 w)) (fun _ _=>G5 _ _) Z [0,0,0] (Z) (TD.q Z (.g Z Z (Jr c222)) (G7 ab Z) Z (Gw Z (Hq Z (Jr c222) Z) Z ?_));rcases jF h with⟨c225,h⟩ | ⟨c225,h⟩
    ·refine TD.run ab [9] Z Z ?_;iterate 3 refine TD.q Z (.g Z Z (bd c225)) (G7 ab Z) Z ?_
     rcases jF h with⟨c226,h⟩ | ⟨c226,h⟩
     ·refine TD.q Z (.g Z Z (Jq c226)) (G7 ab Z) Z (TD.q Z (.g Z Z (Jq c226)) (GM 1 Z Lv Z Z) Z (TD.q Z (.g Z Z (Jq c226)) (G7 ab Z) Z ?_));obtain⟨c227,h⟩:=aE h;refine TD.q Z (.g Z Z (Jq c226)) (Ex.sub Z Z c227) Z ?_;obtain⟨c228,h⟩:=aE h;obtain⟨x229,hx230,h⟩:=Jn h;obtain⟨z231cs,z231cl,z231cc,z231nf,z231r⟩:=RX.elem' Md hX129 hx230;obtain⟨z231S,z231r,z231rr⟩:=z231r;obtain⟨A232,c233,rfl,z231s0⟩:=z231r;have hX234:(RX.of (ai 12 dY) [.slice A232 x229.IM.length c233] x229.IM).reads w F:=⟨z231S,z231s0,z231rr⟩;refine TD.q Z (.g Z Z (Jq c226)) (GS (k:=((k159:Int) - 1).toNat) Z Z ((Int.toNat_of_nonneg c228).symm) Kc Ka (Jt hx230).1) Z ?_;refine TD.q Z (.g Z Z (Jq c226)) (G7 ab Z) Z (TD.q Z (.g Z Z (Jq c226)) (Hr 0 Z Jy z231nf z231cc Z Z) Z (TD.q Z (.g Z Z (Jq c226)) (G7 ab Z) Z (TD.q Z (.g Z Z (Jq c226)) (GM 0 Z Jy Z Z) Z (TD.q Z (.g Z Z (Jq c226)) (G7 ab Z) Z (TD.q Z (.g Z Z (bd c225)) (Hy Z (Jq c226) Z) Z (Gw Z (Hq Z (bd c225) Z) Z ?_))))));rcases jF h with⟨c235,h⟩ | ⟨c235,h⟩
      ·cases h;exact TD.nil (Hn (d:=77) (v':= .bool true) Z (congrArg Value.bool (Jq c235)) (GE [0,0,0]))
      cases h;exact TD.nil (Hn (d:=77) (v':= .bool false) Z (congrArg Value.bool (Jr c235)) (GE [0,0,0]))
     refine He Z (.gn Z Z (Jr c226)) Z ?_;iterate 9 refine He Z (.gn Z Z (Jr c226)) Z ?_
     refine TD.q Z (.g Z Z (bd c225)) (Hq Z (Jr c226) Z) Z (Gw Z (Hq Z (bd c225) Z) Z ?_);cases h;exact TD.nil (GE [0,0,0])
    replace c225:=Ju c225;refine TD.run ab [9] Z Z ?_;iterate 3 refine He Z (.gn Z Z (bM c225)) Z ?_
    iterate 10 refine He Z (.gu Z Z) Z ?_
    refine He Z (.gn Z Z (bM c225)) Z (Gw Z (Hy Z (bM c225) Z) Z ?_);cases h;exact TD.nil (GE [0,0,0])
   rintro _ _ ⟨rfl,rfl⟩;clear h;have h:=hk221;clear hk221;try dsimp only at h
   rcases jF h with⟨c236,h⟩ | ⟨c236,h⟩
   ·refine X.seq (GF Z c236 (Gq Z (Gp ab 1 Z ?_)));obtain rfl:=Jp h;obtain rfl:=Jp hO162;obtain rfl:=Jp hO8;exact Gs (T.ret (GI (Gv (Gv (GI (GI (Gv (Gv (GI (Gv (GD [2] LE (Gu Z))))))))))))
   replace c236:=Ju c236;exact X.seq (GU Z c236 (T.skip (GN (X.seq (T.region Z (Gr Z (Ex.add Z Z Mc) Z (Gp ab 1 Z (TL.nil (X.back (m':=m163) [1,1] Mc ⟨y158,k159+1,by omega,Z,Z,h⟩ Mf Mf)))))))))
def bN (a0:ao):List Bat->Int->Option (Lp Int Int)
 | [],y14=>some (Lp.go y14)
 | x20::xs,y14=>(du x20).bind fun x28=>if x28=0 then (if x20.Jc=true then some (Lp.ret 12) else (if (x20.Jf == a0.IJ.null)=true then some (Lp.ret 8) else (bN a0 xs y14))) else some (Lp.ret x28)
def dv (a0:ao) (a1:List Bat) (a2:Int):Option (Int):=(if (a1.length:Int)=0 then some true else (if a2<4 then (if (a1.length:Int)>1 then some true else some false) else some false)).bind fun y8=>if y8=true then some 10 else ((bN a0 a1 0).bind fun e=>match e with | .ret r=>some r | .go y33=>some 0)
theorem j7 (a0:ao) (A1:Option Addr) (c2:Nat) (a1:List Bat) (A3:Option Addr) (c4:Nat) (a2:Int) (r:Int) (h:dv a0 a1 a2=some r):aC Tryz.prog 195 #[.agg #[.bool a0.IJ.null,jS a0.IJ.data,jI a0.I6,jI a0.II,.slice A1 a0.IC.length c2],.slice A3 a1.length c4,jI a2] (RX.and (RX.of (ai 2 ay) [.slice A1 a0.IC.length c2] a0.IC) (RX.of (ai 12 dY) [.slice A3 a1.length c4] a1)) (aO) (fun v A' N=>v=jI r/\A'=aO/\N = []):=by
 refine aU Tryz.func195 Z Tryz.ntmps195 Z ?_;intro F w hX;unfold dv at h;refine Gq Z (TL.box Z .u Z Z (fun b5=>(Gx ab Z (Ig ?_))));obtain⟨y8,h,hk9⟩:=Jn h;refine Hj (fun e Rs=>e = [(1,.slice A3 a1.length c4),(3,jP b5),(6,jI 0),(21,.bool y8)]/\Rs = [aN b5 36 #[.bool a0.IJ.null,jS a0.IJ.data,jI a0.I6,jI a0.II,.slice A1 a0.IC.length c2],aO]) ?_ ?_
 ·clear hk9;refine T.region Z (Gp ab 1 Z (Gr Z (GK Z J7) Z ?_));rcases jF h with⟨c10,h⟩ | ⟨c10,h⟩
  ·refine Gp ab 2 Z (GA 13 Z (Jq c10) (GB ab 8 Z ?_));cases h;exact TL.nil (GE [0,0])
  refine Gp ab 2 Z (GA 13 Z (Jr c10) ?_);rcases jF h with⟨c11,h⟩ | ⟨c11,h⟩
  ·refine GB ab 3 Z (GA 16 Z (Jq c11) (GB ab 1 Z (TL.q Z (.g Z Z Z) (GK Z J7) Z (GB ab 3 Z ?_))));rcases jF h with⟨c12,h⟩ | ⟨c12,h⟩
   ·cases h;exact TL.nil (Hn (d:=21) (v':= .bool true) Z (congrArg Value.bool (Jq c12)) (GE [0,0]))
   cases h;exact TL.nil (Hn (d:=21) (v':= .bool false) Z (congrArg Value.bool (Jr c12)) (GE [0,0]))
  refine GB ab 3 Z (GA 16 Z (Jr c11) (GB ab 5 Z ?_));cases h;exact TL.nil (GE [0,0])
 rintro _ _ ⟨rfl,rfl⟩;clear h;have h:=hk9;clear hk9;try dsimp only at h
 rcases jF h with⟨c13,h⟩ | ⟨c13,h⟩
 ·refine X.seq (GF Z c13 (Gq Z (Gp ab 1 Z ?_)));obtain rfl:=Jp h;exact Gs (T.ret (Gv (GD [1] LF (Gu Z))))
 replace c13:=Ju c13;refine X.seq (GU Z c13 (GQ (T.seq (Gq Z (Gp ab 1 Z (Gr Z (GK Z J7) Z (Gx ab Z (T.block ?_))))))));obtain⟨E16,hE17,hO18⟩:=Jn h;have hk22len:=Ha (Gz hX);refine Hl (fun m e Rs=> ∃ (y14:Int) (k15:Nat),k15+m=a1.length/\e = [(3,jP b5),(6,jI y14),(22,.slice A3 a1.length c4),(23,jI (a1.length:Int)),(24,jI (k15:Int))]/\Rs = [aN b5 36 #[.bool a0.IJ.null,jS a0.IJ.data,jI a0.I6,jI a0.II,.slice A1 a0.IC.length c2],aO]/\bN a0 (a1.drop k15) y14=some E16) (a1.length) [0,0] ⟨0,0,by simp,Z,Z,by rw[List.drop_zero]; exact hE17⟩ Mf Mf ?_;clear hE17 h;rintro m19 _ _ ⟨y14,k15,hk22,rfl,rfl,h⟩
 cases m19 with
 | zero =>
  rw[List.drop_of_length_le Mc,bN] at h;have hk22ge: ¬ ((k15:Int)<(a1.length:Int)):=by omega
  refine Gq Z (Gx ab Z (T.seq (GU Z (Jr hk22ge) ?_)));obtain rfl:=Jp h;replace h:=hO18;clear hO18;refine T.exit (GL (GL (Hi (X.seq (Gq Z (Gp ab 1 Z ?_))))));obtain rfl:=Jp h;exact Gs (T.ret (GD [1] LF (Gu Z)))
 | succ m19 =>
  obtain⟨x20,hxx20⟩: ∃ x,a1[k15]? = some x:=⟨_,List.getElem?_eq_getElem Mc⟩;rw[bz hxx20,bN] at h;have hk22lt:(k15:Int)<(a1.length:Int):=by omega
  refine Gq Z (Gx ab Z (T.seq (GF Z (Jq hk22lt) ?_)));obtain⟨gz23,oz23,rfl,z23cs,z23cl,z23cc,z23nf,z23r⟩:=G4 Md (Gz hX) hxx20;obtain⟨z23S,z23r,z23rr⟩:=z23r;obtain⟨A24,c25,rfl,z23s0⟩:=z23r;have hX26:(RX.of (ai 7 dK) [.slice A24 x20.IG.length c25] x20.IG).reads w F:=⟨z23S,z23s0,z23rr⟩;refine GQ (T.seq (T.block (Gq Z ?_)));refine Gr Z (GS (k:=k15) Z Z Z J7 JF (Jt hxx20).1) Z ?_;refine Gr Z (Ho (us:=wL5 x20 A24 c25) 0 Z J9 JF z23nf z23cc Z Z Z) Z (TL.alloc Z .u Tryz.zeroValue97 Z (fun b27=>(GC 0 Z (cs':=wA0 x20 A24 c25) Z .u Z Z JF Z Z Z Z Z (Gs (T.seq (Gq Z (Gr Z (GH (us:=wL5 x20 A24 c25) 0 Z J9 JF Z Z Z) Z ?_)))))));obtain⟨x28,hx29,h⟩:=Jn h;refine GT Z .u (.fn Tryz.call81 Z) (iC x20 _ _ _ hx29) (fun _ hs=>(GJ hs hX26)) Z (GP ab Z Z (Gp ab 2 Z ?_));rcases jF h with⟨c30,h⟩ | ⟨c30,h⟩
  ·refine GY Z c30 (GQ (T.block (Gq Z (Gt ab aX 0 Z 3 Z Z ?_))));rcases jF h with⟨c31,h⟩ | ⟨c31,h⟩
   ·refine Gs (GF Z c31 (Gq Z (Gp ab 1 Z ?_)));obtain rfl:=Jp h;obtain rfl:=Jp hO18;exact Gs (T.ret (GI (GI (Gv (Gv (GI (Gv (GD [2] LF (Gu Z)))))))))
   replace c31:=Ju c31;refine Gs (GU Z c31 (Gq Z (Gt ab aX 0 Z 4 Z Z (Gt ab aX 1 Z 1 Z Z (Gr Z (Ex.bEq Z Z Z Z JR) Z (Gp ab 1 Z ?_))))));rcases jF h with⟨c32,h⟩ | ⟨c32,h⟩
   ·refine Gs (GF Z c32 (Gq Z (Gp ab 1 Z ?_)));obtain rfl:=Jp h;obtain rfl:=Jp hO18;exact Gs (T.ret (GI (GI (Gv (Gv (GI (Gv (GD [2] LF (Gu Z)))))))))
   replace c32:=Ju c32;exact Gs (GU Z c32 (T.skip (GN (GN (X.seq (T.region Z (Gr Z (Ex.add Z Z Mc) Z (Gp ab 1 Z (TL.nil (X.back (m':=m19) [1,1] Mc ⟨y14,k15+1,by omega,Z,Z,h⟩ Mf Mf))))))))))
  refine GX Z c30 (Gq Z (Gp ab 2 Z ?_));obtain rfl:=Jp h;obtain rfl:=Jp hO18;exact Gs (T.ret (Gv (GI (Gv (Gv (GI (Gv (GD [2] LF (Gu Z)))))))))
def bW (a0:ao) (a1:Int):List aL->Int->Option (Lp Int Int)
 | [],y51=>some (Lp.go y51)
 | x57::xs,y51=>(dv a0 x57.IM a1).bind fun x65=>if x65=0 then (bW a0 a1 xs y51) else some (Lp.ret x65)
def bX (a0:ao) (a1:Int):List az->Int->Option (Lp Int Int)
 | [],y37=>some (Lp.go y37)
 | x43::xs,y37=>(bW a0 a1 x43.IH y37).bind fun e=>match e with | .ret r=>some (Lp.ret r) | .go y68=>(bX a0 a1 xs y68)
def ca (a0:ao) (a1:Int):Option (Int):=((nK a0.IJ).bind fun x12=>if x12=true then (if a0.IJ.null=true then some false else ((lF a0.IJ.data).bind fun x16=>if x16=true then some false else some true)) else some true).bind fun y10=>if y10=true then some 4 else ((if a0.I6<(-1) then some true else (if a0.I6>1 then some true else (if a0.II<0 then some true else ((ib a0.II 4).bind fun x30=>if x30=true then some false else some true)))).bind fun y25=>if y25=true then some 11 else ((gV a0.IC).bind fun x34=>if x34=0 then ((bX a0 a1 a0.IC 0).bind fun e=>match e with | .ret r=>some r | .go y70=>some 0) else some x34))
theorem gD (a0:ao) (A1:Option Addr) (c2:Nat) (a1:Int) (r:Int) (h:ca a0 a1=some r):aC Tryz.prog 156 #[.agg #[.bool a0.IJ.null,jS a0.IJ.data,jI a0.I6,jI a0.II,.slice A1 a0.IC.length c2],jI a1] (RX.of (ai 2 ay) [.slice A1 a0.IC.length c2] a0.IC) (aO) (fun v A' N=>v=jI r/\A'=aO/\N = []):=by
 refine aU Tryz.func156 Z Tryz.ntmps156 Z ?_;intro F w hX;unfold ca at h;refine Gq Z (TL.box Z .u Z Z (fun b3=>(Gx ab Z (T.seq (T.block (T.seq ?_))))));obtain⟨y10,h,hk11⟩:=Jn h;refine Hj (fun e Rs=>e = [(1,jI a1),(2,jP b3),(4,jI 0),(11,.bool y10)]/\Rs = [aN b3 36 #[.bool a0.IJ.null,jS a0.IJ.data,jI a0.I6,jI a0.II,.slice A1 a0.IC.length c2],aO]) ?_ ?_
 ·clear hk11;refine T.region Z (Gp ab 1 Z (Gr Z (GH (us:=wL6 a0.IJ) 0 Z JY JB Z Z Z) Z ?_));obtain⟨x12,hx13,h⟩:=Jn h;refine GT Z .u (.fn Tryz.call148 Z) (lE a0.IJ _ hx13) rT Z ?_;rcases jF h with⟨c14,h⟩ | ⟨c14,h⟩
  ·refine Gp ab 2 Z (GA 16 Z (bd c14) ?_);rcases jF h with⟨c15,h⟩ | ⟨c15,h⟩
   ·refine Gt ab aX 0 Z 5 Z Z (GA 21 Z (bd c15) (GB ab 8 Z ?_));cases h;exact TL.nil (GE [0,0])
   replace c15:=Ju c15;refine Gt ab aX 0 Z 5 Z Z (GA 21 Z (bM c15) ?_);obtain⟨x16,hx17,h⟩:=Jn h;refine Gt ab aX 0 Z 3 Z Z (GT Z (.g Z Z Z) (.fn Tryz.call87 Z) (Hk (fun w=>kE a0.IJ.data _ hx17 w)) (fun _ _=>G5 _ _) Z (GB ab 4 Z ?_));rcases jF h with⟨c18,h⟩ | ⟨c18,h⟩
   ·cases h;exact TL.nil (Hn (d:=11) (v':= .bool false) Z (congrArg Value.bool (bd c18)) (GE [0,0]))
   replace c18:=Ju c18;cases h;exact TL.nil (Hn (d:=11) (v':= .bool true) Z (congrArg Value.bool (bM c18)) (GE [0,0]))
  replace c14:=Ju c14;refine Gp ab 2 Z (GA 16 Z (bM c14) (GB ab 13 Z ?_));cases h;exact TL.nil (GE [0,0])
 rintro _ _ ⟨rfl,rfl⟩;clear h;have h:=hk11;clear hk11;try dsimp only at h
 rcases jF h with⟨c19,h⟩ | ⟨c19,h⟩
 ·refine X.seq (GF Z c19 (Gq Z (Gp ab 1 Z ?_)));obtain rfl:=Jp h;exact Gs (T.ret (GI (Gv (GD [1] LG (Gu Z)))))
 replace c19:=Ju c19;refine X.seq (GU Z c19 (T.seq ?_));obtain⟨y25,h,hk26⟩:=Jn h;refine Hj (fun e Rs=>e = [(1,jI a1),(2,jP b3),(4,jI 0),(29,.bool y25)]/\Rs = [aN b3 36 #[.bool a0.IJ.null,jS a0.IJ.data,jI a0.I6,jI a0.II,.slice A1 a0.IC.length c2],aO]) ?_ ?_
 ·clear hk26;refine T.region Z ?_;rcases jF h with⟨c27,h⟩ | ⟨c27,h⟩
  ·refine Gt ab aX 0 Z 4 Z Z (GA 33 Z (Jq c27) (GB ab 16 Z ?_));cases h;exact TL.nil (GE [0,0])
  refine Gt ab aX 0 Z 4 Z Z (GA 33 Z (Jr c27) ?_);rcases jF h with⟨c28,h⟩ | ⟨c28,h⟩
  ·refine Gt ab aX 0 Z 5 Z Z (GA 38 Z (Jq c28) (GB ab 11 Z ?_));cases h;exact TL.nil (GE [0,0])
  refine Gt ab aX 0 Z 5 Z Z (GA 38 Z (Jr c28) ?_);rcases jF h with⟨c29,h⟩ | ⟨c29,h⟩
  ·refine Gt ab aX 0 Z 5 Z Z (GA 43 Z (Jq c29) (GB ab 6 Z ?_));cases h;exact TL.nil (GE [0,0])
  refine Gt ab aX 0 Z 5 Z Z (GA 43 Z (Jr c29) ?_);obtain⟨x30,hx31,h⟩:=Jn h;refine Gt ab aX 0 Z 2 Z Z (GT Z (.g Z Z Z) (.fn Tryz.call101 Z) (Hk (fun w=>db a0.II 4 _ hx31 w)) (fun _ _=>G5 _ _) Z (GB ab 3 Z ?_));rcases jF h with⟨c32,h⟩ | ⟨c32,h⟩
  ·cases h;exact TL.nil (Hn (d:=29) (v':= .bool false) Z (congrArg Value.bool (bd c32)) (GE [0,0]))
  replace c32:=Ju c32;cases h;exact TL.nil (Hn (d:=29) (v':= .bool true) Z (congrArg Value.bool (bM c32)) (GE [0,0]))
 rintro _ _ ⟨rfl,rfl⟩;clear h;have h:=hk26;clear hk26;try dsimp only at h
 rcases jF h with⟨c33,h⟩ | ⟨c33,h⟩
 ·refine X.seq (GF Z c33 (Gq Z (Gp ab 1 Z ?_)));obtain rfl:=Jp h;exact Gs (T.ret (GI (Gv (GD [1] LG (Gu Z)))))
 replace c33:=Ju c33;refine X.seq (GU Z c33 (T.skip (GN (X.seq (T.seq (Gq Z ?_))))));obtain⟨x34,hx35,h⟩:=Jn h;refine Gt ab aX 0 Z 2 Z Z (GT Z .u (.fn Tryz.call194 Z) (o7 a0.IC _ _ _ hx35) (fun _ hs=>(GJ hs hX)) Z (GP ab Z Z (Gp ab 2 Z ?_)));rcases jF h with⟨c36,h⟩ | ⟨c36,h⟩
 ·refine GY Z c36 (GQ (T.seq (Gq Z (Gt ab aX 0 Z 2 Z Z (Gr Z (GK Z Kd) Z (Gx ab Z (T.block ?_)))))));obtain⟨E39,hE40,hO41⟩:=Jn h;have hk45len:=Ha hX;refine Hl (fun m e Rs=> ∃ (y37:Int) (k38:Nat),k38+m=a0.IC.length/\e = [(1,jI a1),(2,jP b3),(4,jI y37),(56,.slice A1 a0.IC.length c2),(57,jI (a0.IC.length:Int)),(58,jI (k38:Int))]/\Rs = [aN b3 36 #[.bool a0.IJ.null,jS a0.IJ.data,jI a0.I6,jI a0.II,.slice A1 a0.IC.length c2],aO]/\bX a0 a1 (a0.IC.drop k38) y37=some E39) (a0.IC.length) [0,0] ⟨0,0,by simp,Z,Z,by rw[List.drop_zero]; exact hE40⟩ Mf Mf ?_;clear hE40 h;rintro m42 _ _ ⟨y37,k38,hk45,rfl,rfl,h⟩
  cases m42 with
  | zero =>
   rw[List.drop_of_length_le Mc,bX] at h;have hk45ge: ¬ ((k38:Int)<(a0.IC.length:Int)):=by omega
   refine Gq Z (Gx ab Z (T.seq (GU Z (Jr hk45ge) ?_)));obtain rfl:=Jp h;replace h:=hO41;clear hO41;refine T.exit (GL (GL (Hi (X.seq (Gq Z (Gp ab 1 Z ?_))))));obtain rfl:=Jp h;exact Gs (T.ret (GD [1] LG (Gu Z)))
  | succ m42 =>
   obtain⟨x43,hxx43⟩: ∃ x,a0.IC[k38]? = some x:=⟨_,List.getElem?_eq_getElem Mc⟩;rw[bz hxx43,bX] at h;have hk45lt:(k38:Int)<(a0.IC.length:Int):=by omega
   refine Gq Z (Gx ab Z (T.seq (GF Z (Jq hk45lt) ?_)));obtain⟨gz46,oz46,rfl,z46cs,z46cl,z46cc,z46nf,z46r⟩:=G4 Md hX hxx43;obtain⟨z46S,z46r,z46rr⟩:=z46r;obtain⟨A47,c48,rfl,z46s0⟩:=z46r;have hX49:(RX.of (ai 2 bL) [.slice A47 x43.IH.length c48] x43.IH).reads w F:=⟨z46S,z46s0,z46rr⟩;refine GQ (T.seq (T.block (Gq Z ?_)));refine Gr Z (GS (k:=k38) Z Z Z Kd Kg (Jt hxx43).1) Z ?_;refine Gr Z (Ho (us := [jS x43.IW,.slice A47 x43.IH.length c48]) 0 Z Lx Kg z46nf z46cc Z Z Z) Z (TL.alloc Z .u Tryz.zeroValue176 Z (fun b50=>(GC 0 Z (cs':= #[jS x43.IW,.slice A47 x43.IH.length c48]) Z .u Z Z Kg Z Z Z Z Z (GG Z (Gt ab aX 0 Z 2 Z Z (Gr Z (GK Z Kc) Z (Gx ab Z (T.block ?_))))))));obtain⟨E53,hE54,hO55⟩:=Jn h;have hk59len:=Ha hX49;refine Hl (fun m e Rs=> ∃ (y51:Int) (k52:Nat),k52+m=x43.IH.length/\e = [(1,jI a1),(2,jP b3),(4,jI y51),(56,.slice (some ⟨gz46,oz46,none⟩) a0.IC.length c2),(57,jI (a0.IC.length:Int)),(58,jI (k38:Int)),(63,.slice A47 x43.IH.length c48),(64,jI (x43.IH.length:Int)),(65,jI (k52:Int))]/\Rs = [aN b50 176 #[jS x43.IW,.slice A47 x43.IH.length c48],aN b3 36 #[.bool a0.IJ.null,jS a0.IJ.data,jI a0.I6,jI a0.II,.slice (some ⟨gz46,oz46,none⟩) a0.IC.length c2],aO]/\bW a0 a1 (x43.IH.drop k52) y51=some E53) (x43.IH.length) [0,0,0] ⟨y37,0,by simp,Z,Z,by rw[List.drop_zero]; exact hE54⟩ Mf Mf ?_;clear hE54 h;rintro m56 _ _ ⟨y51,k52,hk59,rfl,rfl,h⟩
   cases m56 with
   | zero =>
    rw[List.drop_of_length_le Mc,bW] at h;have hk59ge: ¬ ((k52:Int)<(x43.IH.length:Int)):=by omega
    refine Gq Z (Gx ab Z (T.seq (GU Z (Jr hk59ge) ?_)));obtain rfl:=Jp h;replace h:=hO55;clear hO55;exact T.exit (GL (GL (Hi (GN (X.seq (T.region Z (Gr Z (Ex.add Z Z Mc) Z (Gp ab 1 Z (TL.nil (X.back (m':=m42) [1,1] Mc ⟨y51,k38+1,by omega,Z,Z,h⟩ Mf Mf))))))))))
   | succ m56 =>
    obtain⟨x57,hxx57⟩: ∃ x,x43.IH[k52]? = some x:=⟨_,List.getElem?_eq_getElem Mc⟩;rw[bz hxx57,bW] at h;have hk59lt:(k52:Int)<(x43.IH.length:Int):=by omega
    refine Gq Z (Gx ab Z (T.seq (GF Z (Jq hk59lt) ?_)));obtain⟨gz60,oz60,rfl,z60cs,z60cl,z60cc,z60nf,z60r⟩:=G4 Md hX49 hxx57;obtain⟨z60S,z60r,z60rr⟩:=z60r;obtain⟨A61,c62,rfl,z60s0⟩:=z60r;have hX63:(RX.of (ai 12 dY) [.slice A61 x57.IM.length c62] x57.IM).reads w F:=⟨z60S,z60s0,z60rr⟩;refine GQ (T.seq (T.block (Gq Z ?_)));refine Gr Z (GS (k:=k52) Z Z Z Kc Ka (Jt hxx57).1) Z ?_;refine Gr Z (Ho (us := [jI x57.I8,.slice A61 x57.IM.length c62]) 0 Z Lc Ka z60nf z60cc Z Z Z) Z (TL.alloc Z .u Tryz.zeroValue179 Z (fun b64=>(GC 0 Z (cs':= #[jI x57.I8,.slice A61 x57.IM.length c62]) Z .u Z Z Ka Z Z Z Z Z (GG Z (Gr Z (GH (us := [.bool a0.IJ.null,jS a0.IJ.data,jI a0.I6,jI a0.II,.slice (some ⟨gz46,oz46,none⟩) a0.IC.length c2]) 2 Z KX Kk Z Z Z) Z ?_)))));obtain⟨x65,hx66,h⟩:=Jn h;refine Gt ab aX 0 Z 3 Z Z (GT Z .u (.fn Tryz.call195 Z) (j7 a0 _ _ x57.IM _ _ a1 _ hx66) (fun _ hs=>(RX.reads_and (GJ hs hX) (GJ hs hX63))) Z (GP ab Z Z (Gp ab 2 Z ?_)));rcases jF h with⟨c67,h⟩ | ⟨c67,h⟩
    ·exact GY Z c67 (T.skip (GN (X.seq (T.region Z (Gr Z (Ex.add Z Z Mc) Z (Gp ab 1 Z (TL.nil (X.back (m':=m56) [1,1,1] Mc ⟨y51,k52+1,by omega,Z,Z,h⟩ Mf Mf))))))))
    refine GX Z c67 (Gq Z (Gp ab 2 Z ?_));obtain rfl:=Jp h;obtain rfl:=Jp hO55;obtain rfl:=Jp hO41;exact Gs (T.ret (GI (Gv (Gv (GI (GI (Gv (Gv (GI (Gv (GD [3] LG (Gu Z))))))))))))
 refine GX Z c36 (Gq Z (Gp ab 2 Z ?_));obtain rfl:=Jp h;exact Gs (T.ret (Gv (GD [1] LG (Gu Z))))
def bJ:List aL->(List UInt8×Int)->Option (List UInt8×Int)
 | [],st78=>some st78
 | x83::xs,st78=>(j6 x83.IM).bind fun (x91,x92)=>(if x92=0 then some st78 else ((jw st78 x92).bind fun st100=>some st100)).bind fun st97=>(dA st97 x83.I8 4).bind fun st102=>(gOf x91).bind fun x104=>(iF st102 x104 4).bind fun st106=>bJ xs st106
def bK:List az->(List UInt8×Int)->Option (List UInt8×Int)
 | [],st16=>some st16
 | x21::xs,st16=>((iO st16 x21.IW).bind fun st73=>(dA st73 (x21.IH.length:Int) 4).bind fun st75=>(bJ x21.IH st75).bind fun st109=>some st109).bind fun st66=>bK xs st66
def da (st:List UInt8×Int) (a0:ao) (a2:Int):Option (List UInt8×Int):=(ca a0 a2).bind fun x4=>if x4=0 then ((iF st a0.IJ 2).bind fun st7=>(dA st7 a0.I6 2).bind fun st9=>(dA st9 a0.II 4).bind fun st11=>(dA st11 (a0.IC.length:Int) 4).bind fun st13=>(bK a0.IC st13).bind fun st111=>some st111) else ((jw st x4).bind fun st112=>some st112)
theorem kG (g:Nat) (st:List UInt8×Int) (a0:ao) (A1:Option Addr) (c2:Nat) (a2:Int) (r:List UInt8×Int) (h:da st a0 a2=some r):aC Tryz.prog 100 #[.agg #[.bool a0.IJ.null,jS a0.IJ.data,jI a0.I6,jI a0.II,.slice A1 a0.IC.length c2],jP g,jI a2] (RX.of (ai 2 ay) [.slice A1 a0.IC.length c2] a0.IC) (bp g st) (fun v A' N=>v= .tuple #[]/\A'=bp g r/\N = []):=by
 refine aU Tryz.func100 Z Tryz.ntmps100 Z ?_;intro F w hX;unfold da at h;refine Gq Z (TL.box Z .u Z Z (fun b3=>(Gs (T.seq (Gq Z (Gr Z (GH (us := [.bool a0.IJ.null,jS a0.IJ.data,jI a0.I6,jI a0.II,.slice A1 a0.IC.length c2]) 0 Z KX Kk Z Z Z) Z ?_))))));obtain⟨x4,hx5,h⟩:=Jn h;refine Gp ab 1 Z (GT Z .u (.fn Tryz.call156 Z) (gD a0 _ _ a2 _ hx5) (fun _ hs=>(GJ hs hX)) Z (GP ab Z Z (Gp ab 2 Z ?_)));rcases jF h with⟨c6,h⟩ | ⟨c6,h⟩
 ·refine GY Z c6 (G3 Z (Gp ab 2 Z (Gr Z (GH (us:=wL6 a0.IJ) 0 Z JY JB Z Z Z) Z ?_)));obtain⟨st7,hx8,h⟩:=Jn h;refine Gy 1 Z Z .u (.fn Tryz.call95 Z) (iN g st a0.IJ 2 _ hx8) sT Z Z (GG Z ?_);obtain⟨st9,hx10,h⟩:=Jn h;refine Gt ab aX 0 Z 3 Z Z (Gy 1 Z Z .u (.fn Tryz.call51 Z) (bh g st7 a0.I6 2 _ hx10) sT Z Z (GG Z ?_));obtain⟨st11,hx12,h⟩:=Jn h;refine Gt ab aX 0 Z 3 Z Z (Gy 1 Z Z .u (.fn Tryz.call51 Z) (bh g st9 a0.II 4 _ hx12) sT Z Z (GG Z (Gt ab aX 0 Z 3 Z Z (Gr Z (GK Z Kd) Z ?_))));obtain⟨st13,hx14,h⟩:=Jn h;refine Gy 1 Z Z .u (.fn Tryz.call51 Z) (bh g st11 (a0.IC.length:Int) 4 _ hx14) sT Z Z (GG Z (Gt ab aX 0 Z 2 Z Z (Gr Z (GK Z Kd) Z (Gx ab Z (T.block ?_)))));obtain⟨E17,hE18,hO19⟩:=Jn h;have hk23len:=Ha hX;refine Hl (fun m e Rs=> ∃ (k15:Nat) (st16:List UInt8×Int),k15+m=a0.IC.length/\e = [(1,jP g),(39,.slice A1 a0.IC.length c2),(40,jI (a0.IC.length:Int)),(41,jI (k15:Int))]/\Rs = [aN b3 36 #[.bool a0.IJ.null,jS a0.IJ.data,jI a0.I6,jI a0.II,.slice A1 a0.IC.length c2],bp g st16]/\bK (a0.IC.drop k15) st16=some E17) (a0.IC.length) [0,0] ⟨0,st13,by simp,Z,Z,by rw[List.drop_zero]; exact hE18⟩ Mf Mf ?_;clear hE18 h;rintro m20 _ _ ⟨k15,st16,hk23,rfl,rfl,h⟩
  cases m20 with
  | zero =>
   rw[List.drop_of_length_le Mc,bK] at h;have hk23ge: ¬ ((k15:Int)<(a0.IC.length:Int)):=by omega
   refine Gq Z (Gx ab Z (T.seq (GU Z (Jr hk23ge) ?_)));obtain rfl:=Jp h;obtain rfl:=Jp hO19;exact T.exit (GL (GL (Hi (Ht [1] Tryz.results100 ⟨Z,Z,Z⟩ Mf (.inr Z)))))
  | succ m20 =>
   obtain⟨x21,hxx21⟩: ∃ x,a0.IC[k15]? = some x:=⟨_,List.getElem?_eq_getElem Mc⟩;rw[bz hxx21,bK] at h;have hk23lt:(k15:Int)<(a0.IC.length:Int):=by omega
   refine Gq Z (Gx ab Z (T.seq (GF Z (Jq hk23lt) (GQ (T.seq ?_)))));obtain⟨st66,h,hk67⟩:=Jn h;refine Hj (fun e Rs=>e = [(1,jP g),(39,.slice A1 a0.IC.length c2),(40,jI (a0.IC.length:Int)),(41,jI (k15:Int))]/\Rs = [aN b3 36 #[.bool a0.IJ.null,jS a0.IJ.data,jI a0.I6,jI a0.II,.slice A1 a0.IC.length c2],bp g st66]) ?_ ?_
   ·clear hk67;obtain⟨gz68,oz68,rfl,z68cs,z68cl,z68cc,z68nf,z68r⟩:=G4 Md hX hxx21;obtain⟨z68S,z68r,z68rr⟩:=z68r;obtain⟨A69,c70,rfl,z68s0⟩:=z68r;have hX71:(RX.of (ai 2 bL) [.slice A69 x21.IH.length c70] x21.IH).reads w F:=⟨z68S,z68s0,z68rr⟩;refine T.block (Gq Z ?_);refine Gr Z (GS (k:=k15) Z Z Z Kd Kg (Jt hxx21).1) Z ?_;refine Gr Z (Ho (us := [jS x21.IW,.slice A69 x21.IH.length c70]) 0 Z Lx Kg z68nf z68cc Z Z Z) Z (TL.alloc Z .u Tryz.zeroValue176 Z (fun b72=>(GC 0 Z (cs':= #[jS x21.IW,.slice A69 x21.IH.length c70]) Z .u Z Z Kg Z Z Z Z Z (GG Z ?_))));obtain⟨st73,hx74,h⟩:=Jn h;refine Gt ab aX 0 Z 3 Z Z (Gy 2 Z Z .u (.fn Tryz.call88 Z) (jO g st16 x21.IW _ hx74) sT Z Z (GG Z (Gt ab aX 0 Z 3 Z Z (Gr Z (GK Z Kc) Z ?_))));obtain⟨st75,hx76,h⟩:=Jn h;refine Gy 2 Z Z .u (.fn Tryz.call51 Z) (bh g st73 (x21.IH.length:Int) 4 _ hx76) sT Z Z (GG Z (Gt ab aX 0 Z 2 Z Z (Gr Z (GK Z Kc) Z (Gx ab Z (T.block ?_)))));obtain⟨E79,hE80,hO81⟩:=Jn h;have hk85len:=Ha hX71;refine Hl (fun m e Rs=> ∃ (k77:Nat) (st78:List UInt8×Int),k77+m=x21.IH.length/\e = [(1,jP g),(39,.slice (some ⟨gz68,oz68,none⟩) a0.IC.length c2),(40,jI (a0.IC.length:Int)),(41,jI (k15:Int)),(55,.slice A69 x21.IH.length c70),(56,jI (x21.IH.length:Int)),(57,jI (k77:Int))]/\Rs = [aN b72 176 #[jS x21.IW,.slice A69 x21.IH.length c70],aN b3 36 #[.bool a0.IJ.null,jS a0.IJ.data,jI a0.I6,jI a0.II,.slice (some ⟨gz68,oz68,none⟩) a0.IC.length c2],bp g st78]/\bJ (x21.IH.drop k77) st78=some E79) (x21.IH.length) [0,0,0] ⟨0,st75,by simp,Z,Z,by rw[List.drop_zero]; exact hE80⟩ Mf Mf ?_;clear hE80 h;rintro m82 _ _ ⟨k77,st78,hk85,rfl,rfl,h⟩
    cases m82 with
    | zero =>
     rw[List.drop_of_length_le Mc,bJ] at h;have hk85ge: ¬ ((k77:Int)<(x21.IH.length:Int)):=by omega
     refine Gq Z (Gx ab Z (T.seq (GU Z (Jr hk85ge) ?_)));obtain rfl:=Jp h;replace h:=hO81;clear hO81;try dsimp only at h
     cases h;exact T.exit (GL (GL (Hi (GN (GE [1,1])))))
    | succ m82 =>
     obtain⟨x83,hxx83⟩: ∃ x,x21.IH[k77]? = some x:=⟨_,List.getElem?_eq_getElem Mc⟩;rw[bz hxx83,bJ] at h;have hk85lt:(k77:Int)<(x21.IH.length:Int):=by omega
     refine Gq Z (Gx ab Z (T.seq (GF Z (Jq hk85lt) ?_)));obtain⟨gz86,oz86,rfl,z86cs,z86cl,z86cc,z86nf,z86r⟩:=G4 Md hX71 hxx83;obtain⟨z86S,z86r,z86rr⟩:=z86r;obtain⟨A87,c88,rfl,z86s0⟩:=z86r;have hX89:(RX.of (ai 12 dY) [.slice A87 x83.IM.length c88] x83.IM).reads w F:=⟨z86S,z86s0,z86rr⟩;refine GQ (T.seq (T.block (Gq Z ?_)));refine Gr Z (GS (k:=k77) Z Z Z Kc Ka (Jt hxx83).1) Z ?_;refine Gr Z (Ho (us := [jI x83.I8,.slice A87 x83.IM.length c88]) 0 Z Lc Ka z86nf z86cc Z Z Z) Z (TL.alloc Z .u Tryz.zeroValue179 Z (fun b90=>(GC 0 Z (cs':= #[jI x83.I8,.slice A87 x83.IM.length c88]) Z .u Z Z Ka Z Z Z Z Z (GG Z ?_))));obtain⟨⟨x91,x92⟩,hx93,h⟩:=Jn h;refine Gt ab aX 0 Z 2 Z Z (GT Z .u (.fn Tryz.call157 Z) (rX x83.IM _ _ _ hx93) (fun _ hs=>(GJ hs hX89)) Z (Gx ab Z (T.seq (Gq Z (Gx ab Z ?_)))));obtain⟨st97,h,hk98⟩:=Jn h;refine Hj (fun e Rs=>e = [(1,jP g),(10,jP b90),(11,jS x91),(39,.slice (some ⟨gz68,oz68,none⟩) a0.IC.length c2),(40,jI (a0.IC.length:Int)),(41,jI (k15:Int)),(55,.slice (some ⟨gz86,oz86,none⟩) x21.IH.length c70),(56,jI (x21.IH.length:Int)),(57,jI (k77:Int))]/\Rs = [aN b90 179 #[jI x83.I8,.slice A87 x83.IM.length c88],aN b72 176 #[jS x21.IW,.slice (some ⟨gz86,oz86,none⟩) x21.IH.length c70],aN b3 36 #[.bool a0.IJ.null,jS a0.IJ.data,jI a0.I6,jI a0.II,.slice (some ⟨gz68,oz68,none⟩) a0.IC.length c2],bp g st97]) ?_ ?_
     ·clear hk98;rcases jF h with⟨c99,h⟩ | ⟨c99,h⟩
      ·refine T.nn Z c99 ?_;cases h;exact T.skip (GE [0,0,0,0])
      refine T.yn Z c99 (T.region Z ?_);obtain⟨st100,hx101,h⟩:=Jn h;refine Gp ab 2 Z (Gy 3 Z Z .u (.fn Tryz.call94 Z) (fT g st78 x92 _ hx101) sT Z Z ?_);cases h;exact TL.nil (GE [0,0,0,0])
     rintro _ _ ⟨rfl,rfl⟩;clear h;have h:=hk98;clear hk98;refine X.seq (Gq Z ?_);obtain⟨st102,hx103,h⟩:=Jn h;refine Gt ab aX 0 Z 3 Z Z (Gy 3 Z Z .u (.fn Tryz.call51 Z) (bh g st97 x83.I8 4 _ hx103) sT Z Z (Gs (T.region Z ?_)));obtain⟨x104,hx105,h⟩:=Jn h;refine Gp ab 2 Z (GT Z .u (.fn Tryz.call143 Z) (DN x91 _ hx105) rT Z ?_);obtain⟨st106,hx107,h⟩:=Jn h;exact Gy 3 Z Z .u (.fn Tryz.call95 Z) (iN g st102 x104 4 _ hx107) sT Z Z (TL.nil (GN (X.seq (T.region Z (Gr Z (Ex.add Z Z Mc) Z (Gp ab 1 Z (TL.nil (X.back (m':=m82) [1,1,1] Mc ⟨k77+1,st106,by omega,Z,Z,h⟩ Mf Mf))))))))
   rintro _ _ ⟨rfl,rfl⟩;clear h;have h:=hk67;clear hk67;exact X.seq (T.region Z (Gr Z (Ex.add Z Z Mc) Z (Gp ab 1 Z (TL.nil (X.back (m':=m20) [0,0] Mc ⟨k15+1,st66,by omega,Z,Z,h⟩ Mf Mf)))))
 refine GX Z c6 (Gq Z ?_);obtain⟨st112,hx113,h⟩:=Jn h;refine Gp ab 2 Z (Gy 1 Z Z .u (.fn Tryz.call94 Z) (fT g st x4 _ hx113) sT Z Z ?_);obtain rfl:=Jp h;exact Gs (T.ret (Gv (Ht [1] Tryz.results100 ⟨Z,Z,Z⟩ Mf (.inl Z))))
def cc:Nat->List Bat->I->I->Option (List Bat×I×I)
 | 0,_,_,_=>none
 | m29+1,y21,st24,st25=>((gt st25).bind fun (x44,st45)=>if x44=0 then ((tP st24).bind fun (x48,st49)=>if x48>0 then some (true,st49,st45) else some (false,st49,st45)) else some (false,st24,st45)).bind fun (y40,st41,st42)=>if y40=true then ((hN st41).bind fun (x53,st56)=>if (y21.length+1)*96<=140737488355328 then ((gt st56).bind fun (x62,st63)=>(if x62=0 then some st42 else ((bT st42 x62).bind fun st71=>some st71)).bind fun st68=>cc m29 (y21 ++ [x53]) st63 st68) else none) else some (y21,st41,st42)
def fQ (st:I)  : Option (aL×I):=(dB st 4).bind fun (x2,st3)=>(jx st3 4).bind fun (x6,st7)=>(if x6.null=true then ((bT st7 4).bind fun st16=>some st16) else some st7).bind fun st13=>(sZ x6.data).bind fun st18=>(cc (((st18.rest.length:Int)+(st13.rest.length:Int)+1).toNat+1) [] st18 st13).bind fun (y73,st76,st77)=>some ((⟨x2,y73⟩:aL),st77)
theorem kz (g:Nat) (st:I)  (r:aL×I) (h:fQ st  = some r):aC Tryz.prog 173 #[jP g] .triv (InR g st) (fun v A' N=> ∃ (A78:Option Addr) (c79:Nat),v= .agg #[jI r.1.I8,.slice A78 r.1.IM.length c79]/\A'=InR g r.2/\N = [RdR (ai 12 dY) [.slice A78 r.1.IM.length c79] r.1.IM]):=by
 refine aU Tryz.func173 Z Tryz.ntmps173 Z ?_;intro F w hX;unfold fQ at h;refine Gq Z (TL.alloc Z .u Tryz.zeroValue179 Z (fun b1=>(GG Z ?_)));obtain⟨⟨x2,st3⟩,hx4,h⟩:=Jn h;refine Gp ab 1 Z (Gy 1 Z Z .u (.fn Tryz.call68 Z) (bl g st 4 _ hx4) sT Z Z ?_);refine Gr Z (GW (cells:= #[jI x2,.slice none 0 0]) tk Z Me) Z ?_;refine TL.alloc Z .u Tryz.zeroValue179 Z (fun b5=>(GC 0 Z (cs':= #[jI x2,.slice none 0 0]) Z .u Z Z Ka Z Z Z Z Z (GG Z ?_)));obtain⟨⟨x6,st7⟩,hx8,h⟩:=Jn h;refine Gp ab 1 Z (Gy 2 Z Z .u (.fn Tryz.call142 Z) (iG g st3 4 _ hx8) sT Z Z (TL.alloc Z .u Tryz.zeroValue23 Z (fun b9=>(GC 0 Z (cs':=yp x6) Z .u Z Z JB Z Z Z Z Z (Gs (T.seq (Gq Z (Ie ab aX 0 Z Z Z ?_))))))));obtain⟨st13,h,hk14⟩:=Jn h;refine Hj (fun e Rs=>e = [(0,jP g),(2,jP b1),(3,jP b5),(4,jP b9)]/\Rs = [aN b9 23 (yp x6),aN b5 179 #[jI x2,.slice none 0 0],aN b1 179 #[jI 0,.slice none 0 0],InR g st13]) ?_ ?_
 ·clear hk14;rcases jF h with⟨c15,h⟩ | ⟨c15,h⟩
  ·refine GF Z c15 (T.region Z ?_);obtain⟨st16,hx17,h⟩:=Jn h;refine Gp ab 1 Z (Gy 3 Z Z .u (.fn Tryz.call70 Z) (bx g st7 4 _ hx17) sT Z Z ?_);cases h;exact TL.nil (GE [0,0,0,0])
  replace c15:=Ju c15;refine GU Z c15 ?_;cases h;exact T.skip (GE [0,0,0,0])
 rintro _ _ ⟨rfl,rfl⟩;clear h;have h:=hk14;clear hk14;refine X.seq (Gq Z ?_);obtain⟨st18,hx19,h⟩:=Jn h;refine Gt ab aX 0 Z 2 Z Z (HZ Z .u (.fn Tryz.call19 Z) (iE x6.data _ hx19) rT Z ?_);rintro _ _ _ ⟨b20,rfl,rfl,rfl⟩;refine Hc [0,0,0,0,0] Z (Gx ab Z (T.seq (T.block (HK 97 12 dY ?_))));obtain⟨E26,hE27,hO28⟩:=Jn h;refine Hl (fun m e Rs=> ∃ (y21:List Bat) (A22:Option Addr) (c23:Nat) (st24:I) (st25:I),e = [(0,jP g),(2,jP b1),(3,jP b5),(5,jP b20)]/\Rs = [ci 97 12 dY (.slice A22 y21.length c23) y21,InR b20 st24,aN b9 23 (yp x6),aN b5 179 #[jI x2,.slice A22 y21.length c23],aN b1 179 #[jI 0,.slice none 0 0],InR g st25]/\cc m y21 st24 st25=some E26) (((st18.rest.length:Int)+(st13.rest.length:Int)+1).toNat+1) [0,0,0,0,0,0] ⟨[],none,0,st18,st13,Z,Z,by exact hE27⟩ Mf Mf ?_;clear hE27 h;rintro m29 _ _ ⟨y21,A22,c23,st24,st25,rfl,rfl,h⟩
 cases m29 with
 | zero =>
  rw[cc] at h;cases h
 | succ m29 =>
  rw[cc] at h;refine Ig ?_;obtain⟨⟨y40,st41,st42⟩,h,hk43⟩:=Jn h;refine Hj (fun e Rs=>e = [(0,jP g),(2,jP b1),(3,jP b5),(5,jP b20),(26,.bool y40)]/\Rs = [ci 97 12 dY (.slice A22 y21.length c23) y21,InR b20 st41,aN b9 23 (yp x6),aN b5 179 #[jI x2,.slice A22 y21.length c23],aN b1 179 #[jI 0,.slice none 0 0],InR g st42]) ?_ ?_
  ·clear hk43;refine T.region Z ?_;obtain⟨⟨x44,st45⟩,hx46,h⟩:=Jn h;refine Gp ab 1 Z (Gy 5 Z Z .u (.fn Tryz.call23 Z) (bY g st25 _ hx46) sT Z Z ?_);rcases jF h with⟨c47,h⟩ | ⟨c47,h⟩
   ·refine Gp ab 2 Z (GA 22 Z (Jq c47) ?_);obtain⟨⟨x48,st49⟩,hx50,h⟩:=Jn h;refine GB ab 1 Z (Gy 1 Z Z (.g Z Z Z) (.fn Tryz.call71 Z) (mB b20 st24 _ hx50) sT Z Z (GB ab 2 Z ?_));rcases jF h with⟨c51,h⟩ | ⟨c51,h⟩
    ·cases h;exact TL.nil (Hn (d:=26) (v':= .bool true) Z (congrArg Value.bool (Jq c51)) (GE [0,0,0,0,0,0]))
    cases h;exact TL.nil (Hn (d:=26) (v':= .bool false) Z (congrArg Value.bool (Jr c51)) (GE [0,0,0,0,0,0]))
   refine Gp ab 2 Z (GA 22 Z (Jr c47) (GB ab 4 Z ?_));cases h;exact TL.nil (GE [0,0,0,0,0,0])
  rintro _ _ ⟨rfl,rfl⟩;clear h;have h:=hk43;clear hk43;try dsimp only at h
  rcases jF h with⟨c52,h⟩ | ⟨c52,h⟩
  ·refine X.seq (GF Z c52 ?_);obtain⟨⟨x53,st56⟩,hx57,h⟩:=Jn h;try dsimp only at h
   obtain⟨c59,h⟩:=aE h;refine GQ (T.block (T.seq ?_));refine Ix (fun e Rs=> ∃ (A54:Option Addr) (c55:Nat) (b58:Nat) (A60:Option Addr) (c61:Nat),e = [(0,jP g),(2,jP b1),(3,jP b5),(5,jP b20)]/\Rs = [ci 97 12 dY (.slice A60 (y21 ++ [x53]).length c61) (y21 ++ [x53]),InR b20 st56,aN b9 23 (yp x6),aN b5 179 #[jI x2,.slice A60 (y21 ++ [x53]).length c61],aN b1 179 #[jI 0,.slice none 0 0],InR g st42]) ?_ ?_
   ·refine G6 (.q 0 (.q 2 (.br 1 (.e 3 (.e 4 (.e 5 (.q 6 (.e 7 .nil))))) (.e 3 (.br 1 (.e 4 (.e 5 (.q 6 (.e 7 .nil)))) (.e 4 (.e 1 (.e 5 (.q 6 (.e 7 .nil)))))))))) [2,3,3] Z lM tV Me ?_;refine TD.run ab [0,2] Z Z ?_;refine TD.br ?_ ?_
    ·refine Id Z .u (GM 3 Z Lb Z Z) Z [2,3,3] Z ?_;refine TD.cg1 Z .u (.fn Tryz.call80 Z) (lL b20 st41 _ hx57) sT Z [3,4,4] ?_ ?_
     ·rintro _ _ _ ⟨A54,c55,rfl,rfl,rfl⟩;rfl
     rintro _ _ _ ⟨A54,c55,rfl,rfl,rfl⟩;refine Hx [0,0,0,0,0,0,0] Z ?_;refine H6 (cells:=wA0 x53 A54 c55) Z .u jc Z Me Z [4,5,5] (fun _=>Z) (fun b58=> ?_);refine Iv 1 0 Z .u (us:=wL5 x53 A54 c55) (u:=x53) (l:=y21) (E:=dY) Tryz.underlying177 lh Z Md Z Z Z Z Z Z Z (fun w G hG=>⟨_,_,Z,hG.1⟩) (by have hq:=c59; omega) (by have hq:=c59; omega) Z [2,3,3] (fun _ _=>Z) (fun A60 c61=> ?_);exact Hx [0,0,0,0,0,0] Z (TD.run ab [6] Z Z (Hw 3 Z (cs':= #[jI x2,.slice A60 (y21 ++ [x53]).length c61]) Z .u Z Z Lm Z Z Z Z Z [2,3,3] (Z) (TD.nil (Ij [0,0,0,0,0,0] ⟨A54,c55,b58,A60,c61,Z,Z⟩ Mf Mf))))
    refine TD.cg1 Z .u (.fn Tryz.call80 Z) (lL b20 st41 _ hx57) sT Z [3,4,4] ?_ ?_
    ·rintro _ _ _ ⟨A54,c55,rfl,rfl,rfl⟩;rfl
    rintro _ _ _ ⟨A54,c55,rfl,rfl,rfl⟩;refine Hx [0,0,0,0,0,0,0] Z ?_;refine TD.br ?_ ?_
    ·refine Id Z .u (GM 4 Z Lb Z Z) Z [3,4,4] Z ?_;refine H6 (cells:=wA0 x53 A54 c55) Z .u jc Z Me Z [4,5,5] (fun _=>Z) (fun b58=> ?_);refine Iv 1 0 Z .u (us:=wL5 x53 A54 c55) (u:=x53) (l:=y21) (E:=dY) Tryz.underlying177 lh Z Md Z Z Z Z Z Z Z (fun w G hG=>⟨_,_,Z,hG.1⟩) (by have hq:=c59; omega) (by have hq:=c59; omega) Z [2,3,3] (fun _ _=>Z) (fun A60 c61=> ?_);exact Hx [0,0,0,0,0,0] Z (TD.run ab [6] Z Z (Hw 3 Z (cs':= #[jI x2,.slice A60 (y21 ++ [x53]).length c61]) Z .u Z Z Lm Z Z Z Z Z [2,3,3] (Z) (TD.nil (Ij [0,0,0,0,0,0] ⟨A54,c55,b58,A60,c61,Z,Z⟩ Mf Mf))))
    refine H6 (cells:=wA0 x53 A54 c55) Z .u jc Z Me Z [4,5,5] (fun _=>Z) (fun b58=> ?_);refine Id Z .u (GM 5 Z Lb Z Z) Z [4,5,5] Z ?_;refine Iv 1 0 Z .u (us:=wL5 x53 A54 c55) (u:=x53) (l:=y21) (E:=dY) Tryz.underlying177 lh Z Md Z Z Z Z Z Z Z (fun w G hG=>⟨_,_,Z,hG.1⟩) (by have hq:=c59; omega) (by have hq:=c59; omega) Z [2,3,3] (fun _ _=>Z) (fun A60 c61=> ?_);exact Hx [0,0,0,0,0,0] Z (TD.run ab [6] Z Z (Hw 3 Z (cs':= #[jI x2,.slice A60 (y21 ++ [x53]).length c61]) Z .u Z Z Lm Z Z Z Z Z [2,3,3] (Z) (TD.nil (Ij [0,0,0,0,0,0] ⟨A54,c55,b58,A60,c61,Z,Z⟩ Mf Mf))))
   rintro _ _ ⟨A54,c55,b58,A60,c61,rfl,rfl⟩;refine X.seq (Gq Z ?_);obtain⟨⟨x62,st63⟩,hx64,h⟩:=Jn h;refine Gp ab 1 Z (Gy 1 Z Z .u (.fn Tryz.call23 Z) (bY b20 st56 _ hx64) sT Z Z (GP ab Z Z (Gx ab Z ?_)));obtain⟨st68,h,hk69⟩:=Jn h;refine Hj (fun e Rs=>e = [(0,jP g),(2,jP b1),(3,jP b5),(5,jP b20)]/\Rs = [ci 97 12 dY (.slice A60 (y21 ++ [x53]).length c61) (y21 ++ [x53]),InR b20 st63,aN b9 23 (yp x6),aN b5 179 #[jI x2,.slice A60 (y21 ++ [x53]).length c61],aN b1 179 #[jI 0,.slice none 0 0],InR g st68]) ?_ ?_
   ·clear hk69;rcases jF h with⟨c70,h⟩ | ⟨c70,h⟩
    ·refine T.nn Z c70 ?_;cases h;exact T.skip (GE [0,0,0,0,0,0])
    refine T.yn Z c70 (T.region Z ?_);obtain⟨st71,hx72,h⟩:=Jn h;refine Gp ab 2 Z (Gy 5 Z Z .u (.fn Tryz.call70 Z) (bx g st42 x62 _ hx72) sT Z Z ?_);cases h;exact TL.nil (GE [0,0,0,0,0,0])
   rintro _ _ ⟨rfl,rfl⟩;clear h;have h:=hk69;clear hk69;try dsimp only at h
   exact GN (X.back (m':=m29) [0,0,0,0,0,0] Mc ⟨(y21 ++ [x53]),A60,c61,st63,st68,Z,Z,h⟩ Mf Mf)
  replace c52:=Ju c52;refine X.seq (GU Z c52 ?_);obtain rfl:=Jp h;replace h:=hO28;clear hO28;refine T.exit (GL (GL (Hi (X.seq (Gq Z (Gr Z (GH (us := [jI x2,.slice A22 y21.length c23]) 3 Z Lc Ka Z Z Z) Z (GC 4 Z (cs':= #[jI x2,.slice A22 y21.length c23]) Z .u Z Z Ka Z Z Z Z Z ?_)))))));obtain rfl:=Jp h;exact Gs (T.ret (Ip Md 0 Z (G8 [0,0,0,0,0,0] Z (GV [5,0] Tryz.results173 (Hb (us:= #[jI x2,.slice A22 y21.length c23]) 4 Z Lc Ka Z Z) ⟨_,_,Z,Z,Z⟩ Mf (.inl Z)))))
def bR (x32:Int):Nat->Nat->List aL->I->Option (Lp (ao×I) (Nat×List aL×I))
 | 0,_,_,_=>none
 | m43+1,k35,y36,st39=>if (k35:Int)<x32 then ((fQ st39).bind fun (x48,st51)=>if (y36.length+1)*32<=140737488355328 then ((gt st51).bind fun (x57,st58)=>if x57=0 then (if -9223372036854775808<=((k35:Int)+1)/\((k35:Int)+1)<=9223372036854775807 then (bR x32 m43 (k35+1) (y36 ++ [x48]) st58) else none) else (some (Lp.ret ((⟨(⟨false,[]⟩:Bl),0,0,[]⟩:ao),st58)))) else none) else (some (Lp.go (k35,y36,st39)))
def cM (x12:Int):Nat->Nat->List az->I->Option (Lp (ao×I) (Nat×List az×I))
 | 0,_,_,_=>none
 | m23+1,k15,y16,st19=>if (k15:Int)<x12 then ((qg st19).bind fun (x28,st29)=>(ie st29 4 8).bind fun (x32,st33)=>(bR x32 ((x32).toNat+1) 0 [] st33).bind fun e=>match e with | .ret r=>some (Lp.ret r) | .go (k71,y72,st75)=>((gt st75).bind fun (x76,st77)=>if x76=0 then (if (y16.length+1)*40<=140737488355328 then (if -9223372036854775808<=((k15:Int)+1)/\((k15:Int)+1)<=9223372036854775807 then (cM x12 m23 (k15+1) (y16 ++ [(⟨x28,y72⟩:az)]) st77) else none) else none) else (some (Lp.ret ((⟨(⟨false,[]⟩:Bl),0,0,[]⟩:ao),st77))))) else (some (Lp.go (k15,y16,st19)))
theorem o8 (x12:Int) (u1:Nat) (u2:List az) (u3:I):cM x12 0 u1 u2 u3=none:=rfl
theorem fF (x12:Int) (m23:Nat) (k15:Nat) (y16:List az) (st19:I):cM x12 (m23+1) k15 y16 st19=(if (k15:Int)<x12 then ((qg st19).bind fun (x28,st29)=>(ie st29 4 8).bind fun (x32,st33)=>(bR x32 ((x32).toNat+1) 0 [] st33).bind fun e=>match e with | .ret r=>some (Lp.ret r) | .go (k71,y72,st75)=>((gt st75).bind fun (x76,st77)=>if x76=0 then (if (y16.length+1)*40<=140737488355328 then (if -9223372036854775808<=((k15:Int)+1)/\((k15:Int)+1)<=9223372036854775807 then (cM x12 m23 (k15+1) (y16 ++ [(⟨x28,y72⟩:az)]) st77) else none) else none) else (some (Lp.ret ((⟨(⟨false,[]⟩:Bl),0,0,[]⟩:ao),st77))))) else (some (Lp.go (k15,y16,st19)))):=rfl
def dS (st:I) (a1:Int):Option (ao×I):=(jx st 2).bind fun (x2,st3)=>(dB st3 2).bind fun (x5,st6)=>(dB st6 4).bind fun (x8,st9)=>(ie st9 4 6).bind fun (x12,st13)=>(cM x12 ((x12).toNat+1) 0 [] st13).bind fun e=>match e with | .ret r=>some r | .go (k116,y117,st120)=>((gt st120).bind fun (x121,st122)=>(if x121=0 then ((ca (⟨x2,x5,x8,y117⟩:ao) a1).bind fun x138=>(if x138=0 then some st122 else ((bT st122 x138).bind fun st146=>some st146)).bind fun st143=>some st143) else some st122).bind fun st135=>(gt st135).bind fun (x148,st149)=>if x148=0 then (some ((⟨x2,x5,x8,y117⟩:ao),st149)) else (some ((⟨(⟨false,[]⟩:Bl),0,0,[]⟩:ao),st149)))
theorem o9 (g:Nat) (st:I) (a1:Int) (r:ao×I) (h:dS st a1=some r):aC Tryz.prog 120 #[jP g,jI a1] .triv (InR g st) (fun v A' N=> ∃ (A152:Option Addr) (c153:Nat),v= .agg #[.bool r.1.IJ.null,jS r.1.IJ.data,jI r.1.I6,jI r.1.II,.slice A152 r.1.IC.length c153]/\A'=InR g r.2/\N = [RdR (ai 2 ay) [.slice A152 r.1.IC.length c153] r.1.IC]):=by
 refine aU Tryz.func120 Z Tryz.ntmps120 Z ?_;intro F w hX;unfold dS at h;refine Gq Z (TL.alloc Z .u Tryz.zeroValue36 Z (fun b1=>(GG Z ?_)));obtain⟨⟨x2,st3⟩,hx4,h⟩:=Jn h;refine Gp ab 1 Z (Gy 1 Z Z .u (.fn Tryz.call142 Z) (iG g st 2 _ hx4) sT Z Z ?_);obtain⟨⟨x5,st6⟩,hx7,h⟩:=Jn h;refine Gp ab 1 Z (Gy 1 Z Z .u (.fn Tryz.call68 Z) (bl g st3 2 _ hx7) sT Z Z ?_);obtain⟨⟨x8,st9⟩,hx10,h⟩:=Jn h;refine Gp ab 1 Z (Gy 1 Z Z .u (.fn Tryz.call68 Z) (bl g st6 4 _ hx10) sT Z Z ?_);refine Gr Z (GW (cells:= #[.bool x2.null,jS x2.data,jI x5,jI x8,.slice none 0 0]) iZ Z Me) Z ?_;refine TL.alloc Z .u Tryz.zeroValue36 Z (fun b11=>(GC 0 Z (cs':= #[.bool x2.null,jS x2.data,jI x5,jI x8,.slice none 0 0]) Z .u Z Z Kk Z Z Z Z Z (Gs (T.seq (Gq Z ?_)))));obtain⟨⟨x12,st13⟩,hx14,h⟩:=Jn h;refine Gp ab 1 Z (Gy 2 Z Z .u (.fn Tryz.call144 Z) (jY g st9 4 6 _ hx14) sT Z Z (Gx ab Z (T.block (HK 176 2 ay ?_))));obtain⟨E20,hE21,hO22⟩:=Jn h;refine Hl (fun m e Rs=> ∃ (k15:Nat) (y16:List az) (A17:Option Addr) (c18:Nat) (st19:I),e = [(0,jP g),(1,jI a1),(4,jP b1),(5,jP b11),(16,jI x12),(17,jI (k15:Int))]/\Rs = [ci 176 2 ay (.slice A17 y16.length c18) y16,aN b11 36 (Ai x5 x8 A17 c18 (y16).length x2),aN b1 36 vA0,InR g st19]/\cM x12 m k15 y16 st19=some E20) ((x12).toNat+1) [0,0,0,0] ⟨0,[],none,0,st13,Z,Z,by exact hE21⟩ Mf Mf ?_;clear hE21 h;rintro m23 _ _ ⟨k15,y16,A17,c18,st19,rfl,rfl,h⟩
 cases m23 with
 | zero =>
  rw[o8] at h;cases h
 | succ m23 =>
  rw[fF] at h;refine Gq Z (Gp ab 1 Z ?_);rcases jF h with⟨c27,h⟩ | ⟨c27,h⟩
  ·refine Gs (T.seq (HX Z c27 (GQ (T.seq (T.block (Gq Z ?_))))));obtain⟨⟨x28,st29⟩,hx30,h⟩:=Jn h;refine Gp ab 1 Z (Gy 3 Z Z .u (.fn Tryz.call86 Z) (mD g st19 _ hx30) sT Z Z ?_);refine Gr Z (GW (cells:= #[jS x28,.slice none 0 0]) tj Z Me) Z ?_;refine TL.alloc Z .u Tryz.zeroValue176 Z (fun b31=>(GC 0 Z (cs':= #[jS x28,.slice none 0 0]) Z .u Z Z Kg Z Z Z Z Z (Gs (T.seq (Gq Z ?_)))));obtain⟨⟨x32,st33⟩,hx34,h⟩:=Jn h;refine Gp ab 1 Z (Gy 4 Z Z .u (.fn Tryz.call144 Z) (jY g st29 4 8 _ hx34) sT Z Z (Gx ab Z (T.block (HK 179 2 bL ?_))));obtain⟨E40,hE41,hO42⟩:=Jn h;refine Hl (fun m e Rs=> ∃ (k35:Nat) (y36:List aL) (A37:Option Addr) (c38:Nat) (st39:I),e = [(0,jP g),(1,jI a1),(4,jP b1),(5,jP b11),(6,jP b31),(16,jI x12),(17,jI (k15:Int)),(23,jI x32),(24,jI (k35:Int))]/\Rs = [ci 179 2 bL (.slice A37 y36.length c38) y36,aN b31 176 #[jS x28,.slice A37 y36.length c38],ci 176 2 ay (.slice A17 y16.length c18) y16,aN b11 36 (Ai x5 x8 A17 c18 (y16).length x2),aN b1 36 vA0,InR g st39]/\bR x32 m k35 y36 st39=some E40) ((x32).toNat+1) [0,0,0,0,0,0] ⟨0,[],none,0,st33,Z,Z,by exact hE41⟩ Mf Mf ?_;clear hE41 h;rintro m43 _ _ ⟨k35,y36,A37,c38,st39,rfl,rfl,h⟩
   cases m43 with
   | zero =>
    rw[bR] at h;cases h
   | succ m43 =>
    rw[bR] at h;refine Gq Z (Gp ab 1 Z ?_);rcases jF h with⟨c47,h⟩ | ⟨c47,h⟩
    ·refine Gs (T.seq (HX Z c47 ?_));obtain⟨⟨x48,st51⟩,hx52,h⟩:=Jn h;try dsimp only at h
     obtain⟨c54,h⟩:=aE h;refine GQ (T.seq (T.block (T.seq ?_)));refine Ix (fun e Rs=> ∃ (A49:Option Addr) (c50:Nat) (b53:Nat) (A55:Option Addr) (c56:Nat),e = [(0,jP g),(1,jI a1),(4,jP b1),(5,jP b11),(6,jP b31),(16,jI x12),(17,jI (k15:Int)),(23,jI x32),(24,jI (k35:Int))]/\Rs = [ci 179 2 bL (.slice A55 (y36 ++ [x48]).length c56) (y36 ++ [x48]),aN b31 176 #[jS x28,.slice A55 (y36 ++ [x48]).length c56],ci 176 2 ay (.slice A17 y16.length c18) y16,aN b11 36 (Ai x5 x8 A17 c18 (y16).length x2),aN b1 36 vA0,InR g st51]) ?_ ?_
     ·refine G6 (.q 0 (.q 2 (.br 1 (.e 3 (.e 4 (.e 5 (.q 6 (.e 7 .nil))))) (.e 3 (.br 1 (.e 4 (.e 5 (.q 6 (.e 7 .nil)))) (.e 4 (.e 1 (.e 5 (.q 6 (.e 7 .nil)))))))))) [2,2,2] Z lM tV Me ?_;refine TD.run ab [0,2] Z Z ?_;refine TD.br ?_ ?_
      ·refine Id Z .u (GM 1 Z Lv Z Z) Z [2,2,2] Z ?_;refine TD.cg5 Z .u (.fn Tryz.call173 Z) (kz g st39 _ hx52) sT Z [3,3,3] ?_ ?_
       ·rintro _ _ _ ⟨A49,c50,rfl,rfl,rfl⟩;rfl
       rintro _ _ _ ⟨A49,c50,rfl,rfl,rfl⟩;refine Hx [0,0,0,0,0,0,0] Z (H6 (cells:= #[jI x48.I8,.slice A49 x48.IM.length c50]) Z .u jb Z Mf Z [4,4,4] (fun _=>Z) (fun b53=> ?_));refine Iv 1 0 Z .u (us := [jI x48.I8,.slice A49 x48.IM.length c50]) (u:=x48) (l:=y36) (E:=bL) Tryz.underlying174 kj Z Md Z Z Z Z Z Z Z (fun w G hG=>⟨_,_,Z,hG.1⟩) (by have hq:=c54; omega) (by have hq:=c54; omega) Z [2,2,2] (fun _ _=>Z) (fun A55 c56=> ?_);exact Hx [0,0,0,0,0,0] Z (TD.run ab [6] Z Z (Hw 1 Z (cs':= #[jS x28,.slice A55 (y36 ++ [x48]).length c56]) Z .u Z Z LN Z Z Z Z Z [2,2,2] (Z) (TD.nil (Ij [0,0,0,0,0,0] ⟨A49,c50,b53,A55,c56,Z,Z⟩ Mf Mf))))
      refine TD.cg5 Z .u (.fn Tryz.call173 Z) (kz g st39 _ hx52) sT Z [3,3,3] ?_ ?_
      ·rintro _ _ _ ⟨A49,c50,rfl,rfl,rfl⟩;rfl
      rintro _ _ _ ⟨A49,c50,rfl,rfl,rfl⟩;refine Hx [0,0,0,0,0,0,0] Z ?_;refine TD.br ?_ ?_
      ·refine Id Z .u (GM 2 Z Lv Z Z) Z [3,3,3] Z (H6 (cells:= #[jI x48.I8,.slice A49 x48.IM.length c50]) Z .u jb Z Mf Z [4,4,4] (fun _=>Z) (fun b53=> ?_));refine Iv 1 0 Z .u (us := [jI x48.I8,.slice A49 x48.IM.length c50]) (u:=x48) (l:=y36) (E:=bL) Tryz.underlying174 kj Z Md Z Z Z Z Z Z Z (fun w G hG=>⟨_,_,Z,hG.1⟩) (by have hq:=c54; omega) (by have hq:=c54; omega) Z [2,2,2] (fun _ _=>Z) (fun A55 c56=> ?_);exact Hx [0,0,0,0,0,0] Z (TD.run ab [6] Z Z (Hw 1 Z (cs':= #[jS x28,.slice A55 (y36 ++ [x48]).length c56]) Z .u Z Z LN Z Z Z Z Z [2,2,2] (Z) (TD.nil (Ij [0,0,0,0,0,0] ⟨A49,c50,b53,A55,c56,Z,Z⟩ Mf Mf))))
      refine H6 (cells:= #[jI x48.I8,.slice A49 x48.IM.length c50]) Z .u jb Z Mf Z [4,4,4] (fun _=>Z) (fun b53=>(Id Z .u (GM 3 Z Lv Z Z) Z [4,4,4] Z ?_));refine Iv 1 0 Z .u (us := [jI x48.I8,.slice A49 x48.IM.length c50]) (u:=x48) (l:=y36) (E:=bL) Tryz.underlying174 kj Z Md Z Z Z Z Z Z Z (fun w G hG=>⟨_,_,Z,hG.1⟩) (by have hq:=c54; omega) (by have hq:=c54; omega) Z [2,2,2] (fun _ _=>Z) (fun A55 c56=> ?_);exact Hx [0,0,0,0,0,0] Z (TD.run ab [6] Z Z (Hw 1 Z (cs':= #[jS x28,.slice A55 (y36 ++ [x48]).length c56]) Z .u Z Z LN Z Z Z Z Z [2,2,2] (Z) (TD.nil (Ij [0,0,0,0,0,0] ⟨A49,c50,b53,A55,c56,Z,Z⟩ Mf Mf))))
     rintro _ _ ⟨A49,c50,b53,A55,c56,rfl,rfl⟩;refine X.seq (Gq Z ?_);obtain⟨⟨x57,st58⟩,hx59,h⟩:=Jn h;refine Gp ab 1 Z (Gy 5 Z Z .u (.fn Tryz.call23 Z) (bY g st51 _ hx59) sT Z Z (Gp ab 1 Z ?_));rcases jF h with⟨c60,h⟩ | ⟨c60,h⟩
     ·refine GY Z c60 ?_;obtain⟨c61,h⟩:=aE h;exact T.skip (GN (X.seq (T.region Z (Gr Z (Ex.add Z Z c61) Z (Gp ab 1 Z (TL.nil (X.back (m':=m43) [0,0,0,0,0,0] Mc ⟨k35+1,(y36 ++ [x48]),A55,c56,st58,Z,Z,h⟩ Mf Mf)))))))
     refine GX Z c60 (Gq Z ?_);refine Gr Z (GW (cells:=vA0) iZ Z Me) Z ?_;refine GC 4 Z (cs':=vA0) Z .u Z Z Kk Z Z Z Z Z ?_;obtain rfl:=Jp h;obtain rfl:=Jp hO42;obtain rfl:=Jp hO22;exact Gs (T.ret (GI (Gv (Gv (GI (Gv (GI (Gv (Gv (GI (Gv (GO 2 ay (GV [6,0] L4 (Hb (us:=vA0) 5 Z KX Kk Z Z) ⟨_,_,Z,Z,Z⟩ Mf (.inl Z))))))))))))))
    refine Gs (T.seq (HY Z c47 ?_));obtain rfl:=Jp h;replace h:=hO42;clear hO42;refine T.exit (GL (GL (Hi (X.seq (T.seq (Gq Z ?_))))));obtain⟨⟨x62,st63⟩,hx64,h⟩:=Jn h;refine Gp ab 1 Z (Gy 5 Z Z .u (.fn Tryz.call23 Z) (bY g st39 _ hx64) sT Z Z (Gp ab 1 Z ?_));rcases jF h with⟨c65,h⟩ | ⟨c65,h⟩
    ·refine GY Z c65 (GQ (T.region Z (Gt ab aX 3 Z 2 Z Z (Gr Z (GH (us := [jS x28,.slice A37 y36.length c38]) 1 Z Lx Kg Z Z Z) Z (Ib (cells:= #[jS x28,.slice A37 y36.length c38]) Z .u rY Z Mf Z (fun b66=> ?_))))));obtain⟨c67,h⟩:=aE h;refine Iu 2 0 Z .u (us := [jS x28,.slice A37 y36.length c38]) (u:=(⟨x28,y36⟩:az)) (l:=y16) (E:=ay) Tryz.underlying34 tl Z Md Z Z Z Z Z Z Z (fun w G hG=>⟨_,_,Z,dG Md _ _ hG⟩) (by have hq:=c67; omega) (by have hq:=c67; omega) Z (fun A68 c69=> ?_);refine Hc [0,0,0,0,0] Z (Gp ab 1 Z (GC 2 Z (cs':= #[.bool x2.null,jS x2.data,jI x5,jI x8,.slice A68 (y16 ++ [(⟨x28,y36⟩:az)]).length c69]) Z .u Z Z Tryz.sizeOf34 Z Z Z Z Z ?_));obtain⟨c70,h⟩:=aE h;exact TL.nil (GN (X.seq (T.region Z (Gr Z (Ex.add Z Z c70) Z (Gp ab 1 Z (TL.nil (X.back (m':=m23) [0,1,1,1] Mc ⟨k15+1,(y16 ++ [(⟨x28,y36⟩:az)]),A68,c69,st63,Z,Z,h⟩ Mf Mf)))))))
    refine GX Z c65 (Gq Z ?_);refine Gr Z (GW (cells:=vA0) iZ Z Me) Z ?_;refine GC 4 Z (cs':=vA0) Z .u Z Z Kk Z Z Z Z Z ?_;obtain rfl:=Jp h;obtain rfl:=Jp hO22;exact Gs (T.ret (Gv (GI (Gv (Gv (GI (Gv (GO 2 ay (GV [6,0] L4 (Hb (us:=vA0) 5 Z KX Kk Z Z) ⟨_,_,Z,Z,Z⟩ Mf (.inl Z))))))))))
  refine Gs (T.seq (HY Z c27 ?_));obtain rfl:=Jp h;replace h:=hO22;clear hO22;refine T.exit (GL (GL (Hi (X.seq (T.seq (Gq Z ?_))))));obtain⟨⟨x85,st86⟩,hx87,h⟩:=Jn h;refine Gp ab 1 Z (Gy 3 Z Z .u (.fn Tryz.call23 Z) (bY g st19 _ hx87) sT Z Z (Gx ab Z ?_));obtain⟨st99,h,hk100⟩:=Jn h;refine Hj (fun e Rs=>e = [(0,jP g),(4,jP b1),(5,jP b11)]/\Rs = [ci 176 2 ay (.slice A17 y16.length c18) y16,aN b11 36 (Ai x5 x8 A17 c18 (y16).length x2),aN b1 36 vA0,InR g st99]) ?_ ?_
  ·clear hk100;rcases jF h with⟨c101,h⟩ | ⟨c101,h⟩
   ·refine HX Z c101 (Gq Z (Gr Z (GH (us := [.bool x2.null,jS x2.data,jI x5,jI x8,.slice A17 y16.length c18]) 1 Z KX Kk Z Z Z) Z ?_));obtain⟨x102,hx103,h⟩:=Jn h;refine Gp ab 1 Z (GT Z .u (.fn Tryz.call156 Z) (gD (⟨x2,x5,x8,y16⟩:ao) _ _ a1 _ hx103) (fun _ hs=>(SrcE.res 0 hs Z (fun w G h=>dG Md w G h))) Z (GP ab Z Z (Gx ab Z ?_)));obtain⟨st107,h,hk108⟩:=Jn h;refine Hj (fun e Rs=>e = [(0,jP g),(4,jP b1),(5,jP b11)]/\Rs = [ci 176 2 ay (.slice A17 y16.length c18) y16,aN b11 36 (Ai x5 x8 A17 c18 (y16).length x2),aN b1 36 vA0,InR g st107]) ?_ ?_
    ·clear hk108;rcases jF h with⟨c109,h⟩ | ⟨c109,h⟩
     ·refine T.nn Z c109 ?_;cases h;exact T.skip (GE [0,0,0,0])
     refine T.yn Z c109 (T.region Z ?_);obtain⟨st110,hx111,h⟩:=Jn h;refine Gp ab 2 Z (Gy 3 Z Z .u (.fn Tryz.call70 Z) (bx g st86 x102 _ hx111) sT Z Z ?_);cases h;exact TL.nil (GE [0,0,0,0])
    rintro _ _ ⟨rfl,rfl⟩;clear h;have h:=hk108;clear hk108;try dsimp only at h
    cases h;exact GE [0,0,0,0]
   refine HY Z c101 ?_;cases h;exact T.skip (GE [0,0,0,0])
  rintro _ _ ⟨rfl,rfl⟩;clear h;have h:=hk100;clear hk100;refine X.seq (T.seq (Gq Z ?_));obtain⟨⟨x112,st113⟩,hx114,h⟩:=Jn h;refine Gp ab 1 Z (Gy 3 Z Z .u (.fn Tryz.call23 Z) (bY g st99 _ hx114) sT Z Z (Gp ab 1 Z ?_));rcases jF h with⟨c115,h⟩ | ⟨c115,h⟩
  ·refine GY Z c115 (G3 Z (Gr Z (GH (us := [.bool x2.null,jS x2.data,jI x5,jI x8,.slice A17 y16.length c18]) 1 Z KX Kk Z Z Z) Z (GC 2 Z (cs':=Ai x5 x8 A17 c18 (y16).length x2) Z .u Z Z Kk Z Z Z Z Z ?_)));obtain rfl:=Jp h;exact Gs (T.ret (Ip Md 0 Z (G8 [0,0,0,0] Z (GV [3,0] L4 (Hb (us:=Ai x5 x8 A17 c18 (y16).length x2) 2 Z KX Kk Z Z) ⟨_,_,Z,Z,Z⟩ Mf (.inl Z)))))
  refine GX Z c115 (Gq Z ?_);refine Gr Z (GW (cells:=vA0) iZ Z Me) Z ?_;refine GC 2 Z (cs':=vA0) Z .u Z Z Kk Z Z Z Z Z ?_;obtain rfl:=Jp h;exact Gs (T.ret (Gv (GO 2 ay (GV [4,0] L4 (Hb (us:=vA0) 3 Z KX Kk Z Z) ⟨_,_,Z,Z,Z⟩ Mf (.inl Z)))))
theorem pG {w W:World} (h:Below w.heap.size w W) (o:Obj):Below w.heap.size w (W.alloc o):=h.alloc h.size o
theorem CY {w W:World} (h:Below w.heap.size w W) (i:Nat) (u:Value):Below w.heap.size w (W.setCell ⟨w.heap.size,i,none⟩ u):=h.setCell (p:=⟨w.heap.size,i,none⟩) (JN _) u
def li:Array Value:= #[.int .i64 0,.string ⟨#[112,114,111,100,117,99,101]⟩,.int .i64 3,.int .i64 4,.int .i64 22,.string ⟨#[98,101,103,105,110]⟩,.int .i64 0,.int .i64 1,
 .int .i64 24,.string ⟨#[97,100,100]⟩,.int .i64 0,.int .i64 0,.int .i64 26,.string ⟨#[101,110,100]⟩,.int .i64 0,.int .i64 0,.int .i64 27,.string ⟨#[109,97,114,107]⟩,.int .i64 0,.int .i64 1]
theorem Ar:li.all (·.oneCell')=true:=by simp[li,Value.oneCell']
theorem At:(Tryz.prog.info? 317).map (·.size)=some 20:=by kernel_rfl
theorem kO (w:World) :
 Calls Tryz.prog 219 #[] w fun e w'=>e= .returned (.agg li)/\Below w.heap.size w w':=by
 have hi:=At;go_enter Tryz.func219,Tryz.ntmps219
 go_wp2_with (refine re (w:=w) rfl 317 _ _ rfl 317 _ li rfl rfl At rfl Ar ?_)
 refine bodyPost_ret (v:= .agg li) ?_ rfl ?_
 ·exact results_cell_row Mf _ _ w.heap.size 317 li (0,0) _ rfl (heap_alloc_new w _) Tryz.underlying317 rfl At
 ·exact⟨rfl,(Below.refl _ _).alloc (JN _) _⟩
def jd (k:Int):Value×Bool :=
 if k=0 then (.agg #[.int .i64 0,.string ⟨#[112,114,111,100,117,99,101]⟩,.int .i64 3,.int .i64 4],true)
 else if k=22 then (.agg #[.int .i64 22,.string ⟨#[98,101,103,105,110]⟩,.int .i64 0,.int .i64 1],true)
 else if k=24 then (.agg #[.int .i64 24,.string ⟨#[97,100,100]⟩,.int .i64 0,.int .i64 0],true)
 else if k=26 then (.agg #[.int .i64 26,.string ⟨#[101,110,100]⟩,.int .i64 0,.int .i64 0],true)
 else if k=27 then (.agg #[.int .i64 27,.string ⟨#[109,97,114,107]⟩,.int .i64 0,.int .i64 1],true)
 else (.agg #[.int .i64 0,.string ⟨#[]⟩,.int .i64 0,.int .i64 0],false)
theorem cN {w w1:World} {c:Array Value} {t:TypeId} (hb:Below (w.alloc (.cells c t)).heap.size (w.alloc (.cells c t)) w1) (i:Nat):w1.cell? ⟨w.heap.size,i,none⟩=c[i]? /\ w1.frozen? ⟨w.heap.size,i,none⟩=false:=by
 have h:w1.heap[w.heap.size]? = some (.cells c t (0,0)):=(hb.block w.heap.size (by simp)).trans (heap_alloc_new w _);exact⟨bt h i,dm h i⟩
theorem oH {w w1:World} {o:Obj} (hb:Below (w.alloc o).heap.size (w.alloc o) w1):w.heap.size<w1.heap.size:=by
 have:=hb.size;simp at this;omega
theorem D5 (k:Int) (w:World) :
 Calls Tryz.prog 191 #[.int .i64 k] w fun e w'=>e= .returned (.tuple #[(jd k).1,.bool (jd k).2])/\Below w.heap.size w w':=by
 have i0: ∀ w:World,(Instr.index 317 (.agg li) (.int .i64 0)).run Tryz.prog w= .ok (.agg #[.int .i64 0,.string ⟨#[112,114,111,100,117,99,101]⟩,.int .i64 3,.int .i64 4]) w:=fun _=>by kernel_rfl
 have i1: ∀ w:World,(Instr.index 317 (.agg li) (.int .i64 1)).run Tryz.prog w= .ok (.agg #[.int .i64 22,.string ⟨#[98,101,103,105,110]⟩,.int .i64 0,.int .i64 1]) w:=fun _=>by kernel_rfl
 have i2: ∀ w:World,(Instr.index 317 (.agg li) (.int .i64 2)).run Tryz.prog w= .ok (.agg #[.int .i64 24,.string ⟨#[97,100,100]⟩,.int .i64 0,.int .i64 0]) w:=fun _=>by kernel_rfl
 have i3: ∀ w:World,(Instr.index 317 (.agg li) (.int .i64 3)).run Tryz.prog w= .ok (.agg #[.int .i64 26,.string ⟨#[101,110,100]⟩,.int .i64 0,.int .i64 0]) w:=fun _=>by kernel_rfl
 have i4: ∀ w:World,(Instr.index 317 (.agg li) (.int .i64 4)).run Tryz.prog w= .ok (.agg #[.int .i64 27,.string ⟨#[109,97,114,107]⟩,.int .i64 0,.int .i64 1]) w:=fun _=>by kernel_rfl
 have way:k=0\/k=22\/k=24\/k=26\/k=27\/((0 == k)=false/\(22 == k)=false/\(24 == k)=false/\(26 == k)=false/\(27 == k)=false/\jd k=(.agg #[.int .i64 0,.string ⟨#[]⟩,.int .i64 0,.int .i64 0],false)):=by
  by_cases h0:k=0
  ·simp[h0]
  by_cases h1:k=22
  ·simp[h1]
  by_cases h2:k=24
  ·simp[h2]
  by_cases h3:k=26
  ·simp[h3]
  by_cases h4:k=27
  ·simp[h4]
  refine .inr (.inr (.inr (.inr (.inr ⟨?_,?_,?_,?_,?_,by simp[jd,h0,h1,h2,h3,h4]⟩))));all_goals (rw[beq_eq_false_iff_ne]; omega)
 rcases way with rfl | rfl | rfl | rfl | rfl | ⟨h0,h1,h2,h3,h4,hv⟩
 ·go_enter LL,Ly
  go_wp2_with (go_at_call 219; refine (kO _).mono ?_; rintro e w1 ⟨rfl,hb⟩; obtain⟨d0,e0⟩:=cN hb 0; obtain⟨d1,e1⟩:=cN hb 1; obtain⟨d2,e2⟩:=cN hb 2; obtain⟨d3,e3⟩:=cN hb 3; simp at d0 d1 d2 d3; have HB:=Lib.hid hb; have hz:=oH hb; have hz1:w.heap.size<w1.heap.size+1:=(by omega); have hz2:w.heap.size<w1.heap.size+1+1:=(by omega); have hz3:w.heap.size<w1.heap.size+1+1+1:=(by omega); have hz4:w.heap.size<w1.heap.size+1+1+1+1:=(by omega); have hz5:w.heap.size<w1.heap.size+1+1+1+1+1:=(by omega); clear hb)
  refine wp_loop_rounds 6 ?_;repeat (rw[rounds_succ]; go_wp2_with fail)
  have hbel:Below w.heap.size w w1:=((Below.refl _ _).alloc (JN _) _).trans (HB.out.mono (by simp));refine bodyPost_ret (v:= .tuple #[(jd 0).1,.bool (jd 0).2]) ?_ rfl ⟨rfl,?_⟩
  ·simp[results,Li,go_sem,d0,d1,d2,d3,hz,hz1,hz2,hz3,hz4,hz5,jd]
  ·repeat (first | (with_reducible exact hbel) | (with_reducible refine CY ?_ _ _) | (with_reducible refine pG ?_ _))
 ·go_enter LL,Ly
  go_wp2_with (go_at_call 219; refine (kO _).mono ?_; rintro e w1 ⟨rfl,hb⟩; obtain⟨d0,e0⟩:=cN hb 0; obtain⟨d1,e1⟩:=cN hb 1; obtain⟨d2,e2⟩:=cN hb 2; obtain⟨d3,e3⟩:=cN hb 3; simp at d0 d1 d2 d3; have HB:=Lib.hid hb; have hz:=oH hb; have hz1:w.heap.size<w1.heap.size+1:=(by omega); have hz2:w.heap.size<w1.heap.size+1+1:=(by omega); have hz3:w.heap.size<w1.heap.size+1+1+1:=(by omega); have hz4:w.heap.size<w1.heap.size+1+1+1+1:=(by omega); have hz5:w.heap.size<w1.heap.size+1+1+1+1+1:=(by omega); clear hb)
  refine wp_loop_rounds 6 ?_;repeat (rw[rounds_succ]; go_wp2_with fail)
  have hbel:Below w.heap.size w w1:=((Below.refl _ _).alloc (JN _) _).trans (HB.out.mono (by simp));refine bodyPost_ret (v:= .tuple #[(jd 22).1,.bool (jd 22).2]) ?_ rfl ⟨rfl,?_⟩
  ·simp[results,Li,go_sem,d0,d1,d2,d3,hz,hz1,hz2,hz3,hz4,hz5,jd]
  ·repeat (first | (with_reducible exact hbel) | (with_reducible refine CY ?_ _ _) | (with_reducible refine pG ?_ _))
 ·go_enter LL,Ly
  go_wp2_with (go_at_call 219; refine (kO _).mono ?_; rintro e w1 ⟨rfl,hb⟩; obtain⟨d0,e0⟩:=cN hb 0; obtain⟨d1,e1⟩:=cN hb 1; obtain⟨d2,e2⟩:=cN hb 2; obtain⟨d3,e3⟩:=cN hb 3; simp at d0 d1 d2 d3; have HB:=Lib.hid hb; have hz:=oH hb; have hz1:w.heap.size<w1.heap.size+1:=(by omega); have hz2:w.heap.size<w1.heap.size+1+1:=(by omega); have hz3:w.heap.size<w1.heap.size+1+1+1:=(by omega); have hz4:w.heap.size<w1.heap.size+1+1+1+1:=(by omega); have hz5:w.heap.size<w1.heap.size+1+1+1+1+1:=(by omega); clear hb)
  refine wp_loop_rounds 6 ?_;repeat (rw[rounds_succ]; go_wp2_with fail)
  have hbel:Below w.heap.size w w1:=((Below.refl _ _).alloc (JN _) _).trans (HB.out.mono (by simp));refine bodyPost_ret (v:= .tuple #[(jd 24).1,.bool (jd 24).2]) ?_ rfl ⟨rfl,?_⟩
  ·simp[results,Li,go_sem,d0,d1,d2,d3,hz,hz1,hz2,hz3,hz4,hz5,jd]
  ·repeat (first | (with_reducible exact hbel) | (with_reducible refine CY ?_ _ _) | (with_reducible refine pG ?_ _))
 ·go_enter LL,Ly
  go_wp2_with (go_at_call 219; refine (kO _).mono ?_; rintro e w1 ⟨rfl,hb⟩; obtain⟨d0,e0⟩:=cN hb 0; obtain⟨d1,e1⟩:=cN hb 1; obtain⟨d2,e2⟩:=cN hb 2; obtain⟨d3,e3⟩:=cN hb 3; simp at d0 d1 d2 d3; have HB:=Lib.hid hb; have hz:=oH hb; have hz1:w.heap.size<w1.heap.size+1:=(by omega); have hz2:w.heap.size<w1.heap.size+1+1:=(by omega); have hz3:w.heap.size<w1.heap.size+1+1+1:=(by omega); have hz4:w.heap.size<w1.heap.size+1+1+1+1:=(by omega); have hz5:w.heap.size<w1.heap.size+1+1+1+1+1:=(by omega); clear hb)
  refine wp_loop_rounds 6 ?_;repeat (rw[rounds_succ]; go_wp2_with fail)
  have hbel:Below w.heap.size w w1:=((Below.refl _ _).alloc (JN _) _).trans (HB.out.mono (by simp));refine bodyPost_ret (v:= .tuple #[(jd 26).1,.bool (jd 26).2]) ?_ rfl ⟨rfl,?_⟩
  ·simp[results,Li,go_sem,d0,d1,d2,d3,hz,hz1,hz2,hz3,hz4,hz5,jd]
  ·repeat (first | (with_reducible exact hbel) | (with_reducible refine CY ?_ _ _) | (with_reducible refine pG ?_ _))
 ·go_enter LL,Ly
  go_wp2_with (go_at_call 219; refine (kO _).mono ?_; rintro e w1 ⟨rfl,hb⟩; obtain⟨d0,e0⟩:=cN hb 0; obtain⟨d1,e1⟩:=cN hb 1; obtain⟨d2,e2⟩:=cN hb 2; obtain⟨d3,e3⟩:=cN hb 3; simp at d0 d1 d2 d3; have HB:=Lib.hid hb; have hz:=oH hb; have hz1:w.heap.size<w1.heap.size+1:=(by omega); have hz2:w.heap.size<w1.heap.size+1+1:=(by omega); have hz3:w.heap.size<w1.heap.size+1+1+1:=(by omega); have hz4:w.heap.size<w1.heap.size+1+1+1+1:=(by omega); have hz5:w.heap.size<w1.heap.size+1+1+1+1+1:=(by omega); clear hb)
  refine wp_loop_rounds 6 ?_;repeat (rw[rounds_succ]; go_wp2_with fail)
  have hbel:Below w.heap.size w w1:=((Below.refl _ _).alloc (JN _) _).trans (HB.out.mono (by simp));refine bodyPost_ret (v:= .tuple #[(jd 27).1,.bool (jd 27).2]) ?_ rfl ⟨rfl,?_⟩
  ·simp[results,Li,go_sem,d0,d1,d2,d3,hz,hz1,hz2,hz3,hz4,hz5,jd]
  ·repeat (first | (with_reducible exact hbel) | (with_reducible refine CY ?_ _ _) | (with_reducible refine pG ?_ _))
 ·go_enter LL,Ly
  go_wp2_with (go_at_call 219; refine (kO _).mono ?_; rintro e w1 ⟨rfl,hb⟩; obtain⟨d0,e0⟩:=cN hb 0; obtain⟨d1,e1⟩:=cN hb 1; obtain⟨d2,e2⟩:=cN hb 2; obtain⟨d3,e3⟩:=cN hb 3; simp at d0 d1 d2 d3; have HB:=Lib.hid hb; have hz:=oH hb; have hz1:w.heap.size<w1.heap.size+1:=(by omega); have hz2:w.heap.size<w1.heap.size+1+1:=(by omega); have hz3:w.heap.size<w1.heap.size+1+1+1:=(by omega); have hz4:w.heap.size<w1.heap.size+1+1+1+1:=(by omega); have hz5:w.heap.size<w1.heap.size+1+1+1+1+1:=(by omega); clear hb)
  refine wp_loop_rounds 6 ?_;repeat (rw[rounds_succ]; go_wp2_with fail)
  have hbel:Below w.heap.size w w1:=((Below.refl _ _).alloc (JN _) _).trans (HB.out.mono (by simp));refine bodyPost_ret (v:= .tuple #[(jd k).1,.bool (jd k).2]) ?_ rfl ⟨rfl,?_⟩
  ·rw[hv];simp[results,Li,go_sem,d0,d1,d2,d3,hz,hz1,hz2,hz3,hz4,hz5]
  ·repeat (first | (with_reducible exact hbel) | (with_reducible refine CY ?_ _ _) | (with_reducible refine pG ?_ _))
theorem FL (k:Int) (r:Value) (b:Bool) (h:jd k=(r,b)) (w:World) :
 Calls Tryz.prog 191 #[.int .i64 k] w fun e w'=>e= .returned (.tuple #[r,.bool b])/\Below w.heap.size w w':=by
 have:=D5 k w
 rwa [h] at this
def gb (k:Int):Int×Int×ByteArray×Bool :=
 if k=0 then (3,4,⟨#[112,114,111,100,117,99,101]⟩,true) else if k=22 then (0,1,⟨#[98,101,103,105,110]⟩,true)
 else if k=24 then (0,0,⟨#[97,100,100]⟩,true) else if k=26 then (0,0,⟨#[101,110,100]⟩,true) else if k=27 then (0,1,⟨#[109,97,114,107]⟩,true) else (0,0,⟨#[]⟩,false)
theorem Au (k:Int): ∃ k2,jd k=(.agg #[.int .i64 k2,.string (gb k).2.2.1,.int .i64 (gb k).1,.int .i64 (gb k).2.1],(gb k).2.2.2):=by
 by_cases h0:k=0
 ·exact⟨0,by simp[jd,gb,h0]⟩
 by_cases h1:k=22
 ·exact⟨22,by simp[jd,gb,h1]⟩
 by_cases h2:k=24
 ·exact⟨24,by simp[jd,gb,h2]⟩
 by_cases h3:k=26
 ·exact⟨26,by simp[jd,gb,h3]⟩
 by_cases h4:k=27
 ·exact⟨27,by simp[jd,gb,h4]⟩
 exact⟨0,by simp[jd,gb,h0,h1,h2,h3,h4]⟩
def gy (k v:Int):Int:=if (gb k).2.2.2=false then 12 else if v<(gb k).1\/(gb k).2.1<v then 7 else 0
theorem yw (k v:Int):pd Tryz.prog 147 #[.int .i64 k,.int .i64 v] (fun r N=>r= .int .i64 (gy k v)/\N = []):=by
 intro w;obtain⟨k2,hr⟩:=Au k;have HC:=Lib.hid (show gy k v=if (gb k).2.2.2=false then 12 else if v<(gb k).1\/(gb k).2.1<v then 7 else 0 from rfl);generalize gy k v=c at *;generalize gb k=q at *;obtain⟨lo,hi,nm,ok⟩:=q;simp only at hr;have HF:=Lib.hid (FL k _ _ hr);clear hr;have way:(ok=false/\c=12)\/(ok=true/\v<lo/\c=7)\/(ok=true/\ ¬ v<lo/\hi<v/\c=7)\/(ok=true/\ ¬ v<lo/\ ¬ hi<v/\c=0):=by
  rw[HC.out];cases ok
  ·simp
  ·by_cases h1:v<lo <;> by_cases h2:hi<v <;> simp[h1,h2]
 clear HC;rcases way with⟨rfl,rfl⟩ | ⟨rfl,h1,rfl⟩ | ⟨rfl,h1,h2,rfl⟩ | ⟨rfl,h1,h2,rfl⟩;all_goals
  go_enter Tryz.func147,Tryz.ntmps147
  go_wp2_with (go_at_call 191; refine (HF.out _).mono ?_; rintro e w1 ⟨rfl,hb⟩; have HB:=Lib.hid hb; clear hb)
  go_ret
  exact⟨_,_,rfl,⟨rfl,rfl⟩,Ir (pG HB.out _),trivial⟩
def tu (k v:Int):Option Int:=some (gy k v)
theorem uh (k v:Int):tu k v=some (gy k v):=rfl
theorem qC (k v:Int) (r:Int) (h:tu k v=some r):aC Tryz.prog 147 #[.int .i64 k,.int .i64 v] .triv aO (fun u A' N=>u= .int .i64 r/\A'=aO/\N = []):=by
 obtain rfl:=Jp h;exact Ic (yw k v)
def Av:ey := [(23,1,1),(25,0,0),(25,1,1),(25,2,2),(25,3,3)]
theorem aG:(Av).OK Tryz.prog:=⟨FOK.mk JT rfl JO rfl,FOK.mk KB rfl Jv rfl,FOK.mk KB rfl Jv rfl,FOK.mk KB rfl Jv rfl,FOK.mk KB rfl JB rfl,trivial⟩
def Aw:List Nat := [3,9]
theorem fC:NOK Tryz.prog Aw:=⟨Jy,JZ,trivial⟩
theorem je:BOK Tryz.prog 25 #[.int .i64 0,.int .i64 0,.int .i64 0,.bool false,.string ⟨#[]⟩] [(0,1),(1,1),(2,1),(3,2)]:=BOK.mk Tryz.zeroValue25 KB (by intro w; simp)
def gh (a0:e7):Option (Int):=(tu a0.IP a0.IO).bind fun x2=>if x2=0 then ((ib a0.IY 4).bind fun x5=>if x5=true then ((nK a0.IK).bind fun x8=>if x8=true then (if (a0.IK.data.length:Int)>32767 then some 4 else some 0) else some 4) else some 11) else some x2
theorem nX (a0:e7) (r:Int) (h:gh a0=some r):aC Tryz.prog 93 #[.agg #[jI a0.IP,jI a0.IO,jI a0.IY,.bool a0.IK.null,jS a0.IK.data]] .triv (aO) (fun v A' N=>v=jI r/\A'=aO/\N = []):=by
 refine aU Tryz.func93 Z Tryz.ntmps93 Z ?_;intro F w hX;unfold gh at h;refine Gq Z (TL.box Z .u Z Z (fun b1=>(Gx aG Z (T.seq (Gq Z ?_)))));obtain⟨x2,hx3,h⟩:=Jn h;refine Gt aG fC 0 Z 4 Z Z (GT Z .u (.fn Tryz.call147 Z) (qC a0.IP a0.IO _ hx3) rT Z (GP aG Z Z (Gp aG 2 Z ?_)));rcases jF h with⟨c4,h⟩ | ⟨c4,h⟩
 ·refine GY Z c4 (GQ (T.seq (T.block (Gq Z ?_))));obtain⟨x5,hx6,h⟩:=Jn h;refine Gt aG fC 0 Z 2 Z Z (GT Z .u (.fn Tryz.call101 Z) (Hk (fun w=>db a0.IY 4 _ hx6 w)) (fun _ _=>G5 _ _) Z (Gp aG 2 Z ?_));rcases jF h with⟨c7,h⟩ | ⟨c7,h⟩
  ·refine Gs (GU Z (bd c7) (Gq Z (Gp aG 1 Z (Gr Z (GH (us:=wL6 a0.IK) 0 Z JY JB Z Z Z) Z ?_))));obtain⟨x8,hx9,h⟩:=Jn h;refine GT Z .u (.fn Tryz.call148 Z) (lE a0.IK _ hx9) rT Z ?_;rcases jF h with⟨c10,h⟩ | ⟨c10,h⟩
   ·refine Gp aG 2 Z (GA 22 Z (bd c10) (Gt aG fC 0 Z 3 Z Z (TL.q Z (.g Z Z Z) (Hv Z JJ) Z (GB aG 3 Z ?_))));rcases jF h with⟨c11,h⟩ | ⟨c11,h⟩
    ·refine Hg Z c11 (Gq Z (Gp aG 1 Z ?_));obtain rfl:=Jp h;exact Gs (T.ret (GI (Gv (GD [1] LP (Gu Z)))))
    refine Hh Z c11 (T.skip (GN (X.seq (Gq Z (Gp aG 1 Z ?_)))));obtain rfl:=Jp h;exact Gs (T.ret (GD [1] LP (Gu Z)))
   replace c10:=Ju c10;refine Gp aG 2 Z (GA 22 Z (bM c10) (Hz aG Z (GF Z Z (Gq Z (Gp aG 1 Z ?_)))));obtain rfl:=Jp h;exact Gs (T.ret (GI (Gv (GD [1] LP (Gu Z)))))
  replace c7:=Ju c7;refine Gs (GF Z (bM c7) (Gq Z (Gp aG 1 Z ?_)));obtain rfl:=Jp h;exact Gs (T.ret (GI (Gv (GD [1] LP (Gu Z)))))
 refine GX Z c4 (Gq Z (Gp aG 2 Z ?_));obtain rfl:=Jp h;exact Gs (T.ret (Gv (GD [1] LP (Gu Z))))
def gi (st:List UInt8×Int) (a1:e7):Option (List UInt8×Int):=(gh a1).bind fun x2=>if x2=0 then ((dA st a1.IP 2).bind fun st5=>(dA st5 a1.IO 2).bind fun st7=>(dA st7 a1.IY 4).bind fun st9=>(iF st9 a1.IK 2).bind fun st11=>some st11) else ((jw st x2).bind fun st13=>some st13)
theorem nY (g:Nat) (st:List UInt8×Int) (a1:e7) (r:List UInt8×Int) (h:gi st a1=some r):aC Tryz.prog 47 #[jP g,.agg #[jI a1.IP,jI a1.IO,jI a1.IY,.bool a1.IK.null,jS a1.IK.data]] .triv (bp g st) (fun v A' N=>v= .tuple #[]/\A'=bp g r/\N = []):=by
 refine aU Tryz.func47 Z Tryz.ntmps47 Z ?_;intro F w hX;unfold gi at h;refine Gq Z (TL.box Z .u Z Z (fun b1=>(Gs (T.seq (Gq Z (Gr Z (GH (us := [jI a1.IP,jI a1.IO,jI a1.IY,.bool a1.IK.null,jS a1.IK.data]) 0 Z KP Ke Z Z Z) Z ?_))))));obtain⟨x2,hx3,h⟩:=Jn h;refine GT Z .u (.fn Tryz.call93 Z) (nX a1 _ hx3) rT Z (GP aG Z Z (Gp aG 2 Z ?_));rcases jF h with⟨c4,h⟩ | ⟨c4,h⟩
 ·refine GY Z c4 (G3 Z ?_);obtain⟨st5,hx6,h⟩:=Jn h;refine Gt aG fC 0 Z 3 Z Z (Gy 1 Z Z .u (.fn Tryz.call51 Z) (bh g st a1.IP 2 _ hx6) sT Z Z (GG Z ?_));obtain⟨st7,hx8,h⟩:=Jn h;refine Gt aG fC 0 Z 3 Z Z (Gy 1 Z Z .u (.fn Tryz.call51 Z) (bh g st5 a1.IO 2 _ hx8) sT Z Z (GG Z ?_));obtain⟨st9,hx10,h⟩:=Jn h;refine Gt aG fC 0 Z 3 Z Z (Gy 1 Z Z .u (.fn Tryz.call51 Z) (bh g st7 a1.IY 4 _ hx10) sT Z Z (Gs (T.region Z (Gp aG 2 Z (Gr Z (GH (us:=wL6 a1.IK) 0 Z JY JB Z Z Z) Z ?_)))));obtain⟨st11,hx12,h⟩:=Jn h;refine Gy 1 Z Z .u (.fn Tryz.call95 Z) (iN g st9 a1.IK 2 _ hx12) sT Z Z ?_;obtain rfl:=Jp h;exact TL.nil (Ht [1] Tryz.results47 ⟨Z,Z,Z⟩ Mf (.inr Z))
 refine GX Z c4 (Gq Z ?_);obtain⟨st13,hx14,h⟩:=Jn h;refine Gp aG 2 Z (Gy 1 Z Z .u (.fn Tryz.call94 Z) (fT g st x2 _ hx14) sT Z Z ?_);obtain rfl:=Jp h;exact Gs (T.ret (Gv (Ht [1] Tryz.results47 ⟨Z,Z,Z⟩ Mf (.inl Z))))
def fR (st:I)  : Option (e7×I):=(dB st 2).bind fun (x2,st3)=>(dB st3 2).bind fun (x5,st6)=>(gt st6).bind fun (x9,st10)=>if x9=0 then ((tu x2 x5).bind fun x13=>if x13=0 then ((dB st10 4).bind fun (x16,st17)=>(jx st17 2).bind fun (x19,st20)=>(gt st20).bind fun (x22,st23)=>if x22=0 then (some ((⟨x2,x5,x16,x19⟩:e7),st23)) else (some ((⟨0,0,0,(⟨false,[]⟩:Bl)⟩:e7),st23))) else ((bT st10 x13).bind fun st26=>(dB st26 4).bind fun (x28,st29)=>(jx st29 2).bind fun (x31,st32)=>(gt st32).bind fun (x34,st35)=>if x34=0 then (some ((⟨x2,x5,x28,x31⟩:e7),st35)) else (some ((⟨0,0,0,(⟨false,[]⟩:Bl)⟩:e7),st35)))) else ((dB st10 4).bind fun (x38,st39)=>(jx st39 2).bind fun (x41,st42)=>(gt st42).bind fun (x44,st45)=>if x44=0 then (some ((⟨x2,x5,x38,x41⟩:e7),st45)) else (some ((⟨0,0,0,(⟨false,[]⟩:Bl)⟩:e7),st45)))
theorem pa (g:Nat) (st:I)  (r:e7×I) (h:fR st  = some r):aC Tryz.prog 115 #[jP g] .triv (InR g st) (fun v A' N=>v= .agg #[jI r.1.IP,jI r.1.IO,jI r.1.IY,.bool r.1.IK.null,jS r.1.IK.data]/\A'=InR g r.2/\N = []):=by
 refine aU Tryz.func115 Z Tryz.ntmps115 Z ?_;intro F w hX;unfold fR at h;refine Gq Z (TL.alloc Z .u Tryz.zeroValue25 Z (fun b1=>(GG Z ?_)));obtain⟨⟨x2,st3⟩,hx4,h⟩:=Jn h;refine Gp aG 1 Z (Gy 1 Z Z .u (.fn Tryz.call68 Z) (bl g st 2 _ hx4) sT Z Z ?_);obtain⟨⟨x5,st6⟩,hx7,h⟩:=Jn h;refine Gp aG 1 Z (Gy 1 Z Z .u (.fn Tryz.call68 Z) (bl g st3 2 _ hx7) sT Z Z ?_);refine Gr Z (GW (cells:= #[jI x2,jI x5,jI 0,.bool false,.string ⟨#[]⟩]) je Z Me) Z ?_;refine TL.alloc Z .u Tryz.zeroValue25 Z (fun b8=>(GC 0 Z (cs':= #[jI x2,jI x5,jI 0,.bool false,.string ⟨#[]⟩]) Z .u Z Z Ke Z Z Z Z Z (Gs (T.seq (Gq Z ?_)))));obtain⟨⟨x9,st10⟩,hx11,h⟩:=Jn h;refine Gp aG 1 Z (Gy 2 Z Z .u (.fn Tryz.call23 Z) (bY g st6 _ hx11) sT Z Z (Gp aG 1 Z ?_));rcases jF h with⟨c12,h⟩ | ⟨c12,h⟩
 ·refine Hg Z c12 (Gq Z ?_);obtain⟨x13,hx14,h⟩:=Jn h;refine Gt aG fC 0 Z 4 Z Z (GT Z .u (.fn Tryz.call147 Z) (qC x2 x5 _ hx14) rT Z (GP aG Z Z (Gp aG 2 Z ?_)));rcases jF h with⟨c15,h⟩ | ⟨c15,h⟩
  ·refine GY Z c15 (G3 Z ?_);obtain⟨⟨x16,st17⟩,hx18,h⟩:=Jn h;refine Gp aG 1 Z (Gy 2 Z Z .u (.fn Tryz.call68 Z) (bl g st10 4 _ hx18) sT Z Z (Gp aG 1 Z (GC 0 Z (cs':= #[jI x2,jI x5,jI x16,.bool false,.string ⟨#[]⟩]) Z .u Z Z Jv Z Z Z Z Z (GG Z ?_))));obtain⟨⟨x19,st20⟩,hx21,h⟩:=Jn h;refine Gp aG 1 Z (Gy 2 Z Z .u (.fn Tryz.call142 Z) (iG g st17 2 _ hx21) sT Z Z (Gp aG 1 Z (GC 0 Z (cs':=xf x2 x5 x16 x19) Z .u Z Z JB Z Z Z Z Z (Gs (T.seq (Gq Z ?_))))));obtain⟨⟨x22,st23⟩,hx24,h⟩:=Jn h;refine Gp aG 1 Z (Gy 2 Z Z .u (.fn Tryz.call23 Z) (bY g st20 _ hx24) sT Z Z (Gp aG 1 Z ?_));rcases jF h with⟨c25,h⟩ | ⟨c25,h⟩
   ·refine GY Z c25 (G3 Z (Gr Z (GH (us := [jI x2,jI x5,jI x16,.bool x19.null,jS x19.data]) 0 Z KP Ke Z Z Z) Z (GC 1 Z (cs':=xf x2 x5 x16 x19) Z .u Z Z Ke Z Z Z Z Z ?_)));obtain rfl:=Jp h;exact Gs (T.ret (GD [2] Lj (Hb (us:=xf x2 x5 x16 x19) 1 Z KP Ke Z Z)))
   refine GX Z c25 (Gq Z ?_);refine Gr Z (GW (cells:=xg) je Z Me) Z ?_;refine GC 1 Z (cs':=xg) Z .u Z Z Ke Z Z Z Z Z ?_;obtain rfl:=Jp h;exact Gs (T.ret (Gv (GD [2] Lj (Hb (us:=xg) 1 Z KP Ke Z Z))))
  refine GX Z c15 (T.region Z ?_);obtain⟨st26,hx27,h⟩:=Jn h;refine Gp aG 2 Z (Gy 2 Z Z .u (.fn Tryz.call70 Z) (bx g st10 x13 _ hx27) sT Z Z (GG Z ?_));obtain⟨⟨x28,st29⟩,hx30,h⟩:=Jn h;refine Gp aG 1 Z (Gy 2 Z Z .u (.fn Tryz.call68 Z) (bl g st26 4 _ hx30) sT Z Z (Gp aG 1 Z (GC 0 Z (cs':= #[jI x2,jI x5,jI x28,.bool false,.string ⟨#[]⟩]) Z .u Z Z Jv Z Z Z Z Z (GG Z ?_))));obtain⟨⟨x31,st32⟩,hx33,h⟩:=Jn h;refine Gp aG 1 Z (Gy 2 Z Z .u (.fn Tryz.call142 Z) (iG g st29 2 _ hx33) sT Z Z (Gp aG 1 Z (GC 0 Z (cs':=xf x2 x5 x28 x31) Z .u Z Z JB Z Z Z Z Z (Gs (T.seq (Gq Z ?_))))));obtain⟨⟨x34,st35⟩,hx36,h⟩:=Jn h;refine Gp aG 1 Z (Gy 2 Z Z .u (.fn Tryz.call23 Z) (bY g st32 _ hx36) sT Z Z (Gp aG 1 Z ?_));rcases jF h with⟨c37,h⟩ | ⟨c37,h⟩
  ·refine GY Z c37 (G3 Z (Gr Z (GH (us := [jI x2,jI x5,jI x28,.bool x31.null,jS x31.data]) 0 Z KP Ke Z Z Z) Z (GC 1 Z (cs':=xf x2 x5 x28 x31) Z .u Z Z Ke Z Z Z Z Z ?_)));obtain rfl:=Jp h;exact Gs (T.ret (GD [2] Lj (Hb (us:=xf x2 x5 x28 x31) 1 Z KP Ke Z Z)))
  refine GX Z c37 (Gq Z ?_);refine Gr Z (GW (cells:=xg) je Z Me) Z ?_;refine GC 1 Z (cs':=xg) Z .u Z Z Ke Z Z Z Z Z ?_;obtain rfl:=Jp h;exact Gs (T.ret (Gv (GD [2] Lj (Hb (us:=xg) 1 Z KP Ke Z Z))))
 refine Hh Z c12 (G3 Z ?_);obtain⟨⟨x38,st39⟩,hx40,h⟩:=Jn h;refine Gp aG 1 Z (Gy 2 Z Z .u (.fn Tryz.call68 Z) (bl g st10 4 _ hx40) sT Z Z (Gp aG 1 Z (GC 0 Z (cs':= #[jI x2,jI x5,jI x38,.bool false,.string ⟨#[]⟩]) Z .u Z Z Jv Z Z Z Z Z (GG Z ?_))));obtain⟨⟨x41,st42⟩,hx43,h⟩:=Jn h;refine Gp aG 1 Z (Gy 2 Z Z .u (.fn Tryz.call142 Z) (iG g st39 2 _ hx43) sT Z Z (Gp aG 1 Z (GC 0 Z (cs':=xf x2 x5 x38 x41) Z .u Z Z JB Z Z Z Z Z (Gs (T.seq (Gq Z ?_))))));obtain⟨⟨x44,st45⟩,hx46,h⟩:=Jn h;refine Gp aG 1 Z (Gy 2 Z Z .u (.fn Tryz.call23 Z) (bY g st42 _ hx46) sT Z Z (Gp aG 1 Z ?_));rcases jF h with⟨c47,h⟩ | ⟨c47,h⟩
 ·refine GY Z c47 (G3 Z (Gr Z (GH (us := [jI x2,jI x5,jI x38,.bool x41.null,jS x41.data]) 0 Z KP Ke Z Z Z) Z (GC 1 Z (cs':=xf x2 x5 x38 x41) Z .u Z Z Ke Z Z Z Z Z ?_)));obtain rfl:=Jp h;exact Gs (T.ret (GD [2] Lj (Hb (us:=xf x2 x5 x38 x41) 1 Z KP Ke Z Z)))
 refine GX Z c47 (Gq Z ?_);refine Gr Z (GW (cells:=xg) je Z Me) Z ?_;refine GC 1 Z (cs':=xg) Z .u Z Z Ke Z Z Z Z Z ?_;obtain rfl:=Jp h;exact Gs (T.ret (Gv (GD [2] Lj (Hb (us:=xg) 1 Z KP Ke Z Z))))
end Go.Proofs.YtheikonlgjdopaaGreat.Sl
