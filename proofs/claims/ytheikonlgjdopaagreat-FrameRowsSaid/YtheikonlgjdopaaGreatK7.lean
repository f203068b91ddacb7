/- frameRows_holds: part 7. -/
import Derived.Test.YtheikonlgjdopaaGreatK6
set_option maxRecDepth 100000
set_option maxHeartbeats 4000000
set_option linter.defProp false
namespace Go.Proofs.YtheikonlgjdopaaGreat.Sl
open Go.RowKit
set_option linter.unusedVariables false
set_option linter.unusedSimpArgs false
def KI := @Tryz.sizeOf25
def KN := @Tryz.sizeOf36
def K0 := @Tryz.runUnderlying25
def Ln := @Tryz.isAgg25
def Lx := @Tryz.isAgg36
def L3 := @Tryz.results191
def L4 := @Tryz.results115
def Mh := @Tryz.ntmps191
def Mo := @Tryz.results194
def Mp := @Tryz.results195
def Mq := @Tryz.results156
def Mv := @Tryz.func191
def My := @Tryz.results93
def MQ := @Tryz.results120
def AD:eP := [(23,0,0),(23,1,1),(36,0,0),(36,1,2),(36,2,3),(36,3,4),(97,3,3),(97,4,4),(176,0,0),(176,1,1),(179,0,0),(179,1,1)]
theorem ah:(AD).OK Tryz.prog:=⟨FOK.mk Kf rfl Kr rfl,FOK.mk Kf rfl Kk rfl,FOK.mk K7 rfl J2 rfl,FOK.mk K7 rfl JX rfl,FOK.mk K7 rfl JX rfl,FOK.mk K7 rfl Tryz.sizeOf34 rfl,FOK.mk Kb rfl Kr rfl,FOK.mk Kb rfl Kr rfl,FOK.mk LM rfl Kk rfl,FOK.mk LM rfl Mx rfl,FOK.mk L6 rfl JX rfl,FOK.mk L6 rfl L7 rfl,trivial⟩
def AE:List Nat := [3,4,9,34,174,177]
theorem bb:NOK Tryz.prog AE:=⟨JZ,KG,Ks,Tryz.isAgg34,Mf,LI,trivial⟩
theorem lQ:Tryz.prog.follows .mixedOrders=true:=by kernel_rfl
theorem ju:BOK Tryz.prog 36 #[.bool false,.string ⟨#[]⟩,.int .i64 0,.int .i64 0,.slice none 0 0] [(0,2),(2,1),(3,1),(4,1)]:=BOK.mk Tryz.zeroValue36 K7 (by intro w; simp)
theorem tJ:BOK Tryz.prog 176 #[.string ⟨#[]⟩,.slice none 0 0] [(0,1),(1,1)]:=BOK.mk Tryz.zeroValue176 LM (by intro w; simp)
theorem tK:BOK Tryz.prog 179 #[.int .i64 0,.slice none 0 0] [(0,1),(1,1)]:=BOK.mk Tryz.zeroValue179 L6 (by intro w; simp)
theorem sx:SOK Tryz.prog 34 176 1 2 #[.string ⟨#[]⟩,.slice none 0 0]:=SOK.mk KE KJ Tryz.zeroValue176 (by decide) (by kernel_rfl)
theorem jv:SOK Tryz.prog 174 179 1 2 #[.int .i64 0,.slice none 0 0]:=SOK.mk KD KC Tryz.zeroValue179 (by decide) (by kernel_rfl)
theorem jw:SOK Tryz.prog 177 97 1 12 #[.int .i64 0,.int .i64 0,.bool false,.bool false,.bool false,.int .i64 0,.int .i64 0,.int .i64 0,.int .i64 0,.int .i64 0,.int .i64 0,.slice none 0 0]:=SOK.mk Kp J6 Tryz.zeroValue97 (by decide) (by kernel_rfl)
theorem lv:(Tryz.prog.info? 97).map (fun i=>(i.zero,i.size,i.bytes))=some (some (.agg #[.int .i64 0,.int .i64 0,.bool false,.bool false,.bool false,.int .i64 0,.int .i64 0,.int .i64 0,.int .i64 0,.int .i64 0,.int .i64 0,.slice none 0 0]),12,96):=by kernel_rfl
theorem tL:(Tryz.prog.info? 176).map (fun i=>(i.zero,i.size,i.bytes))=some (some (.agg #[.string ⟨#[]⟩,.slice none 0 0]),2,40):=by kernel_rfl
theorem kw:(Tryz.prog.info? 179).map (fun i=>(i.zero,i.size,i.bytes))=some (some (.agg #[.int .i64 0,.slice none 0 0]),2,32):=by kernel_rfl
def dm (x10:aD):List aR→Int→Nat→Option (Lp Int Int)
 | [],y158,k159=>some (Lp.go y158)
 | x164::xs,y158,k159=>(if x164.Jp<0 then some true else ((il x164.Jp 4).bind fun x223=>if x223=true then (if (k159:Int)>0 then (if -9223372036854775808≤((k159:Int) - 1)∧((k159:Int) - 1)≤9223372036854775807 then (if 0≤((k159:Int) - 1) then ((x10.I7[((k159:Int) - 1).toNat]?).bind fun x229=>if x229.Jp≥x164.Jp then some true else some false) else none) else none) else some false) else some true)).bind fun y220=>if y220=true then some (Lp.ret 13) else (dm x10 xs y158 (k159+1))
def cx (a0:List aD):List aD→Int→Nat→Option (Lp Int Int)
 | [],y4,k5=>some (Lp.go y4)
 | x10::xs,y4,k5=>if (x10.I7.length:Int)=0 then some (Lp.ret 10) else ((if x10.Jd = [] then some true else (if (x10.Jd.length:Int)>32767 then some true else (if (k5:Int)>0 then (if -9223372036854775808≤((k5:Int) - 1)∧((k5:Int) - 1)≤9223372036854775807 then (if 0≤((k5:Int) - 1) then ((a0[((k5:Int) - 1).toNat]?).bind fun x150=>if (Op.bytesLess x150.Jd x10.Jd)=true then some false else some true) else none) else none) else some false))).bind fun y143=>if y143=true then some (Lp.ret 13) else ((dm x10 x10.I7 y4 0).bind fun e=>match e with | .ret r=>some (Lp.ret r) | .go y237=>(cx a0 xs y237 (k5+1))))
theorem pd (a0:List aD) (y4:Int) (k5:Nat):cx a0 [] y4 k5=(some (Lp.go y4)):=rfl
theorem pe (a0:List aD) (x10:aD) (xs:List aD) (y4:Int) (k5:Nat):cx a0 (x10::xs) y4 k5=(if (x10.I7.length:Int)=0 then some (Lp.ret 10) else ((if x10.Jd = [] then some true else (if (x10.Jd.length:Int)>32767 then some true else (if (k5:Int)>0 then (if -9223372036854775808≤((k5:Int) - 1)∧((k5:Int) - 1)≤9223372036854775807 then (if 0≤((k5:Int) - 1) then ((a0[((k5:Int) - 1).toNat]?).bind fun x150=>if (Op.bytesLess x150.Jd x10.Jd)=true then some false else some true) else none) else none) else some false))).bind fun y143=>if y143=true then some (Lp.ret 13) else ((dm x10 x10.I7 y4 0).bind fun e=>match e with | .ret r=>some (Lp.ret r) | .go y237=>(cx a0 xs y237 (k5+1))))):=rfl
def hM (a0:List aD):Option (Int):=if (a0.length:Int)=0 then some 10 else ((cx a0 a0 0 0).bind fun e=>match e with | .ret r=>some r | .go y239=>some 0)
theorem pf (a0:List aD) (A1:Option Addr) (c2:Nat) (r:Int) (h:hM a0=some r):aE Tryz.prog 194 #[.slice A1 a0.length c2] (RX.of (ao 2 aH) [.slice A1 a0.length c2] a0) (aO) (fun v A' N=>v=jI r∧A'=aO∧N = []):=by
 refine aU Tryz.func194 Z Tryz.ntmps194 Z ?_
 intro F w hX
 unfold hM at h
 refine GC Z (GK ah Z (T.seq (GC Z (GB ah 1 Z (GE Z (GQ Z KE) Z (GB ah 1 Z ?_))))))
 rcases jF h with⟨c3,h⟩ | ⟨c3,h⟩
 ·refine G9 Z c3 (GC Z (GB ah 1 Z ?_))
  obtain rfl:=JP h
  exact GD (T.ret (GH (GL [0] Mo (GF Z))))
 refine Ha Z c3 (GW (T.seq (GC Z (GB ah 1 Z (GE Z (GQ Z KE) Z (GK ah Z (T.block ?_)))))))
 obtain⟨E6,hE7,hO8⟩:=JO h
 have hk12len:=Hq hX
 refine Hv (fun m e Rs=> ∃ (y4:Int) (k5:Nat),k5+m=a0.length∧e = [(0,.slice A1 a0.length c2),(2,jI y4),(10,.slice A1 a0.length c2),(11,jI (a0.length:Int)),(12,jI (k5:Int))]∧Rs = [aO]∧cx a0 (a0.drop k5) y4 k5=some E6) (a0.length) [0] ⟨0,0,by simp,Z,Z,by rw[List.drop_zero]; exact hE7⟩ (by rfl) (by rfl) ?_
 clear hE7 h
 rintro m9 _ _ ⟨y4,k5,hk12,rfl,rfl,h⟩
 cases m9 with
 | zero =>
  rw[List.drop_of_length_le (by omega),pd] at h
  have hk12ge: ¬ ((k5:Int)<(a0.length:Int)):=by omega
  refine GC Z (GK ah Z (T.seq (G7 Z (JT hk12ge) ?_)))
  obtain rfl:=JP h
  replace h:=hO8
  clear hO8
  try dsimp only at h
  refine T.exit (GT (GT (Hu (X.seq (GC Z (GB ah 1 Z ?_))))))
  obtain rfl:=JP h
  exact GD (T.ret (GL [0] Mo (GF Z)))
 | succ m9 =>
  obtain⟨x10,hxx10⟩: ∃ x,a0[k5]? = some x:=⟨_,List.getElem?_eq_getElem (by omega)⟩
  rw[bz hxx10,pe] at h
  have hk12lt:(k5:Int)<(a0.length:Int):=by omega
  refine GC Z (GK ah Z (T.seq (GO Z (JS hk12lt) (GW (T.seq (T.block (GC Z ?_)))))))
  obtain⟨gz126,oz126,rfl,z126cs,z126cl,z126cc,z126nf,z126r⟩:=Hg (by decide) hX hxx10
  obtain⟨z126S,z126r,z126rr⟩:=z126r
  obtain⟨A127,c128,rfl,z126s0⟩:=z126r
  have hX129:(RX.of (ao 2 bN) [.slice A127 x10.I7.length c128] x10.I7).reads w F:=⟨z126S,z126s0,z126rr⟩
  refine GB ah 1 Z ?_
  refine GE Z (GY (k:=k5) Z Z Z KE KJ (JV hxx10).1) Z ?_
  refine GE Z (HW (us := [jS x10.Jd,.slice A127 x10.I7.length c128]) 0 Z Mg KJ z126nf z126cc Z Z Z) Z (TL.alloc Z .u Tryz.zeroValue176 Z (fun b130=>(GB ah 1 Z (GU (cs':= #[jS x10.Jd,.slice A127 x10.I7.length c128]) Z .u Z Z KJ Z Z Z Z (GD (T.seq (GC Z (GG ah bb 0 Z 2 Z Z (GE Z (GQ Z KD) Z (GB ah 1 Z ?_))))))))))
  rcases jF h with⟨c131,h⟩ | ⟨c131,h⟩
  ·refine G9 Z c131 (GC Z (GB ah 1 Z ?_))
   obtain rfl:=JP h
   obtain rfl:=JP hO8
   exact GD (T.ret (GH (GN (GH (GH (GN (GH (GL [1] Mo (GF Z)))))))))
  refine Ha Z c131 (GW (In ?_))
  obtain⟨y143,h,hk144⟩:=JO h
  refine HJ (fun e Rs=>e = [(0,.slice (some ⟨gz126,oz126,none⟩) a0.length c2),(2,jI y4),(4,jP b130),(10,.slice (some ⟨gz126,oz126,none⟩) a0.length c2),(11,jI (a0.length:Int)),(12,jI (k5:Int)),(44,.bool y143)]∧Rs = [aT b130 176 #[jS x10.Jd,.slice A127 x10.I7.length c128],aO]) ?_ ?_
  ·clear hk144
   refine Hp (.q 0 (.q 1 (.q 2 (.q 3 (.q 4 (.q 5 (.q 6 (.q 7 (.q 8 (.q 9 (.q 10 (.q 11 (.q 12 (.q 13 (.q 14 (.q 15 (.q 16 (.q 17 (.q 18 (.q 19 (.q 20 (.q 21 (.q 22 (.q 23 .nil)))))))))))))))))))))))) [0,0] Z lQ (NoP.seq (NoP.seq (NoP.seq (NoP.blk (NoP.seq (NoP.seq (NoP.blk (NoP.seq bA)))))))) (by kernel_rfl) ?_
   refine TD.run ah [0] Z Z (GM Z (G5 0 Z Ks Z Z) Z (GM Z (Ex.sEq Z (m := []) Z) Z ?_))
   rcases jF h with⟨c145,h⟩ | ⟨c145,h⟩
   ·refine TD.run ah [3] Z Z ?_
    iterate 4 refine HU Z (.gn Z Z (JS c145)) Z ?_
    refine GM Z (Ia Z (JS c145) Z) Z (TD.run ah [9] Z Z ?_)
    iterate 3 refine HU Z (.gn Z Z Z) Z ?_
    iterate 9 refine HU Z (.gu Z Z) Z ?_
    refine HU Z (.gn Z Z Z) Z (GM Z (Ia Z Z Z) Z ?_)
    cases h
    exact TD.nil (GP [0,0])
   refine TD.run ah [3] Z Z (TD.q Z (.g Z Z (JT c145)) (Hm ah Z) Z (TD.q Z (.g Z Z (JT c145)) (G5 0 Z Ks Z Z) Z (TD.q Z (.g Z Z (JT c145)) (Hw Z J3) Z (TD.q Z (.g Z Z (JT c145)) (Hm ah Z) Z (GM Z (H9 Z (JT c145) Z) Z ?_)))))
   rcases jF h with⟨c146,h⟩ | ⟨c146,h⟩
   ·refine TD.run ah [9] Z Z ?_
    iterate 3 refine HU Z (.gn Z Z (JS c146)) Z ?_
    iterate 9 refine HU Z (.gu Z Z) Z ?_
    refine HU Z (.gn Z Z (JS c146)) Z (GM Z (Ia Z (JS c146) Z) Z ?_)
    cases h
    exact TD.nil (GP [0,0])
   refine TD.run ah [9] Z Z ?_
   iterate 3 refine TD.q Z (.g Z Z (JT c146)) (Hm ah Z) Z ?_
   rcases jF h with⟨c147,h⟩ | ⟨c147,h⟩
   ·refine TD.q Z (.g Z Z (JS c147)) (Hm ah Z) Z (TD.q Z (.g Z Z (JS c147)) (Hm ah Z) Z ?_)
    obtain⟨c148,h⟩:=ay h
    refine TD.q Z (.g Z Z (JS c147)) (Ex.sub Z Z c148) Z ?_
    obtain⟨c149,h⟩:=ay h
    obtain⟨x150,hx151,h⟩:=JO h
    obtain⟨z152cs,z152cl,z152cc,z152nf,z152r⟩:=IA (by decide) hX hx151
    obtain⟨z152S,z152r,z152rr⟩:=z152r
    obtain⟨A153,c154,rfl,z152s0⟩:=z152r
    have hX155:(RX.of (ao 2 bN) [.slice A153 x150.I7.length c154] x150.I7).reads w F:=⟨z152S,z152s0,z152rr⟩
    refine TD.q Z (.g Z Z (JS c147)) (GY (k:=((k5:Int) - 1).toNat) Z Z ((Int.toNat_of_nonneg c149).symm) KE KJ (JV hx151).1) Z ?_
    refine TD.q Z (.g Z Z (JS c147)) (Hm ah Z) Z (TD.q Z (.g Z Z (JS c147)) (Hr 0 Z Ks z152nf z152cc Z Z) Z (TD.q Z (.g Z Z (JS c147)) (Hm ah Z) Z (TD.q Z (.g Z Z (JS c147)) (G5 0 Z Ks Z Z) Z (TD.q Z (.g Z Z (JS c147)) (Ex.sGe Z Z) Z (TD.q Z (.g Z Z (JT c146)) (Ia Z (JS c147) Z) Z (GM Z (H9 Z (JT c146) Z) Z ?_))))))
    rcases jF h with⟨c156,h⟩ | ⟨c156,h⟩
    ·cases h
     exact TD.nil (Hx (d:=44) (v':= .bool false) Z (congrArg Value.bool (aZ c156)) (GP [0,0]))
    replace c156:=JW c156
    cases h
    exact TD.nil (Hx (d:=44) (v':= .bool true) Z (congrArg Value.bool (bw c156)) (GP [0,0]))
   refine HU Z (.gn Z Z (JT c147)) Z ?_
   iterate 8 refine HU Z (.gn Z Z (JT c147)) Z ?_
   refine TD.q Z (.g Z Z (JT c146)) (H9 Z (JT c147) Z) Z (GM Z (H9 Z (JT c146) Z) Z ?_)
   cases h
   exact TD.nil (GP [0,0])
  rintro _ _ ⟨rfl,rfl⟩
  clear h
  have h:=hk144
  clear hk144
  try dsimp only at h
  rcases jF h with⟨c157,h⟩ | ⟨c157,h⟩
  ·refine X.seq (GO Z c157 (GC Z (GB ah 1 Z ?_)))
   obtain rfl:=JP h
   obtain rfl:=JP hO8
   exact GD (T.ret (GH (GN (GH (GH (GN (GH (GL [1] Mo (GF Z)))))))))
  replace c157:=JW c157
  refine X.seq (G7 Z c157 (Hb Z (GG ah bb 0 Z 2 Z Z (GE Z (GQ Z KD) Z (GK ah Z (T.block ?_))))))
  obtain⟨E160,hE161,hO162⟩:=JO h
  have hk166len:=Hq hX129
  refine Hv (fun m e Rs=> ∃ (y158:Int) (k159:Nat),k159+m=x10.I7.length∧e = [(0,.slice (some ⟨gz126,oz126,none⟩) a0.length c2),(2,jI y158),(4,jP b130),(10,.slice (some ⟨gz126,oz126,none⟩) a0.length c2),(11,jI (a0.length:Int)),(12,jI (k5:Int)),(46,.slice A127 x10.I7.length c128),(47,jI (x10.I7.length:Int)),(48,jI (k159:Int))]∧Rs = [aT b130 176 #[jS x10.Jd,.slice A127 x10.I7.length c128],aO]∧dm x10 (x10.I7.drop k159) y158 k159=some E160) (x10.I7.length) [0,0] ⟨y4,0,by simp,Z,Z,by rw[List.drop_zero]; exact hE161⟩ (by rfl) (by rfl) ?_
  clear hE161 h
  rintro m163 _ _ ⟨y158,k159,hk166,rfl,rfl,h⟩
  cases m163 with
  | zero =>
   rw[List.drop_of_length_le (by omega),dm] at h
   have hk166ge: ¬ ((k159:Int)<(x10.I7.length:Int)):=by omega
   refine GC Z (GK ah Z (T.seq (G7 Z (JT hk166ge) ?_)))
   obtain rfl:=JP h
   replace h:=hO162
   clear hO162
   try dsimp only at h
   exact T.exit (GT (GT (Hu (GX (X.seq (T.region Z (GE Z (Ex.add Z Z (by omega)) Z (GB ah 1 Z (TL.nil (X.back (m':=m9) [1] (by omega) ⟨y158,k5+1,by omega,Z,Z,h⟩ (by rfl) (by rfl)))))))))))
  | succ m163 =>
   obtain⟨x164,hxx164⟩: ∃ x,x10.I7[k159]? = some x:=⟨_,List.getElem?_eq_getElem (by omega)⟩
   rw[bz hxx164,dm] at h
   have hk166lt:(k159:Int)<(x10.I7.length:Int):=by omega
   refine GC Z (GK ah Z (T.seq (GO Z (JS hk166lt) (GW (T.seq (T.block (GC Z ?_)))))))
   obtain⟨gz202,oz202,rfl,z202cs,z202cl,z202cc,z202nf,z202r⟩:=Hg (by decide) hX129 hxx164
   obtain⟨z202S,z202r,z202rr⟩:=z202r
   obtain⟨A203,c204,rfl,z202s0⟩:=z202r
   have hX205:(RX.of (ao 12 dN) [.slice A203 x164.Jf.length c204] x164.Jf).reads w F:=⟨z202S,z202s0,z202rr⟩
   refine GB ah 1 Z ?_
   refine GE Z (GY (k:=k159) Z Z Z KD KC (JV hxx164).1) Z ?_
   refine GE Z (HW (us := [jI x164.Jp,.slice A203 x164.Jf.length c204]) 0 Z LS KC z202nf z202cc Z Z Z) Z (TL.alloc Z .u Tryz.zeroValue179 Z (fun b206=>(GB ah 1 Z (GU (cs':= #[jI x164.Jp,.slice A203 x164.Jf.length c204]) Z .u Z Z KC Z Z Z Z (GD (T.seq ?_))))))
   obtain⟨y220,h,hk221⟩:=JO h
   refine HJ (fun e Rs=>e = [(0,.slice (some ⟨gz126,oz126,none⟩) a0.length c2),(2,jI y158),(4,jP b130),(10,.slice (some ⟨gz126,oz126,none⟩) a0.length c2),(11,jI (a0.length:Int)),(12,jI (k5:Int)),(46,.slice (some ⟨gz202,oz202,none⟩) x10.I7.length c128),(47,jI (x10.I7.length:Int)),(48,jI (k159:Int)),(77,.bool y220)]∧Rs = [aT b206 179 #[jI x164.Jp,.slice A203 x164.Jf.length c204],aT b130 176 #[jS x10.Jd,.slice (some ⟨gz202,oz202,none⟩) x10.I7.length c128],aO]) ?_ ?_
   ·clear hk221
    refine Hp (.q 0 (.q 1 (.q 2 (.q 3 (.q 4 (.q 5 (.e 6 (.q 7 (.q 8 (.q 9 (.q 10 (.q 11 (.q 12 (.q 13 (.q 14 (.q 15 (.q 16 (.q 17 (.q 18 (.q 19 (.q 20 (.q 21 (.q 22 (.q 23 (.q 24 .nil))))))))))))))))))))))))) [0,0,0] Z lQ (NoP.seq (NoP.seq (NoP.blk (NoP.seq (NoP.seq (NoP.blk (NoP.blk (NoP.seq (NoP.seq (NoP.blk (NoP.seq bA))))))))))) (by kernel_rfl) ?_
    refine TD.run ah [0] Z Z (GM Z (G5 0 Z JZ Z Z) Z ?_)
    rcases jF h with⟨c222,h⟩ | ⟨c222,h⟩
    ·refine TD.run ah [2,3] Z Z ?_
     iterate 2 refine HU Z (.gn Z Z (JS c222)) Z ?_
     refine IB Z (.gn Z Z (JS c222)) Z [0,0,0] Z (HU Z (.gn Z Z (JS c222)) Z (GM Z (Ia Z (JS c222) Z) Z (TD.run ah [9] Z Z ?_)))
     iterate 3 refine HU Z (.gn Z Z Z) Z ?_
     iterate 10 refine HU Z (.gu Z Z) Z ?_
     refine HU Z (.gn Z Z Z) Z (GM Z (Ia Z Z Z) Z ?_)
     cases h
     exact TD.nil (GP [0,0,0])
    refine TD.run ah [2,3] Z Z (TD.q Z (.g Z Z (JT c222)) (Hm ah Z) Z (TD.q Z (.g Z Z (JT c222)) (G5 0 Z JZ Z Z) Z ?_))
    obtain⟨x223,hx224,h⟩:=JO h
    refine Iv Z (.g Z Z (JT c222)) (.fn Tryz.call101 Z) (Hy (fun w=>de x164.Jp 4 _ hx224 w)) (fun _ _=>Hi _ _) Z [0,0,0] (Z) (TD.q Z (.g Z Z (JT c222)) (Hm ah Z) Z (GM Z (H9 Z (JT c222) Z) Z ?_))
    rcases jF h with⟨c225,h⟩ | ⟨c225,h⟩
    ·refine TD.run ah [9] Z Z ?_
     iterate 3 refine TD.q Z (.g Z Z (aZ c225)) (Hm ah Z) Z ?_
     rcases jF h with⟨c226,h⟩ | ⟨c226,h⟩
     ·refine TD.q Z (.g Z Z (JS c226)) (Hm ah Z) Z (TD.q Z (.g Z Z (JS c226)) (G5 1 Z Mf Z Z) Z (TD.q Z (.g Z Z (JS c226)) (Hm ah Z) Z ?_))
      obtain⟨c227,h⟩:=ay h
      refine TD.q Z (.g Z Z (JS c226)) (Ex.sub Z Z c227) Z ?_
      obtain⟨c228,h⟩:=ay h
      obtain⟨x229,hx230,h⟩:=JO h
      obtain⟨z231cs,z231cl,z231cc,z231nf,z231r⟩:=IA (by decide) hX129 hx230
      obtain⟨z231S,z231r,z231rr⟩:=z231r
      obtain⟨A232,c233,rfl,z231s0⟩:=z231r
      have hX234:(RX.of (ao 12 dN) [.slice A232 x229.Jf.length c233] x229.Jf).reads w F:=⟨z231S,z231s0,z231rr⟩
      refine TD.q Z (.g Z Z (JS c226)) (GY (k:=((k159:Int) - 1).toNat) Z Z ((Int.toNat_of_nonneg c228).symm) KD KC (JV hx230).1) Z ?_
      refine TD.q Z (.g Z Z (JS c226)) (Hm ah Z) Z (TD.q Z (.g Z Z (JS c226)) (Hr 0 Z JZ z231nf z231cc Z Z) Z (TD.q Z (.g Z Z (JS c226)) (Hm ah Z) Z (TD.q Z (.g Z Z (JS c226)) (G5 0 Z JZ Z Z) Z (TD.q Z (.g Z Z (JS c226)) (Hm ah Z) Z (TD.q Z (.g Z Z (aZ c225)) (Ia Z (JS c226) Z) Z (GM Z (H9 Z (aZ c225) Z) Z ?_))))))
      rcases jF h with⟨c235,h⟩ | ⟨c235,h⟩
      ·cases h
       exact TD.nil (Hx (d:=77) (v':= .bool true) Z (congrArg Value.bool (JS c235)) (GP [0,0,0]))
      cases h
      exact TD.nil (Hx (d:=77) (v':= .bool false) Z (congrArg Value.bool (JT c235)) (GP [0,0,0]))
     refine HU Z (.gn Z Z (JT c226)) Z ?_
     iterate 9 refine HU Z (.gn Z Z (JT c226)) Z ?_
     refine TD.q Z (.g Z Z (aZ c225)) (H9 Z (JT c226) Z) Z (GM Z (H9 Z (aZ c225) Z) Z ?_)
     cases h
     exact TD.nil (GP [0,0,0])
    replace c225:=JW c225
    refine TD.run ah [9] Z Z ?_
    iterate 3 refine HU Z (.gn Z Z (bw c225)) Z ?_
    iterate 10 refine HU Z (.gu Z Z) Z ?_
    refine HU Z (.gn Z Z (bw c225)) Z (GM Z (Ia Z (bw c225) Z) Z ?_)
    cases h
    exact TD.nil (GP [0,0,0])
   rintro _ _ ⟨rfl,rfl⟩
   clear h
   have h:=hk221
   clear hk221
   try dsimp only at h
   rcases jF h with⟨c236,h⟩ | ⟨c236,h⟩
   ·refine X.seq (GO Z c236 (GC Z (GB ah 1 Z ?_)))
    obtain rfl:=JP h
    obtain rfl:=JP hO162
    obtain rfl:=JP hO8
    exact GD (T.ret (GN (GH (GH (GN (GN (GH (GH (GN (GH (GL [2] Mo (GF Z))))))))))))
   replace c236:=JW c236
   exact X.seq (G7 Z c236 (T.skip (GX (X.seq (T.region Z (GE Z (Ex.add Z Z (by omega)) Z (GB ah 1 Z (TL.nil (X.back (m':=m163) [1,1] (by omega) ⟨y158,k159+1,by omega,Z,Z,h⟩ (by rfl) (by rfl))))))))))
def bO (a0:aw):List Bat→Int→Option (Lp Int Int)
 | [],y14=>some (Lp.go y14)
 | x20::xs,y14=>(dC x20).bind fun x28=>if x28=0 then (if x20.JB=true then some (Lp.ret 12) else (if (x20.JE == a0.Jc.null)=true then some (Lp.ret 8) else (bO a0 xs y14))) else some (Lp.ret x28)
def dD (a0:aw) (a1:List Bat) (a2:Int):Option (Int):=(if (a1.length:Int)=0 then some true else (if a2<4 then (if (a1.length:Int)>1 then some true else some false) else some false)).bind fun y8=>if y8=true then some 10 else ((bO a0 a1 0).bind fun e=>match e with | .ret r=>some r | .go y33=>some 0)
theorem km (a0:aw) (A1:Option Addr) (c2:Nat) (a1:List Bat) (A3:Option Addr) (c4:Nat) (a2:Int) (r:Int) (h:dD a0 a1 a2=some r):aE Tryz.prog 195 #[.agg #[.bool a0.Jc.null,jS a0.Jc.data,jI a0.Ju,jI a0.Jb,.slice A1 a0.I5.length c2],.slice A3 a1.length c4,jI a2] (RX.and (RX.of (ao 2 aH) [.slice A1 a0.I5.length c2] a0.I5) (RX.of (ao 12 dN) [.slice A3 a1.length c4] a1)) (aO) (fun v A' N=>v=jI r∧A'=aO∧N = []):=by
 refine aU Tryz.func195 Z Tryz.ntmps195 Z ?_
 intro F w hX
 unfold dD at h
 refine GC Z (TL.box Z .u Z Z (fun b5=>(GK ah Z (In ?_))))
 obtain⟨y8,h,hk9⟩:=JO h
 refine HJ (fun e Rs=>e = [(1,.slice A3 a1.length c4),(3,jP b5),(6,jI 0),(21,.bool y8)]∧Rs = [aT b5 36 #[.bool a0.Jc.null,jS a0.Jc.data,jI a0.Ju,jI a0.Jb,.slice A1 a0.I5.length c2],aO]) ?_ ?_
 ·clear hk9
  refine T.region Z (GB ah 1 Z (GE Z (GQ Z Kp) Z ?_))
  rcases jF h with⟨c10,h⟩ | ⟨c10,h⟩
  ·refine GB ah 2 Z (GI 13 Z (JS c10) (GJ ah 8 Z ?_))
   cases h
   exact TL.nil (GP [0,0])
  refine GB ah 2 Z (GI 13 Z (JT c10) ?_)
  rcases jF h with⟨c11,h⟩ | ⟨c11,h⟩
  ·refine GJ ah 3 Z (GI 16 Z (JS c11) (GJ ah 1 Z (TL.q Z (.g Z Z Z) (GQ Z Kp) Z (GJ ah 3 Z ?_))))
   rcases jF h with⟨c12,h⟩ | ⟨c12,h⟩
   ·cases h
    exact TL.nil (Hx (d:=21) (v':= .bool true) Z (congrArg Value.bool (JS c12)) (GP [0,0]))
   cases h
   exact TL.nil (Hx (d:=21) (v':= .bool false) Z (congrArg Value.bool (JT c12)) (GP [0,0]))
  refine GJ ah 3 Z (GI 16 Z (JT c11) (GJ ah 5 Z ?_))
  cases h
  exact TL.nil (GP [0,0])
 rintro _ _ ⟨rfl,rfl⟩
 clear h
 have h:=hk9
 clear hk9
 try dsimp only at h
 rcases jF h with⟨c13,h⟩ | ⟨c13,h⟩
 ·refine X.seq (GO Z c13 (GC Z (GB ah 1 Z ?_)))
  obtain rfl:=JP h
  exact GD (T.ret (GH (GL [1] Mp (GF Z))))
 replace c13:=JW c13
 refine X.seq (G7 Z c13 (GW (T.seq (GC Z (GB ah 1 Z (GE Z (GQ Z Kp) Z (GK ah Z (T.block ?_))))))))
 obtain⟨E16,hE17,hO18⟩:=JO h
 have hk22len:=Hq (G3 hX)
 refine Hv (fun m e Rs=> ∃ (y14:Int) (k15:Nat),k15+m=a1.length∧e = [(3,jP b5),(6,jI y14),(22,.slice A3 a1.length c4),(23,jI (a1.length:Int)),(24,jI (k15:Int))]∧Rs = [aT b5 36 #[.bool a0.Jc.null,jS a0.Jc.data,jI a0.Ju,jI a0.Jb,.slice A1 a0.I5.length c2],aO]∧bO a0 (a1.drop k15) y14=some E16) (a1.length) [0,0] ⟨0,0,by simp,Z,Z,by rw[List.drop_zero]; exact hE17⟩ (by rfl) (by rfl) ?_
 clear hE17 h
 rintro m19 _ _ ⟨y14,k15,hk22,rfl,rfl,h⟩
 cases m19 with
 | zero =>
  rw[List.drop_of_length_le (by omega),bO] at h
  have hk22ge: ¬ ((k15:Int)<(a1.length:Int)):=by omega
  refine GC Z (GK ah Z (T.seq (G7 Z (JT hk22ge) ?_)))
  obtain rfl:=JP h
  replace h:=hO18
  clear hO18
  try dsimp only at h
  refine T.exit (GT (GT (Hu (X.seq (GC Z (GB ah 1 Z ?_))))))
  obtain rfl:=JP h
  exact GD (T.ret (GL [1] Mp (GF Z)))
 | succ m19 =>
  obtain⟨x20,hxx20⟩: ∃ x,a1[k15]? = some x:=⟨_,List.getElem?_eq_getElem (by omega)⟩
  rw[bz hxx20,bO] at h
  have hk22lt:(k15:Int)<(a1.length:Int):=by omega
  refine GC Z (GK ah Z (T.seq (GO Z (JS hk22lt) ?_)))
  obtain⟨gz23,oz23,rfl,z23cs,z23cl,z23cc,z23nf,z23r⟩:=Hg (by decide) (G3 hX) hxx20
  obtain⟨z23S,z23r,z23rr⟩:=z23r
  obtain⟨A24,c25,rfl,z23s0⟩:=z23r
  have hX26:(RX.of (ao 7 cV) [.slice A24 x20.Ja.length c25] x20.Ja).reads w F:=⟨z23S,z23s0,z23rr⟩
  refine GW (T.seq (T.block (GC Z ?_)))
  refine GE Z (GY (k:=k15) Z Z Z Kp J6 (JV hxx20).1) Z ?_
  refine GE Z (HW (us:=wL5 x20 A24 c25) 0 Z Ku J6 z23nf z23cc Z Z Z) Z (TL.alloc Z .u Tryz.zeroValue97 Z (fun b27=>(GU (cs':=wA0 x20 A24 c25) Z .u Z Z J6 Z Z Z Z (GD (T.seq (GC Z (GE Z (GR (us:=wL5 x20 A24 c25) 0 Z Ku J6 Z Z Z) Z ?_)))))))
  obtain⟨x28,hx29,h⟩:=JO h
  refine GZ Z .u (.fn Tryz.call81 Z) (iJ x20 _ _ _ hx29) (fun _ hs=>(GS hs hX26)) Z (G4 ah Z Z (GB ah 2 Z ?_))
  rcases jF h with⟨c30,h⟩ | ⟨c30,h⟩
  ·refine He Z c30 (GW (T.block (GC Z (GG ah bb 0 Z 3 Z Z ?_))))
   rcases jF h with⟨c31,h⟩ | ⟨c31,h⟩
   ·refine GD (GO Z c31 (GC Z (GB ah 1 Z ?_)))
    obtain rfl:=JP h
    obtain rfl:=JP hO18
    exact GD (T.ret (GN (GN (GH (GH (GN (GH (GL [2] Mp (GF Z)))))))))
   replace c31:=JW c31
   refine GD (G7 Z c31 (GC Z (GG ah bb 0 Z 4 Z Z (GG ah bb 1 Z 1 Z Z (GE Z (Ex.bEq Z Z Z Z Ki) Z (GB ah 1 Z ?_))))))
   rcases jF h with⟨c32,h⟩ | ⟨c32,h⟩
   ·refine GD (GO Z c32 (GC Z (GB ah 1 Z ?_)))
    obtain rfl:=JP h
    obtain rfl:=JP hO18
    exact GD (T.ret (GN (GN (GH (GH (GN (GH (GL [2] Mp (GF Z)))))))))
   replace c32:=JW c32
   exact GD (G7 Z c32 (T.skip (GX (GX (X.seq (T.region Z (GE Z (Ex.add Z Z (by omega)) Z (GB ah 1 Z (TL.nil (X.back (m':=m19) [1,1] (by omega) ⟨y14,k15+1,by omega,Z,Z,h⟩ (by rfl) (by rfl)))))))))))
  refine Hc Z c30 (GC Z (GB ah 2 Z ?_))
  obtain rfl:=JP h
  obtain rfl:=JP hO18
  exact GD (T.ret (GH (GN (GH (GH (GN (GH (GL [2] Mp (GF Z)))))))))
def bY (a0:aw) (a1:Int):List aR→Int→Option (Lp Int Int)
 | [],y51=>some (Lp.go y51)
 | x57::xs,y51=>(dD a0 x57.Jf a1).bind fun x65=>if x65=0 then (bY a0 a1 xs y51) else some (Lp.ret x65)
def bZ (a0:aw) (a1:Int):List aD→Int→Option (Lp Int Int)
 | [],y37=>some (Lp.go y37)
 | x43::xs,y37=>(bY a0 a1 x43.I7 y37).bind fun e=>match e with | .ret r=>some (Lp.ret r) | .go y68=>(bZ a0 a1 xs y68)
def cf (a0:aw) (a1:Int):Option (Int):=((nQ a0.Jc).bind fun x12=>if x12=true then (if a0.Jc.null=true then some false else ((lL a0.Jc.data).bind fun x16=>if x16=true then some false else some true)) else some true).bind fun y10=>if y10=true then some 4 else ((if a0.Ju<(-1) then some true else (if a0.Ju>1 then some true else (if a0.Jb<0 then some true else ((il a0.Jb 4).bind fun x30=>if x30=true then some false else some true)))).bind fun y25=>if y25=true then some 11 else ((hM a0.I5).bind fun x34=>if x34=0 then ((bZ a0 a1 a0.I5 0).bind fun e=>match e with | .ret r=>some r | .go y70=>some 0) else some x34))
theorem gP (a0:aw) (A1:Option Addr) (c2:Nat) (a1:Int) (r:Int) (h:cf a0 a1=some r):aE Tryz.prog 156 #[.agg #[.bool a0.Jc.null,jS a0.Jc.data,jI a0.Ju,jI a0.Jb,.slice A1 a0.I5.length c2],jI a1] (RX.of (ao 2 aH) [.slice A1 a0.I5.length c2] a0.I5) (aO) (fun v A' N=>v=jI r∧A'=aO∧N = []):=by
 refine aU Tryz.func156 Z Tryz.ntmps156 Z ?_
 intro F w hX
 unfold cf at h
 refine GC Z (TL.box Z .u Z Z (fun b3=>(GK ah Z (T.seq (T.block (T.seq ?_))))))
 obtain⟨y10,h,hk11⟩:=JO h
 refine HJ (fun e Rs=>e = [(1,jI a1),(2,jP b3),(4,jI 0),(11,.bool y10)]∧Rs = [aT b3 36 #[.bool a0.Jc.null,jS a0.Jc.data,jI a0.Ju,jI a0.Jb,.slice A1 a0.I5.length c2],aO]) ?_ ?_
 ·clear hk11
  refine T.region Z (GB ah 1 Z (GE Z (GR (us := [.bool a0.Jc.null,jS a0.Jc.data]) 0 Z Kt J2 Z Z Z) Z ?_))
  obtain⟨x12,hx13,h⟩:=JO h
  refine GZ Z .u (.fn Tryz.call148 Z) (lK a0.Jc _ hx13) rT Z ?_
  rcases jF h with⟨c14,h⟩ | ⟨c14,h⟩
  ·refine GB ah 2 Z (GI 16 Z (aZ c14) ?_)
   rcases jF h with⟨c15,h⟩ | ⟨c15,h⟩
   ·refine GG ah bb 0 Z 5 Z Z (GI 21 Z (aZ c15) (GJ ah 8 Z ?_))
    cases h
    exact TL.nil (GP [0,0])
   replace c15:=JW c15
   refine GG ah bb 0 Z 5 Z Z (GI 21 Z (bw c15) ?_)
   obtain⟨x16,hx17,h⟩:=JO h
   refine GG ah bb 0 Z 3 Z Z (GZ Z (.g Z Z Z) (.fn Tryz.call87 Z) (Hy (fun w=>kO a0.Jc.data _ hx17 w)) (fun _ _=>Hi _ _) Z (GJ ah 4 Z ?_))
   rcases jF h with⟨c18,h⟩ | ⟨c18,h⟩
   ·cases h
    exact TL.nil (Hx (d:=11) (v':= .bool false) Z (congrArg Value.bool (aZ c18)) (GP [0,0]))
   replace c18:=JW c18
   cases h
   exact TL.nil (Hx (d:=11) (v':= .bool true) Z (congrArg Value.bool (bw c18)) (GP [0,0]))
  replace c14:=JW c14
  refine GB ah 2 Z (GI 16 Z (bw c14) (GJ ah 13 Z ?_))
  cases h
  exact TL.nil (GP [0,0])
 rintro _ _ ⟨rfl,rfl⟩
 clear h
 have h:=hk11
 clear hk11
 try dsimp only at h
 rcases jF h with⟨c19,h⟩ | ⟨c19,h⟩
 ·refine X.seq (GO Z c19 (GC Z (GB ah 1 Z ?_)))
  obtain rfl:=JP h
  exact GD (T.ret (GN (GH (GL [1] Mq (GF Z)))))
 replace c19:=JW c19
 refine X.seq (G7 Z c19 (T.seq ?_))
 obtain⟨y25,h,hk26⟩:=JO h
 refine HJ (fun e Rs=>e = [(1,jI a1),(2,jP b3),(4,jI 0),(29,.bool y25)]∧Rs = [aT b3 36 #[.bool a0.Jc.null,jS a0.Jc.data,jI a0.Ju,jI a0.Jb,.slice A1 a0.I5.length c2],aO]) ?_ ?_
 ·clear hk26
  refine T.region Z ?_
  rcases jF h with⟨c27,h⟩ | ⟨c27,h⟩
  ·refine GG ah bb 0 Z 4 Z Z (GI 33 Z (JS c27) (GJ ah 16 Z ?_))
   cases h
   exact TL.nil (GP [0,0])
  refine GG ah bb 0 Z 4 Z Z (GI 33 Z (JT c27) ?_)
  rcases jF h with⟨c28,h⟩ | ⟨c28,h⟩
  ·refine GG ah bb 0 Z 5 Z Z (GI 38 Z (JS c28) (GJ ah 11 Z ?_))
   cases h
   exact TL.nil (GP [0,0])
  refine GG ah bb 0 Z 5 Z Z (GI 38 Z (JT c28) ?_)
  rcases jF h with⟨c29,h⟩ | ⟨c29,h⟩
  ·refine GG ah bb 0 Z 5 Z Z (GI 43 Z (JS c29) (GJ ah 6 Z ?_))
   cases h
   exact TL.nil (GP [0,0])
  refine GG ah bb 0 Z 5 Z Z (GI 43 Z (JT c29) ?_)
  obtain⟨x30,hx31,h⟩:=JO h
  refine GG ah bb 0 Z 2 Z Z (GZ Z (.g Z Z Z) (.fn Tryz.call101 Z) (Hy (fun w=>de a0.Jb 4 _ hx31 w)) (fun _ _=>Hi _ _) Z (GJ ah 3 Z ?_))
  rcases jF h with⟨c32,h⟩ | ⟨c32,h⟩
  ·cases h
   exact TL.nil (Hx (d:=29) (v':= .bool false) Z (congrArg Value.bool (aZ c32)) (GP [0,0]))
  replace c32:=JW c32
  cases h
  exact TL.nil (Hx (d:=29) (v':= .bool true) Z (congrArg Value.bool (bw c32)) (GP [0,0]))
 rintro _ _ ⟨rfl,rfl⟩
 clear h
 have h:=hk26
 clear hk26
 try dsimp only at h
 rcases jF h with⟨c33,h⟩ | ⟨c33,h⟩
 ·refine X.seq (GO Z c33 (GC Z (GB ah 1 Z ?_)))
  obtain rfl:=JP h
  exact GD (T.ret (GN (GH (GL [1] Mq (GF Z)))))
 replace c33:=JW c33
 refine X.seq (G7 Z c33 (T.skip (GX (X.seq (T.seq (GC Z ?_))))))
 obtain⟨x34,hx35,h⟩:=JO h
 refine GG ah bb 0 Z 2 Z Z (GZ Z .u (.fn Tryz.call194 Z) (pf a0.I5 _ _ _ hx35) (fun _ hs=>(GS hs hX)) Z (G4 ah Z Z (GB ah 2 Z ?_)))
 rcases jF h with⟨c36,h⟩ | ⟨c36,h⟩
 ·refine He Z c36 (GW (T.seq (GC Z (GG ah bb 0 Z 2 Z Z (GE Z (GQ Z KE) Z (GK ah Z (T.block ?_)))))))
  obtain⟨E39,hE40,hO41⟩:=JO h
  have hk45len:=Hq hX
  refine Hv (fun m e Rs=> ∃ (y37:Int) (k38:Nat),k38+m=a0.I5.length∧e = [(1,jI a1),(2,jP b3),(4,jI y37),(56,.slice A1 a0.I5.length c2),(57,jI (a0.I5.length:Int)),(58,jI (k38:Int))]∧Rs = [aT b3 36 #[.bool a0.Jc.null,jS a0.Jc.data,jI a0.Ju,jI a0.Jb,.slice A1 a0.I5.length c2],aO]∧bZ a0 a1 (a0.I5.drop k38) y37=some E39) (a0.I5.length) [0,0] ⟨0,0,by simp,Z,Z,by rw[List.drop_zero]; exact hE40⟩ (by rfl) (by rfl) ?_
  clear hE40 h
  rintro m42 _ _ ⟨y37,k38,hk45,rfl,rfl,h⟩
  cases m42 with
  | zero =>
   rw[List.drop_of_length_le (by omega),bZ] at h
   have hk45ge: ¬ ((k38:Int)<(a0.I5.length:Int)):=by omega
   refine GC Z (GK ah Z (T.seq (G7 Z (JT hk45ge) ?_)))
   obtain rfl:=JP h
   replace h:=hO41
   clear hO41
   try dsimp only at h
   refine T.exit (GT (GT (Hu (X.seq (GC Z (GB ah 1 Z ?_))))))
   obtain rfl:=JP h
   exact GD (T.ret (GL [1] Mq (GF Z)))
  | succ m42 =>
   obtain⟨x43,hxx43⟩: ∃ x,a0.I5[k38]? = some x:=⟨_,List.getElem?_eq_getElem (by omega)⟩
   rw[bz hxx43,bZ] at h
   have hk45lt:(k38:Int)<(a0.I5.length:Int):=by omega
   refine GC Z (GK ah Z (T.seq (GO Z (JS hk45lt) ?_)))
   obtain⟨gz46,oz46,rfl,z46cs,z46cl,z46cc,z46nf,z46r⟩:=Hg (by decide) hX hxx43
   obtain⟨z46S,z46r,z46rr⟩:=z46r
   obtain⟨A47,c48,rfl,z46s0⟩:=z46r
   have hX49:(RX.of (ao 2 bN) [.slice A47 x43.I7.length c48] x43.I7).reads w F:=⟨z46S,z46s0,z46rr⟩
   refine GW (T.seq (T.block (GC Z ?_)))
   refine GE Z (GY (k:=k38) Z Z Z KE KJ (JV hxx43).1) Z ?_
   refine GE Z (HW (us := [jS x43.Jd,.slice A47 x43.I7.length c48]) 0 Z Mg KJ z46nf z46cc Z Z Z) Z (TL.alloc Z .u Tryz.zeroValue176 Z (fun b50=>(GU (cs':= #[jS x43.Jd,.slice A47 x43.I7.length c48]) Z .u Z Z KJ Z Z Z Z (GV Z (GG ah bb 0 Z 2 Z Z (GE Z (GQ Z KD) Z (GK ah Z (T.block ?_))))))))
   obtain⟨E53,hE54,hO55⟩:=JO h
   have hk59len:=Hq hX49
   refine Hv (fun m e Rs=> ∃ (y51:Int) (k52:Nat),k52+m=x43.I7.length∧e = [(1,jI a1),(2,jP b3),(4,jI y51),(56,.slice (some ⟨gz46,oz46,none⟩) a0.I5.length c2),(57,jI (a0.I5.length:Int)),(58,jI (k38:Int)),(63,.slice A47 x43.I7.length c48),(64,jI (x43.I7.length:Int)),(65,jI (k52:Int))]∧Rs = [aT b50 176 #[jS x43.Jd,.slice A47 x43.I7.length c48],aT b3 36 #[.bool a0.Jc.null,jS a0.Jc.data,jI a0.Ju,jI a0.Jb,.slice (some ⟨gz46,oz46,none⟩) a0.I5.length c2],aO]∧bY a0 a1 (x43.I7.drop k52) y51=some E53) (x43.I7.length) [0,0,0] ⟨y37,0,by simp,Z,Z,by rw[List.drop_zero]; exact hE54⟩ (by rfl) (by rfl) ?_
   clear hE54 h
   rintro m56 _ _ ⟨y51,k52,hk59,rfl,rfl,h⟩
   cases m56 with
   | zero =>
    rw[List.drop_of_length_le (by omega),bY] at h
    have hk59ge: ¬ ((k52:Int)<(x43.I7.length:Int)):=by omega
    refine GC Z (GK ah Z (T.seq (G7 Z (JT hk59ge) ?_)))
    obtain rfl:=JP h
    replace h:=hO55
    clear hO55
    try dsimp only at h
    exact T.exit (GT (GT (Hu (GX (X.seq (T.region Z (GE Z (Ex.add Z Z (by omega)) Z (GB ah 1 Z (TL.nil (X.back (m':=m42) [1,1] (by omega) ⟨y51,k38+1,by omega,Z,Z,h⟩ (by rfl) (by rfl)))))))))))
   | succ m56 =>
    obtain⟨x57,hxx57⟩: ∃ x,x43.I7[k52]? = some x:=⟨_,List.getElem?_eq_getElem (by omega)⟩
    rw[bz hxx57,bY] at h
    have hk59lt:(k52:Int)<(x43.I7.length:Int):=by omega
    refine GC Z (GK ah Z (T.seq (GO Z (JS hk59lt) ?_)))
    obtain⟨gz60,oz60,rfl,z60cs,z60cl,z60cc,z60nf,z60r⟩:=Hg (by decide) hX49 hxx57
    obtain⟨z60S,z60r,z60rr⟩:=z60r
    obtain⟨A61,c62,rfl,z60s0⟩:=z60r
    have hX63:(RX.of (ao 12 dN) [.slice A61 x57.Jf.length c62] x57.Jf).reads w F:=⟨z60S,z60s0,z60rr⟩
    refine GW (T.seq (T.block (GC Z ?_)))
    refine GE Z (GY (k:=k52) Z Z Z KD KC (JV hxx57).1) Z ?_
    refine GE Z (HW (us := [jI x57.Jp,.slice A61 x57.Jf.length c62]) 0 Z LS KC z60nf z60cc Z Z Z) Z (TL.alloc Z .u Tryz.zeroValue179 Z (fun b64=>(GU (cs':= #[jI x57.Jp,.slice A61 x57.Jf.length c62]) Z .u Z Z KC Z Z Z Z (GV Z (GE Z (GR (us := [.bool a0.Jc.null,jS a0.Jc.data,jI a0.Ju,jI a0.Jb,.slice (some ⟨gz46,oz46,none⟩) a0.I5.length c2]) 2 Z Lx KN Z Z Z) Z ?_)))))
    obtain⟨x65,hx66,h⟩:=JO h
    refine GG ah bb 0 Z 3 Z Z (GZ Z .u (.fn Tryz.call195 Z) (km a0 _ _ x57.Jf _ _ a1 _ hx66) (fun _ hs=>(Hn (GS hs hX) (GS hs hX63))) Z (G4 ah Z Z (GB ah 2 Z ?_)))
    rcases jF h with⟨c67,h⟩ | ⟨c67,h⟩
    ·exact He Z c67 (T.skip (GX (X.seq (T.region Z (GE Z (Ex.add Z Z (by omega)) Z (GB ah 1 Z (TL.nil (X.back (m':=m56) [1,1,1] (by omega) ⟨y51,k52+1,by omega,Z,Z,h⟩ (by rfl) (by rfl)))))))))
    refine Hc Z c67 (GC Z (GB ah 2 Z ?_))
    obtain rfl:=JP h
    obtain rfl:=JP hO55
    obtain rfl:=JP hO41
    exact GD (T.ret (GN (GH (GH (GN (GN (GH (GH (GN (GH (GL [3] Mq (GF Z))))))))))))
 refine Hc Z c36 (GC Z (GB ah 2 Z ?_))
 obtain rfl:=JP h
 exact GD (T.ret (GH (GL [1] Mq (GF Z))))
def bL:List aR→(List UInt8×Int)→Option (List UInt8×Int)
 | [],st78=>some st78
 | x83::xs,st78=>(kj x83.Jf).bind fun (x91,x92)=>(if x92=0 then some st78 else ((jH st78 x92).bind fun st100=>some st100)).bind fun st97=>(dK st97 x83.Jp 4).bind fun st102=>(gOf x91).bind fun x104=>(iM st102 x104 4).bind fun st106=>bL xs st106
def bM:List aD→(List UInt8×Int)→Option (List UInt8×Int)
 | [],st16=>some st16
 | x21::xs,st16=>((jc st16 x21.Jd).bind fun st73=>(dK st73 (x21.I7.length:Int) 4).bind fun st75=>(bL x21.I7 st75).bind fun st109=>some st109).bind fun st66=>bM xs st66
def d9 (st:List UInt8×Int) (a0:aw) (a2:Int):Option (List UInt8×Int):=(cf a0 a2).bind fun x4=>if x4=0 then ((iM st a0.Jc 2).bind fun st7=>(dK st7 a0.Ju 2).bind fun st9=>(dK st9 a0.Jb 4).bind fun st11=>(dK st11 (a0.I5.length:Int) 4).bind fun st13=>(bM a0.I5 st13).bind fun st111=>some st111) else ((jH st x4).bind fun st112=>some st112)
theorem kQ (g:Nat) (st:List UInt8×Int) (a0:aw) (A1:Option Addr) (c2:Nat) (a2:Int) (r:List UInt8×Int) (h:d9 st a0 a2=some r):aE Tryz.prog 100 #[.agg #[.bool a0.Jc.null,jS a0.Jc.data,jI a0.Ju,jI a0.Jb,.slice A1 a0.I5.length c2],jP g,jI a2] (RX.of (ao 2 aH) [.slice A1 a0.I5.length c2] a0.I5) (bm g st) (fun v A' N=>v= .tuple #[]∧A'=bm g r∧N = []):=by
 refine aU Tryz.func100 Z Tryz.ntmps100 Z ?_
 intro F w hX
 unfold d9 at h
 refine GC Z (TL.box Z .u Z Z (fun b3=>(GD (T.seq (GC Z (GE Z (GR (us := [.bool a0.Jc.null,jS a0.Jc.data,jI a0.Ju,jI a0.Jb,.slice A1 a0.I5.length c2]) 0 Z Lx KN Z Z Z) Z ?_))))))
 obtain⟨x4,hx5,h⟩:=JO h
 refine GB ah 1 Z (GZ Z .u (.fn Tryz.call156 Z) (gP a0 _ _ a2 _ hx5) (fun _ hs=>(GS hs hX)) Z (G4 ah Z Z (GB ah 2 Z ?_)))
 rcases jF h with⟨c6,h⟩ | ⟨c6,h⟩
 ·refine He Z c6 (Hb Z (GB ah 2 Z (GE Z (GR (us := [.bool a0.Jc.null,jS a0.Jc.data]) 0 Z Kt J2 Z Z Z) Z ?_)))
  obtain⟨st7,hx8,h⟩:=JO h
  refine Hh Z .u (.fn Tryz.call95 Z) (jb g st a0.Jc 2 _ hx8) sT Z (GV Z ?_)
  obtain⟨st9,hx10,h⟩:=JO h
  refine GG ah bb 0 Z 3 Z Z (Hh Z .u (.fn Tryz.call51 Z) (bf g st7 a0.Ju 2 _ hx10) sT Z (GV Z ?_))
  obtain⟨st11,hx12,h⟩:=JO h
  refine GG ah bb 0 Z 3 Z Z (Hh Z .u (.fn Tryz.call51 Z) (bf g st9 a0.Jb 4 _ hx12) sT Z (GV Z (GG ah bb 0 Z 3 Z Z (GE Z (GQ Z KE) Z ?_))))
  obtain⟨st13,hx14,h⟩:=JO h
  refine Hh Z .u (.fn Tryz.call51 Z) (bf g st11 (a0.I5.length:Int) 4 _ hx14) sT Z (GV Z (GG ah bb 0 Z 2 Z Z (GE Z (GQ Z KE) Z (GK ah Z (T.block ?_)))))
  obtain⟨E17,hE18,hO19⟩:=JO h
  have hk23len:=Hq hX
  refine Hv (fun m e Rs=> ∃ (k15:Nat) (st16:List UInt8×Int),k15+m=a0.I5.length∧e = [(1,jP g),(39,.slice A1 a0.I5.length c2),(40,jI (a0.I5.length:Int)),(41,jI (k15:Int))]∧Rs = [aT b3 36 #[.bool a0.Jc.null,jS a0.Jc.data,jI a0.Ju,jI a0.Jb,.slice A1 a0.I5.length c2],bm g st16]∧bM (a0.I5.drop k15) st16=some E17) (a0.I5.length) [0,0] ⟨0,st13,by simp,Z,Z,by rw[List.drop_zero]; exact hE18⟩ (by rfl) (by rfl) ?_
  clear hE18 h
  rintro m20 _ _ ⟨k15,st16,hk23,rfl,rfl,h⟩
  cases m20 with
  | zero =>
   rw[List.drop_of_length_le (by omega),bM] at h
   have hk23ge: ¬ ((k15:Int)<(a0.I5.length:Int)):=by omega
   refine GC Z (GK ah Z (T.seq (G7 Z (JT hk23ge) ?_)))
   obtain rfl:=JP h
   obtain rfl:=JP hO19
   exact T.exit (GT (GT (Hu (H7 [1] Tryz.results100 ⟨Z,Z,Z⟩ (by rfl) (.inr Z)))))
  | succ m20 =>
   obtain⟨x21,hxx21⟩: ∃ x,a0.I5[k15]? = some x:=⟨_,List.getElem?_eq_getElem (by omega)⟩
   rw[bz hxx21,bM] at h
   have hk23lt:(k15:Int)<(a0.I5.length:Int):=by omega
   refine GC Z (GK ah Z (T.seq (GO Z (JS hk23lt) (GW (T.seq ?_)))))
   obtain⟨st66,h,hk67⟩:=JO h
   refine HJ (fun e Rs=>e = [(1,jP g),(39,.slice A1 a0.I5.length c2),(40,jI (a0.I5.length:Int)),(41,jI (k15:Int))]∧Rs = [aT b3 36 #[.bool a0.Jc.null,jS a0.Jc.data,jI a0.Ju,jI a0.Jb,.slice A1 a0.I5.length c2],bm g st66]) ?_ ?_
   ·clear hk67
    obtain⟨gz68,oz68,rfl,z68cs,z68cl,z68cc,z68nf,z68r⟩:=Hg (by decide) hX hxx21
    obtain⟨z68S,z68r,z68rr⟩:=z68r
    obtain⟨A69,c70,rfl,z68s0⟩:=z68r
    have hX71:(RX.of (ao 2 bN) [.slice A69 x21.I7.length c70] x21.I7).reads w F:=⟨z68S,z68s0,z68rr⟩
    refine T.block (GC Z ?_)
    refine GE Z (GY (k:=k15) Z Z Z KE KJ (JV hxx21).1) Z ?_
    refine GE Z (HW (us := [jS x21.Jd,.slice A69 x21.I7.length c70]) 0 Z Mg KJ z68nf z68cc Z Z Z) Z (TL.alloc Z .u Tryz.zeroValue176 Z (fun b72=>(GU (cs':= #[jS x21.Jd,.slice A69 x21.I7.length c70]) Z .u Z Z KJ Z Z Z Z (GV Z ?_))))
    obtain⟨st73,hx74,h⟩:=JO h
    refine GG ah bb 0 Z 3 Z Z (HY Z .u (.fn Tryz.call88 Z) (j2 g st16 x21.Jd _ hx74) sT Z (GV Z (GG ah bb 0 Z 3 Z Z (GE Z (GQ Z KD) Z ?_))))
    obtain⟨st75,hx76,h⟩:=JO h
    refine HY Z .u (.fn Tryz.call51 Z) (bf g st73 (x21.I7.length:Int) 4 _ hx76) sT Z (GV Z (GG ah bb 0 Z 2 Z Z (GE Z (GQ Z KD) Z (GK ah Z (T.block ?_)))))
    obtain⟨E79,hE80,hO81⟩:=JO h
    have hk85len:=Hq hX71
    refine Hv (fun m e Rs=> ∃ (k77:Nat) (st78:List UInt8×Int),k77+m=x21.I7.length∧e = [(1,jP g),(39,.slice (some ⟨gz68,oz68,none⟩) a0.I5.length c2),(40,jI (a0.I5.length:Int)),(41,jI (k15:Int)),(55,.slice A69 x21.I7.length c70),(56,jI (x21.I7.length:Int)),(57,jI (k77:Int))]∧Rs = [aT b72 176 #[jS x21.Jd,.slice A69 x21.I7.length c70],aT b3 36 #[.bool a0.Jc.null,jS a0.Jc.data,jI a0.Ju,jI a0.Jb,.slice (some ⟨gz68,oz68,none⟩) a0.I5.length c2],bm g st78]∧bL (x21.I7.drop k77) st78=some E79) (x21.I7.length) [0,0,0] ⟨0,st75,by simp,Z,Z,by rw[List.drop_zero]; exact hE80⟩ (by rfl) (by rfl) ?_
    clear hE80 h
    rintro m82 _ _ ⟨k77,st78,hk85,rfl,rfl,h⟩
    cases m82 with
    | zero =>
     rw[List.drop_of_length_le (by omega),bL] at h
     have hk85ge: ¬ ((k77:Int)<(x21.I7.length:Int)):=by omega
     refine GC Z (GK ah Z (T.seq (G7 Z (JT hk85ge) ?_)))
     obtain rfl:=JP h
     replace h:=hO81
     clear hO81
     try dsimp only at h
     cases h
     exact T.exit (GT (GT (Hu (GX (GP [1,1])))))
    | succ m82 =>
     obtain⟨x83,hxx83⟩: ∃ x,x21.I7[k77]? = some x:=⟨_,List.getElem?_eq_getElem (by omega)⟩
     rw[bz hxx83,bL] at h
     have hk85lt:(k77:Int)<(x21.I7.length:Int):=by omega
     refine GC Z (GK ah Z (T.seq (GO Z (JS hk85lt) ?_)))
     obtain⟨gz86,oz86,rfl,z86cs,z86cl,z86cc,z86nf,z86r⟩:=Hg (by decide) hX71 hxx83
     obtain⟨z86S,z86r,z86rr⟩:=z86r
     obtain⟨A87,c88,rfl,z86s0⟩:=z86r
     have hX89:(RX.of (ao 12 dN) [.slice A87 x83.Jf.length c88] x83.Jf).reads w F:=⟨z86S,z86s0,z86rr⟩
     refine GW (T.seq (T.block (GC Z ?_)))
     refine GE Z (GY (k:=k77) Z Z Z KD KC (JV hxx83).1) Z ?_
     refine GE Z (HW (us := [jI x83.Jp,.slice A87 x83.Jf.length c88]) 0 Z LS KC z86nf z86cc Z Z Z) Z (TL.alloc Z .u Tryz.zeroValue179 Z (fun b90=>(GU (cs':= #[jI x83.Jp,.slice A87 x83.Jf.length c88]) Z .u Z Z KC Z Z Z Z (GV Z ?_))))
     obtain⟨⟨x91,x92⟩,hx93,h⟩:=JO h
     try dsimp only at h
     refine GG ah bb 0 Z 2 Z Z (GZ Z .u (.fn Tryz.call157 Z) (sw x83.Jf _ _ _ hx93) (fun _ hs=>(GS hs hX89)) Z (GK ah Z (T.seq (GC Z (GK ah Z ?_)))))
     obtain⟨st97,h,hk98⟩:=JO h
     refine HJ (fun e Rs=>e = [(1,jP g),(10,jP b90),(11,jS x91),(39,.slice (some ⟨gz68,oz68,none⟩) a0.I5.length c2),(40,jI (a0.I5.length:Int)),(41,jI (k15:Int)),(55,.slice (some ⟨gz86,oz86,none⟩) x21.I7.length c70),(56,jI (x21.I7.length:Int)),(57,jI (k77:Int))]∧Rs = [aT b90 179 #[jI x83.Jp,.slice A87 x83.Jf.length c88],aT b72 176 #[jS x21.Jd,.slice (some ⟨gz86,oz86,none⟩) x21.I7.length c70],aT b3 36 #[.bool a0.Jc.null,jS a0.Jc.data,jI a0.Ju,jI a0.Jb,.slice (some ⟨gz68,oz68,none⟩) a0.I5.length c2],bm g st97]) ?_ ?_
     ·clear hk98
      rcases jF h with⟨c99,h⟩ | ⟨c99,h⟩
      ·refine T.nn Z c99 ?_
       cases h
       exact T.skip (GP [0,0,0,0])
      refine T.yn Z c99 (T.region Z ?_)
      obtain⟨st100,hx101,h⟩:=JO h
      refine GB ah 2 Z (Iu Z .u (.fn Tryz.call94 Z) (ga g st78 x92 _ hx101) sT Z ?_)
      cases h
      exact TL.nil (GP [0,0,0,0])
     rintro _ _ ⟨rfl,rfl⟩
     clear h
     have h:=hk98
     clear hk98
     try dsimp only at h
     refine X.seq (GC Z ?_)
     obtain⟨st102,hx103,h⟩:=JO h
     refine GG ah bb 0 Z 3 Z Z (Iu Z .u (.fn Tryz.call51 Z) (bf g st97 x83.Jp 4 _ hx103) sT Z (GD (T.region Z ?_)))
     obtain⟨x104,hx105,h⟩:=JO h
     refine GB ah 2 Z (GZ Z .u (.fn Tryz.call143 Z) (DT x91 _ hx105) rT Z ?_)
     obtain⟨st106,hx107,h⟩:=JO h
     exact Iu Z .u (.fn Tryz.call95 Z) (jb g st102 x104 4 _ hx107) sT Z (TL.nil (GX (X.seq (T.region Z (GE Z (Ex.add Z Z (by omega)) Z (GB ah 1 Z (TL.nil (X.back (m':=m82) [1,1,1] (by omega) ⟨k77+1,st106,by omega,Z,Z,h⟩ (by rfl) (by rfl)))))))))
   rintro _ _ ⟨rfl,rfl⟩
   clear h
   have h:=hk67
   clear hk67
   try dsimp only at h
   exact X.seq (T.region Z (GE Z (Ex.add Z Z (by omega)) Z (GB ah 1 Z (TL.nil (X.back (m':=m20) [0,0] (by omega) ⟨k15+1,st66,by omega,Z,Z,h⟩ (by rfl) (by rfl))))))
 refine Hc Z c6 (GC Z ?_)
 obtain⟨st112,hx113,h⟩:=JO h
 refine GB ah 2 Z (Hh Z .u (.fn Tryz.call94 Z) (ga g st x4 _ hx113) sT Z ?_)
 obtain rfl:=JP h
 exact GD (T.ret (GH (H7 [1] Tryz.results100 ⟨Z,Z,Z⟩ (by rfl) (.inl Z))))
def cg:Nat→List Bat→I→I→Option (List Bat×I×I)
 | 0,_,_,_=>none
 | m29+1,y21,st24,st25=>((gJ st25).bind fun (x44,st45)=>if x44=0 then ((ud st24).bind fun (x48,st49)=>if x48>0 then some (true,st49,st45) else some (false,st49,st45)) else some (false,st24,st45)).bind fun (y40,st41,st42)=>if y40=true then ((ij st41).bind fun (x53,st56)=>if (y21.length+1)*96≤140737488355328 then ((gJ st56).bind fun (x62,st63)=>(if x62=0 then some st42 else ((bU st42 x62).bind fun st71=>some st71)).bind fun st68=>cg m29 (y21 ++ [x53]) st63 st68) else none) else some (y21,st41,st42)
def f7 (st:I)  : Option (aR×I):=(dL st 4).bind fun (x2,st3)=>(jK st3 4).bind fun (x6,st7)=>(if x6.null=true then ((bU st7 4).bind fun st16=>some st16) else some st7).bind fun st13=>(tn x6.data).bind fun st18=>(cg (((st18.rest.length:Int)+(st13.rest.length:Int)+1).toNat+1) [] st18 st13).bind fun (y73,st76,st77)=>some ((⟨x2,y73⟩:aR),st77)
theorem kJ (g:Nat) (st:I)  (r:aR×I) (h:f7 st  = some r):aE Tryz.prog 173 #[jP g] .triv (InR g st) (fun v A' N=> ∃ (A78:Option Addr) (c79:Nat),v= .agg #[jI r.1.Jp,.slice A78 r.1.Jf.length c79]∧A'=InR g r.2∧N = [RdR (ao 12 dN) [.slice A78 r.1.Jf.length c79] r.1.Jf]):=by
 refine aU Tryz.func173 Z Tryz.ntmps173 Z ?_
 intro F w hX
 unfold f7 at h
 refine GC Z (TL.alloc Z .u Tryz.zeroValue179 Z (fun b1=>(GV Z ?_)))
 obtain⟨⟨x2,st3⟩,hx4,h⟩:=JO h
 try dsimp only at h
 refine GB ah 1 Z (Hh Z .u (.fn Tryz.call68 Z) (bj g st 4 _ hx4) sT Z ?_)
 refine GE Z (Hf (cells:= #[jI x2,.slice none 0 0]) tK Z (by kernel_rfl)) Z ?_
 refine TL.alloc Z .u Tryz.zeroValue179 Z (fun b5=>(GU (cs':= #[jI x2,.slice none 0 0]) Z .u Z Z KC Z Z Z Z (GV Z ?_)))
 obtain⟨⟨x6,st7⟩,hx8,h⟩:=JO h
 try dsimp only at h
 refine GB ah 1 Z (HY Z .u (.fn Tryz.call142 Z) (iN g st3 4 _ hx8) sT Z (TL.alloc Z .u Tryz.zeroValue23 Z (fun b9=>(GU (cs':= #[.bool x6.null,jS x6.data]) Z .u Z Z J2 Z Z Z Z (GD (T.seq (GC Z (Ir ah bb 0 Z Z Z ?_))))))))
 obtain⟨st13,h,hk14⟩:=JO h
 refine HJ (fun e Rs=>e = [(0,jP g),(2,jP b1),(3,jP b5),(4,jP b9)]∧Rs = [aT b9 23 #[.bool x6.null,jS x6.data],aT b5 179 #[jI x2,.slice none 0 0],aT b1 179 #[jI 0,.slice none 0 0],InR g st13]) ?_ ?_
 ·clear hk14
  rcases jF h with⟨c15,h⟩ | ⟨c15,h⟩
  ·refine GO Z c15 (T.region Z ?_)
   obtain⟨st16,hx17,h⟩:=JO h
   refine GB ah 1 Z (Iu Z .u (.fn Tryz.call70 Z) (bx g st7 4 _ hx17) sT Z ?_)
   cases h
   exact TL.nil (GP [0,0,0,0])
  replace c15:=JW c15
  refine G7 Z c15 ?_
  cases h
  exact T.skip (GP [0,0,0,0])
 rintro _ _ ⟨rfl,rfl⟩
 clear h
 have h:=hk14
 clear hk14
 try dsimp only at h
 refine X.seq (GC Z ?_)
 obtain⟨st18,hx19,h⟩:=JO h
 refine GG ah bb 0 Z 2 Z Z (It Z .u (.fn Tryz.call19 Z) (iL x6.data _ hx19) rT Z ?_)
 rintro _ _ _ ⟨b20,rfl,rfl,rfl⟩
 refine Hz [0,0,0,0,0] Z (GK ah Z (T.seq (T.block (Ih 97 12 dN ?_))))
 obtain⟨E26,hE27,hO28⟩:=JO h
 refine Hv (fun m e Rs=> ∃ (y21:List Bat) (A22:Option Addr) (c23:Nat) (st24:I) (st25:I),e = [(0,jP g),(2,jP b1),(3,jP b5),(5,jP b20)]∧Rs = [cI 97 12 dN (.slice A22 y21.length c23) y21,InR b20 st24,aT b9 23 #[.bool x6.null,jS x6.data],aT b5 179 #[jI x2,.slice A22 y21.length c23],aT b1 179 #[jI 0,.slice none 0 0],InR g st25]∧cg m y21 st24 st25=some E26) (((st18.rest.length:Int)+(st13.rest.length:Int)+1).toNat+1) [0,0,0,0,0,0] ⟨[],none,0,st18,st13,Z,Z,by exact hE27⟩ (by rfl) (by rfl) ?_
 clear hE27 h
 rintro m29 _ _ ⟨y21,A22,c23,st24,st25,rfl,rfl,h⟩
 cases m29 with
 | zero =>
  rw[cg] at h
  cases h
 | succ m29 =>
  rw[cg] at h
  refine In ?_
  obtain⟨⟨y40,st41,st42⟩,h,hk43⟩:=JO h
  refine HJ (fun e Rs=>e = [(0,jP g),(2,jP b1),(3,jP b5),(5,jP b20),(26,.bool y40)]∧Rs = [cI 97 12 dN (.slice A22 y21.length c23) y21,InR b20 st41,aT b9 23 #[.bool x6.null,jS x6.data],aT b5 179 #[jI x2,.slice A22 y21.length c23],aT b1 179 #[jI 0,.slice none 0 0],InR g st42]) ?_ ?_
  ·clear hk43
   refine T.region Z ?_
   obtain⟨⟨x44,st45⟩,hx46,h⟩:=JO h
   try dsimp only at h
   refine GB ah 1 Z (IK Z .u (.fn Tryz.call23 Z) (cc g st25 _ hx46) sT Z ?_)
   rcases jF h with⟨c47,h⟩ | ⟨c47,h⟩
   ·refine GB ah 2 Z (GI 22 Z (JS c47) ?_)
    obtain⟨⟨x48,st49⟩,hx50,h⟩:=JO h
    try dsimp only at h
    refine GJ ah 1 Z (Hh Z (.g Z Z Z) (.fn Tryz.call71 Z) (mK b20 st24 _ hx50) sT Z (GJ ah 2 Z ?_))
    rcases jF h with⟨c51,h⟩ | ⟨c51,h⟩
    ·cases h
     exact TL.nil (Hx (d:=26) (v':= .bool true) Z (congrArg Value.bool (JS c51)) (GP [0,0,0,0,0,0]))
    cases h
    exact TL.nil (Hx (d:=26) (v':= .bool false) Z (congrArg Value.bool (JT c51)) (GP [0,0,0,0,0,0]))
   refine GB ah 2 Z (GI 22 Z (JT c47) (GJ ah 4 Z ?_))
   cases h
   exact TL.nil (GP [0,0,0,0,0,0])
  rintro _ _ ⟨rfl,rfl⟩
  clear h
  have h:=hk43
  clear hk43
  try dsimp only at h
  rcases jF h with⟨c52,h⟩ | ⟨c52,h⟩
  ·refine X.seq (GO Z c52 ?_)
   obtain⟨⟨x53,st56⟩,hx57,h⟩:=JO h
   try dsimp only at h
   obtain⟨c59,h⟩:=ay h
   refine GW (T.block (T.seq ?_))
   refine IX (fun e Rs=> ∃ (A54:Option Addr) (c55:Nat) (b58:Nat) (A60:Option Addr) (c61:Nat),e = [(0,jP g),(2,jP b1),(3,jP b5),(5,jP b20)]∧Rs = [cI 97 12 dN (.slice A60 (y21 ++ [x53]).length c61) (y21 ++ [x53]),InR b20 st56,aT b9 23 #[.bool x6.null,jS x6.data],aT b5 179 #[jI x2,.slice A60 (y21 ++ [x53]).length c61],aT b1 179 #[jI 0,.slice none 0 0],InR g st42]) ?_ ?_
   ·refine Hp (.q 0 (.q 2 (.br 1 (.e 3 (.e 4 (.e 5 (.q 6 (.e 7 .nil))))) (.e 3 (.br 1 (.e 4 (.e 5 (.q 6 (.e 7 .nil)))) (.e 4 (.e 1 (.e 5 (.q 6 (.e 7 .nil)))))))))) [2,3,3] Z lQ ul (by kernel_rfl) ?_
    refine TD.run ah [0,2] Z Z ?_
    refine TD.br ?_ ?_
    ·refine II Z .u (G5 3 Z LI Z Z) Z [2,3,3] Z ?_
     refine TD.cg1 Z .u (.fn Tryz.call80 Z) (lP b20 st41 _ hx57) sT Z [3,4,4] ?_ ?_
     ·rintro _ _ _ ⟨A54,c55,rfl,rfl,rfl⟩
      rfl
     rintro _ _ _ ⟨A54,c55,rfl,rfl,rfl⟩
     refine Ic [0,0,0,0,0,0,0] Z ?_
     refine Ip (cells:=wA0 x53 A54 c55) Z .u jw Z (by kernel_rfl) Z [4,5,5] (fun _=>Z) (fun b58=> ?_)
     refine IW 1 0 Z .u (us:=wL5 x53 A54 c55) (u:=x53) (l:=y21) (E:=dN) Tryz.underlying177 lv Z (by decide) Z Z Z Z Z Z Z (fun w G hG=>⟨_,_,Z,hG.1⟩) (by have hq:=c59; omega) (by have hq:=c59; omega) Z [2,3,3] (fun _ _=>Z) (fun A60 c61=> ?_)
     exact Ic [0,0,0,0,0,0] Z (TD.run ah [6] Z Z (IR (cs':= #[jI x2,.slice A60 (y21 ++ [x53]).length c61]) Z .u Z Z L7 Z Z Z Z [2,3,3] (Z) (TD.nil (IC [0,0,0,0,0,0] ⟨A54,c55,b58,A60,c61,Z,Z⟩ (by rfl) (by rfl)))))
    refine TD.cg1 Z .u (.fn Tryz.call80 Z) (lP b20 st41 _ hx57) sT Z [3,4,4] ?_ ?_
    ·rintro _ _ _ ⟨A54,c55,rfl,rfl,rfl⟩
     rfl
    rintro _ _ _ ⟨A54,c55,rfl,rfl,rfl⟩
    refine Ic [0,0,0,0,0,0,0] Z ?_
    refine TD.br ?_ ?_
    ·refine II Z .u (G5 4 Z LI Z Z) Z [3,4,4] Z ?_
     refine Ip (cells:=wA0 x53 A54 c55) Z .u jw Z (by kernel_rfl) Z [4,5,5] (fun _=>Z) (fun b58=> ?_)
     refine IW 1 0 Z .u (us:=wL5 x53 A54 c55) (u:=x53) (l:=y21) (E:=dN) Tryz.underlying177 lv Z (by decide) Z Z Z Z Z Z Z (fun w G hG=>⟨_,_,Z,hG.1⟩) (by have hq:=c59; omega) (by have hq:=c59; omega) Z [2,3,3] (fun _ _=>Z) (fun A60 c61=> ?_)
     exact Ic [0,0,0,0,0,0] Z (TD.run ah [6] Z Z (IR (cs':= #[jI x2,.slice A60 (y21 ++ [x53]).length c61]) Z .u Z Z L7 Z Z Z Z [2,3,3] (Z) (TD.nil (IC [0,0,0,0,0,0] ⟨A54,c55,b58,A60,c61,Z,Z⟩ (by rfl) (by rfl)))))
    refine Ip (cells:=wA0 x53 A54 c55) Z .u jw Z (by kernel_rfl) Z [4,5,5] (fun _=>Z) (fun b58=> ?_)
    refine II Z .u (G5 5 Z LI Z Z) Z [4,5,5] Z ?_
    refine IW 1 0 Z .u (us:=wL5 x53 A54 c55) (u:=x53) (l:=y21) (E:=dN) Tryz.underlying177 lv Z (by decide) Z Z Z Z Z Z Z (fun w G hG=>⟨_,_,Z,hG.1⟩) (by have hq:=c59; omega) (by have hq:=c59; omega) Z [2,3,3] (fun _ _=>Z) (fun A60 c61=> ?_)
    exact Ic [0,0,0,0,0,0] Z (TD.run ah [6] Z Z (IR (cs':= #[jI x2,.slice A60 (y21 ++ [x53]).length c61]) Z .u Z Z L7 Z Z Z Z [2,3,3] (Z) (TD.nil (IC [0,0,0,0,0,0] ⟨A54,c55,b58,A60,c61,Z,Z⟩ (by rfl) (by rfl)))))
   rintro _ _ ⟨A54,c55,b58,A60,c61,rfl,rfl⟩
   refine X.seq (GC Z ?_)
   obtain⟨⟨x62,st63⟩,hx64,h⟩:=JO h
   try dsimp only at h
   refine GB ah 1 Z (Hh Z .u (.fn Tryz.call23 Z) (cc b20 st56 _ hx64) sT Z (G4 ah Z Z (GK ah Z ?_)))
   obtain⟨st68,h,hk69⟩:=JO h
   refine HJ (fun e Rs=>e = [(0,jP g),(2,jP b1),(3,jP b5),(5,jP b20)]∧Rs = [cI 97 12 dN (.slice A60 (y21 ++ [x53]).length c61) (y21 ++ [x53]),InR b20 st63,aT b9 23 #[.bool x6.null,jS x6.data],aT b5 179 #[jI x2,.slice A60 (y21 ++ [x53]).length c61],aT b1 179 #[jI 0,.slice none 0 0],InR g st68]) ?_ ?_
   ·clear hk69
    rcases jF h with⟨c70,h⟩ | ⟨c70,h⟩
    ·refine T.nn Z c70 ?_
     cases h
     exact T.skip (GP [0,0,0,0,0,0])
    refine T.yn Z c70 (T.region Z ?_)
    obtain⟨st71,hx72,h⟩:=JO h
    refine GB ah 2 Z (IK Z .u (.fn Tryz.call70 Z) (bx g st42 x62 _ hx72) sT Z ?_)
    cases h
    exact TL.nil (GP [0,0,0,0,0,0])
   rintro _ _ ⟨rfl,rfl⟩
   clear h
   have h:=hk69
   clear hk69
   try dsimp only at h
   exact GX (X.back (m':=m29) [0,0,0,0,0,0] (by omega) ⟨(y21 ++ [x53]),A60,c61,st63,st68,Z,Z,h⟩ (by rfl) (by rfl))
  replace c52:=JW c52
  refine X.seq (G7 Z c52 ?_)
  obtain rfl:=JP h
  replace h:=hO28
  clear hO28
  try dsimp only at h
  refine T.exit (GT (GT (Hu (X.seq (GC Z (GE Z (GR (us := [jI x2,.slice A22 y21.length c23]) 3 Z LS KC Z Z Z) Z (IU (cs':= #[jI x2,.slice A22 y21.length c23]) Z .u Z Z KC Z Z Z Z ?_)))))))
  obtain rfl:=JP h
  exact GD (T.ret (IZ (by decide) 0 Z (HK [0,0,0,0,0,0] Z (G8 [5,0] Tryz.results173 (Hs (us:= #[jI x2,.slice A22 y21.length c23]) 4 Z LS KC Z Z) ⟨_,_,Z,Z,Z⟩ (by rfl) (.inl Z)))))
def bT (x32:Int):Nat→Nat→List aR→I→Option (Lp (aw×I) (Nat×List aR×I))
 | 0,_,_,_=>none
 | m43+1,k35,y36,st39=>if (k35:Int)<x32 then ((f7 st39).bind fun (x48,st51)=>if (y36.length+1)*32≤140737488355328 then ((gJ st51).bind fun (x57,st58)=>if x57=0 then (if -9223372036854775808≤((k35:Int)+1)∧((k35:Int)+1)≤9223372036854775807 then (bT x32 m43 (k35+1) (y36 ++ [x48]) st58) else none) else (some (Lp.ret ((⟨(⟨false,[]⟩:Bl),0,0,[]⟩:aw),st58)))) else none) else (some (Lp.go (k35,y36,st39)))
def cP (x12:Int):Nat→Nat→List aD→I→Option (Lp (aw×I) (Nat×List aD×I))
 | 0,_,_,_=>none
 | m23+1,k15,y16,st19=>if (k15:Int)<x12 then ((qr st19).bind fun (x28,st29)=>(ip st29 4 8).bind fun (x32,st33)=>(bT x32 ((x32).toNat+1) 0 [] st33).bind fun e=>match e with | .ret r=>some (Lp.ret r) | .go (k71,y72,st75)=>((gJ st75).bind fun (x76,st77)=>if x76=0 then (if (y16.length+1)*40≤140737488355328 then (if -9223372036854775808≤((k15:Int)+1)∧((k15:Int)+1)≤9223372036854775807 then (cP x12 m23 (k15+1) (y16 ++ [(⟨x28,y72⟩:aD)]) st77) else none) else none) else (some (Lp.ret ((⟨(⟨false,[]⟩:Bl),0,0,[]⟩:aw),st77))))) else (some (Lp.go (k15,y16,st19)))
theorem pg (x12:Int) (u1:Nat) (u2:List aD) (u3:I):cP x12 0 u1 u2 u3=none:=rfl
theorem fT (x12:Int) (m23:Nat) (k15:Nat) (y16:List aD) (st19:I):cP x12 (m23+1) k15 y16 st19=(if (k15:Int)<x12 then ((qr st19).bind fun (x28,st29)=>(ip st29 4 8).bind fun (x32,st33)=>(bT x32 ((x32).toNat+1) 0 [] st33).bind fun e=>match e with | .ret r=>some (Lp.ret r) | .go (k71,y72,st75)=>((gJ st75).bind fun (x76,st77)=>if x76=0 then (if (y16.length+1)*40≤140737488355328 then (if -9223372036854775808≤((k15:Int)+1)∧((k15:Int)+1)≤9223372036854775807 then (cP x12 m23 (k15+1) (y16 ++ [(⟨x28,y72⟩:aD)]) st77) else none) else none) else (some (Lp.ret ((⟨(⟨false,[]⟩:Bl),0,0,[]⟩:aw),st77))))) else (some (Lp.go (k15,y16,st19)))):=rfl
def ea (st:I) (a1:Int):Option (aw×I):=(jK st 2).bind fun (x2,st3)=>(dL st3 2).bind fun (x5,st6)=>(dL st6 4).bind fun (x8,st9)=>(ip st9 4 6).bind fun (x12,st13)=>(cP x12 ((x12).toNat+1) 0 [] st13).bind fun e=>match e with | .ret r=>some r | .go (k116,y117,st120)=>((gJ st120).bind fun (x121,st122)=>(if x121=0 then ((cf (⟨x2,x5,x8,y117⟩:aw) a1).bind fun x138=>(if x138=0 then some st122 else ((bU st122 x138).bind fun st146=>some st146)).bind fun st143=>some st143) else some st122).bind fun st135=>(gJ st135).bind fun (x148,st149)=>if x148=0 then (some ((⟨x2,x5,x8,y117⟩:aw),st149)) else (some ((⟨(⟨false,[]⟩:Bl),0,0,[]⟩:aw),st149)))
theorem ph (g:Nat) (st:I) (a1:Int) (r:aw×I) (h:ea st a1=some r):aE Tryz.prog 120 #[jP g,jI a1] .triv (InR g st) (fun v A' N=> ∃ (A152:Option Addr) (c153:Nat),v= .agg #[.bool r.1.Jc.null,jS r.1.Jc.data,jI r.1.Ju,jI r.1.Jb,.slice A152 r.1.I5.length c153]∧A'=InR g r.2∧N = [RdR (ao 2 aH) [.slice A152 r.1.I5.length c153] r.1.I5]):=by
 refine aU Tryz.func120 Z Tryz.ntmps120 Z ?_
 intro F w hX
 unfold ea at h
 refine GC Z (TL.alloc Z .u Tryz.zeroValue36 Z (fun b1=>(GV Z ?_)))
 obtain⟨⟨x2,st3⟩,hx4,h⟩:=JO h
 try dsimp only at h
 refine GB ah 1 Z (Hh Z .u (.fn Tryz.call142 Z) (iN g st 2 _ hx4) sT Z ?_)
 obtain⟨⟨x5,st6⟩,hx7,h⟩:=JO h
 try dsimp only at h
 refine GB ah 1 Z (Hh Z .u (.fn Tryz.call68 Z) (bj g st3 2 _ hx7) sT Z ?_)
 obtain⟨⟨x8,st9⟩,hx10,h⟩:=JO h
 try dsimp only at h
 refine GB ah 1 Z (Hh Z .u (.fn Tryz.call68 Z) (bj g st6 4 _ hx10) sT Z ?_)
 refine GE Z (Hf (cells:= #[.bool x2.null,jS x2.data,jI x5,jI x8,.slice none 0 0]) ju Z (by kernel_rfl)) Z ?_
 refine TL.alloc Z .u Tryz.zeroValue36 Z (fun b11=>(GU (cs':= #[.bool x2.null,jS x2.data,jI x5,jI x8,.slice none 0 0]) Z .u Z Z KN Z Z Z Z (GD (T.seq (GC Z ?_)))))
 obtain⟨⟨x12,st13⟩,hx14,h⟩:=JO h
 try dsimp only at h
 refine GB ah 1 Z (HY Z .u (.fn Tryz.call144 Z) (ka g st9 4 6 _ hx14) sT Z (GK ah Z (T.block (Ih 176 2 aH ?_))))
 obtain⟨E20,hE21,hO22⟩:=JO h
 refine Hv (fun m e Rs=> ∃ (k15:Nat) (y16:List aD) (A17:Option Addr) (c18:Nat) (st19:I),e = [(0,jP g),(1,jI a1),(4,jP b1),(5,jP b11),(16,jI x12),(17,jI (k15:Int))]∧Rs = [cI 176 2 aH (.slice A17 y16.length c18) y16,aT b11 36 (vA7 x5 x8 A17 c18 (y16).length x2),aT b1 36 #[.bool false,.string ⟨#[]⟩,jI 0,jI 0,.slice none 0 0],InR g st19]∧cP x12 m k15 y16 st19=some E20) ((x12).toNat+1) [0,0,0,0] ⟨0,[],none,0,st13,Z,Z,by exact hE21⟩ (by rfl) (by rfl) ?_
 clear hE21 h
 rintro m23 _ _ ⟨k15,y16,A17,c18,st19,rfl,rfl,h⟩
 cases m23 with
 | zero =>
  rw[pg] at h
  cases h
 | succ m23 =>
  rw[fT] at h
  refine GC Z (GB ah 1 Z ?_)
  rcases jF h with⟨c27,h⟩ | ⟨c27,h⟩
  ·refine GD (T.seq (Ij Z c27 (GW (T.seq (T.block (GC Z ?_))))))
   obtain⟨⟨x28,st29⟩,hx30,h⟩:=JO h
   try dsimp only at h
   refine GB ah 1 Z (Iu Z .u (.fn Tryz.call86 Z) (mN g st19 _ hx30) sT Z ?_)
   refine GE Z (Hf (cells:= #[jS x28,.slice none 0 0]) tJ Z (by kernel_rfl)) Z ?_
   refine TL.alloc Z .u Tryz.zeroValue176 Z (fun b31=>(GU (cs':= #[jS x28,.slice none 0 0]) Z .u Z Z KJ Z Z Z Z (GD (T.seq (GC Z ?_)))))
   obtain⟨⟨x32,st33⟩,hx34,h⟩:=JO h
   try dsimp only at h
   refine GB ah 1 Z (TL.c4 Z .u (.fn Tryz.call144 Z) (ka g st29 4 8 _ hx34) sT Z (GK ah Z (T.block (Ih 179 2 bN ?_))))
   obtain⟨E40,hE41,hO42⟩:=JO h
   refine Hv (fun m e Rs=> ∃ (k35:Nat) (y36:List aR) (A37:Option Addr) (c38:Nat) (st39:I),e = [(0,jP g),(1,jI a1),(4,jP b1),(5,jP b11),(6,jP b31),(16,jI x12),(17,jI (k15:Int)),(23,jI x32),(24,jI (k35:Int))]∧Rs = [cI 179 2 bN (.slice A37 y36.length c38) y36,aT b31 176 #[jS x28,.slice A37 y36.length c38],cI 176 2 aH (.slice A17 y16.length c18) y16,aT b11 36 (vA7 x5 x8 A17 c18 (y16).length x2),aT b1 36 #[.bool false,.string ⟨#[]⟩,jI 0,jI 0,.slice none 0 0],InR g st39]∧bT x32 m k35 y36 st39=some E40) ((x32).toNat+1) [0,0,0,0,0,0] ⟨0,[],none,0,st33,Z,Z,by exact hE41⟩ (by rfl) (by rfl) ?_
   clear hE41 h
   rintro m43 _ _ ⟨k35,y36,A37,c38,st39,rfl,rfl,h⟩
   cases m43 with
   | zero =>
    rw[bT] at h
    cases h
   | succ m43 =>
    rw[bT] at h
    refine GC Z (GB ah 1 Z ?_)
    rcases jF h with⟨c47,h⟩ | ⟨c47,h⟩
    ·refine GD (T.seq (Ij Z c47 ?_))
     obtain⟨⟨x48,st51⟩,hx52,h⟩:=JO h
     try dsimp only at h
     obtain⟨c54,h⟩:=ay h
     refine GW (T.seq (T.block (T.seq ?_)))
     refine IX (fun e Rs=> ∃ (A49:Option Addr) (c50:Nat) (b53:Nat) (A55:Option Addr) (c56:Nat),e = [(0,jP g),(1,jI a1),(4,jP b1),(5,jP b11),(6,jP b31),(16,jI x12),(17,jI (k15:Int)),(23,jI x32),(24,jI (k35:Int))]∧Rs = [cI 179 2 bN (.slice A55 (y36 ++ [x48]).length c56) (y36 ++ [x48]),aT b31 176 #[jS x28,.slice A55 (y36 ++ [x48]).length c56],cI 176 2 aH (.slice A17 y16.length c18) y16,aT b11 36 (vA7 x5 x8 A17 c18 (y16).length x2),aT b1 36 #[.bool false,.string ⟨#[]⟩,jI 0,jI 0,.slice none 0 0],InR g st51]) ?_ ?_
     ·refine Hp (.q 0 (.q 2 (.br 1 (.e 3 (.e 4 (.e 5 (.q 6 (.e 7 .nil))))) (.e 3 (.br 1 (.e 4 (.e 5 (.q 6 (.e 7 .nil)))) (.e 4 (.e 1 (.e 5 (.q 6 (.e 7 .nil)))))))))) [2,2,2] Z lQ ul (by kernel_rfl) ?_
      refine TD.run ah [0,2] Z Z ?_
      refine TD.br ?_ ?_
      ·refine II Z .u (G5 1 Z Mf Z Z) Z [2,2,2] Z ?_
       refine TD.cg5 Z .u (.fn Tryz.call173 Z) (kJ g st39 _ hx52) sT Z [3,3,3] ?_ ?_
       ·rintro _ _ _ ⟨A49,c50,rfl,rfl,rfl⟩
        rfl
       rintro _ _ _ ⟨A49,c50,rfl,rfl,rfl⟩
       refine Ic [0,0,0,0,0,0,0] Z (Ip (cells:= #[jI x48.Jp,.slice A49 x48.Jf.length c50]) Z .u jv Z (by rfl) Z [4,4,4] (fun _=>Z) (fun b53=> ?_))
       refine IW 1 0 Z .u (us := [jI x48.Jp,.slice A49 x48.Jf.length c50]) (u:=x48) (l:=y36) (E:=bN) Tryz.underlying174 kw Z (by decide) Z Z Z Z Z Z Z (fun w G hG=>⟨_,_,Z,hG.1⟩) (by have hq:=c54; omega) (by have hq:=c54; omega) Z [2,2,2] (fun _ _=>Z) (fun A55 c56=> ?_)
       exact Ic [0,0,0,0,0,0] Z (TD.run ah [6] Z Z (IP (cs':= #[jS x28,.slice A55 (y36 ++ [x48]).length c56]) Z .u Z Z Mx Z Z Z Z [2,2,2] (Z) (TD.nil (IC [0,0,0,0,0,0] ⟨A49,c50,b53,A55,c56,Z,Z⟩ (by rfl) (by rfl)))))
      refine TD.cg5 Z .u (.fn Tryz.call173 Z) (kJ g st39 _ hx52) sT Z [3,3,3] ?_ ?_
      ·rintro _ _ _ ⟨A49,c50,rfl,rfl,rfl⟩
       rfl
      rintro _ _ _ ⟨A49,c50,rfl,rfl,rfl⟩
      refine Ic [0,0,0,0,0,0,0] Z ?_
      refine TD.br ?_ ?_
      ·refine II Z .u (G5 2 Z Mf Z Z) Z [3,3,3] Z (Ip (cells:= #[jI x48.Jp,.slice A49 x48.Jf.length c50]) Z .u jv Z (by rfl) Z [4,4,4] (fun _=>Z) (fun b53=> ?_))
       refine IW 1 0 Z .u (us := [jI x48.Jp,.slice A49 x48.Jf.length c50]) (u:=x48) (l:=y36) (E:=bN) Tryz.underlying174 kw Z (by decide) Z Z Z Z Z Z Z (fun w G hG=>⟨_,_,Z,hG.1⟩) (by have hq:=c54; omega) (by have hq:=c54; omega) Z [2,2,2] (fun _ _=>Z) (fun A55 c56=> ?_)
       exact Ic [0,0,0,0,0,0] Z (TD.run ah [6] Z Z (IP (cs':= #[jS x28,.slice A55 (y36 ++ [x48]).length c56]) Z .u Z Z Mx Z Z Z Z [2,2,2] (Z) (TD.nil (IC [0,0,0,0,0,0] ⟨A49,c50,b53,A55,c56,Z,Z⟩ (by rfl) (by rfl)))))
      refine Ip (cells:= #[jI x48.Jp,.slice A49 x48.Jf.length c50]) Z .u jv Z (by rfl) Z [4,4,4] (fun _=>Z) (fun b53=>(II Z .u (G5 3 Z Mf Z Z) Z [4,4,4] Z ?_))
      refine IW 1 0 Z .u (us := [jI x48.Jp,.slice A49 x48.Jf.length c50]) (u:=x48) (l:=y36) (E:=bN) Tryz.underlying174 kw Z (by decide) Z Z Z Z Z Z Z (fun w G hG=>⟨_,_,Z,hG.1⟩) (by have hq:=c54; omega) (by have hq:=c54; omega) Z [2,2,2] (fun _ _=>Z) (fun A55 c56=> ?_)
      exact Ic [0,0,0,0,0,0] Z (TD.run ah [6] Z Z (IP (cs':= #[jS x28,.slice A55 (y36 ++ [x48]).length c56]) Z .u Z Z Mx Z Z Z Z [2,2,2] (Z) (TD.nil (IC [0,0,0,0,0,0] ⟨A49,c50,b53,A55,c56,Z,Z⟩ (by rfl) (by rfl)))))
     rintro _ _ ⟨A49,c50,b53,A55,c56,rfl,rfl⟩
     refine X.seq (GC Z ?_)
     obtain⟨⟨x57,st58⟩,hx59,h⟩:=JO h
     try dsimp only at h
     refine GB ah 1 Z (IK Z .u (.fn Tryz.call23 Z) (cc g st51 _ hx59) sT Z (GB ah 1 Z ?_))
     rcases jF h with⟨c60,h⟩ | ⟨c60,h⟩
     ·refine He Z c60 ?_
      obtain⟨c61,h⟩:=ay h
      exact T.skip (GX (X.seq (T.region Z (GE Z (Ex.add Z Z c61) Z (GB ah 1 Z (TL.nil (X.back (m':=m43) [0,0,0,0,0,0] (by omega) ⟨k35+1,(y36 ++ [x48]),A55,c56,st58,Z,Z,h⟩ (by rfl) (by rfl))))))))
     refine Hc Z c60 (GC Z ?_)
     refine GE Z (Hf (cells:= #[.bool false,.string ⟨#[]⟩,jI 0,jI 0,.slice none 0 0]) ju Z (by kernel_rfl)) Z ?_
     refine IU (cs':= #[.bool false,.string ⟨#[]⟩,jI 0,jI 0,.slice none 0 0]) Z .u Z Z KN Z Z Z Z ?_
     obtain rfl:=JP h
     obtain rfl:=JP hO42
     obtain rfl:=JP hO22
     exact GD (T.ret (GN (GH (GH (GN (GH (GN (GH (GH (GN (GH (G6 2 aH (G8 [6,0] MQ (Hs (us:= #[.bool false,.string ⟨#[]⟩,jI 0,jI 0,.slice none 0 0]) 5 Z Lx KN Z Z) ⟨_,_,Z,Z,Z⟩ (by rfl) (.inl Z))))))))))))))
    refine GD (T.seq (Io Z c47 ?_))
    obtain rfl:=JP h
    replace h:=hO42
    clear hO42
    try dsimp only at h
    refine T.exit (GT (GT (Hu (X.seq (T.seq (GC Z ?_))))))
    obtain⟨⟨x62,st63⟩,hx64,h⟩:=JO h
    try dsimp only at h
    refine GB ah 1 Z (IK Z .u (.fn Tryz.call23 Z) (cc g st39 _ hx64) sT Z (GB ah 1 Z ?_))
    rcases jF h with⟨c65,h⟩ | ⟨c65,h⟩
    ·refine He Z c65 (GW (T.region Z (GG ah bb 3 Z 2 Z Z (GE Z (GR (us := [jS x28,.slice A37 y36.length c38]) 1 Z Mg KJ Z Z Z) Z (Ix (cells:= #[jS x28,.slice A37 y36.length c38]) Z .u sx Z (by rfl) Z (fun b66=> ?_))))))
     obtain⟨c67,h⟩:=ay h
     refine IV 2 0 Z .u (us := [jS x28,.slice A37 y36.length c38]) (u:=(⟨x28,y36⟩:aD)) (l:=y16) (E:=aH) Tryz.underlying34 tL Z (by decide) Z Z Z Z Z Z Z (fun w G hG=>⟨_,_,Z,ed (by decide) _ _ hG⟩) (by have hq:=c67; omega) (by have hq:=c67; omega) Z (fun A68 c69=> ?_)
     refine Hz [0,0,0,0,0] Z (GB ah 1 Z (Iq (cs':= #[.bool x2.null,jS x2.data,jI x5,jI x8,.slice A68 (y16 ++ [(⟨x28,y36⟩:aD)]).length c69]) Z .u Z Z Tryz.sizeOf34 Z Z Z Z ?_))
     obtain⟨c70,h⟩:=ay h
     exact TL.nil (GX (X.seq (T.region Z (GE Z (Ex.add Z Z c70) Z (GB ah 1 Z (TL.nil (X.back (m':=m23) [0,1,1,1] (by omega) ⟨k15+1,(y16 ++ [(⟨x28,y36⟩:aD)]),A68,c69,st63,Z,Z,h⟩ (by rfl) (by rfl))))))))
    refine Hc Z c65 (GC Z ?_)
    refine GE Z (Hf (cells:= #[.bool false,.string ⟨#[]⟩,jI 0,jI 0,.slice none 0 0]) ju Z (by kernel_rfl)) Z ?_
    refine IU (cs':= #[.bool false,.string ⟨#[]⟩,jI 0,jI 0,.slice none 0 0]) Z .u Z Z KN Z Z Z Z ?_
    obtain rfl:=JP h
    obtain rfl:=JP hO22
    exact GD (T.ret (GH (GN (GH (GH (GN (GH (G6 2 aH (G8 [6,0] MQ (Hs (us:= #[.bool false,.string ⟨#[]⟩,jI 0,jI 0,.slice none 0 0]) 5 Z Lx KN Z Z) ⟨_,_,Z,Z,Z⟩ (by rfl) (.inl Z))))))))))
  refine GD (T.seq (Io Z c27 ?_))
  obtain rfl:=JP h
  replace h:=hO22
  clear hO22
  try dsimp only at h
  refine T.exit (GT (GT (Hu (X.seq (T.seq (GC Z ?_))))))
  obtain⟨⟨x85,st86⟩,hx87,h⟩:=JO h
  try dsimp only at h
  refine GB ah 1 Z (Iu Z .u (.fn Tryz.call23 Z) (cc g st19 _ hx87) sT Z (GK ah Z ?_))
  obtain⟨st99,h,hk100⟩:=JO h
  refine HJ (fun e Rs=>e = [(0,jP g),(4,jP b1),(5,jP b11)]∧Rs = [cI 176 2 aH (.slice A17 y16.length c18) y16,aT b11 36 (vA7 x5 x8 A17 c18 (y16).length x2),aT b1 36 #[.bool false,.string ⟨#[]⟩,jI 0,jI 0,.slice none 0 0],InR g st99]) ?_ ?_
  ·clear hk100
   rcases jF h with⟨c101,h⟩ | ⟨c101,h⟩
   ·refine Ij Z c101 (GC Z (GE Z (GR (us := [.bool x2.null,jS x2.data,jI x5,jI x8,.slice A17 y16.length c18]) 1 Z Lx KN Z Z Z) Z ?_))
    obtain⟨x102,hx103,h⟩:=JO h
    refine GB ah 1 Z (GZ Z .u (.fn Tryz.call156 Z) (gP (⟨x2,x5,x8,y16⟩:aw) _ _ a1 _ hx103) (fun _ hs=>(SrcE.res 0 hs Z (fun w G h=>ed (by decide) w G h))) Z (G4 ah Z Z (GK ah Z ?_)))
    obtain⟨st107,h,hk108⟩:=JO h
    refine HJ (fun e Rs=>e = [(0,jP g),(4,jP b1),(5,jP b11)]∧Rs = [cI 176 2 aH (.slice A17 y16.length c18) y16,aT b11 36 (vA7 x5 x8 A17 c18 (y16).length x2),aT b1 36 #[.bool false,.string ⟨#[]⟩,jI 0,jI 0,.slice none 0 0],InR g st107]) ?_ ?_
    ·clear hk108
     rcases jF h with⟨c109,h⟩ | ⟨c109,h⟩
     ·refine T.nn Z c109 ?_
      cases h
      exact T.skip (GP [0,0,0,0])
     refine T.yn Z c109 (T.region Z ?_)
     obtain⟨st110,hx111,h⟩:=JO h
     refine GB ah 2 Z (Iu Z .u (.fn Tryz.call70 Z) (bx g st86 x102 _ hx111) sT Z ?_)
     cases h
     exact TL.nil (GP [0,0,0,0])
    rintro _ _ ⟨rfl,rfl⟩
    clear h
    have h:=hk108
    clear hk108
    try dsimp only at h
    cases h
    exact GP [0,0,0,0]
   refine Io Z c101 ?_
   cases h
   exact T.skip (GP [0,0,0,0])
  rintro _ _ ⟨rfl,rfl⟩
  clear h
  have h:=hk100
  clear hk100
  try dsimp only at h
  refine X.seq (T.seq (GC Z ?_))
  obtain⟨⟨x112,st113⟩,hx114,h⟩:=JO h
  try dsimp only at h
  refine GB ah 1 Z (Iu Z .u (.fn Tryz.call23 Z) (cc g st99 _ hx114) sT Z (GB ah 1 Z ?_))
  rcases jF h with⟨c115,h⟩ | ⟨c115,h⟩
  ·refine He Z c115 (Hb Z (GE Z (GR (us := [.bool x2.null,jS x2.data,jI x5,jI x8,.slice A17 y16.length c18]) 1 Z Lx KN Z Z Z) Z (Iq (cs':=vA7 x5 x8 A17 c18 (y16).length x2) Z .u Z Z KN Z Z Z Z ?_)))
   obtain rfl:=JP h
   exact GD (T.ret (IZ (by decide) 0 Z (HK [0,0,0,0] Z (G8 [3,0] MQ (Hs (us:=vA7 x5 x8 A17 c18 (y16).length x2) 2 Z Lx KN Z Z) ⟨_,_,Z,Z,Z⟩ (by rfl) (.inl Z)))))
  refine Hc Z c115 (GC Z ?_)
  refine GE Z (Hf (cells:= #[.bool false,.string ⟨#[]⟩,jI 0,jI 0,.slice none 0 0]) ju Z (by kernel_rfl)) Z ?_
  refine Iq (cs':= #[.bool false,.string ⟨#[]⟩,jI 0,jI 0,.slice none 0 0]) Z .u Z Z KN Z Z Z Z ?_
  obtain rfl:=JP h
  exact GD (T.ret (GH (G6 2 aH (G8 [4,0] MQ (Hs (us:= #[.bool false,.string ⟨#[]⟩,jI 0,jI 0,.slice none 0 0]) 3 Z Lx KN Z Z) ⟨_,_,Z,Z,Z⟩ (by rfl) (.inl Z)))))
theorem pS {w W:World} (h:Below w.heap.size w W) (o:Obj):Below w.heap.size w (W.alloc o):=h.alloc h.size o
theorem C6 {w W:World} (h:Below w.heap.size w W) (i:Nat) (u:Value):Below w.heap.size w (W.setCell ⟨w.heap.size,i,none⟩ u):=h.setCell (p:=⟨w.heap.size,i,none⟩) (Kn _) u
def lw:Array Value:= #[.int .i64 0,.string ⟨#[112,114,111,100,117,99,101]⟩,.int .i64 3,.int .i64 4,.int .i64 22,.string ⟨#[98,101,103,105,110]⟩,.int .i64 0,.int .i64 1,
 .int .i64 24,.string ⟨#[97,100,100]⟩,.int .i64 0,.int .i64 0,.int .i64 26,.string ⟨#[101,110,100]⟩,.int .i64 0,.int .i64 0,.int .i64 27,.string ⟨#[109,97,114,107]⟩,.int .i64 0,.int .i64 1]
theorem AF:lw.all (·.oneCell')=true:=by simp[lw,Value.oneCell']
theorem AH:(Tryz.prog.info? 317).map (·.size)=some 20:=by kernel_rfl
theorem kY (w:World) :
 Calls Tryz.prog 219 #[] w fun e w'=>e= .returned (.agg lw)∧Below w.heap.size w w':=by
 have hi:=AH
 go_enter Tryz.func219,Tryz.ntmps219
 go_wp2_with (refine rl (w:=w) rfl 317 _ _ rfl 317 _ lw rfl rfl AH rfl AF ?_)
 refine bodyPost_ret (v:= .agg lw) ?_ rfl ?_
 ·exact results_cell_row (by rfl) _ _ w.heap.size 317 lw (0,0) _ rfl (heap_alloc_new w _) Tryz.underlying317 rfl AH
 ·exact⟨rfl,(Below.refl _ _).alloc (Kn _) _⟩
def jx (k:Int):Value×Bool :=
 if k=0 then (.agg #[.int .i64 0,.string ⟨#[112,114,111,100,117,99,101]⟩,.int .i64 3,.int .i64 4],true)
 else if k=22 then (.agg #[.int .i64 22,.string ⟨#[98,101,103,105,110]⟩,.int .i64 0,.int .i64 1],true)
 else if k=24 then (.agg #[.int .i64 24,.string ⟨#[97,100,100]⟩,.int .i64 0,.int .i64 0],true)
 else if k=26 then (.agg #[.int .i64 26,.string ⟨#[101,110,100]⟩,.int .i64 0,.int .i64 0],true)
 else if k=27 then (.agg #[.int .i64 27,.string ⟨#[109,97,114,107]⟩,.int .i64 0,.int .i64 1],true)
 else (.agg #[.int .i64 0,.string ⟨#[]⟩,.int .i64 0,.int .i64 0],false)
theorem cQ {w w1:World} {c:Array Value} {t:TypeId} (hb:Below (w.alloc (.cells c t)).heap.size (w.alloc (.cells c t)) w1) (i:Nat):w1.cell? ⟨w.heap.size,i,none⟩=c[i]? ∧ w1.frozen? ⟨w.heap.size,i,none⟩=false:=by
 have h:w1.heap[w.heap.size]? = some (.cells c t (0,0)):=(hb.block w.heap.size (by simp)).trans (heap_alloc_new w _)
 exact⟨bq h i,dr h i⟩
theorem oQ {w w1:World} {o:Obj} (hb:Below (w.alloc o).heap.size (w.alloc o) w1):w.heap.size<w1.heap.size:=by
 have:=hb.size
 simp at this
 omega
theorem Eb (k:Int) (w:World) :
 Calls Tryz.prog 191 #[.int .i64 k] w fun e w'=>e= .returned (.tuple #[(jx k).1,.bool (jx k).2])∧Below w.heap.size w w':=by
 have i0: ∀ w:World,(Instr.index 317 (.agg lw) (.int .i64 0)).run Tryz.prog w= .ok (.agg #[.int .i64 0,.string ⟨#[112,114,111,100,117,99,101]⟩,.int .i64 3,.int .i64 4]) w:=fun _=>by kernel_rfl
 have i1: ∀ w:World,(Instr.index 317 (.agg lw) (.int .i64 1)).run Tryz.prog w= .ok (.agg #[.int .i64 22,.string ⟨#[98,101,103,105,110]⟩,.int .i64 0,.int .i64 1]) w:=fun _=>by kernel_rfl
 have i2: ∀ w:World,(Instr.index 317 (.agg lw) (.int .i64 2)).run Tryz.prog w= .ok (.agg #[.int .i64 24,.string ⟨#[97,100,100]⟩,.int .i64 0,.int .i64 0]) w:=fun _=>by kernel_rfl
 have i3: ∀ w:World,(Instr.index 317 (.agg lw) (.int .i64 3)).run Tryz.prog w= .ok (.agg #[.int .i64 26,.string ⟨#[101,110,100]⟩,.int .i64 0,.int .i64 0]) w:=fun _=>by kernel_rfl
 have i4: ∀ w:World,(Instr.index 317 (.agg lw) (.int .i64 4)).run Tryz.prog w= .ok (.agg #[.int .i64 27,.string ⟨#[109,97,114,107]⟩,.int .i64 0,.int .i64 1]) w:=fun _=>by kernel_rfl
 have way:k=0∨k=22∨k=24∨k=26∨k=27∨((0 == k)=false∧(22 == k)=false∧(24 == k)=false∧(26 == k)=false∧(27 == k)=false∧jx k=(.agg #[.int .i64 0,.string ⟨#[]⟩,.int .i64 0,.int .i64 0],false)):=by
  by_cases h0:k=0
  ·simp[h0]
  by_cases h1:k=22
  ·simp[h1]
  by_cases h2:k=24
  ·simp[h2]
  by_cases h3:k=26
  ·simp[h3]
  by_cases h4:k=27
  ·simp[h4]
  refine .inr (.inr (.inr (.inr (.inr ⟨?_,?_,?_,?_,?_,by simp[jx,h0,h1,h2,h3,h4]⟩))))
  all_goals (rw[beq_eq_false_iff_ne]; omega)
 rcases way with rfl | rfl | rfl | rfl | rfl | ⟨h0,h1,h2,h3,h4,hv⟩
 ·go_enter Mv,Mh
  go_wp2_with (go_at_call 219; refine (kY _).mono ?_; rintro e w1 ⟨rfl,hb⟩; obtain⟨d0,e0⟩:=cQ hb 0; obtain⟨d1,e1⟩:=cQ hb 1; obtain⟨d2,e2⟩:=cQ hb 2; obtain⟨d3,e3⟩:=cQ hb 3; simp at d0 d1 d2 d3; have HB:=Lib.hid hb; have hz:=oQ hb; have hz1:w.heap.size<w1.heap.size+1:=(by omega); have hz2:w.heap.size<w1.heap.size+1+1:=(by omega); have hz3:w.heap.size<w1.heap.size+1+1+1:=(by omega); have hz4:w.heap.size<w1.heap.size+1+1+1+1:=(by omega); have hz5:w.heap.size<w1.heap.size+1+1+1+1+1:=(by omega); clear hb)
  refine wp_loop_rounds 6 ?_
  repeat (rw[rounds_succ]; go_wp2_with fail)
  have hbel:Below w.heap.size w w1:=((Below.refl _ _).alloc (Kn _) _).trans (HB.out.mono (by simp))
  refine bodyPost_ret (v:= .tuple #[(jx 0).1,.bool (jx 0).2]) ?_ rfl ⟨rfl,?_⟩
  ·simp[results,L3,go_sem,d0,d1,d2,d3,hz,hz1,hz2,hz3,hz4,hz5,jx]
  ·repeat (first | (with_reducible exact hbel) | (with_reducible refine C6 ?_ _ _) | (with_reducible refine pS ?_ _))
 ·go_enter Mv,Mh
  go_wp2_with (go_at_call 219; refine (kY _).mono ?_; rintro e w1 ⟨rfl,hb⟩; obtain⟨d0,e0⟩:=cQ hb 0; obtain⟨d1,e1⟩:=cQ hb 1; obtain⟨d2,e2⟩:=cQ hb 2; obtain⟨d3,e3⟩:=cQ hb 3; simp at d0 d1 d2 d3; have HB:=Lib.hid hb; have hz:=oQ hb; have hz1:w.heap.size<w1.heap.size+1:=(by omega); have hz2:w.heap.size<w1.heap.size+1+1:=(by omega); have hz3:w.heap.size<w1.heap.size+1+1+1:=(by omega); have hz4:w.heap.size<w1.heap.size+1+1+1+1:=(by omega); have hz5:w.heap.size<w1.heap.size+1+1+1+1+1:=(by omega); clear hb)
  refine wp_loop_rounds 6 ?_
  repeat (rw[rounds_succ]; go_wp2_with fail)
  have hbel:Below w.heap.size w w1:=((Below.refl _ _).alloc (Kn _) _).trans (HB.out.mono (by simp))
  refine bodyPost_ret (v:= .tuple #[(jx 22).1,.bool (jx 22).2]) ?_ rfl ⟨rfl,?_⟩
  ·simp[results,L3,go_sem,d0,d1,d2,d3,hz,hz1,hz2,hz3,hz4,hz5,jx]
  ·repeat (first | (with_reducible exact hbel) | (with_reducible refine C6 ?_ _ _) | (with_reducible refine pS ?_ _))
 ·go_enter Mv,Mh
  go_wp2_with (go_at_call 219; refine (kY _).mono ?_; rintro e w1 ⟨rfl,hb⟩; obtain⟨d0,e0⟩:=cQ hb 0; obtain⟨d1,e1⟩:=cQ hb 1; obtain⟨d2,e2⟩:=cQ hb 2; obtain⟨d3,e3⟩:=cQ hb 3; simp at d0 d1 d2 d3; have HB:=Lib.hid hb; have hz:=oQ hb; have hz1:w.heap.size<w1.heap.size+1:=(by omega); have hz2:w.heap.size<w1.heap.size+1+1:=(by omega); have hz3:w.heap.size<w1.heap.size+1+1+1:=(by omega); have hz4:w.heap.size<w1.heap.size+1+1+1+1:=(by omega); have hz5:w.heap.size<w1.heap.size+1+1+1+1+1:=(by omega); clear hb)
  refine wp_loop_rounds 6 ?_
  repeat (rw[rounds_succ]; go_wp2_with fail)
  have hbel:Below w.heap.size w w1:=((Below.refl _ _).alloc (Kn _) _).trans (HB.out.mono (by simp))
  refine bodyPost_ret (v:= .tuple #[(jx 24).1,.bool (jx 24).2]) ?_ rfl ⟨rfl,?_⟩
  ·simp[results,L3,go_sem,d0,d1,d2,d3,hz,hz1,hz2,hz3,hz4,hz5,jx]
  ·repeat (first | (with_reducible exact hbel) | (with_reducible refine C6 ?_ _ _) | (with_reducible refine pS ?_ _))
 ·go_enter Mv,Mh
  go_wp2_with (go_at_call 219; refine (kY _).mono ?_; rintro e w1 ⟨rfl,hb⟩; obtain⟨d0,e0⟩:=cQ hb 0; obtain⟨d1,e1⟩:=cQ hb 1; obtain⟨d2,e2⟩:=cQ hb 2; obtain⟨d3,e3⟩:=cQ hb 3; simp at d0 d1 d2 d3; have HB:=Lib.hid hb; have hz:=oQ hb; have hz1:w.heap.size<w1.heap.size+1:=(by omega); have hz2:w.heap.size<w1.heap.size+1+1:=(by omega); have hz3:w.heap.size<w1.heap.size+1+1+1:=(by omega); have hz4:w.heap.size<w1.heap.size+1+1+1+1:=(by omega); have hz5:w.heap.size<w1.heap.size+1+1+1+1+1:=(by omega); clear hb)
  refine wp_loop_rounds 6 ?_
  repeat (rw[rounds_succ]; go_wp2_with fail)
  have hbel:Below w.heap.size w w1:=((Below.refl _ _).alloc (Kn _) _).trans (HB.out.mono (by simp))
  refine bodyPost_ret (v:= .tuple #[(jx 26).1,.bool (jx 26).2]) ?_ rfl ⟨rfl,?_⟩
  ·simp[results,L3,go_sem,d0,d1,d2,d3,hz,hz1,hz2,hz3,hz4,hz5,jx]
  ·repeat (first | (with_reducible exact hbel) | (with_reducible refine C6 ?_ _ _) | (with_reducible refine pS ?_ _))
 ·go_enter Mv,Mh
  go_wp2_with (go_at_call 219; refine (kY _).mono ?_; rintro e w1 ⟨rfl,hb⟩; obtain⟨d0,e0⟩:=cQ hb 0; obtain⟨d1,e1⟩:=cQ hb 1; obtain⟨d2,e2⟩:=cQ hb 2; obtain⟨d3,e3⟩:=cQ hb 3; simp at d0 d1 d2 d3; have HB:=Lib.hid hb; have hz:=oQ hb; have hz1:w.heap.size<w1.heap.size+1:=(by omega); have hz2:w.heap.size<w1.heap.size+1+1:=(by omega); have hz3:w.heap.size<w1.heap.size+1+1+1:=(by omega); have hz4:w.heap.size<w1.heap.size+1+1+1+1:=(by omega); have hz5:w.heap.size<w1.heap.size+1+1+1+1+1:=(by omega); clear hb)
  refine wp_loop_rounds 6 ?_
  repeat (rw[rounds_succ]; go_wp2_with fail)
  have hbel:Below w.heap.size w w1:=((Below.refl _ _).alloc (Kn _) _).trans (HB.out.mono (by simp))
  refine bodyPost_ret (v:= .tuple #[(jx 27).1,.bool (jx 27).2]) ?_ rfl ⟨rfl,?_⟩
  ·simp[results,L3,go_sem,d0,d1,d2,d3,hz,hz1,hz2,hz3,hz4,hz5,jx]
  ·repeat (first | (with_reducible exact hbel) | (with_reducible refine C6 ?_ _ _) | (with_reducible refine pS ?_ _))
 ·go_enter Mv,Mh
  go_wp2_with (go_at_call 219; refine (kY _).mono ?_; rintro e w1 ⟨rfl,hb⟩; obtain⟨d0,e0⟩:=cQ hb 0; obtain⟨d1,e1⟩:=cQ hb 1; obtain⟨d2,e2⟩:=cQ hb 2; obtain⟨d3,e3⟩:=cQ hb 3; simp at d0 d1 d2 d3; have HB:=Lib.hid hb; have hz:=oQ hb; have hz1:w.heap.size<w1.heap.size+1:=(by omega); have hz2:w.heap.size<w1.heap.size+1+1:=(by omega); have hz3:w.heap.size<w1.heap.size+1+1+1:=(by omega); have hz4:w.heap.size<w1.heap.size+1+1+1+1:=(by omega); have hz5:w.heap.size<w1.heap.size+1+1+1+1+1:=(by omega); clear hb)
  refine wp_loop_rounds 6 ?_
  repeat (rw[rounds_succ]; go_wp2_with fail)
  have hbel:Below w.heap.size w w1:=((Below.refl _ _).alloc (Kn _) _).trans (HB.out.mono (by simp))
  refine bodyPost_ret (v:= .tuple #[(jx k).1,.bool (jx k).2]) ?_ rfl ⟨rfl,?_⟩
  ·rw[hv]
   simp[results,L3,go_sem,d0,d1,d2,d3,hz,hz1,hz2,hz3,hz4,hz5]
  ·repeat (first | (with_reducible exact hbel) | (with_reducible refine C6 ?_ _ _) | (with_reducible refine pS ?_ _))
theorem FZ (k:Int) (r:Value) (b:Bool) (h:jx k=(r,b)) (w:World) :
 Calls Tryz.prog 191 #[.int .i64 k] w fun e w'=>e= .returned (.tuple #[r,.bool b])∧Below w.heap.size w w':=by
 have:=Eb k w
 rwa [h] at this
def f8 (k:Int):Int×Int×ByteArray×Bool :=
 if k=0 then (3,4,⟨#[112,114,111,100,117,99,101]⟩,true) else if k=22 then (0,1,⟨#[98,101,103,105,110]⟩,true)
 else if k=24 then (0,0,⟨#[97,100,100]⟩,true) else if k=26 then (0,0,⟨#[101,110,100]⟩,true) else if k=27 then (0,1,⟨#[109,97,114,107]⟩,true) else (0,0,⟨#[]⟩,false)
theorem AJ (k:Int): ∃ k2,jx k=(.agg #[.int .i64 k2,.string (f8 k).2.2.1,.int .i64 (f8 k).1,.int .i64 (f8 k).2.1],(f8 k).2.2.2):=by
 by_cases h0:k=0
 ·exact⟨0,by simp[jx,f8,h0]⟩
 by_cases h1:k=22
 ·exact⟨22,by simp[jx,f8,h1]⟩
 by_cases h2:k=24
 ·exact⟨24,by simp[jx,f8,h2]⟩
 by_cases h3:k=26
 ·exact⟨26,by simp[jx,f8,h3]⟩
 by_cases h4:k=27
 ·exact⟨27,by simp[jx,f8,h4]⟩
 exact⟨0,by simp[jx,f8,h0,h1,h2,h3,h4]⟩
def fP (k v:Int):Int:=if (f8 k).2.2.2=false then 12 else if v<(f8 k).1∨(f8 k).2.1<v then 7 else 0
theorem yK (k v:Int):pk Tryz.prog 147 #[.int .i64 k,.int .i64 v] (fun r N=>r= .int .i64 (fP k v)∧N = []):=by
 intro w
 obtain⟨k2,hr⟩:=AJ k
 have HC:=Lib.hid (show fP k v=if (f8 k).2.2.2=false then 12 else if v<(f8 k).1∨(f8 k).2.1<v then 7 else 0 from rfl)
 generalize fP k v=c at *
 generalize f8 k=q at *
 obtain⟨lo,hi,nm,ok⟩:=q
 simp only at hr
 have HF:=Lib.hid (FZ k _ _ hr)
 clear hr
 have way:(ok=false∧c=12)∨(ok=true∧v<lo∧c=7)∨(ok=true∧ ¬ v<lo∧hi<v∧c=7)∨(ok=true∧ ¬ v<lo∧ ¬ hi<v∧c=0):=by
  rw[HC.out]
  cases ok
  ·simp
  ·by_cases h1:v<lo <;> by_cases h2:hi<v <;> simp[h1,h2]
 clear HC
 rcases way with⟨rfl,rfl⟩ | ⟨rfl,h1,rfl⟩ | ⟨rfl,h1,h2,rfl⟩ | ⟨rfl,h1,h2,rfl⟩
 all_goals
  go_enter Tryz.func147,Tryz.ntmps147
  go_wp2_with (go_at_call 191; refine (HF.out _).mono ?_; rintro e w1 ⟨rfl,hb⟩; have HB:=Lib.hid hb; clear hb)
  go_ret
  exact⟨_,_,rfl,⟨rfl,rfl⟩,IL (pS HB.out _),trivial⟩
def tR (k v:Int):Option Int:=some (fP k v)
theorem uI (k v:Int):tR k v=some (fP k v):=rfl
theorem qK (k v:Int) (r:Int) (h:tR k v=some r):aE Tryz.prog 147 #[.int .i64 k,.int .i64 v] .triv aO (fun u A' N=>u= .int .i64 r∧A'=aO∧N = []):=by
 obtain rfl:=JP h
 exact Iy (yK k v)
def AK:eP := [(23,1,1),(25,0,0),(25,1,1),(25,2,2),(25,3,3)]
theorem aQ:(AK).OK Tryz.prog:=⟨FOK.mk Kf rfl Kk rfl,FOK.mk K0 rfl JX rfl,FOK.mk K0 rfl JX rfl,FOK.mk K0 rfl JX rfl,FOK.mk K0 rfl J2 rfl,trivial⟩
def AL:List Nat := [3,9]
theorem fQ:NOK Tryz.prog AL:=⟨JZ,Ks,trivial⟩
theorem jy:BOK Tryz.prog 25 #[.int .i64 0,.int .i64 0,.int .i64 0,.bool false,.string ⟨#[]⟩] [(0,1),(1,1),(2,1),(3,2)]:=BOK.mk Tryz.zeroValue25 K0 (by intro w; simp)
def gy (a0:eS):Option (Int):=(tR a0.Jk a0.Jg).bind fun x2=>if x2=0 then ((il a0.Jo 4).bind fun x5=>if x5=true then ((nQ a0.Je).bind fun x8=>if x8=true then (if (a0.Je.data.length:Int)>32767 then some 4 else some 0) else some 4) else some 11) else some x2
theorem oa (a0:eS) (r:Int) (h:gy a0=some r):aE Tryz.prog 93 #[.agg #[jI a0.Jk,jI a0.Jg,jI a0.Jo,.bool a0.Je.null,jS a0.Je.data]] .triv (aO) (fun v A' N=>v=jI r∧A'=aO∧N = []):=by
 refine aU Tryz.func93 Z Tryz.ntmps93 Z ?_
 intro F w hX
 unfold gy at h
 refine GC Z (TL.box Z .u Z Z (fun b1=>(GK aQ Z (T.seq (GC Z ?_)))))
 obtain⟨x2,hx3,h⟩:=JO h
 refine GG aQ fQ 0 Z 4 Z Z (GZ Z .u (.fn Tryz.call147 Z) (qK a0.Jk a0.Jg _ hx3) rT Z (G4 aQ Z Z (GB aQ 2 Z ?_)))
 rcases jF h with⟨c4,h⟩ | ⟨c4,h⟩
 ·refine He Z c4 (GW (T.seq (T.block (GC Z ?_))))
  obtain⟨x5,hx6,h⟩:=JO h
  refine GG aQ fQ 0 Z 2 Z Z (GZ Z .u (.fn Tryz.call101 Z) (Hy (fun w=>de a0.Jo 4 _ hx6 w)) (fun _ _=>Hi _ _) Z (GB aQ 2 Z ?_))
  rcases jF h with⟨c7,h⟩ | ⟨c7,h⟩
  ·refine GD (G7 Z (aZ c7) (GC Z (GB aQ 1 Z (GE Z (GR (us := [.bool a0.Je.null,jS a0.Je.data]) 0 Z Kt J2 Z Z Z) Z ?_))))
   obtain⟨x8,hx9,h⟩:=JO h
   refine GZ Z .u (.fn Tryz.call148 Z) (lK a0.Je _ hx9) rT Z ?_
   rcases jF h with⟨c10,h⟩ | ⟨c10,h⟩
   ·refine GB aQ 2 Z (GI 22 Z (aZ c10) (GG aQ fQ 0 Z 3 Z Z (TL.q Z (.g Z Z Z) (Hw Z J3) Z (GJ aQ 3 Z ?_))))
    rcases jF h with⟨c11,h⟩ | ⟨c11,h⟩
    ·refine G9 Z c11 (GC Z (GB aQ 1 Z ?_))
     obtain rfl:=JP h
     exact GD (T.ret (GN (GH (GL [1] My (GF Z)))))
    refine Ha Z c11 (T.skip (GX (X.seq (GC Z (GB aQ 1 Z ?_)))))
    obtain rfl:=JP h
    exact GD (T.ret (GL [1] My (GF Z)))
   replace c10:=JW c10
   refine GB aQ 2 Z (GI 22 Z (bw c10) (Hk aQ Z (GO Z Z (GC Z (GB aQ 1 Z ?_)))))
   obtain rfl:=JP h
   exact GD (T.ret (GN (GH (GL [1] My (GF Z)))))
  replace c7:=JW c7
  refine GD (GO Z (bw c7) (GC Z (GB aQ 1 Z ?_)))
  obtain rfl:=JP h
  exact GD (T.ret (GN (GH (GL [1] My (GF Z)))))
 refine Hc Z c4 (GC Z (GB aQ 2 Z ?_))
 obtain rfl:=JP h
 exact GD (T.ret (GH (GL [1] My (GF Z))))
def gz (st:List UInt8×Int) (a1:eS):Option (List UInt8×Int):=(gy a1).bind fun x2=>if x2=0 then ((dK st a1.Jk 2).bind fun st5=>(dK st5 a1.Jg 2).bind fun st7=>(dK st7 a1.Jo 4).bind fun st9=>(iM st9 a1.Je 2).bind fun st11=>some st11) else ((jH st x2).bind fun st13=>some st13)
theorem ob (g:Nat) (st:List UInt8×Int) (a1:eS) (r:List UInt8×Int) (h:gz st a1=some r):aE Tryz.prog 47 #[jP g,.agg #[jI a1.Jk,jI a1.Jg,jI a1.Jo,.bool a1.Je.null,jS a1.Je.data]] .triv (bm g st) (fun v A' N=>v= .tuple #[]∧A'=bm g r∧N = []):=by
 refine aU Tryz.func47 Z Tryz.ntmps47 Z ?_
 intro F w hX
 unfold gz at h
 refine GC Z (TL.box Z .u Z Z (fun b1=>(GD (T.seq (GC Z (GE Z (GR (us := [jI a1.Jk,jI a1.Jg,jI a1.Jo,.bool a1.Je.null,jS a1.Je.data]) 0 Z Ln KI Z Z Z) Z ?_))))))
 obtain⟨x2,hx3,h⟩:=JO h
 refine GZ Z .u (.fn Tryz.call93 Z) (oa a1 _ hx3) rT Z (G4 aQ Z Z (GB aQ 2 Z ?_))
 rcases jF h with⟨c4,h⟩ | ⟨c4,h⟩
 ·refine He Z c4 (Hb Z ?_)
  obtain⟨st5,hx6,h⟩:=JO h
  refine GG aQ fQ 0 Z 3 Z Z (Hh Z .u (.fn Tryz.call51 Z) (bf g st a1.Jk 2 _ hx6) sT Z (GV Z ?_))
  obtain⟨st7,hx8,h⟩:=JO h
  refine GG aQ fQ 0 Z 3 Z Z (Hh Z .u (.fn Tryz.call51 Z) (bf g st5 a1.Jg 2 _ hx8) sT Z (GV Z ?_))
  obtain⟨st9,hx10,h⟩:=JO h
  refine GG aQ fQ 0 Z 3 Z Z (Hh Z .u (.fn Tryz.call51 Z) (bf g st7 a1.Jo 4 _ hx10) sT Z (GD (T.region Z (GB aQ 2 Z (GE Z (GR (us := [.bool a1.Je.null,jS a1.Je.data]) 0 Z Kt J2 Z Z Z) Z ?_)))))
  obtain⟨st11,hx12,h⟩:=JO h
  refine Hh Z .u (.fn Tryz.call95 Z) (jb g st9 a1.Je 2 _ hx12) sT Z ?_
  obtain rfl:=JP h
  exact TL.nil (H7 [1] Tryz.results47 ⟨Z,Z,Z⟩ (by rfl) (.inr Z))
 refine Hc Z c4 (GC Z ?_)
 obtain⟨st13,hx14,h⟩:=JO h
 refine GB aQ 2 Z (Hh Z .u (.fn Tryz.call94 Z) (ga g st x2 _ hx14) sT Z ?_)
 obtain rfl:=JP h
 exact GD (T.ret (GH (H7 [1] Tryz.results47 ⟨Z,Z,Z⟩ (by rfl) (.inl Z))))
def f9 (st:I)  : Option (eS×I):=(dL st 2).bind fun (x2,st3)=>(dL st3 2).bind fun (x5,st6)=>(gJ st6).bind fun (x9,st10)=>if x9=0 then ((tR x2 x5).bind fun x13=>if x13=0 then ((dL st10 4).bind fun (x16,st17)=>(jK st17 2).bind fun (x19,st20)=>(gJ st20).bind fun (x22,st23)=>if x22=0 then (some ((⟨x2,x5,x16,x19⟩:eS),st23)) else (some ((⟨0,0,0,(⟨false,[]⟩:Bl)⟩:eS),st23))) else ((bU st10 x13).bind fun st26=>(dL st26 4).bind fun (x28,st29)=>(jK st29 2).bind fun (x31,st32)=>(gJ st32).bind fun (x34,st35)=>if x34=0 then (some ((⟨x2,x5,x28,x31⟩:eS),st35)) else (some ((⟨0,0,0,(⟨false,[]⟩:Bl)⟩:eS),st35)))) else ((dL st10 4).bind fun (x38,st39)=>(jK st39 2).bind fun (x41,st42)=>(gJ st42).bind fun (x44,st45)=>if x44=0 then (some ((⟨x2,x5,x38,x41⟩:eS),st45)) else (some ((⟨0,0,0,(⟨false,[]⟩:Bl)⟩:eS),st45)))
theorem pi (g:Nat) (st:I)  (r:eS×I) (h:f9 st  = some r):aE Tryz.prog 115 #[jP g] .triv (InR g st) (fun v A' N=>v= .agg #[jI r.1.Jk,jI r.1.Jg,jI r.1.Jo,.bool r.1.Je.null,jS r.1.Je.data]∧A'=InR g r.2∧N = []):=by
 refine aU Tryz.func115 Z Tryz.ntmps115 Z ?_
 intro F w hX
 unfold f9 at h
 refine GC Z (TL.alloc Z .u Tryz.zeroValue25 Z (fun b1=>(GV Z ?_)))
 obtain⟨⟨x2,st3⟩,hx4,h⟩:=JO h
 try dsimp only at h
 refine GB aQ 1 Z (Hh Z .u (.fn Tryz.call68 Z) (bj g st 2 _ hx4) sT Z ?_)
 obtain⟨⟨x5,st6⟩,hx7,h⟩:=JO h
 try dsimp only at h
 refine GB aQ 1 Z (Hh Z .u (.fn Tryz.call68 Z) (bj g st3 2 _ hx7) sT Z ?_)
 refine GE Z (Hf (cells:= #[jI x2,jI x5,jI 0,.bool false,.string ⟨#[]⟩]) jy Z (by kernel_rfl)) Z ?_
 refine TL.alloc Z .u Tryz.zeroValue25 Z (fun b8=>(GU (cs':= #[jI x2,jI x5,jI 0,.bool false,.string ⟨#[]⟩]) Z .u Z Z KI Z Z Z Z (GD (T.seq (GC Z ?_)))))
 obtain⟨⟨x9,st10⟩,hx11,h⟩:=JO h
 try dsimp only at h
 refine GB aQ 1 Z (HY Z .u (.fn Tryz.call23 Z) (cc g st6 _ hx11) sT Z (GB aQ 1 Z ?_))
 rcases jF h with⟨c12,h⟩ | ⟨c12,h⟩
 ·refine G9 Z c12 (GC Z ?_)
  obtain⟨x13,hx14,h⟩:=JO h
  refine GG aQ fQ 0 Z 4 Z Z (GZ Z .u (.fn Tryz.call147 Z) (qK x2 x5 _ hx14) rT Z (G4 aQ Z Z (GB aQ 2 Z ?_)))
  rcases jF h with⟨c15,h⟩ | ⟨c15,h⟩
  ·refine He Z c15 (Hb Z ?_)
   obtain⟨⟨x16,st17⟩,hx18,h⟩:=JO h
   try dsimp only at h
   refine GB aQ 1 Z (HY Z .u (.fn Tryz.call68 Z) (bj g st10 4 _ hx18) sT Z (GB aQ 1 Z (GU (cs':= #[jI x2,jI x5,jI x16,.bool false,.string ⟨#[]⟩]) Z .u Z Z JX Z Z Z Z (GV Z ?_))))
   obtain⟨⟨x19,st20⟩,hx21,h⟩:=JO h
   try dsimp only at h
   refine GB aQ 1 Z (HY Z .u (.fn Tryz.call142 Z) (iN g st17 2 _ hx21) sT Z (GB aQ 1 Z (GU (cs':=vA8 x2 x5 x16 x19) Z .u Z Z J2 Z Z Z Z (GD (T.seq (GC Z ?_))))))
   obtain⟨⟨x22,st23⟩,hx24,h⟩:=JO h
   try dsimp only at h
   refine GB aQ 1 Z (HY Z .u (.fn Tryz.call23 Z) (cc g st20 _ hx24) sT Z (GB aQ 1 Z ?_))
   rcases jF h with⟨c25,h⟩ | ⟨c25,h⟩
   ·refine He Z c25 (Hb Z (GE Z (GR (us := [jI x2,jI x5,jI x16,.bool x19.null,jS x19.data]) 0 Z Ln KI Z Z Z) Z (H5 (cs':=vA8 x2 x5 x16 x19) Z .u Z Z KI Z Z Z Z ?_)))
    obtain rfl:=JP h
    exact GD (T.ret (GL [2] L4 (Hs (us:=vA8 x2 x5 x16 x19) 1 Z Ln KI Z Z)))
   refine Hc Z c25 (GC Z ?_)
   refine GE Z (Hf (cells:= #[jI 0,jI 0,jI 0,.bool false,.string ⟨#[]⟩]) jy Z (by kernel_rfl)) Z ?_
   refine H5 (cs':= #[jI 0,jI 0,jI 0,.bool false,.string ⟨#[]⟩]) Z .u Z Z KI Z Z Z Z ?_
   obtain rfl:=JP h
   exact GD (T.ret (GH (GL [2] L4 (Hs (us:= #[jI 0,jI 0,jI 0,.bool false,.string ⟨#[]⟩]) 1 Z Ln KI Z Z))))
  refine Hc Z c15 (T.region Z ?_)
  obtain⟨st26,hx27,h⟩:=JO h
  refine GB aQ 2 Z (HY Z .u (.fn Tryz.call70 Z) (bx g st10 x13 _ hx27) sT Z (GV Z ?_))
  obtain⟨⟨x28,st29⟩,hx30,h⟩:=JO h
  try dsimp only at h
  refine GB aQ 1 Z (HY Z .u (.fn Tryz.call68 Z) (bj g st26 4 _ hx30) sT Z (GB aQ 1 Z (GU (cs':= #[jI x2,jI x5,jI x28,.bool false,.string ⟨#[]⟩]) Z .u Z Z JX Z Z Z Z (GV Z ?_))))
  obtain⟨⟨x31,st32⟩,hx33,h⟩:=JO h
  try dsimp only at h
  refine GB aQ 1 Z (HY Z .u (.fn Tryz.call142 Z) (iN g st29 2 _ hx33) sT Z (GB aQ 1 Z (GU (cs':=vA8 x2 x5 x28 x31) Z .u Z Z J2 Z Z Z Z (GD (T.seq (GC Z ?_))))))
  obtain⟨⟨x34,st35⟩,hx36,h⟩:=JO h
  try dsimp only at h
  refine GB aQ 1 Z (HY Z .u (.fn Tryz.call23 Z) (cc g st32 _ hx36) sT Z (GB aQ 1 Z ?_))
  rcases jF h with⟨c37,h⟩ | ⟨c37,h⟩
  ·refine He Z c37 (Hb Z (GE Z (GR (us := [jI x2,jI x5,jI x28,.bool x31.null,jS x31.data]) 0 Z Ln KI Z Z Z) Z (H5 (cs':=vA8 x2 x5 x28 x31) Z .u Z Z KI Z Z Z Z ?_)))
   obtain rfl:=JP h
   exact GD (T.ret (GL [2] L4 (Hs (us:=vA8 x2 x5 x28 x31) 1 Z Ln KI Z Z)))
  refine Hc Z c37 (GC Z ?_)
  refine GE Z (Hf (cells:= #[jI 0,jI 0,jI 0,.bool false,.string ⟨#[]⟩]) jy Z (by kernel_rfl)) Z ?_
  refine H5 (cs':= #[jI 0,jI 0,jI 0,.bool false,.string ⟨#[]⟩]) Z .u Z Z KI Z Z Z Z ?_
  obtain rfl:=JP h
  exact GD (T.ret (GH (GL [2] L4 (Hs (us:= #[jI 0,jI 0,jI 0,.bool false,.string ⟨#[]⟩]) 1 Z Ln KI Z Z))))
 refine Ha Z c12 (Hb Z ?_)
 obtain⟨⟨x38,st39⟩,hx40,h⟩:=JO h
 try dsimp only at h
 refine GB aQ 1 Z (HY Z .u (.fn Tryz.call68 Z) (bj g st10 4 _ hx40) sT Z (GB aQ 1 Z (GU (cs':= #[jI x2,jI x5,jI x38,.bool false,.string ⟨#[]⟩]) Z .u Z Z JX Z Z Z Z (GV Z ?_))))
 obtain⟨⟨x41,st42⟩,hx43,h⟩:=JO h
 try dsimp only at h
 refine GB aQ 1 Z (HY Z .u (.fn Tryz.call142 Z) (iN g st39 2 _ hx43) sT Z (GB aQ 1 Z (GU (cs':=vA8 x2 x5 x38 x41) Z .u Z Z J2 Z Z Z Z (GD (T.seq (GC Z ?_))))))
 obtain⟨⟨x44,st45⟩,hx46,h⟩:=JO h
 try dsimp only at h
 refine GB aQ 1 Z (HY Z .u (.fn Tryz.call23 Z) (cc g st42 _ hx46) sT Z (GB aQ 1 Z ?_))
 rcases jF h with⟨c47,h⟩ | ⟨c47,h⟩
 ·refine He Z c47 (Hb Z (GE Z (GR (us := [jI x2,jI x5,jI x38,.bool x41.null,jS x41.data]) 0 Z Ln KI Z Z Z) Z (H5 (cs':=vA8 x2 x5 x38 x41) Z .u Z Z KI Z Z Z Z ?_)))
  obtain rfl:=JP h
  exact GD (T.ret (GL [2] L4 (Hs (us:=vA8 x2 x5 x38 x41) 1 Z Ln KI Z Z)))
 refine Hc Z c47 (GC Z ?_)
 refine GE Z (Hf (cells:= #[jI 0,jI 0,jI 0,.bool false,.string ⟨#[]⟩]) jy Z (by kernel_rfl)) Z ?_
 refine H5 (cs':= #[jI 0,jI 0,jI 0,.bool false,.string ⟨#[]⟩]) Z .u Z Z KI Z Z Z Z ?_
 obtain rfl:=JP h
 exact GD (T.ret (GH (GL [2] L4 (Hs (us:= #[jI 0,jI 0,jI 0,.bool false,.string ⟨#[]⟩]) 1 Z Ln KI Z Z))))
end Go.Proofs.YtheikonlgjdopaaGreat.Sl
