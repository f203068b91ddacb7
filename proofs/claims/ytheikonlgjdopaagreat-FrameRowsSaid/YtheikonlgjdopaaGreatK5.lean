/- frameRows_holds: part 5. -/
import Derived.Test.YtheikonlgjdopaaGreatK4
set_option maxRecDepth 100000
set_option maxHeartbeats 4000000
set_option linter.defProp false
namespace Go.Proofs.YtheikonlgjdopaaGreat.Sl
open Go.RowKit
set_option linter.unusedVariables false
set_option linter.unusedSimpArgs false
def J1 := @Tryz.sizeOf236
def Ka := @Tryz.runUnderlying232
def Kd := @Tryz.runUnderlying159
def Kz := @Tryz.isAgg236
def KA := @Tryz.isAgg234
def Lb := @Tryz.runUnderlying161
def Lc := @Tryz.sizeOf159
def Lw := @Tryz.runUnderlying3
def LB := @Tryz.results78
def LQ := @Tryz.results137
def LX := @Tryz.isAgg159
def L2 := @Tryz.results187
def Mb := @Tryz.runUnderlying313
def Ml := @Tryz.results129
def Mm := @Tryz.results130
def MB := @Tryz.ntmps185
def MD := @Tryz.runUnderlying238
def ME := @Tryz.runUnderlying236
def MN := @Tryz.results119
def MO := @Tryz.func185
def MP := @Tryz.results188
def MV := @Tryz.sizeOf161
def FT:eP := [(173,0,0),(173,1,1),(173,2,2),(173,3,3),(173,4,4)]
theorem aL:(FT).OK Tryz.prog:=⟨FOK.mk Lk rfl JX rfl,FOK.mk Lk rfl JX rfl,FOK.mk Lk rfl Kr rfl,FOK.mk Lk rfl LG rfl,FOK.mk Lk rfl JX rfl,trivial⟩
def FU:List Nat := [3,4,28]
theorem fh:NOK Tryz.prog FU:=⟨JZ,KG,Lm,trivial⟩
theorem xA:BOK Tryz.prog 173 #[.int .i64 0,.int .i64 0,.bool false,.slice none 0 0,.int .i64 0] [(0,1),(1,1),(2,1),(3,1),(4,1)]:=BOK.mk Tryz.zeroValue173 Lk (by intro w; simp)
theorem vZ:SOK Tryz.prog 33 173 1 5 #[.int .i64 0,.int .i64 0,.bool false,.slice none 0 0,.int .i64 0]:=SOK.mk KO KT Tryz.zeroValue173 (by decide) (by kernel_rfl)
theorem xB:(Tryz.prog.info? 173).map (fun i=>(i.zero,i.size,i.bytes))=some (some (.agg #[.int .i64 0,.int .i64 0,.bool false,.slice none 0 0,.int .i64 0]),5,56):=by kernel_rfl
def f3 (a0:aP) (a1:Int):Option (Int):=((iV a0.I6 a0.I8).bind fun x14=>if x14=true then (if a0.Ji<0 then some true else ((il a0.Ji 4).bind fun x18=>if x18=true then (if a1=0 then (if a0.Ji>0 then some true else some false) else some false) else some true)) else some true).bind fun y12=>if y12=true then some 11 else ((jT a0.I5).bind fun x24=>some x24)
theorem nD (a0:aP) (A1:Option Addr) (c2:Nat) (a1:Int) (r:Int) (h:f3 a0 a1=some r):aE Tryz.prog 193 #[.agg #[jI a0.I6,jI a0.I8,.bool a0.Js,.slice A1 a0.I5.length c2,jI a0.Ji],jI a1] (RX.of (ao 2 ba) [.slice A1 a0.I5.length c2] a0.I5) (aO) (fun v A' N=>v=jI r∧A'=aO∧N = []):=by
 refine aU Tryz.func193 Z Tryz.ntmps193 Z ?_
 intro F w hX
 unfold f3 at h
 refine GC Z (TL.box Z .u Z Z (fun b3=>(GK aL Z (In ?_))))
 obtain⟨y12,h,hk13⟩:=JO h
 refine HJ (fun e Rs=>e = [(2,jP b3),(4,jI 0),(30,.bool y12)]∧Rs = [aT b3 173 #[jI a0.I6,jI a0.I8,.bool a0.Js,.slice A1 a0.I5.length c2,jI a0.Ji],aO]) ?_ ?_
 ·clear hk13
  refine T.region Z ?_
  obtain⟨x14,hx15,h⟩:=JO h
  refine GG aL fh 0 Z 4 Z Z (GZ Z .u (.fn Tryz.call192 Z) (jl a0.I6 a0.I8 _ hx15) rT Z ?_)
  rcases jF h with⟨c16,h⟩ | ⟨c16,h⟩
  ·refine GB aL 2 Z (GI 11 Z (aZ c16) ?_)
   rcases jF h with⟨c17,h⟩ | ⟨c17,h⟩
   ·refine GG aL fh 0 Z 5 Z Z (GI 16 Z (JS c17) (GJ aL 14 Z ?_))
    cases h
    exact TL.nil (GP [0,0])
   refine GG aL fh 0 Z 5 Z Z (GI 16 Z (JT c17) ?_)
   obtain⟨x18,hx19,h⟩:=JO h
   refine GG aL fh 0 Z 2 Z Z (GZ Z (.g Z Z Z) (.fn Tryz.call101 Z) (Hy (fun w=>de a0.Ji 4 _ hx19 w)) (fun _ _=>Hi _ _) Z ?_)
   rcases jF h with⟨c20,h⟩ | ⟨c20,h⟩
   ·refine GJ aL 3 Z (GI 22 Z (aZ c20) ?_)
    rcases jF h with⟨c21,h⟩ | ⟨c21,h⟩
    ·refine GJ aL 3 Z (GI 25 Z (JS c21) (GG aL fh 0 Z 5 Z Z ?_))
     rcases jF h with⟨c22,h⟩ | ⟨c22,h⟩
     ·cases h
      exact TL.nil (Hx (d:=30) (v':= .bool true) Z (congrArg Value.bool (JS c22)) (GP [0,0]))
     cases h
     exact TL.nil (Hx (d:=30) (v':= .bool false) Z (congrArg Value.bool (JT c22)) (GP [0,0]))
    refine GJ aL 3 Z (GI 25 Z (JT c21) (GJ aL 5 Z ?_))
    cases h
    exact TL.nil (GP [0,0])
   replace c20:=JW c20
   refine GJ aL 3 Z (GI 22 Z (bw c20) (GJ aL 8 Z ?_))
   cases h
   exact TL.nil (GP [0,0])
  replace c16:=JW c16
  refine GB aL 2 Z (GI 11 Z (bw c16) (GJ aL 19 Z ?_))
  cases h
  exact TL.nil (GP [0,0])
 rintro _ _ ⟨rfl,rfl⟩
 clear h
 have h:=hk13
 clear hk13
 try dsimp only at h
 rcases jF h with⟨c23,h⟩ | ⟨c23,h⟩
 ·refine X.seq (GO Z c23 (GC Z (GB aL 1 Z ?_)))
  obtain rfl:=JP h
  exact GD (T.ret (GH (GL [1] Tryz.results193 (GF Z))))
 replace c23:=JW c23
 refine X.seq (G7 Z c23 (Hb Z ?_))
 obtain⟨x24,hx25,h⟩:=JO h
 refine GG aL fh 0 Z 2 Z Z (GZ Z .u (.fn Tryz.call210 Z) (np a0.I5 _ _ _ hx25) (fun _ hs=>(GS hs hX)) Z (GB aL 1 Z ?_))
 obtain rfl:=JP h
 exact GD (T.ret (GL [1] Tryz.results193 (GF Z)))
def eN (a1:Int):List aP→Int→Option (Lp Int Int)
 | [],y4=>some (Lp.go y4)
 | x10::xs,y4=>(f3 x10 a1).bind fun x18=>if x18=0 then (eN a1 xs y4) else some (Lp.ret x18)
def ie (a0:List aP) (a1:Int):Option (Int):=if (a0.length:Int)=0 then some 10 else ((eN a1 a0 0).bind fun e=>match e with | .ret r=>some r | .go y21=>some 0)
theorem lO (a0:List aP) (A1:Option Addr) (c2:Nat) (a1:Int) (r:Int) (h:ie a0 a1=some r):aE Tryz.prog 155 #[.slice A1 a0.length c2,jI a1] (RX.of (ao 5 aW) [.slice A1 a0.length c2] a0) (aO) (fun v A' N=>v=jI r∧A'=aO∧N = []):=by
 refine aU Tryz.func155 Z Tryz.ntmps155 Z ?_
 intro F w hX
 unfold ie at h
 refine GC Z (GK aL Z (T.seq (GC Z (GB aL 1 Z (GE Z (GQ Z KO) Z (GB aL 1 Z ?_))))))
 rcases jF h with⟨c3,h⟩ | ⟨c3,h⟩
 ·refine G9 Z c3 (GC Z (GB aL 1 Z ?_))
  obtain rfl:=JP h
  exact GD (T.ret (GH (GL [0] Tryz.results155 (GF Z))))
 refine Ha Z c3 (GW (T.seq (GC Z (GB aL 1 Z (GE Z (GQ Z KO) Z (GK aL Z (T.block ?_)))))))
 obtain⟨E6,hE7,hO8⟩:=JO h
 have hk12len:=Hq hX
 refine Hv (fun m e Rs=> ∃ (y4:Int) (k5:Nat),k5+m=a0.length∧e = [(1,jI a1),(4,jI y4),(11,.slice A1 a0.length c2),(12,jI (a0.length:Int)),(13,jI (k5:Int))]∧Rs = [aO]∧eN a1 (a0.drop k5) y4=some E6) (a0.length) [0] ⟨0,0,by simp,Z,Z,by rw[List.drop_zero]; exact hE7⟩ (by rfl) (by rfl) ?_
 clear hE7 h
 rintro m9 _ _ ⟨y4,k5,hk12,rfl,rfl,h⟩
 cases m9 with
 | zero =>
  rw[List.drop_of_length_le (by omega),eN] at h
  have hk12ge: ¬ ((k5:Int)<(a0.length:Int)):=by omega
  refine GC Z (GK aL Z (T.seq (G7 Z (JT hk12ge) ?_)))
  obtain rfl:=JP h
  replace h:=hO8
  clear hO8
  try dsimp only at h
  refine T.exit (GT (GT (Hu (X.seq (GC Z (GB aL 1 Z ?_))))))
  obtain rfl:=JP h
  exact GD (T.ret (GL [0] Tryz.results155 (GF Z)))
 | succ m9 =>
  obtain⟨x10,hxx10⟩: ∃ x,a0[k5]? = some x:=⟨_,List.getElem?_eq_getElem (by omega)⟩
  rw[bz hxx10,eN] at h
  have hk12lt:(k5:Int)<(a0.length:Int):=by omega
  refine GC Z (GK aL Z (T.seq (GO Z (JS hk12lt) ?_)))
  obtain⟨gz13,oz13,rfl,z13cs,z13cl,z13cc,z13nf,z13r⟩:=Hg (by decide) hX hxx10
  obtain⟨z13S,z13r,z13rr⟩:=z13r
  obtain⟨A14,c15,rfl,z13s0⟩:=z13r
  have hX16:(RX.of (ao 2 ba) [.slice A14 x10.I5.length c15] x10.I5).reads w F:=⟨z13S,z13s0,z13rr⟩
  refine GW (T.seq (T.block (GC Z ?_)))
  refine GE Z (GY (k:=k5) Z Z Z KO KT (JV hxx10).1) Z ?_
  refine GE Z (HW (us := [jI x10.I6,jI x10.I8,.bool x10.Js,.slice A14 x10.I5.length c15,jI x10.Ji]) 0 Z LV KT z13nf z13cc Z Z Z) Z (TL.alloc Z .u Tryz.zeroValue173 Z (fun b17=>(GU (cs':= #[jI x10.I6,jI x10.I8,.bool x10.Js,.slice A14 x10.I5.length c15,jI x10.Ji]) Z .u Z Z KT Z Z Z Z (GV Z (GE Z (GR (us := [jI x10.I6,jI x10.I8,.bool x10.Js,.slice A14 x10.I5.length c15,jI x10.Ji]) 0 Z LV KT Z Z Z) Z ?_)))))
  obtain⟨x18,hx19,h⟩:=JO h
  refine GB aL 1 Z (GZ Z .u (.fn Tryz.call193 Z) (nD x10 _ _ a1 _ hx19) (fun _ hs=>(GS hs hX16)) Z (G4 aL Z Z (GB aL 2 Z ?_)))
  rcases jF h with⟨c20,h⟩ | ⟨c20,h⟩
  ·exact He Z c20 (T.skip (GX (X.seq (T.region Z (GE Z (Ex.add Z Z (by omega)) Z (GB aL 1 Z (TL.nil (X.back (m':=m9) [1] (by omega) ⟨y4,k5+1,by omega,Z,Z,h⟩ (by rfl) (by rfl)))))))))
  refine Hc Z c20 (GC Z (GB aL 2 Z ?_))
  obtain rfl:=JP h
  obtain rfl:=JP hO8
  exact GD (T.ret (GN (GH (GH (GN (GH (GL [1] Tryz.results155 (GF Z))))))))
def ei (a2:Int):List aP→(List UInt8×Int)→Option (List UInt8×Int)
 | [],st9=>some st9
 | x14::xs,st9=>(dK st9 x14.I6 8).bind fun st22=>(dK st22 x14.I8 2).bind fun st24=>(gG st24 x14.Js).bind fun st26=>(eK st26 x14.I5).bind fun st28=>(if a2>0 then ((dK st28 x14.Ji 4).bind fun st36=>some st36) else some st28).bind fun st33=>ei a2 xs st33
def jo (st:List UInt8×Int) (a1:List aP) (a2:Int):Option (List UInt8×Int):=(ie a1 a2).bind fun x3=>if x3=0 then ((dK st (a1.length:Int) 4).bind fun st6=>(ei a2 a1 st6).bind fun st39=>some st39) else ((jH st x3).bind fun st40=>some st40)
theorem qH (g:Nat) (st:List UInt8×Int) (a1:List aP) (A1:Option Addr) (c2:Nat) (a2:Int) (r:List UInt8×Int) (h:jo st a1 a2=some r):aE Tryz.prog 99 #[jP g,.slice A1 a1.length c2,jI a2] (RX.of (ao 5 aW) [.slice A1 a1.length c2] a1) (bm g st) (fun v A' N=>v= .tuple #[]∧A'=bm g r∧N = []):=by
 refine aU Tryz.func99 Z Tryz.ntmps99 Z ?_
 intro F w hX
 unfold jo at h
 refine T.seq (GC Z ?_)
 obtain⟨x3,hx4,h⟩:=JO h
 refine GB aL 2 Z (GZ Z .u (.fn Tryz.call155 Z) (lO a1 _ _ a2 _ hx4) (fun _ hs=>(GS hs hX)) Z (G4 aL Z Z (GB aL 2 Z ?_)))
 rcases jF h with⟨c5,h⟩ | ⟨c5,h⟩
 ·refine He Z c5 (Hb Z (GB aL 2 Z (GE Z (GQ Z KO) Z ?_)))
  obtain⟨st6,hx7,h⟩:=JO h
  refine Ht Z .u (.fn Tryz.call51 Z) (bf g st (a1.length:Int) 4 _ hx7) sT Z (GV Z (GB aL 1 Z (GE Z (GQ Z KO) Z (GK aL Z (T.block ?_)))))
  obtain⟨E10,hE11,hO12⟩:=JO h
  have hk16len:=Hq hX
  refine Hv (fun m e Rs=> ∃ (k8:Nat) (st9:List UInt8×Int),k8+m=a1.length∧e = [(0,jP g),(2,jI a2),(21,.slice A1 a1.length c2),(22,jI (a1.length:Int)),(23,jI (k8:Int))]∧Rs = [bm g st9]∧ei a2 (a1.drop k8) st9=some E10) (a1.length) [0] ⟨0,st6,by simp,Z,Z,by rw[List.drop_zero]; exact hE11⟩ (by rfl) (by rfl) ?_
  clear hE11 h
  rintro m13 _ _ ⟨k8,st9,hk16,rfl,rfl,h⟩
  cases m13 with
  | zero =>
   rw[List.drop_of_length_le (by omega),ei] at h
   have hk16ge: ¬ ((k8:Int)<(a1.length:Int)):=by omega
   refine GC Z (GK aL Z (T.seq (G7 Z (JT hk16ge) ?_)))
   obtain rfl:=JP h
   obtain rfl:=JP hO12
   exact T.exit (GT (GT (Hu (H7 [0] Tryz.results99 ⟨Z,Z,Z⟩ (by rfl) (.inr Z)))))
  | succ m13 =>
   obtain⟨x14,hxx14⟩: ∃ x,a1[k8]? = some x:=⟨_,List.getElem?_eq_getElem (by omega)⟩
   rw[bz hxx14,ei] at h
   have hk16lt:(k8:Int)<(a1.length:Int):=by omega
   refine GC Z (GK aL Z (T.seq (GO Z (JS hk16lt) ?_)))
   obtain⟨gz17,oz17,rfl,z17cs,z17cl,z17cc,z17nf,z17r⟩:=Hg (by decide) hX hxx14
   obtain⟨z17S,z17r,z17rr⟩:=z17r
   obtain⟨A18,c19,rfl,z17s0⟩:=z17r
   have hX20:(RX.of (ao 2 ba) [.slice A18 x14.I5.length c19] x14.I5).reads w F:=⟨z17S,z17s0,z17rr⟩
   refine GW (T.seq (T.block (GC Z ?_)))
   refine GE Z (GY (k:=k8) Z Z Z KO KT (JV hxx14).1) Z ?_
   refine GE Z (HW (us := [jI x14.I6,jI x14.I8,.bool x14.Js,.slice A18 x14.I5.length c19,jI x14.Ji]) 0 Z LV KT z17nf z17cc Z Z Z) Z (TL.alloc Z .u Tryz.zeroValue173 Z (fun b21=>(GU (cs':= #[jI x14.I6,jI x14.I8,.bool x14.Js,.slice A18 x14.I5.length c19,jI x14.Ji]) Z .u Z Z KT Z Z Z Z (GV Z ?_))))
   obtain⟨st22,hx23,h⟩:=JO h
   refine GG aL fh 0 Z 3 Z Z (Hh Z .u (.fn Tryz.call51 Z) (bf g st9 x14.I6 8 _ hx23) sT Z (GV Z ?_))
   obtain⟨st24,hx25,h⟩:=JO h
   refine GG aL fh 0 Z 3 Z Z (Hh Z .u (.fn Tryz.call51 Z) (bf g st22 x14.I8 2 _ hx25) sT Z (GV Z ?_))
   obtain⟨st26,hx27,h⟩:=JO h
   refine GG aL fh 0 Z 3 Z Z (Hh Z .u (.fn Tryz.call154 Z) (lu g st24 x14.Js _ hx27) sT Z (GV Z ?_))
   obtain⟨st28,hx29,h⟩:=JO h
   refine GG aL fh 0 Z 3 Z Z (Hh Z .u (.fn Tryz.call91 Z) (jk g st26 x14.I5 _ _ _ hx29) (fun _ hs=>(Iw hs hX20)) Z (GV Z (GK aL Z ?_)))
   obtain⟨st33,h,hk34⟩:=JO h
   refine HJ (fun e Rs=>e = [(0,jP g),(2,jI a2),(21,.slice (some ⟨gz17,oz17,none⟩) a1.length c2),(22,jI (a1.length:Int)),(23,jI (k8:Int))]∧Rs = [aT b21 173 #[jI x14.I6,jI x14.I8,.bool x14.Js,.slice A18 x14.I5.length c19,jI x14.Ji],bm g st33]) ?_ ?_
   ·clear hk34
    rcases jF h with⟨c35,h⟩ | ⟨c35,h⟩
    ·refine Ij Z c35 (T.region Z ?_)
     obtain⟨st36,hx37,h⟩:=JO h
     refine GG aL fh 0 Z 3 Z Z (Hh Z .u (.fn Tryz.call51 Z) (bf g st28 x14.Ji 4 _ hx37) sT Z ?_)
     cases h
     exact TL.nil (GP [0,0])
    refine Io Z c35 ?_
    cases h
    exact T.skip (GP [0,0])
   rintro _ _ ⟨rfl,rfl⟩
   clear h
   have h:=hk34
   clear hk34
   try dsimp only at h
   exact GX (X.seq (T.region Z (GE Z (Ex.add Z Z (by omega)) Z (GB aL 1 Z (TL.nil (X.back (m':=m13) [1] (by omega) ⟨k8+1,st33,by omega,Z,Z,h⟩ (by rfl) (by rfl)))))))
 refine Hc Z c5 (GC Z ?_)
 obtain⟨st40,hx41,h⟩:=JO h
 refine GB aL 2 Z (Ht Z .u (.fn Tryz.call94 Z) (ga g st x3 _ hx41) sT Z ?_)
 obtain rfl:=JP h
 exact GD (T.ret (GH (H7 [0] Tryz.results99 ⟨Z,Z,Z⟩ (by rfl) (.inl Z))))
def cW (a1:Int) (x1:Int):Nat→List aP→List aP→Nat→I→Option (Lp (List aP×I) (List aP×List aP×Nat×I))
 | 0,_,_,_,_=>none
 | m15+1,y4,y7,k10,st11=>if (k10:Int)<x1 then ((dL st11 8).bind fun (x20,st21)=>(dL st21 2).bind fun (x23,st24)=>(fN st24).bind fun (x26,st27)=>(dA st27).bind fun (x30,st33)=>(if a1>0 then ((dL st33 4).bind fun (x43,st44)=>some (x43,st44)) else ((some (0,st33):Option (Int×I)))).bind fun (y39,st40)=>(gJ st40).bind fun (x46,st47)=>if x46=0 then (if (y7.length+1)*56≤140737488355328 then (if -9223372036854775808≤((k10:Int)+1)∧((k10:Int)+1)≤9223372036854775807 then (cW a1 x1 m15 y4 (y7 ++ [(⟨x20,x23,x26,x30,y39⟩:aP)]) (k10+1) st47) else none) else none) else (some (Lp.ret ([],st47)))) else (some (Lp.go (y4,y7,k10,st11)))
def fF (st:I) (a1:Int):Option (List aP×I):=(ip st 4 15).bind fun (x1,st2)=>(cW a1 x1 ((x1).toNat+1) [] [] 0 st2).bind fun e=>match e with | .ret r=>some r | .go (y64,y67,k70,st71)=>((gJ st71).bind fun (x72,st73)=>if x72=0 then ((ie y67 a1).bind fun x76=>if x76=0 then some (y67,st73) else ((bU st73 x76).bind fun st79=>some ([],st79))) else some ([],st73))
theorem sp (g:Nat) (st:I) (a1:Int) (r:List aP×I) (h:fF st a1=some r):aE Tryz.prog 119 #[jP g,jI a1] .triv (InR g st) (fun v A' N=> ∃ (A81:Option Addr) (c82:Nat),v= .slice A81 r.1.length c82∧A'=InR g r.2∧N = [RdR (ao 5 aW) [.slice A81 r.1.length c82] r.1]):=by
 refine aU Tryz.func119 Z Tryz.ntmps119 Z ?_
 intro F w hX
 unfold fF at h
 refine GC Z (G4 aL Z Z (GK aL Z (T.seq (GC Z ?_))))
 obtain⟨⟨x1,st2⟩,hx3,h⟩:=JO h
 try dsimp only at h
 refine GB aL 1 Z (Ht Z .u (.fn Tryz.call144 Z) (ka g st 4 15 _ hx3) sT Z (GK aL Z (T.block ?_)))
 iterate 2 refine Ih 173 5 aW ?_
 obtain⟨E12,hE13,hO14⟩:=JO h
 refine Hv (fun m e Rs=> ∃ (y4:List aP) (A5:Option Addr) (c6:Nat) (y7:List aP) (A8:Option Addr) (c9:Nat) (k10:Nat) (st11:I),e = [(0,jP g),(1,jI a1),(4,.slice A5 y4.length c6),(5,.slice A8 y7.length c9),(9,jI x1),(10,jI (k10:Int))]∧Rs = [cI 173 5 aW (.slice A5 y4.length c6) y4,cI 173 5 aW (.slice A8 y7.length c9) y7,InR g st11]∧cW a1 x1 m y4 y7 k10 st11=some E12) ((x1).toNat+1) [0,0,0] ⟨[],none,0,[],none,0,0,st2,Z,Z,by exact hE13⟩ (by rfl) (by rfl) ?_
 clear hE13 h
 rintro m15 _ _ ⟨y4,A5,c6,y7,A8,c9,k10,st11,rfl,rfl,h⟩
 cases m15 with
 | zero =>
  rw[cW] at h
  cases h
 | succ m15 =>
  rw[cW] at h
  refine GC Z (GB aL 1 Z ?_)
  rcases jF h with⟨c19,h⟩ | ⟨c19,h⟩
  ·refine GD (T.seq (Ij Z c19 (GW (T.seq (T.block (GC Z ?_))))))
   obtain⟨⟨x20,st21⟩,hx22,h⟩:=JO h
   try dsimp only at h
   refine GB aL 1 Z (HY Z .u (.fn Tryz.call68 Z) (bj g st11 8 _ hx22) sT Z ?_)
   obtain⟨⟨x23,st24⟩,hx25,h⟩:=JO h
   try dsimp only at h
   refine GB aL 1 Z (HY Z .u (.fn Tryz.call68 Z) (bj g st21 2 _ hx25) sT Z ?_)
   obtain⟨⟨x26,st27⟩,hx28,h⟩:=JO h
   try dsimp only at h
   refine GB aL 1 Z (HY Z .u (.fn Tryz.call171 Z) (nq g st24 _ hx28) sT Z ?_)
   refine GE Z (Hf (cells:= #[jI x20,jI x23,.bool x26,.slice none 0 0,jI 0]) xA Z (by kernel_rfl)) Z ?_
   refine TL.alloc Z .u Tryz.zeroValue173 Z (fun b29=>(GU (cs':= #[jI x20,jI x23,.bool x26,.slice none 0 0,jI 0]) Z .u Z Z KT Z Z Z Z (GV Z ?_)))
   obtain⟨⟨x30,st33⟩,hx34,h⟩:=JO h
   try dsimp only at h
   refine GB aL 1 Z (TL.cg3 Z .u (.fn Tryz.call89 Z) (kG g st27 _ hx34) sT Z ?_)
   rintro _ _ _ ⟨A31,c32,rfl,rfl,rfl⟩
   refine Hz [0,0,0,0,0] Z (GB aL 1 Z (H5 (cs':= #[jI x20,jI x23,.bool x26,.slice A31 x30.length c32,jI 0]) Z .u Z Z LG Z Z Z Z (GD (T.seq (GC Z (GK aL Z ?_))))))
   obtain⟨⟨y39,st40⟩,h,hk41⟩:=JO h
   refine HJ (fun e Rs=>e = [(0,jP g),(1,jI a1),(4,.slice A5 y4.length c6),(5,.slice A8 y7.length c9),(6,jP b29),(9,jI x1),(10,jI (k10:Int))]∧Rs = [RdR (ao 2 ba) [.slice A31 x30.length c32] x30,aT b29 173 #[jI x20,jI x23,.bool x26,.slice A31 x30.length c32,jI y39],cI 173 5 aW (.slice A5 y4.length c6) y4,cI 173 5 aW (.slice A8 y7.length c9) y7,InR g st40]) ?_ ?_
   ·clear hk41
    rcases jF h with⟨c42,h⟩ | ⟨c42,h⟩
    ·refine Ij Z c42 (T.region Z ?_)
     obtain⟨⟨x43,st44⟩,hx45,h⟩:=JO h
     try dsimp only at h
     refine GB aL 1 Z (TL.c4 Z .u (.fn Tryz.call68 Z) (bj g st33 4 _ hx45) sT Z (GB aL 1 Z (H5 (cs':= #[jI x20,jI x23,.bool x26,.slice A31 x30.length c32,jI x43]) Z .u Z Z JX Z Z Z Z ?_)))
     cases h
     exact TL.nil (GP [0,0,0,0,0])
    refine Io Z c42 ?_
    cases h
    exact T.skip (GP [0,0,0,0,0])
   rintro _ _ ⟨rfl,rfl⟩
   clear h
   have h:=hk41
   clear hk41
   try dsimp only at h
   refine X.seq (T.seq (GC Z ?_))
   obtain⟨⟨x46,st47⟩,hx48,h⟩:=JO h
   try dsimp only at h
   refine GB aL 1 Z (TL.c4 Z .u (.fn Tryz.call23 Z) (cc g st40 _ hx48) sT Z (GB aL 1 Z ?_))
   rcases jF h with⟨c49,h⟩ | ⟨c49,h⟩
   ·refine He Z c49 (GW (T.region Z (GB aL 1 Z (GE Z (GR (us := [jI x20,jI x23,.bool x26,.slice A31 x30.length c32,jI y39]) 1 Z LV KT Z Z Z) Z ?_))))
    refine Ix (cells:= #[jI x20,jI x23,.bool x26,.slice A31 x30.length c32,jI y39]) Z .u vZ Z (by kernel_rfl) Z (fun b50=> ?_)
    obtain⟨c51,h⟩:=ay h
    refine IV 3 0 Z .u (us := [jI x20,jI x23,.bool x26,.slice A31 x30.length c32,jI y39]) (u:=(⟨x20,x23,x26,x30,y39⟩:aP)) (l:=y7) (E:=aW) Tryz.underlying33 xB Z (by decide) Z Z Z Z Z Z Z (fun w G hG=>⟨_,_,Z,hG.1⟩) (by have hq:=c51; omega) (by have hq:=c51; omega) Z (fun A52 c53=> ?_)
    refine Hz [0,0,0,0] Z (GB aL 1 Z ?_)
    obtain⟨c54,h⟩:=ay h
    exact TL.nil (GX (X.seq (T.region Z (GE Z (Ex.add Z Z c54) Z (GB aL 1 Z (TL.nil (X.back (m':=m15) [2,0,1] (by omega) ⟨y4,A5,c6,(y7 ++ [(⟨x20,x23,x26,x30,y39⟩:aP)]),A52,c53,k10+1,st47,Z,Z,h⟩ (by rfl) (by rfl))))))))
   refine Hc Z c49 (GC Z (GB aL 1 Z ?_))
   obtain rfl:=JP h
   obtain rfl:=JP hO14
   exact GD (T.ret (GH (GN (GH (GH (GN (GH (G6 5 aW (G8 [5,0] MN (GF Z) ⟨_,_,Z,Z,Z⟩ (by rfl) (.inl Z))))))))))
  refine GD (T.seq (Io Z c19 ?_))
  obtain rfl:=JP h
  replace h:=hO14
  clear hO14
  try dsimp only at h
  refine T.exit (GT (GT (Hu (X.seq (T.seq (GC Z ?_))))))
  obtain⟨⟨x55,st56⟩,hx57,h⟩:=JO h
  try dsimp only at h
  refine GB aL 1 Z (HY Z .u (.fn Tryz.call23 Z) (cc g st11 _ hx57) sT Z (GB aL 1 Z ?_))
  rcases jF h with⟨c58,h⟩ | ⟨c58,h⟩
  ·refine He Z c58 (GW (T.seq (GC Z ?_)))
   obtain⟨x59,hx60,h⟩:=JO h
   refine GB aL 2 Z (GZ Z .u (.fn Tryz.call155 Z) (lO y7 _ _ a1 _ hx60) (fun _ hs=>(SrcE.res 1 hs Z (fun w G h=>ed (by decide) w G h))) Z (G4 aL Z Z (GB aL 2 Z ?_)))
   rcases jF h with⟨c61,h⟩ | ⟨c61,h⟩
   ·refine He Z c61 (Hb Z (GB aL 2 Z ?_))
    obtain rfl:=JP h
    exact GD (T.ret (IZ (by decide) 1 Z (HK [0,0,0] Z (G8 [2,1] MN (GF Z) ⟨_,_,Z,Z,Z⟩ (by rfl) (.inl Z)))))
   refine Hc Z c61 (GC Z ?_)
   obtain⟨st62,hx63,h⟩:=JO h
   refine GB aL 2 Z (HY Z .u (.fn Tryz.call70 Z) (bx g st56 x59 _ hx63) sT Z (GV Z (GB aL 1 Z ?_)))
   obtain rfl:=JP h
   exact GD (T.ret (GH (G6 5 aW (G8 [3,0] MN (GF Z) ⟨_,_,Z,Z,Z⟩ (by rfl) (.inl Z)))))
  refine Hc Z c58 (GC Z (GB aL 1 Z ?_))
  obtain rfl:=JP h
  exact GD (T.ret (GH (G6 5 aW (G8 [3,0] MN (GF Z) ⟨_,_,Z,Z,Z⟩ (by rfl) (.inl Z)))))
def eL (n:Int) (i:Nat):Bool:=decide (n / 2 ^ i % 2=1)
theorem xC (n:Int) (m:Nat) (hm:m<9223372036854775808):bits .and .i64 n m=(((n % 18446744073709551616).toNat &&& m:Nat):Int):=by
 have e1:(BitVec.ofInt 64 n).toNat=(n % 18446744073709551616).toNat:=by simp[BitVec.toNat_ofInt]
 have e2:(BitVec.ofInt 64 (m:Int)).toNat=m:=by
  rw[BitVec.ofInt_natCast,BitVec.toNat_ofNat,Nat.mod_eq_of_lt (by omega)]
 show IntKind.i64.wrap (((BitVec.ofInt 64 n) &&& (BitVec.ofInt 64 (m:Int))).toNat:Int)= _
 rw[BitVec.toNat_and,e1,e2]
 have h:(n % 18446744073709551616).toNat &&& m≤m:=Nat.and_le_right
 rw[IntKind.wrap_i64]
 omega
theorem FV (n:Int) (i:Nat) (hi:i<64):(n % 18446744073709551616).toNat.testBit i=eL n i:=by
 have hs:(18446744073709551616:Int)=2 ^ i*2 ^ (64 - i):=by
  rw[← Int.pow_add,show i+(64 - i)=64 by omega]
  rfl
 have h2:(2:Int) ^ (64 - i)=2*2 ^ (63 - i):=by
  rw[show 64 - i=1+(63 - i) by omega,Int.pow_add]
  rfl
 rw[Nat.testBit_eq_decide_div_mod_eq,eL]
 have hp:(0:Int)<2 ^ i:=Int.pow_pos (by decide)
 have h4:n % 18446744073709551616 / 2 ^ i=n / 2 ^ i % 2 ^ (64 - i):=by
  have e:n % 18446744073709551616=n - 2 ^ i*(2 ^ (64 - i)*(n / 18446744073709551616)):=by
   have:=Int.emod_def n 18446744073709551616
   rw[this,hs,Int.mul_assoc]
  rw[e,Int.sub_mul_ediv_left _ _ (by omega),Int.emod_def,Int.ediv_ediv_of_nonneg (Int.le_of_lt hp),← hs]
 have h5:n / 2 ^ i % 2 ^ (64 - i) % 2=n / 2 ^ i % 2:=by
  rw[h2]
  exact Int.emod_emod_of_dvd _ ⟨_,rfl⟩
 have h6:(((n % 18446744073709551616).toNat / 2 ^ i % 2:Nat):Int)=n / 2 ^ i % 2:=by
  have e:((n % 18446744073709551616).toNat:Int)=n % 18446744073709551616:=by omega
  rw[Int.natCast_emod,Int.natCast_ediv,e,Int.natCast_pow]
  show n % 18446744073709551616 / 2 ^ i % 2= _
  rw[h4,h5]
 congr 1
 apply propext
 omega
theorem xD (n:Int) (i:Nat) (hi:i<63):(bits .and .i64 n ((2 ^ i:Nat):Int) != 0)=eL n i:=by
 have hm:2 ^ i<9223372036854775808:=Nat.lt_of_lt_of_eq (Nat.pow_lt_pow_right (by decide) hi) (show 2 ^ 63=9223372036854775808 by decide)
 rw[xC n _ hm,← FV n i (by omega)]
 generalize (n % 18446744073709551616).toNat=a
 cases h:a.testBit i with
 | true =>
  have:(a &&& 2 ^ i)≠0:=by
   intro h0
   have:=congrArg (fun x=>Nat.testBit x i) h0
   simp[h,Nat.testBit_two_pow_self] at this
  simp; omega
 | false =>
  have:(a &&& 2 ^ i)=0:=by
   apply Nat.eq_of_testBit_eq
   intro j
   rw[Nat.testBit_and,Nat.testBit_two_pow]
   by_cases hj:i=j
   ·subst hj; simp[h]
   ·simp[hj]
  simp[this]
theorem CW (n:Int):(bits .and .i64 n 7 != 0)=decide (n % 8≠0):=by
 have h:=xC n 7 (by decide)
 rw[show ((7:Nat):Int)=7 from rfl] at h
 rw[h,Nat.and_two_pow_sub_one_eq_mod _ 3]
 rw[Bool.eq_iff_iff]
 simp
 omega
theorem CX (n:Int) (h8:n % 8=0) (h0: -9223372036854775808≤n) (h1:n≤9223372036854775807):(bits .andNot .i64 n 56 != 0)=decide (n<0∨63<n):=by
 have e1:(BitVec.ofInt 64 n).toNat=(n % 18446744073709551616).toNat:=by simp[BitVec.toNat_ofInt]
 have e2:(~~~ BitVec.ofInt 64 (56:Int)).toNat=18446744073709551559:=by decide
 have e3:bits .andNot .i64 n 56=IntKind.i64.wrap (((BitVec.ofInt 64 n) &&& ~~~ (BitVec.ofInt 64 (56:Int))).toNat:Int):=rfl
 rw[e3,BitVec.toNat_and,e1,e2]
 have ha:(n % 18446744073709551616).toNat % 8=0:=by omega
 have hb:(n % 18446744073709551616).toNat<64 ↔ ¬ (n<0∨63<n):=by omega
 have hc:(n % 18446744073709551616).toNat<18446744073709551616:=by omega
 generalize (n % 18446744073709551616).toNat=a at *
 have hw: ∀ x:Nat,x<18446744073709551616→((IntKind.i64.wrap (x:Int) != 0)=decide (x≠0)):=by
  intro x hx
  rw[IntKind.wrap_i64,Bool.eq_iff_iff]
  simp
  omega
 rw[hw _ (Nat.lt_of_le_of_lt Nat.and_le_left hc)]
 by_cases h:a<64
 ·have:a=0∨a=8∨a=16∨a=24∨a=32∨a=40∨a=48∨a=56:=by omega
  have hz:a &&& 18446744073709551559=0:=by rcases this with rfl | rfl | rfl | rfl | rfl | rfl | rfl | rfl <;> decide
  simp[hz,hb.1 h]
 ·have hz:a &&& 18446744073709551559≠0:=by
   intro h0
   have h2:=congrArg (fun x=>x >>> 6) h0
   simp only[Nat.shiftRight_and_distrib] at h2
   rw[show 18446744073709551559 >>> 6=2 ^ 58 - 1 from rfl,Nat.and_two_pow_sub_one_eq_mod,Nat.shiftRight_eq_div_pow] at h2
   simp at h2
   omega
  have:n<0∨63<n:=by
   rcases Classical.em (n<0∨63<n) with h2 | h2
   ·exact h2
   ·exact absurd (hb.2 h2) h
  simp[hz,this]
theorem and_8 (n:Int):(bits .and .i64 n 8 != 0)=eL n 3:=xD n 3 (by decide)
theorem D6 (n:Int):(bits .and .i64 n 16 != 0)=eL n 4:=xD n 4 (by decide)
theorem D7 (n:Int):(bits .and .i64 n 32 != 0)=eL n 5:=xD n 5 (by decide)
theorem D8 {a b:Int} {c:Bool} (h:(a != b)=c):(a == b)= !c:=by rw[← h,bne,Bool.not_not]
theorem CY (n:Int) (w:World) :
 Calls Tryz.prog 186 #[.int .i64 n] w fun e w'=>e= .returned (.tuple #[.bool (eL n 3),.bool (eL n 4),.bool (eL n 5)])∧w=w':=by
 have H1:=Lib.hid (and_8 n)
 have H2:=Lib.hid (D6 n)
 have H3:=Lib.hid (D7 n)
 go_enter Tryz.func186,Tryz.ntmps186
 go_wp2
 go_ret3
 exact⟨congrArg Ending.returned (show (Value.tuple #[.bool (bits .and .i64 n 8 != 0),.bool (bits .and .i64 n 16 != 0),.bool (bits .and .i64 n 32 != 0)])= _ by rw[H1.out,H2.out,H3.out]),rfl⟩
def eO (n:Int):Int:=if n % 8≠0 then 9 else if n<0∨63<n∨(eL n 5=true∧eL n 4=false) then 8 else 0
theorem Ay (n:Int) (h0: -9223372036854775808≤n) (h1:n≤9223372036854775807) (w:World) :
 Calls Tryz.prog 185 #[.int .i64 n] w fun e w'=>e= .returned (.int .i64 (eO n))∧w=w':=by
 have h7:=CW n
 by_cases h8:n % 8=0
 ·have ha:=CX n h8 h0 h1
  have h32:=D7 n
  have h16:=D8 (D6 n)
  have H8:=Lib.hid h8
  simp only[h8] at h7
  by_cases hr:n<0∨63<n
  ·have HA:=Lib.hid (show eO n=8 by simp only[eO,h8]; rcases hr with h | h <;> simp[h])
   simp only[hr] at ha
   clear hr h8 h32 h16
   go_enter MO,MB
   go_wp2
   go_ret
   exact⟨kN (by rw[HA.out]),rfl⟩
  ·simp only[hr] at ha
   have HR:=Lib.hid hr
   clear hr h8
   cases b5:eL n 5 with
   | true =>
    cases b4:eL n 4 with
    | true =>
     have HA:=Lib.hid (show eO n=0 by have:=HR.out; simp[eO,H8.out,b5,b4]; omega)
     rw[b5] at h32
     rw[b4] at h16
     clear b5 b4
     go_enter MO,MB
     go_wp2
     go_ret
     exact⟨kN (by rw[HA.out]),rfl⟩
    | false =>
     have HA:=Lib.hid (show eO n=8 by simp[eO,H8.out,b5,b4])
     rw[b5] at h32
     rw[b4] at h16
     clear b5 b4
     go_enter MO,MB
     go_wp2
     go_ret
     exact⟨kN (by rw[HA.out]),rfl⟩
   | false =>
    have HA:=Lib.hid (show eO n=0 by have:=HR.out; simp[eO,H8.out,b5]; omega)
    rw[b5] at h32
    clear b5 h16
    go_enter MO,MB
    go_wp2
    go_ret
    exact⟨kN (by rw[HA.out]),rfl⟩
 ·have HA:=Lib.hid (show eO n=9 by simp[eO,h8])
  simp only[ne_eq,h8] at h7
  clear h8
  go_enter MO,MB
  go_wp2
  go_ret
  exact⟨kN (by rw[HA.out]),rfl⟩
def iq (a t c:Bool):Int:=(if a then 8 else 0)+(if t then 16 else 0)+(if c then 32 else 0)
theorem yI {w W:World} (h:Below w.heap.size w W) (o:Obj):Below w.heap.size w (W.alloc o):=h.alloc h.size o
theorem Of_any (i0 i1 i5 i6 i7 i8 i9 i10:Int) (a t c:Bool) (A:Option Addr) (n k:Nat) (w:World) :
 Calls Tryz.prog 82 #[.agg #[.int .i64 i0,.int .i64 i1,.bool a,.bool t,.bool c,.int .i64 i5,.int .i64 i6,.int .i64 i7,.int .i64 i8,.int .i64 i9,.int .i64 i10,.slice A n k]] w fun e w' =>
  e= .returned (.int .i64 (iq a t c))∧Below w.heap.size w w':=by
 have ix: ∀ (x0 x1 x2 x3 x4 x5: Value),(∀ w:World,(Instr.index 231 (.agg #[x0,x1,x2,x3,x4,x5]) (.int .i64 0)).run Tryz.prog w= .ok (.agg #[x0,x1]) w)∧(∀ w:World,(Instr.index 231 (.agg #[x0,x1,x2,x3,x4,x5]) (.int .i64 1)).run Tryz.prog w= .ok (.agg #[x2,x3]) w)∧(∀ w:World,(Instr.index 231 (.agg #[x0,x1,x2,x3,x4,x5]) (.int .i64 2)).run Tryz.prog w= .ok (.agg #[x4,x5]) w):=fun _ _ _ _ _ _=>⟨fun _=>by kernel_rfl,fun _=>by kernel_rfl,fun _=>by kernel_rfl⟩
 cases a <;> cases t <;> cases c <;>
 ·go_enter Tryz.func82,Tryz.ntmps82
  go_wp2_with fail
  refine wp_loop_rounds 4 ?_
  rw[rounds_succ]
  go_wp2_with fail
  rw[rounds_succ]
  go_wp2_with fail
  rw[rounds_succ]
  go_wp2_with fail
  rw[rounds_succ]
  go_wp2_with fail
  go_ret
  exact⟨rfl,by repeat (first | exact Below.refl _ _ | refine yI ?_ _)⟩
theorem FW (i0 i1 i5 i6 i7 i8 i9 i10:Int) (a t c:Bool) (A:Option Addr) (n k:Nat) :
 pk Tryz.prog 82 #[.agg #[.int .i64 i0,.int .i64 i1,.bool a,.bool t,.bool c,.int .i64 i5,.int .i64 i6,.int .i64 i7,.int .i64 i8,.int .i64 i9,.int .i64 i10,.slice A n k]] (fun v N=>v= .int .i64 (iq a t c)∧N = []):=by
 intro w
 refine (Of_any i0 i1 i5 i6 i7 i8 i9 i10 a t c A n k w).mono ?_
 rintro e w' ⟨rfl,hb⟩
 exact⟨_,_,rfl,⟨rfl,rfl⟩,IL hb,trivial⟩
def Az (n:Int):Option (Bool×Bool×Bool):=some (eL n 3,eL n 4,eL n 5)
theorem CZ (n:Int):Az n=some (eL n 3,eL n 4,eL n 5):=rfl
theorem yJ (n:Int) (r:Bool×Bool×Bool) (h:Az n=some r) (w:World):Calls Tryz.prog 186 #[.int .i64 n] w fun e w'=>e= .returned (.tuple #[.bool r.1,.bool r.2.1,.bool r.2.2])∧w=w':=by
 obtain rfl:=JP h
 exact CY n w
def xE (n:Int):Option Int:=if -9223372036854775808≤n∧n≤9223372036854775807 then some (eO n) else none
theorem AA (n:Int) (h: -9223372036854775808≤n∧n≤9223372036854775807):xE n=some (eO n):=if_pos h
theorem xF (n:Int) (r:Int) (h:xE n=some r) (w:World):Calls Tryz.prog 185 #[.int .i64 n] w fun e w'=>e= .returned (.int .i64 r)∧w=w':=by
 obtain⟨h1,h⟩:=ay h
 obtain rfl:=JP h
 exact Ay n h1.1 h1.2 w
def gAOf (b:Bat):Option Int:=some (iq b.JG b.JE b.JB)
theorem FX (b:Bat):gAOf b=some (iq b.JG b.JE b.JB):=rfl
theorem wo (b:Bat) (A:Option Addr) (c:Nat) (r:Int) (h:gAOf b=some r):aE Tryz.prog 82 #[.agg #[.int .i64 b.Jz,.int .i64 b.Jv,.bool b.JG,.bool b.JE,.bool b.JB,.int .i64 b.Jx,.int .i64 b.Jm,.int .i64 b.JF,.int .i64 b.I6,.int .i64 b.I8,.int .i64 b.Jn,.slice A b.Ja.length c]]
 (RX.of (ao 7 cV) [.slice A b.Ja.length c] b.Ja) aO (fun u A' N=>u= .int .i64 r∧A'=aO∧N = []):=by
 obtain rfl:=JP h
 exact Iy (FW _ _ _ _ _ _ _ _ _ _ _ _ _ _)
def AB:eP := [(23,0,0),(23,1,1),(91,1,1),(91,2,2),(91,3,4),(91,4,6)]
theorem aA:(AB).OK Tryz.prog:=⟨FOK.mk Kf rfl Kr rfl,FOK.mk Kf rfl Kk rfl,FOK.mk Ke rfl JX rfl,FOK.mk Ke rfl J2 rfl,FOK.mk Ke rfl J2 rfl,FOK.mk Ke rfl LH rfl,trivial⟩
def AC:List Nat := [3,4,9,89]
theorem fa:NOK Tryz.prog AC:=⟨JZ,KG,Ks,MG,trivial⟩
def dj (st:I)  : Option (I):=(dL st 2).bind fun (x1,st2)=>if x1=0 then some st2 else ((bU st2 7).bind fun st5=>some st5)
theorem jp (g:Nat) (st:I)  (r:I) (h:dj st  = some r):aE Tryz.prog 217 #[jP g] .triv (InR g st) (fun v A' N=>v= .tuple #[]∧A'=InR g r∧N = []):=by
 refine aU Tryz.func217 Z Tryz.ntmps217 Z ?_
 intro F w hX
 unfold dj at h
 refine GC Z ?_
 obtain⟨⟨x1,st2⟩,hx3,h⟩:=JO h
 try dsimp only at h
 refine GB aA 1 Z (Ht Z .u (.fn Tryz.call68 Z) (bj g st 2 _ hx3) sT Z (GB aA 1 Z ?_))
 rcases jF h with⟨c4,h⟩ | ⟨c4,h⟩
 ·refine He Z c4 ?_
  obtain rfl:=JP h
  exact T.skip (H7 [0] Tryz.results217 ⟨Z,Z,Z⟩ (by rfl) (.inr Z))
 refine Hc Z c4 (T.region Z ?_)
 obtain⟨st5,hx6,h⟩:=JO h
 refine GB aA 1 Z (Ht Z .u (.fn Tryz.call70 Z) (bx g st2 7 _ hx6) sT Z ?_)
 obtain rfl:=JP h
 exact TL.nil (H7 [0] Tryz.results217 ⟨Z,Z,Z⟩ (by rfl) (.inr Z))
def dZ (a0:List UInt8):Option (Int×Int):=(tn a0).bind fun st1=>(dj st1).bind fun st4=>(dL st4 2).bind fun (x6,st7)=>if x6=0 then ((dM st7).bind fun (x10,st11)=>if x10=0 then some (x6,0) else some (0,x10)) else (if x6=1 then ((dM st7).bind fun (x15,st16)=>if x15=0 then some (x6,0) else some (0,x15)) else ((bU st7 12).bind fun st19=>(dM st19).bind fun (x21,st22)=>if x21=0 then some (x6,0) else some (0,x21)))
theorem mV (a0:List UInt8) (r:Int×Int) (h:dZ a0=some r):aE Tryz.prog 187 #[jS a0] .triv (aO) (fun v A' N=>v= .tuple #[jI r.1,jI r.2]∧A'=aO∧N = []):=by
 refine aU Tryz.func187 Z Tryz.ntmps187 Z ?_
 intro F w hX
 unfold dZ at h
 refine GC Z (G4 aA Z Z ?_)
 obtain⟨st1,hx2,h⟩:=JO h
 refine GB aA 1 Z (It Z .u (.fn Tryz.call19 Z) (iL a0 _ hx2) rT Z ?_)
 rintro _ _ _ ⟨b3,rfl,rfl,rfl⟩
 refine Hz [0,0] Z (G4 aA Z Z ?_)
 obtain⟨st4,hx5,h⟩:=JO h
 refine GB aA 1 Z (Ht Z .u (.fn Tryz.call217 Z) (jp b3 st1 _ hx5) sT Z (GV Z ?_))
 obtain⟨⟨x6,st7⟩,hx8,h⟩:=JO h
 try dsimp only at h
 refine GB aA 1 Z (Ht Z .u (.fn Tryz.call68 Z) (bj b3 st4 2 _ hx8) sT Z (GK aA Z (T.seq (GC Z ?_))))
 rcases jF h with⟨c9,h⟩ | ⟨c9,h⟩
 ·refine GB aA 3 Z (GI 15 Z (aZ (JS c9)) (Hk aA Z (G7 Z Z (GW (T.seq (GC Z ?_))))))
  obtain⟨⟨x10,st11⟩,hx12,h⟩:=JO h
  try dsimp only at h
  refine GB aA 1 Z (Ht Z .u (.fn Tryz.call21 Z) (cL b3 st7 _ hx12) sT Z (G4 aA Z Z (GB aA 2 Z ?_)))
  rcases jF h with⟨c13,h⟩ | ⟨c13,h⟩
  ·refine He Z c13 (Hb Z (GB aA 3 Z ?_))
   obtain rfl:=JP h
   exact GD (T.ret (Hl [1] L2 (GF Z) (GF Z) ⟨Z,Z,Z⟩ (by rfl) (.inl Z)))
  refine Hc Z c13 (GC Z (GB aA 3 Z ?_))
  obtain rfl:=JP h
  exact GD (T.ret (GH (Hl [1] L2 (GF Z) (GF Z) ⟨Z,Z,Z⟩ (by rfl) (.inl Z))))
 refine GB aA 3 Z (GI 15 Z (bw (JT c9)) (GJ aA 3 Z ?_))
 rcases jF h with⟨c14,h⟩ | ⟨c14,h⟩
 ·refine He Z c14 (GW (T.seq (GC Z ?_)))
  obtain⟨⟨x15,st16⟩,hx17,h⟩:=JO h
  try dsimp only at h
  refine GB aA 1 Z (Ht Z .u (.fn Tryz.call21 Z) (cL b3 st7 _ hx17) sT Z (G4 aA Z Z (GB aA 2 Z ?_)))
  rcases jF h with⟨c18,h⟩ | ⟨c18,h⟩
  ·refine He Z c18 (Hb Z (GB aA 3 Z ?_))
   obtain rfl:=JP h
   exact GD (T.ret (Hl [1] L2 (GF Z) (GF Z) ⟨Z,Z,Z⟩ (by rfl) (.inl Z)))
  refine Hc Z c18 (GC Z (GB aA 3 Z ?_))
  obtain rfl:=JP h
  exact GD (T.ret (GH (Hl [1] L2 (GF Z) (GF Z) ⟨Z,Z,Z⟩ (by rfl) (.inl Z))))
 refine Hc Z c14 (T.region Z ?_)
 obtain⟨st19,hx20,h⟩:=JO h
 refine GB aA 1 Z (Ht Z .u (.fn Tryz.call70 Z) (bx b3 st7 12 _ hx20) sT Z (GD (T.seq (GC Z ?_))))
 obtain⟨⟨x21,st22⟩,hx23,h⟩:=JO h
 try dsimp only at h
 refine GB aA 1 Z (Ht Z .u (.fn Tryz.call21 Z) (cL b3 st19 _ hx23) sT Z (G4 aA Z Z (GB aA 2 Z ?_)))
 rcases jF h with⟨c24,h⟩ | ⟨c24,h⟩
 ·refine He Z c24 (Hb Z (GB aA 3 Z ?_))
  obtain rfl:=JP h
  exact GD (T.ret (Hl [1] L2 (GF Z) (GF Z) ⟨Z,Z,Z⟩ (by rfl) (.inl Z)))
 refine Hc Z c24 (GC Z (GB aA 3 Z ?_))
 obtain rfl:=JP h
 exact GD (T.ret (GH (Hl [1] L2 (GF Z) (GF Z) ⟨Z,Z,Z⟩ (by rfl) (.inl Z))))
def dh (a0:List UInt8):Option (Int×Int):=(tn a0).bind fun st1=>(dj st1).bind fun st4=>(dL st4 4).bind fun (x6,st7)=>if x6<0 then ((bU st7 11).bind fun st10=>(dM st10).bind fun (x12,st13)=>if x12=0 then some (x6,0) else some (0,x12)) else ((dM st7).bind fun (x16,st17)=>if x16=0 then some (x6,0) else some (0,x16))
theorem lZ (a0:List UInt8) (r:Int×Int) (h:dh a0=some r):aE Tryz.prog 188 #[jS a0] .triv (aO) (fun v A' N=>v= .tuple #[jI r.1,jI r.2]∧A'=aO∧N = []):=by
 refine aU Tryz.func188 Z Tryz.ntmps188 Z ?_
 intro F w hX
 unfold dh at h
 refine GC Z (G4 aA Z Z ?_)
 obtain⟨st1,hx2,h⟩:=JO h
 refine GB aA 1 Z (It Z .u (.fn Tryz.call19 Z) (iL a0 _ hx2) rT Z ?_)
 rintro _ _ _ ⟨b3,rfl,rfl,rfl⟩
 refine Hz [0,0] Z (G4 aA Z Z ?_)
 obtain⟨st4,hx5,h⟩:=JO h
 refine GB aA 1 Z (Ht Z .u (.fn Tryz.call217 Z) (jp b3 st1 _ hx5) sT Z (GV Z ?_))
 obtain⟨⟨x6,st7⟩,hx8,h⟩:=JO h
 try dsimp only at h
 refine GB aA 1 Z (Ht Z .u (.fn Tryz.call68 Z) (bj b3 st4 4 _ hx8) sT Z (GK aA Z (T.seq (GC Z (GB aA 2 Z ?_)))))
 rcases jF h with⟨c9,h⟩ | ⟨c9,h⟩
 ·refine G9 Z c9 (T.region Z ?_)
  obtain⟨st10,hx11,h⟩:=JO h
  refine GB aA 1 Z (Ht Z .u (.fn Tryz.call70 Z) (bx b3 st7 11 _ hx11) sT Z (GD (T.seq (GC Z ?_))))
  obtain⟨⟨x12,st13⟩,hx14,h⟩:=JO h
  try dsimp only at h
  refine GB aA 1 Z (Ht Z .u (.fn Tryz.call21 Z) (cL b3 st10 _ hx14) sT Z (G4 aA Z Z (GB aA 2 Z ?_)))
  rcases jF h with⟨c15,h⟩ | ⟨c15,h⟩
  ·refine He Z c15 (Hb Z (GB aA 3 Z ?_))
   obtain rfl:=JP h
   exact GD (T.ret (Hl [1] MP (GF Z) (GF Z) ⟨Z,Z,Z⟩ (by rfl) (.inl Z)))
  refine Hc Z c15 (GC Z (GB aA 3 Z ?_))
  obtain rfl:=JP h
  exact GD (T.ret (GH (Hl [1] MP (GF Z) (GF Z) ⟨Z,Z,Z⟩ (by rfl) (.inl Z))))
 refine Ha Z c9 (GW (T.seq (GC Z ?_)))
 obtain⟨⟨x16,st17⟩,hx18,h⟩:=JO h
 try dsimp only at h
 refine GB aA 1 Z (Ht Z .u (.fn Tryz.call21 Z) (cL b3 st7 _ hx18) sT Z (G4 aA Z Z (GB aA 2 Z ?_)))
 rcases jF h with⟨c19,h⟩ | ⟨c19,h⟩
 ·refine He Z c19 (Hb Z (GB aA 3 Z ?_))
  obtain rfl:=JP h
  exact GD (T.ret (Hl [1] MP (GF Z) (GF Z) ⟨Z,Z,Z⟩ (by rfl) (.inl Z)))
 refine Hc Z c19 (GC Z (GB aA 3 Z ?_))
 obtain rfl:=JP h
 exact GD (T.ret (GH (Hl [1] MP (GF Z) (GF Z) ⟨Z,Z,Z⟩ (by rfl) (.inl Z))))
def dB (a0:Rec):Option (Int×Int×Int):=if a0.Jr.null=true then some (0,0,12) else (if a0.Jj.null=true then some (0,0,12) else (if (a0.Jl.length:Int)>0 then some (0,0,12) else (if a0.Jq=0 then ((dZ a0.Jr.data).bind fun (x8,x9)=>if x9=0 then ((dh a0.Jj.data).bind fun (x12,x13)=>if x13=0 then some (x8,x12,0) else some (0,0,x13)) else some (0,0,x9)) else some (0,0,12))))
theorem o9 (a0:Rec) (A1:Option Addr) (c2:Nat) (r:Int×Int×Int) (h:dB a0=some r):aE Tryz.prog 137 #[.agg (wA2 a0 A1 c2)] (RX.of (ao 3 db) [.slice A1 a0.Jl.length c2] a0.Jl) (aO) (fun v A' N=>v= .tuple #[jI r.1,jI r.2.1,jI r.2.2]∧A'=aO∧N = []):=by
 refine aU Tryz.func137 Z Tryz.ntmps137 Z ?_
 intro F w hX
 unfold dB at h
 refine GC Z (TL.box Z .u Z Z (fun b3=>(GK aA Z (T.seq (GC Z ?_)))))
 rcases jF h with⟨c4,h⟩ | ⟨c4,h⟩
 ·refine GG aA fa 0 Z 4 Z Z (GI 8 Z c4 (Hk aA Z (GO Z Z (GC Z (GB aA 3 Z ?_)))))
  obtain rfl:=JP h
  exact GD (T.ret (GH (Im [1] LQ (GF Z) (GF Z) (GF Z) ⟨Z,Z,Z⟩ (by rfl) (.inl Z))))
 replace c4:=JW c4
 refine GG aA fa 0 Z 4 Z Z (GI 8 Z c4 ?_)
 rcases jF h with⟨c5,h⟩ | ⟨c5,h⟩
 ·refine GG aA fa 0 Z 5 Z Z (GI 13 Z c5 (Hk aA Z (GO Z Z (GC Z (GB aA 3 Z ?_)))))
  obtain rfl:=JP h
  exact GD (T.ret (GH (Im [1] LQ (GF Z) (GF Z) (GF Z) ⟨Z,Z,Z⟩ (by rfl) (.inl Z))))
 replace c5:=JW c5
 refine GG aA fa 0 Z 5 Z Z (GI 13 Z c5 (GG aA fa 0 Z 2 Z Z (TL.q Z (.g Z Z Z) (GQ Z Kv) Z ?_)))
 rcases jF h with⟨c6,h⟩ | ⟨c6,h⟩
 ·refine GJ aA 3 Z (GI 19 Z (JS c6) (Hk aA Z (GO Z Z (GC Z (GB aA 3 Z ?_)))))
  obtain rfl:=JP h
  exact GD (T.ret (GH (Im [1] LQ (GF Z) (GF Z) (GF Z) ⟨Z,Z,Z⟩ (by rfl) (.inl Z))))
 refine GJ aA 3 Z (GI 19 Z (JT c6) (GG aA fa 0 Z 4 Z Z ?_))
 rcases jF h with⟨c7,h⟩ | ⟨c7,h⟩
 ·refine He Z c7 (GW (T.seq (GC Z ?_)))
  obtain⟨⟨x8,x9⟩,hx10,h⟩:=JO h
  try dsimp only at h
  refine GG aA fa 0 Z 3 Z Z (GZ Z .u (.fn Tryz.call187 Z) (mV a0.Jr.data _ hx10) rT Z (G4 aA Z Z (GB aA 2 Z ?_)))
  rcases jF h with⟨c11,h⟩ | ⟨c11,h⟩
  ·refine He Z c11 (GW (T.seq (GC Z ?_)))
   obtain⟨⟨x12,x13⟩,hx14,h⟩:=JO h
   try dsimp only at h
   refine GG aA fa 0 Z 3 Z Z (GZ Z .u (.fn Tryz.call188 Z) (lZ a0.Jj.data _ hx14) rT Z (G4 aA Z Z (GB aA 2 Z ?_)))
   rcases jF h with⟨c15,h⟩ | ⟨c15,h⟩
   ·refine He Z c15 (Hb Z (GB aA 5 Z ?_))
    obtain rfl:=JP h
    exact GD (T.ret (Im [1] LQ (GF Z) (GF Z) (GF Z) ⟨Z,Z,Z⟩ (by rfl) (.inl Z)))
   refine Hc Z c15 (GC Z (GB aA 4 Z ?_))
   obtain rfl:=JP h
   exact GD (T.ret (GH (Im [1] LQ (GF Z) (GF Z) (GF Z) ⟨Z,Z,Z⟩ (by rfl) (.inl Z))))
  refine Hc Z c11 (GC Z (GB aA 4 Z ?_))
  obtain rfl:=JP h
  exact GD (T.ret (GH (Im [1] LQ (GF Z) (GF Z) (GF Z) ⟨Z,Z,Z⟩ (by rfl) (.inl Z))))
 refine Hc Z c7 (GC Z (GB aA 3 Z ?_))
 obtain rfl:=JP h
 exact GD (T.ret (GH (Im [1] LQ (GF Z) (GF Z) (GF Z) ⟨Z,Z,Z⟩ (by rfl) (.inl Z))))
def ft_crc:eP := []
theorem bd:(ft_crc).OK Tryz.prog:=trivial
theorem FY:Tryz.prog.follows .mixedOrders=true:=by kernel_rfl
def fG:Nat→Int→Nat→Option (Int×Nat)
 | 0,_,_=>none
 | m40+1,y35,k36=>if (k36:Int)<8 then ((if (Go.bits .and .u32 y35 1)=1 then (some (Go.bits .xor .u32 (vU .u32 y35 1) 2197175160)) else some (vU .u32 y35 1)).bind fun y46=>if -9223372036854775808≤((k36:Int)+1)∧((k36:Int)+1)≤9223372036854775807 then (fG m40 y46 (k36+1)) else none) else some (y35,k36)
def gm:Nat→Nat→List Int→Option (Nat×List Int)
 | 0,_,_=>none
 | m7+1,k2,st3=>if (k2:Int)<256 then (((fG ((8:Int).toNat+1) (IntKind.u32.wrap (k2:Int)) 0).bind fun (y52,k53)=>(st3[k2]?).bind fun x54=>some (st3.set k2 y52)).bind fun st33=>if -9223372036854775808≤((k2:Int)+1)∧((k2:Int)+1)≤9223372036854775807 then (gm m7 (k2+1) st33) else none) else some (k2,st3)
def kX  : Option (List Int):=(gm ((256:Int).toNat+1) 0 (List.replicate 256 (0:Int))).bind fun (k57,st58)=>some st58
theorem jr  (r:List Int) (h:kX  = some r):aE Tryz.prog 84 #[] .triv (aO) (fun v A' N=> ∃ q:Nat,v=jP q∧A'=aO∧N = [lG 238 q r]):=by
 refine aU Tryz.func84 Z Tryz.ntmps84 Z ?_
 intro F w hX
 unfold kX at h
 refine GC Z (G4 bd Z Z (GE Z (Ex.bldZ Tryz.zeroValue238 MD MV) Z ?_))
 refine TL.tNew Z .u Z (by kernel_rfl) Z (fun b1=> ?_)
 refine GK bd Z (T.seq (GC Z (GK bd Z (T.block ?_))))
 obtain⟨E4,hE5,hO6⟩:=JO h
 refine Hv (fun m e Rs=> ∃ (k2:Nat) (st3:List Int),e = [(0,.pointer none),(1,jP b1),(6,jI (k2:Int))]∧Rs = [lG 238 b1 st3,aO]∧gm m k2 st3=some E4) ((256:Int).toNat+1) [0,0] ⟨0,(List.replicate 256 (0:Int)),Z,Z,by exact hE5⟩ (by rfl) (by rfl) ?_
 clear hE5 h
 rintro m7 _ _ ⟨k2,st3,rfl,rfl,h⟩
 cases m7 with
 | zero =>
  rw[gm] at h
  cases h
 | succ m7 =>
  rw[gm] at h
  refine GC Z (GB bd 1 Z ?_)
  rcases jF h with⟨c11,h⟩ | ⟨c11,h⟩
  ·refine GD (T.seq (Ij Z c11 (GW (T.seq ?_))))
   obtain⟨st33,h,hk34⟩:=JO h
   refine HJ (fun e Rs=>e = [(0,.pointer none),(1,jP b1),(6,jI (k2:Int))]∧Rs = [lG 238 b1 st33,aO]) ?_ ?_
   ·clear hk34
    refine T.block (GC Z (G4 bd Z Z (GB bd 1 Z (GE Z (Ex.conv Z Lw Lb) Z (GK bd Z (T.seq (GC Z (GB bd 1 Z ?_))))))))
    refine GD (T.block ?_)
    obtain⟨E37,hE38,hO39⟩:=JO h
    refine Hv (fun m e Rs=> ∃ (y35:Int) (k36:Nat),e = [(0,.pointer none),(1,jP b1),(2,jI (k2:Int)),(3,.int .u32 y35),(6,jI (k2:Int)),(11,jI (k36:Int))]∧Rs = [lG 238 b1 st3,aO]∧fG m y35 k36=some E37) ((8:Int).toNat+1) [0,0] ⟨(IntKind.u32.wrap (k2:Int)),0,Z,Z,by exact hE38⟩ (by rfl) (by rfl) ?_
    clear hE38 h
    rintro m40 _ _ ⟨y35,k36,rfl,rfl,h⟩
    cases m40 with
    | zero =>
     rw[fG] at h
     cases h
    | succ m40 =>
     rw[fG] at h
     refine GC Z (GB bd 1 Z ?_)
     rcases jF h with⟨c44,h⟩ | ⟨c44,h⟩
     ·refine GD (T.seq (Ij Z c44 (GW (T.seq (T.block (GC Z (GB bd 1 Z (GE Z (Ex.bitw Z Z Z) Z (GK bd Z ?_)))))))))
      obtain⟨y46,h,hk47⟩:=JO h
      refine HJ (fun e Rs=>e = [(0,.pointer none),(1,jP b1),(2,jI (k2:Int)),(3,.int .u32 y46),(6,jI (k2:Int)),(11,jI (k36:Int))]∧Rs = [lG 238 b1 st3,aO]) ?_ ?_
      ·clear hk47
       rcases jF h with⟨c48,h⟩ | ⟨c48,h⟩
       ·refine Ij Z c48 (T.region Z (GB bd 1 Z (GE Z (Ex.shr Z Z (by decide)) Z (GE Z (Ex.bitw Z Z Z) Z (GB bd 1 Z ?_)))))
        cases h
        exact TL.nil (GP [0,0])
       refine Io Z c48 (T.region Z (GB bd 1 Z (GE Z (Ex.shr Z Z (by decide)) Z (GB bd 1 Z ?_))))
       cases h
       exact TL.nil (GP [0,0])
      rintro _ _ ⟨rfl,rfl⟩
      clear h
      have h:=hk47
      clear hk47
      try dsimp only at h
      obtain⟨c49,h⟩:=ay h
      exact GX (X.seq (T.region Z (GE Z (Ex.add Z Z c49) Z (GB bd 1 Z (TL.nil (X.back (m':=m40) [0,0] (by omega) ⟨y46,k36+1,Z,Z,h⟩ (by rfl) (by rfl)))))))
     refine GD (T.seq (Io Z c44 ?_))
     obtain rfl:=JP h
     replace h:=hO39
     clear hO39
     try dsimp only at h
     refine T.exit (GT (GT (Hu (X.seq (T.region Z ?_)))))
     obtain⟨x50,hx51,h⟩:=JO h
     refine GB bd 4 Z (GE Z (Ex.tIx (k:=k2) 0 Z Z Z MD MV Z hx51) Z (TL.tSt (k:=k2) 0 Z .u Z Z MV Z hx51 (Hz [0,0] Z ?_)))
     cases h
     exact TL.nil (GX (GP [0,0]))
   rintro _ _ ⟨rfl,rfl⟩
   clear h
   have h:=hk34
   clear hk34
   try dsimp only at h
   obtain⟨c56,h⟩:=ay h
   exact X.seq (T.region Z (GE Z (Ex.add Z Z c56) Z (GB bd 1 Z (TL.nil (X.back (m':=m7) [0,0] (by omega) ⟨k2+1,st33,Z,Z,h⟩ (by rfl) (by rfl))))))
  refine GD (T.seq (Io Z c11 ?_))
  obtain rfl:=JP h
  replace h:=hO6
  clear hO6
  try dsimp only at h
  refine T.exit (GT (GT (Hu (X.seq (GC Z (GB bd 2 Z ?_))))))
  obtain rfl:=JP h
  exact GD (T.ret (G8 [1,0] Tryz.results84 (GF Z) ⟨_,Z,Z,Z⟩ (by rfl) (.inl Z)))
def dO (a2:List UInt8):Nat→Int→Nat→List Int→Option (Int×Nat×List Int)
 | 0,_,_,_=>none
 | m7+1,y1,k2,st3=>if (k2:Int)<(a2.length:Int) then ((a2[k2]?).bind fun ch12=>if 0≤(Go.bits .xor .u8 (IntKind.u8.wrap y1) (ch12.toNat:Int)) then ((st3[(Go.bits .xor .u8 (IntKind.u8.wrap y1) (ch12.toNat:Int)).toNat]?).bind fun x15=>if -9223372036854775808≤((k2:Int)+1)∧((k2:Int)+1)≤9223372036854775807 then (dO a2 m7 (Go.bits .xor .u32 x15 (vU .u32 y1 8)) (k2+1) st3) else none) else none) else some (y1,k2,st3)
def gw (st:List Int) (a1:Int) (a2:List UInt8):Option (Int×List Int):=(dO a2 (((a2.length:Int)).toNat+1) (Go.bits .xor .u32 4294967295 a1) 0 st).bind fun (y18,k19,st20)=>some ((Go.bits .xor .u32 4294967295 y18),st20)
theorem n8 (g:Nat) (st:List Int) (a1:Int) (a2:List UInt8) (r:Int×List Int) (h:gw st a1 a2=some r):aE Tryz.prog 140 #[jP g,.int .u32 a1,jS a2] .triv (lG 238 g st) (fun v A' N=>v= .int .u32 r.1∧A'=lG 238 g r.2∧N = []):=by
 refine aU Tryz.func140 Z Tryz.ntmps140 Z ?_
 intro F w hX
 unfold gw at h
 refine GC Z (G4 bd Z Z (GB bd 1 Z (GE Z (Ex.notK Z) Z (GK bd Z (T.seq (GC Z (GB bd 1 Z ?_)))))))
 refine GE Z (Hw Z J3) Z (GK bd Z (T.block ?_))
 obtain⟨E4,hE5,hO6⟩:=JO h
 refine Hv (fun m e Rs=> ∃ (y1:Int) (k2:Nat) (st3:List Int),e = [(0,jP g),(2,jS a2),(6,.int .u32 0),(7,.int .u32 y1),(12,jI (a2.length:Int)),(13,jI (k2:Int))]∧Rs = [lG 238 g st3]∧dO a2 m y1 k2 st3=some E4) (((a2.length:Int)).toNat+1) [0] ⟨(Go.bits .xor .u32 4294967295 a1),0,st,Z,Z,by exact hE5⟩ (by rfl) (by rfl) ?_
 clear hE5 h
 rintro m7 _ _ ⟨y1,k2,st3,rfl,rfl,h⟩
 cases m7 with
 | zero =>
  rw[dO] at h
  cases h
 | succ m7 =>
  rw[dO] at h
  refine GC Z (GB bd 1 Z ?_)
  rcases jF h with⟨c11,h⟩ | ⟨c11,h⟩
  ·refine GD (T.seq (Ij Z c11 (GW (T.seq (T.block (GC Z (GB bd 2 Z ?_)))))))
   refine GD (Hp (.q 0 (.q 1 (.q 2 (.q 3 (.q 4 (.q 5 (.q 6 (.q 7 (.q 8 (.q 9 (.q 10 (.q 11 (.q 12 (.q 13 .nil)))))))))))))) [0] Z FY (NoP.blk (NoP.seq (NoP.seq (NoP.blk (NoP.seq bA))))) (by kernel_rfl) ?_)
   refine TD.run bd [0,1] Z Z (GM Z (Ex.conv Z Lb Tryz.runUnderlying5) Z ?_)
   obtain⟨ch12,hc13,h⟩:=JO h
   refine TD.run bd [3,4] Z Z (GM Z (Ex.sIx Z Z Z Tryz.underlying9 hc13) Z (GM Z (Ex.bitw Z Z Z) Z ?_))
   obtain⟨c14,h⟩:=ay h
   obtain⟨x15,hx16,h⟩:=JO h
   refine TD.run bd [7] Z Z (GM Z (Ex.tIx (k:=(Go.bits .xor .u8 (IntKind.u8.wrap y1) (ch12.toNat:Int)).toNat) 0 Z Z ((Int.toNat_of_nonneg c14).symm) MD MV Z hx16) Z (GM Z (Ex.tLd (k:=(Go.bits .xor .u8 (IntKind.u8.wrap y1) (ch12.toNat:Int)).toNat) 0 Z Tryz.isAgg161 Z hx16) Z (TD.run bd [10] Z Z (GM Z (Ex.shr Z Z (by decide)) Z (GM Z (Ex.bitw Z Z Z) Z (TD.run bd [13] Z Z ?_))))))
   obtain⟨c17,h⟩:=ay h
   exact TD.nil (GX (X.seq (T.region Z (GE Z (Ex.add Z Z c17) Z (GB bd 1 Z (TL.nil (X.back (m':=m7) [0] (by omega) ⟨(Go.bits .xor .u32 x15 (vU .u32 y1 8)),k2+1,st3,Z,Z,h⟩ (by rfl) (by rfl))))))))
  refine GD (T.seq (Io Z c11 ?_))
  obtain rfl:=JP h
  replace h:=hO6
  clear hO6
  try dsimp only at h
  refine T.exit (GT (GT (Hu (X.seq (GC Z (GB bd 1 Z (GE Z (Ex.notK Z) Z (GB bd 1 Z ?_))))))))
  obtain rfl:=JP h
  exact GD (T.ret (GL [0] Tryz.results140 (GF Z)))
def dk:List (List UInt8)→Int→List Int→Option (Int×List Int)
 | [],y3,st5=>some (y3,st5)
 | x10::xs,y3,st5=>(gw st5 y3 x10).bind fun (x14,st15)=>dk xs x14 st15
def f6 (st:List Int) (a1:List (List UInt8)):Option (Int×List Int):=(dk a1 0 st).bind fun (y17,st19)=>some (y17,st19)
theorem fS (g:Nat) (st:List Int) (a1:List (List UInt8)) (A1:Option Addr) (c2:Nat) (r:Int×List Int) (h:f6 st a1=some r):aE Tryz.prog 85 #[jP g,.slice A1 a1.length c2] (RX.of (ao 1 rz) [.slice A1 a1.length c2] a1) (lG 238 g st) (fun v A' N=>v= .int .u32 r.1∧A'=lG 238 g r.2∧N = []):=by
 refine aU Tryz.func85 Z Tryz.ntmps85 Z ?_
 intro F w hX
 unfold f6 at h
 refine GC Z (G4 bd Z Z (GK bd Z (T.seq (GC Z (GB bd 1 Z (GE Z (GQ Z Ls) Z (GB bd 1 Z ?_)))))))
 refine GD (T.block ?_)
 obtain⟨E6,hE7,hO8⟩:=JO h
 have hk12len:=Hq hX
 refine Hv (fun m e Rs=> ∃ (y3:Int) (k4:Nat) (st5:List Int),k4+m=a1.length∧e = [(0,jP g),(4,.int .u32 0),(5,.int .u32 y3),(8,.slice A1 a1.length c2),(9,jI (a1.length:Int)),(10,jI (k4:Int))]∧Rs = [lG 238 g st5]∧dk (a1.drop k4) y3 st5=some E6) (a1.length) [0] ⟨0,0,st,by simp,Z,Z,by rw[List.drop_zero]; exact hE7⟩ (by rfl) (by rfl) ?_
 clear hE7 h
 rintro m9 _ _ ⟨y3,k4,st5,hk12,rfl,rfl,h⟩
 cases m9 with
 | zero =>
  rw[List.drop_of_length_le (by omega),dk] at h
  have hk12ge: ¬ ((k4:Int)<(a1.length:Int)):=by omega
  refine GC Z (GK bd Z (T.seq (G7 Z (JT hk12ge) ?_)))
  obtain rfl:=JP h
  replace h:=hO8
  clear hO8
  try dsimp only at h
  refine T.exit (GT (GT (Hu (X.seq (GC Z (GB bd 2 Z ?_))))))
  obtain rfl:=JP h
  exact GD (T.ret (GL [0] Tryz.results85 (GF Z)))
 | succ m9 =>
  obtain⟨x10,hxx10⟩: ∃ x,a1[k4]? = some x:=⟨_,List.getElem?_eq_getElem (by omega)⟩
  rw[bz hxx10,dk] at h
  have hk12lt:(k4:Int)<(a1.length:Int):=by omega
  refine GC Z (GK bd Z (T.seq (GO Z (JS hk12lt) ?_)))
  obtain⟨gz13,oz13,rfl,z13cs,z13cl,z13cc,z13nf,z13r⟩:=Hg (by decide) hX hxx10
  obtain⟨z13S,z13r,z13rr⟩:=z13r
  obtain rfl:z13cs = [jS x10]:=z13r
  refine GW (T.seq (T.block (GC Z ?_)))
  refine GE Z (GY (k:=k4) Z Z Z Ls Kk (JV hxx10).1) Z ?_
  refine GE Z (Hr 0 Z Ks z13nf z13cc Z Z) Z (GK bd Z (T.region Z ?_))
  obtain⟨⟨x14,st15⟩,hx16,h⟩:=JO h
  try dsimp only at h
  exact GB bd 3 Z (Ht Z .u (.fn Tryz.call140 Z) (n8 g st5 y3 x10 _ hx16) sT Z (GB bd 1 Z (TL.nil (GX (X.seq (T.region Z (GE Z (Ex.add Z Z (by omega)) Z (GB bd 1 Z (TL.nil (X.back (m':=m9) [0] (by omega) ⟨x14,k4+1,st15,by omega,Z,Z,h⟩ (by rfl) (by rfl)))))))))))
def C0:eP := [(159,0,0),(159,1,1),(159,2,2),(159,3,3),(159,4,4),(159,5,5),(159,6,6),(159,7,7),(159,8,8),(159,9,9),(159,10,10),(159,11,11),(236,0,0),(236,1,1)]
theorem al:(C0).OK Tryz.prog:=⟨FOK.mk Kd rfl JX rfl,FOK.mk Kd rfl JX rfl,FOK.mk Kd rfl JX rfl,FOK.mk Kd rfl JX rfl,FOK.mk Kd rfl JX rfl,FOK.mk Kd rfl JX rfl,FOK.mk Kd rfl JX rfl,FOK.mk Kd rfl JX rfl,FOK.mk Kd rfl JX rfl,FOK.mk Kd rfl JX rfl,FOK.mk Kd rfl JX rfl,FOK.mk Kd rfl JX rfl,FOK.mk ME rfl Tryz.sizeOf234 rfl,FOK.mk ME rfl JX rfl,trivial⟩
def C1:List Nat := [3]
theorem fH:NOK Tryz.prog C1:=⟨JZ,trivial⟩
theorem bG:Tryz.prog.follows .mixedOrders=true:=by kernel_rfl
theorem uE:BOK Tryz.prog 159 #[.int .i64 0,.int .i64 0,.int .i64 0,.int .i64 0,.int .i64 0,.int .i64 0,.int .i64 0,.int .i64 0,.int .i64 0,.int .i64 0,.int .i64 0,.int .i64 0] [(0,1),(1,1),(2,1),(3,1),(4,1),(5,1),(6,1),(7,1),(8,1),(9,1),(10,1),(11,1)]:=BOK.mk Tryz.zeroValue159 Kd (by intro w; simp)
theorem cu:BOK Tryz.prog 236 #[.pointer none,.int .i64 0] [(0,1),(1,1)]:=BOK.mk Tryz.zeroValue236 ME (by intro w; simp)
theorem qI:SOK Tryz.prog 232 236 13 2 #[.pointer none,.int .i64 0,.pointer none,.int .i64 0,.pointer none,.int .i64 0,.pointer none,.int .i64 0,.pointer none,.int .i64 0,.pointer none,.int .i64 0,.pointer none,.int .i64 0,.pointer none,.int .i64 0,.pointer none,.int .i64 0,.pointer none,.int .i64 0,.pointer none,.int .i64 0,.pointer none,.int .i64 0,.pointer none,.int .i64 0]:=SOK.mk Ka J1 Tryz.zeroValue236 (by decide) (by kernel_rfl)
def jD (p0:Nat) (p1:Nat):Option (Unit):=some ()
theorem g7 (p0:Nat) (p1:Nat) (r:Unit) (h:jD p0 p1=some r):aE Tryz.prog 139 #[jP p0,jP p1] .triv (aO) (fun v A' N=> ∃ q:Nat,v= .slice (some ⟨q,0,none⟩) 13 13∧A'=aO∧N = [aT q 236 (vA1 p0 p1)]):=by
 refine aU Tryz.func139 Z Tryz.ntmps139 Z ?_
 intro F w hX
 unfold jD at h
 refine GC Z (GB al 1 Z ?_)
 refine GD (T.seq (Hp (.q 0 (.q 1 (.q 2 (.q 3 (.q 4 (.q 5 (.q 6 (.q 7 (.q 8 (.q 9 (.q 10 (.q 11 (.q 12 (.q 13 (.q 14 (.q 15 (.q 16 (.q 17 (.q 18 (.q 19 (.q 20 (.q 21 (.q 22 (.q 23 (.q 24 (.q 25 (.q 26 (.q 27 (.q 28 (.q 29 (.q 30 (.q 31 (.q 32 (.q 33 (.q 34 (.q 35 (.q 36 (.q 37 (.q 38 (.q 39 (.q 40 (.q 41 (.q 42 (.q 43 (.q 44 (.q 45 (.q 46 (.q 47 (.q 48 (.q 49 (.e 50 (.q 51 .nil)))))))))))))))))))))))))))))))))))))))))))))))))))) [0] Z bG (NoP.seq bA) (by kernel_rfl) ?_))
 refine TD.run al [0,1,2] Z Z ?_
 refine GM Z (Hf (cells:= #[jP p0,jI 8]) cu Z (by kernel_rfl)) Z ?_
 refine TD.run al [4,5,6] Z Z ?_
 refine GM Z (Hf (cells:= #[.pointer (some ⟨p0,1,none⟩),jI 4]) cu Z (by kernel_rfl)) Z ?_
 refine TD.run al [8,9,10] Z Z ?_
 refine GM Z (Hf (cells:= #[.pointer (some ⟨p0,2,none⟩),jI 4]) cu Z (by kernel_rfl)) Z ?_
 refine TD.run al [12] Z Z ?_
 refine GM Z (Hf (cells:= #[jP p1,jI 1]) cu Z (by kernel_rfl)) Z ?_
 refine TD.run al [14,15,16] Z Z ?_
 refine GM Z (Hf (cells:= #[.pointer (some ⟨p0,3,none⟩),jI 4]) cu Z (by kernel_rfl)) Z ?_
 refine TD.run al [18,19,20] Z Z ?_
 refine GM Z (Hf (cells:= #[.pointer (some ⟨p0,4,none⟩),jI 2]) cu Z (by kernel_rfl)) Z ?_
 refine TD.run al [22,23,24] Z Z ?_
 refine GM Z (Hf (cells:= #[.pointer (some ⟨p0,5,none⟩),jI 4]) cu Z (by kernel_rfl)) Z ?_
 refine TD.run al [26,27,28] Z Z ?_
 refine GM Z (Hf (cells:= #[.pointer (some ⟨p0,6,none⟩),jI 8]) cu Z (by kernel_rfl)) Z ?_
 refine TD.run al [30,31,32] Z Z ?_
 refine GM Z (Hf (cells:= #[.pointer (some ⟨p0,7,none⟩),jI 8]) cu Z (by kernel_rfl)) Z ?_
 refine TD.run al [34,35,36] Z Z ?_
 refine GM Z (Hf (cells:= #[.pointer (some ⟨p0,8,none⟩),jI 8]) cu Z (by kernel_rfl)) Z ?_
 refine TD.run al [38,39,40] Z Z ?_
 refine GM Z (Hf (cells:= #[.pointer (some ⟨p0,9,none⟩),jI 2]) cu Z (by kernel_rfl)) Z ?_
 refine TD.run al [42,43,44] Z Z ?_
 refine GM Z (Hf (cells:= #[.pointer (some ⟨p0,10,none⟩),jI 4]) cu Z (by kernel_rfl)) Z ?_
 refine TD.run al [46,47,48] Z Z ?_
 refine GM Z (Hf (cells:= #[.pointer (some ⟨p0,11,none⟩),jI 4]) cu Z (by kernel_rfl)) Z ?_
 refine Ip (cells:=vA1 p0 p1) Z .u qI Z (by kernel_rfl) Z [1] (fun _=>Z) (fun b1=> ?_)
 refine TD.run al [51] Z Z ?_
 obtain rfl:=JP h
 exact HX (T.ret (G8 [1,0] Tryz.results139 (GF Z) ⟨_,Z,Z,Z⟩ (by rfl) (.inl Z)))
def cX (st:List UInt8×Int) (a1:Pfx):Option (List UInt8×Int):=(if a1.JH<0 then some true else (if a1.JH>4294967295 then some true else some false)).bind fun y4=>(if y4=true then ((jH st 11).bind fun st14=>some st14) else some st).bind fun st11=>if -9223372036854775808≤(IntKind.i32.wrap (IntKind.u32.wrap a1.JH))∧(IntKind.i32.wrap (IntKind.u32.wrap a1.JH))≤9223372036854775807 then ((dK st11 a1.Jz 8).bind fun st19=>(dK st19 a1.JD 4).bind fun st22=>(dK st22 a1.Jv 4).bind fun st25=>(dK st25 2 1).bind fun st28=>(dK st28 (IntKind.i32.wrap (IntKind.u32.wrap a1.JH)) 4).bind fun st31=>(dK st31 a1.JJ 2).bind fun st34=>(dK st34 a1.Jx 4).bind fun st37=>(dK st37 a1.Jm 8).bind fun st40=>(dK st40 a1.JF 8).bind fun st43=>(dK st43 a1.I6 8).bind fun st46=>(dK st46 a1.I8 2).bind fun st49=>(dK st49 a1.Jn 4).bind fun st52=>(dK st52 a1.JI 4).bind fun st55=>some st55) else none
theorem ir (g:Nat) (st:List UInt8×Int) (a1:Pfx) (r:List UInt8×Int) (h:cX st a1=some r):aE Tryz.prog 83 #[jP g,.agg (xy a1)] .triv (bm g st) (fun v A' N=>v= .tuple #[]∧A'=bm g r∧N = []):=by
 refine aU Tryz.func83 Z Tryz.ntmps83 Z ?_
 intro F w hX
 unfold cX at h
 refine GC Z (TL.box Z .u Z Z (fun b1=>(GV Z (TL.alloc Z .u Tryz.zeroValue3 Z (fun b2=>(GU (cs':= #[jI 2]) Z .u Z Z JX Z Z Z Z (GD (In ?_))))))))
 obtain⟨y4,h,hk5⟩:=JO h
 refine HJ (fun e Rs=>e = [(0,jP g),(3,jP b1),(4,jP b2),(14,.bool y4)]∧Rs = [aT b2 3 #[jI 2],aT b1 159 (xy a1),bm g st]) ?_ ?_
 ·clear hk5
  refine T.region Z ?_
  rcases jF h with⟨c6,h⟩ | ⟨c6,h⟩
  ·refine GG al fH 1 Z 4 Z Z (GI 10 Z (JS c6) (GJ al 4 Z ?_))
   cases h
   exact TL.nil (GP [0,0,0])
  refine GG al fH 1 Z 4 Z Z (GI 10 Z (JT c6) (GG al fH 1 Z 4 Z Z ?_))
  rcases jF h with⟨c7,h⟩ | ⟨c7,h⟩
  ·cases h
   exact TL.nil (Hx (d:=14) (v':= .bool true) Z (congrArg Value.bool (JS c7)) (GP [0,0,0]))
  cases h
  exact TL.nil (Hx (d:=14) (v':= .bool false) Z (congrArg Value.bool (JT c7)) (GP [0,0,0]))
 rintro _ _ ⟨rfl,rfl⟩
 clear h
 have h:=hk5
 clear hk5
 try dsimp only at h
 refine X.seq ?_
 obtain⟨st11,h,hk12⟩:=JO h
 refine HJ (fun e Rs=>e = [(0,jP g),(3,jP b1),(4,jP b2)]∧Rs = [aT b2 3 #[jI 2],aT b1 159 (xy a1),bm g st11]) ?_ ?_
 ·clear hk12
  rcases jF h with⟨c13,h⟩ | ⟨c13,h⟩
  ·refine GO Z c13 (T.region Z ?_)
   obtain⟨st14,hx15,h⟩:=JO h
   refine GB al 1 Z (HY Z .u (.fn Tryz.call94 Z) (ga g st 11 _ hx15) sT Z ?_)
   cases h
   exact TL.nil (GP [0,0,0])
  replace c13:=JW c13
  refine G7 Z c13 ?_
  cases h
  exact T.skip (GP [0,0,0])
 rintro _ _ ⟨rfl,rfl⟩
 clear h
 have h:=hk12
 clear hk12
 try dsimp only at h
 refine X.seq (GC Z (GG al fH 1 Z 2 Z Z (GE Z (Ex.conv Z Lw Lb) Z (GE Z (Ex.conv Z Lb Tryz.runUnderlying21) Z ?_))))
 obtain⟨c16,h⟩:=ay h
 refine GE Z (IO Z Tryz.runUnderlying21 Lw c16) Z (GB al 1 Z (H5 (cs':= #[jI a1.Jz,jI a1.JD,jI a1.Jv,jI (IntKind.i32.wrap (IntKind.u32.wrap a1.JH)),jI a1.JJ,jI a1.Jx,jI a1.Jm,jI a1.JF,jI a1.I6,jI a1.I8,jI a1.Jn,jI a1.JI]) Z .u Z Z JX Z Z Z Z (GV Z (It Z .u (.fn Tryz.call139 Z) (g7 b1 b2 () Z) (fun _ hs=>Hi _ _) Z ?_))))
 rintro _ _ _ ⟨b17,rfl,rfl,rfl⟩
 refine Hz [0,0,0,0] rfl (GE rfl (GQ rfl Ka) rfl (GK al rfl (T.block (T.unroll0 (TW.step (GC rfl (GK al rfl (T.seq (GO rfl (JS (show 0<13 by omega)) ?_)))))))))
 refine GW (T.seq (T.block (GC Z (GE Z (H6 (k:=0) (r:=0) Z Z Z Ka J1 (by decide) Z) Z (GE Z (GR (us := [jP b1,jI 8]) 0 Z Kz J1 Z Z Z) Z (TL.alloc Z .u Tryz.zeroValue236 Z (fun b18=>(GU (cs':= #[jP b1,jI 8]) Z .u Z Z J1 Z Z Z Z ?_))))))))
 refine GD (Hp (.q 0 (.q 1 (.q 2 (.q 3 (.q 4 (.q 5 (.q 6 (.e 7 .nil)))))))) [0,0,0,0] Z bG (NoP.blk (NoP.seq (NoP.seq (NoP.blk bA)))) (by kernel_rfl) ?_)
 refine TD.run al [0,1] Z Z (GM Z (G5 0 Z KA Z Z) Z (TD.run al [3] Z Z (GM Z (G5 3 Z JZ Z Z) Z (TD.run al [5] Z Z (GM Z (G5 0 Z JZ Z Z) Z ?_)))))
 obtain⟨st19,hx20,h⟩:=JO h
 refine TD.c4 rfl .u (.fn Tryz.call51 rfl) (bf g st11 a1.Jz 8 _ hx20) sT rfl [0,0,0,0] (rfl) (TD.nil (GX (X.seq (T.region rfl (GE rfl (Ex.add rfl rfl (by omega)) rfl (GB al 1 rfl (TL.nil (Il (TW.step (GC rfl (GK al rfl (T.seq (GO rfl (JS (show 1<13 by omega)) ?_)))))))))))))
 refine GW (T.seq (T.block (GC Z (GE Z (H6 (k:=1) (r:=2) Z Z Z Ka J1 (by decide) Z) Z (GE Z (GR (us := [.pointer (some ⟨b1,1,none⟩),jI 4]) 1 Z Kz J1 Z Z Z) Z (TL.alloc Z .u Tryz.zeroValue236 Z (fun b21=>(GU (cs':= #[.pointer (some ⟨b1,1,none⟩),jI 4]) Z .u Z Z J1 Z Z Z Z ?_))))))))
 refine GD (Hp (.q 0 (.q 1 (.q 2 (.q 3 (.q 4 (.q 5 (.q 6 (.e 7 .nil)))))))) [0,0,0,0,0] Z bG (NoP.blk (NoP.seq (NoP.seq (NoP.blk bA)))) (by kernel_rfl) ?_)
 refine TD.run al [0,1] Z Z (GM Z (G5 0 Z KA Z Z) Z (TD.run al [3] Z Z (GM Z (G5 4 Z JZ Z Z) Z (TD.run al [5] Z Z (GM Z (G5 0 Z JZ Z Z) Z ?_)))))
 obtain⟨st22,hx23,h⟩:=JO h
 refine IE Z .u (.fn Tryz.call51 Z) (bf g st19 a1.JD 4 _ hx23) sT Z [0,0,0,0,0] (Z) (TD.nil (GX (X.seq (T.region Z (GE Z (Ex.add Z Z (by omega)) Z (GB al 1 Z (TL.nil (HK [0,1,1,1,1] Z (Il (TW.step (GC Z (GB al 1 Z ?_))))))))))))
 refine GD (T.seq (GO rfl (JS (show 2<13 by omega)) (GW (T.seq (T.block (GC rfl (GE rfl (H6 (k:=2) (r:=4) rfl rfl rfl Ka J1 (by decide) rfl) rfl (GE rfl (GR (us := [.pointer (some ⟨b1,2,none⟩),jI 4]) 1 rfl Kz J1 rfl rfl rfl) rfl (TL.alloc rfl .u Tryz.zeroValue236 rfl (fun b24=>(GU (cs':= #[.pointer (some ⟨b1,2,none⟩),jI 4]) rfl .u rfl rfl J1 rfl rfl rfl rfl ?_)))))))))))
 refine GD (Hp (.q 0 (.q 1 (.q 2 (.q 3 (.q 4 (.q 5 (.q 6 (.e 7 .nil)))))))) [0,0,0,0,0] Z bG (NoP.blk (NoP.seq (NoP.seq (NoP.blk bA)))) (by kernel_rfl) ?_)
 refine TD.run al [0,1] Z Z (GM Z (G5 0 Z KA Z Z) Z (TD.run al [3] Z Z (GM Z (G5 4 Z JZ Z Z) Z (TD.run al [5] Z Z (GM Z (G5 0 Z JZ Z Z) Z ?_)))))
 obtain⟨st25,hx26,h⟩:=JO h
 refine IE Z .u (.fn Tryz.call51 Z) (bf g st22 a1.Jv 4 _ hx26) sT Z [0,0,0,0,0] (Z) (TD.nil (GX (X.seq (T.region Z (GE Z (Ex.add Z Z (by omega)) Z (GB al 1 Z (TL.nil (HK [0,1,1,1,1] Z (Il (TW.step (GC Z (GB al 1 Z ?_))))))))))))
 refine GD (T.seq (GO rfl (JS (show 3<13 by omega)) (GW (T.seq (T.block (GC rfl (GE rfl (H6 (k:=3) (r:=6) rfl rfl rfl Ka J1 (by decide) rfl) rfl (GE rfl (GR (us := [jP b2,jI 1]) 1 rfl Kz J1 rfl rfl rfl) rfl (TL.alloc rfl .u Tryz.zeroValue236 rfl (fun b27=>(GU (cs':= #[jP b2,jI 1]) rfl .u rfl rfl J1 rfl rfl rfl rfl ?_)))))))))))
 refine GD (Hp (.q 0 (.q 1 (.q 2 (.q 3 (.q 4 (.q 5 (.q 6 (.e 7 .nil)))))))) [0,0,0,0,0] Z bG (NoP.blk (NoP.seq (NoP.seq (NoP.blk bA)))) (by kernel_rfl) ?_)
 refine TD.run al [0,1] Z Z (GM Z (G5 0 Z KA Z Z) Z (TD.run al [3] Z Z (GM Z (G5 3 Z JZ Z Z) Z (TD.run al [5] Z Z (GM Z (G5 0 Z JZ Z Z) Z ?_)))))
 obtain⟨st28,hx29,h⟩:=JO h
 refine IE Z .u (.fn Tryz.call51 Z) (bf g st25 2 1 _ hx29) sT Z [0,0,0,0,0] (Z) (TD.nil (GX (X.seq (T.region Z (GE Z (Ex.add Z Z (by omega)) Z (GB al 1 Z (TL.nil (HK [0,1,1,1,1] Z (Il (TW.step (GC Z (GB al 1 Z ?_))))))))))))
 refine GD (T.seq (GO rfl (JS (show 4<13 by omega)) (GW (T.seq (T.block (GC rfl (GE rfl (H6 (k:=4) (r:=8) rfl rfl rfl Ka J1 (by decide) rfl) rfl (GE rfl (GR (us := [.pointer (some ⟨b1,3,none⟩),jI 4]) 1 rfl Kz J1 rfl rfl rfl) rfl (TL.alloc rfl .u Tryz.zeroValue236 rfl (fun b30=>(GU (cs':= #[.pointer (some ⟨b1,3,none⟩),jI 4]) rfl .u rfl rfl J1 rfl rfl rfl rfl ?_)))))))))))
 refine GD (Hp (.q 0 (.q 1 (.q 2 (.q 3 (.q 4 (.q 5 (.q 6 (.e 7 .nil)))))))) [0,0,0,0,0] Z bG (NoP.blk (NoP.seq (NoP.seq (NoP.blk bA)))) (by kernel_rfl) ?_)
 refine TD.run al [0,1] Z Z (GM Z (G5 0 Z KA Z Z) Z (TD.run al [3] Z Z (GM Z (G5 4 Z JZ Z Z) Z (TD.run al [5] Z Z (GM Z (G5 0 Z JZ Z Z) Z ?_)))))
 obtain⟨st31,hx32,h⟩:=JO h
 refine IE Z .u (.fn Tryz.call51 Z) (bf g st28 (IntKind.i32.wrap (IntKind.u32.wrap a1.JH)) 4 _ hx32) sT Z [0,0,0,0,0] (Z) (TD.nil (GX (X.seq (T.region Z (GE Z (Ex.add Z Z (by omega)) Z (GB al 1 Z (TL.nil (HK [0,1,1,1,1] Z (Il (TW.step (GC Z (GB al 1 Z ?_))))))))))))
 refine GD (T.seq (GO rfl (JS (show 5<13 by omega)) (GW (T.seq (T.block (GC rfl (GE rfl (H6 (k:=5) (r:=10) rfl rfl rfl Ka J1 (by decide) rfl) rfl (GE rfl (GR (us := [.pointer (some ⟨b1,4,none⟩),jI 2]) 1 rfl Kz J1 rfl rfl rfl) rfl (TL.alloc rfl .u Tryz.zeroValue236 rfl (fun b33=>(GU (cs':= #[.pointer (some ⟨b1,4,none⟩),jI 2]) rfl .u rfl rfl J1 rfl rfl rfl rfl ?_)))))))))))
 refine GD (Hp (.q 0 (.q 1 (.q 2 (.q 3 (.q 4 (.q 5 (.q 6 (.e 7 .nil)))))))) [0,0,0,0,0] Z bG (NoP.blk (NoP.seq (NoP.seq (NoP.blk bA)))) (by kernel_rfl) ?_)
 refine TD.run al [0,1] Z Z (GM Z (G5 0 Z KA Z Z) Z (TD.run al [3] Z Z (GM Z (G5 4 Z JZ Z Z) Z (TD.run al [5] Z Z (GM Z (G5 0 Z JZ Z Z) Z ?_)))))
 obtain⟨st34,hx35,h⟩:=JO h
 refine IE Z .u (.fn Tryz.call51 Z) (bf g st31 a1.JJ 2 _ hx35) sT Z [0,0,0,0,0] (Z) (TD.nil (GX (X.seq (T.region Z (GE Z (Ex.add Z Z (by omega)) Z (GB al 1 Z (TL.nil (HK [0,1,1,1,1] Z (Il (TW.step (GC Z (GB al 1 Z ?_))))))))))))
 refine GD (T.seq (GO rfl (JS (show 6<13 by omega)) (GW (T.seq (T.block (GC rfl (GE rfl (H6 (k:=6) (r:=12) rfl rfl rfl Ka J1 (by decide) rfl) rfl (GE rfl (GR (us := [.pointer (some ⟨b1,5,none⟩),jI 4]) 1 rfl Kz J1 rfl rfl rfl) rfl (TL.alloc rfl .u Tryz.zeroValue236 rfl (fun b36=>(GU (cs':= #[.pointer (some ⟨b1,5,none⟩),jI 4]) rfl .u rfl rfl J1 rfl rfl rfl rfl ?_)))))))))))
 refine GD (Hp (.q 0 (.q 1 (.q 2 (.q 3 (.q 4 (.q 5 (.q 6 (.e 7 .nil)))))))) [0,0,0,0,0] Z bG (NoP.blk (NoP.seq (NoP.seq (NoP.blk bA)))) (by kernel_rfl) ?_)
 refine TD.run al [0,1] Z Z (GM Z (G5 0 Z KA Z Z) Z (TD.run al [3] Z Z (GM Z (G5 4 Z JZ Z Z) Z (TD.run al [5] Z Z (GM Z (G5 0 Z JZ Z Z) Z ?_)))))
 obtain⟨st37,hx38,h⟩:=JO h
 refine IE Z .u (.fn Tryz.call51 Z) (bf g st34 a1.Jx 4 _ hx38) sT Z [0,0,0,0,0] (Z) (TD.nil (GX (X.seq (T.region Z (GE Z (Ex.add Z Z (by omega)) Z (GB al 1 Z (TL.nil (HK [0,1,1,1,1] Z (Il (TW.step (GC Z (GB al 1 Z ?_))))))))))))
 refine GD (T.seq (GO rfl (JS (show 7<13 by omega)) (GW (T.seq (T.block (GC rfl (GE rfl (H6 (k:=7) (r:=14) rfl rfl rfl Ka J1 (by decide) rfl) rfl (GE rfl (GR (us := [.pointer (some ⟨b1,6,none⟩),jI 8]) 1 rfl Kz J1 rfl rfl rfl) rfl (TL.alloc rfl .u Tryz.zeroValue236 rfl (fun b39=>(GU (cs':= #[.pointer (some ⟨b1,6,none⟩),jI 8]) rfl .u rfl rfl J1 rfl rfl rfl rfl ?_)))))))))))
 refine GD (Hp (.q 0 (.q 1 (.q 2 (.q 3 (.q 4 (.q 5 (.q 6 (.e 7 .nil)))))))) [0,0,0,0,0] Z bG (NoP.blk (NoP.seq (NoP.seq (NoP.blk bA)))) (by kernel_rfl) ?_)
 refine TD.run al [0,1] Z Z (GM Z (G5 0 Z KA Z Z) Z (TD.run al [3] Z Z (GM Z (G5 4 Z JZ Z Z) Z (TD.run al [5] Z Z (GM Z (G5 0 Z JZ Z Z) Z ?_)))))
 obtain⟨st40,hx41,h⟩:=JO h
 refine IE Z .u (.fn Tryz.call51 Z) (bf g st37 a1.Jm 8 _ hx41) sT Z [0,0,0,0,0] (Z) (TD.nil (GX (X.seq (T.region Z (GE Z (Ex.add Z Z (by omega)) Z (GB al 1 Z (TL.nil (HK [0,1,1,1,1] Z (Il (TW.step (GC Z (GB al 1 Z ?_))))))))))))
 refine GD (T.seq (GO rfl (JS (show 8<13 by omega)) (GW (T.seq (T.block (GC rfl (GE rfl (H6 (k:=8) (r:=16) rfl rfl rfl Ka J1 (by decide) rfl) rfl (GE rfl (GR (us := [.pointer (some ⟨b1,7,none⟩),jI 8]) 1 rfl Kz J1 rfl rfl rfl) rfl (TL.alloc rfl .u Tryz.zeroValue236 rfl (fun b42=>(GU (cs':= #[.pointer (some ⟨b1,7,none⟩),jI 8]) rfl .u rfl rfl J1 rfl rfl rfl rfl ?_)))))))))))
 refine GD (Hp (.q 0 (.q 1 (.q 2 (.q 3 (.q 4 (.q 5 (.q 6 (.e 7 .nil)))))))) [0,0,0,0,0] Z bG (NoP.blk (NoP.seq (NoP.seq (NoP.blk bA)))) (by kernel_rfl) ?_)
 refine TD.run al [0,1] Z Z (GM Z (G5 0 Z KA Z Z) Z (TD.run al [3] Z Z (GM Z (G5 4 Z JZ Z Z) Z (TD.run al [5] Z Z (GM Z (G5 0 Z JZ Z Z) Z ?_)))))
 obtain⟨st43,hx44,h⟩:=JO h
 refine IE Z .u (.fn Tryz.call51 Z) (bf g st40 a1.JF 8 _ hx44) sT Z [0,0,0,0,0] (Z) (TD.nil (GX (X.seq (T.region Z (GE Z (Ex.add Z Z (by omega)) Z (GB al 1 Z (TL.nil (HK [0,1,1,1,1] Z (Il (TW.step (GC Z (GB al 1 Z ?_))))))))))))
 refine GD (T.seq (GO rfl (JS (show 9<13 by omega)) (GW (T.seq (T.block (GC rfl (GE rfl (H6 (k:=9) (r:=18) rfl rfl rfl Ka J1 (by decide) rfl) rfl (GE rfl (GR (us := [.pointer (some ⟨b1,8,none⟩),jI 8]) 1 rfl Kz J1 rfl rfl rfl) rfl (TL.alloc rfl .u Tryz.zeroValue236 rfl (fun b45=>(GU (cs':= #[.pointer (some ⟨b1,8,none⟩),jI 8]) rfl .u rfl rfl J1 rfl rfl rfl rfl ?_)))))))))))
 refine GD (Hp (.q 0 (.q 1 (.q 2 (.q 3 (.q 4 (.q 5 (.q 6 (.e 7 .nil)))))))) [0,0,0,0,0] Z bG (NoP.blk (NoP.seq (NoP.seq (NoP.blk bA)))) (by kernel_rfl) ?_)
 refine TD.run al [0,1] Z Z (GM Z (G5 0 Z KA Z Z) Z (TD.run al [3] Z Z (GM Z (G5 4 Z JZ Z Z) Z (TD.run al [5] Z Z (GM Z (G5 0 Z JZ Z Z) Z ?_)))))
 obtain⟨st46,hx47,h⟩:=JO h
 refine IE Z .u (.fn Tryz.call51 Z) (bf g st43 a1.I6 8 _ hx47) sT Z [0,0,0,0,0] (Z) (TD.nil (GX (X.seq (T.region Z (GE Z (Ex.add Z Z (by omega)) Z (GB al 1 Z (TL.nil (HK [0,1,1,1,1] Z (Il (TW.step (GC Z (GB al 1 Z ?_))))))))))))
 refine GD (T.seq (GO rfl (JS (show 10<13 by omega)) (GW (T.seq (T.block (GC rfl (GE rfl (H6 (k:=10) (r:=20) rfl rfl rfl Ka J1 (by decide) rfl) rfl (GE rfl (GR (us := [.pointer (some ⟨b1,9,none⟩),jI 2]) 1 rfl Kz J1 rfl rfl rfl) rfl (TL.alloc rfl .u Tryz.zeroValue236 rfl (fun b48=>(GU (cs':= #[.pointer (some ⟨b1,9,none⟩),jI 2]) rfl .u rfl rfl J1 rfl rfl rfl rfl ?_)))))))))))
 refine GD (Hp (.q 0 (.q 1 (.q 2 (.q 3 (.q 4 (.q 5 (.q 6 (.e 7 .nil)))))))) [0,0,0,0,0] Z bG (NoP.blk (NoP.seq (NoP.seq (NoP.blk bA)))) (by kernel_rfl) ?_)
 refine TD.run al [0,1] Z Z (GM Z (G5 0 Z KA Z Z) Z (TD.run al [3] Z Z (GM Z (G5 4 Z JZ Z Z) Z (TD.run al [5] Z Z (GM Z (G5 0 Z JZ Z Z) Z ?_)))))
 obtain⟨st49,hx50,h⟩:=JO h
 refine IE Z .u (.fn Tryz.call51 Z) (bf g st46 a1.I8 2 _ hx50) sT Z [0,0,0,0,0] (Z) (TD.nil (GX (X.seq (T.region Z (GE Z (Ex.add Z Z (by omega)) Z (GB al 1 Z (TL.nil (HK [0,1,1,1,1] Z (Il (TW.step (GC Z (GB al 1 Z ?_))))))))))))
 refine GD (T.seq (GO rfl (JS (show 11<13 by omega)) (GW (T.seq (T.block (GC rfl (GE rfl (H6 (k:=11) (r:=22) rfl rfl rfl Ka J1 (by decide) rfl) rfl (GE rfl (GR (us := [.pointer (some ⟨b1,10,none⟩),jI 4]) 1 rfl Kz J1 rfl rfl rfl) rfl (TL.alloc rfl .u Tryz.zeroValue236 rfl (fun b51=>(GU (cs':= #[.pointer (some ⟨b1,10,none⟩),jI 4]) rfl .u rfl rfl J1 rfl rfl rfl rfl ?_)))))))))))
 refine GD (Hp (.q 0 (.q 1 (.q 2 (.q 3 (.q 4 (.q 5 (.q 6 (.e 7 .nil)))))))) [0,0,0,0,0] Z bG (NoP.blk (NoP.seq (NoP.seq (NoP.blk bA)))) (by kernel_rfl) ?_)
 refine TD.run al [0,1] Z Z (GM Z (G5 0 Z KA Z Z) Z (TD.run al [3] Z Z (GM Z (G5 4 Z JZ Z Z) Z (TD.run al [5] Z Z (GM Z (G5 0 Z JZ Z Z) Z ?_)))))
 obtain⟨st52,hx53,h⟩:=JO h
 refine IE Z .u (.fn Tryz.call51 Z) (bf g st49 a1.Jn 4 _ hx53) sT Z [0,0,0,0,0] (Z) (TD.nil (GX (X.seq (T.region Z (GE Z (Ex.add Z Z (by omega)) Z (GB al 1 Z (TL.nil (HK [0,1,1,1,1] Z (Il (TW.step (GC Z (GB al 1 Z ?_))))))))))))
 refine GD (T.seq (GO rfl (JS (show 12<13 by omega)) (GW (T.seq (T.block (GC rfl (GE rfl (H6 (k:=12) (r:=24) rfl rfl rfl Ka J1 (by decide) rfl) rfl (GE rfl (GR (us := [.pointer (some ⟨b1,11,none⟩),jI 4]) 1 rfl Kz J1 rfl rfl rfl) rfl (TL.alloc rfl .u Tryz.zeroValue236 rfl (fun b54=>(GU (cs':= #[.pointer (some ⟨b1,11,none⟩),jI 4]) rfl .u rfl rfl J1 rfl rfl rfl rfl ?_)))))))))))
 refine GD (Hp (.q 0 (.q 1 (.q 2 (.q 3 (.q 4 (.q 5 (.q 6 (.e 7 .nil)))))))) [0,0,0,0,0] Z bG (NoP.blk (NoP.seq (NoP.seq (NoP.blk bA)))) (by kernel_rfl) ?_)
 refine TD.run al [0,1] Z Z (GM Z (G5 0 Z KA Z Z) Z (TD.run al [3] Z Z (GM Z (G5 4 Z JZ Z Z) Z (TD.run al [5] Z Z (GM Z (G5 0 Z JZ Z Z) Z ?_)))))
 obtain⟨st55,hx56,h⟩:=JO h
 refine IE Z .u (.fn Tryz.call51 Z) (bf g st52 a1.JI 4 _ hx56) sT Z [0,0,0,0,0] (Z) (TD.nil (GX (X.seq (T.region Z (GE Z (Ex.add Z Z (by omega)) Z (GB al 1 Z (TL.nil (HK [0,1,1,1,1] Z (Il (TW.step (GC Z (GB al 1 Z ?_))))))))))))
 refine GD (T.seq (G7 rfl (JT (show ¬ (13<13) by omega)) ?_))
 obtain rfl:=JP h
 exact T.exit (GT (GT (Hu (H7 [4] Tryz.results83 ⟨Z,Z,Z⟩ (by rfl) (.inr Z)))))
def j5 (st:I)  : Option (Pfx×I):=(dL st 8).bind fun (x6,st7)=>(dL st7 4).bind fun (x10,st11)=>(dL st11 4).bind fun (x14,st15)=>(dL st15 1).bind fun (x18,st19)=>(dL st19 4).bind fun (x22,st23)=>(dL st23 2).bind fun (x26,st27)=>(dL st27 4).bind fun (x30,st31)=>(dL st31 8).bind fun (x34,st35)=>(dL st35 8).bind fun (x38,st39)=>(dL st39 8).bind fun (x42,st43)=>(dL st43 2).bind fun (x46,st47)=>(dL st47 4).bind fun (x50,st51)=>(dL st51 4).bind fun (x54,st55)=>(gJ st55).bind fun (x57,st58)=>(if x57=0 then ((if x18=2 then ((if x10<49 then ((bU st58 4).bind fun st164=>some st164) else ((if x54<0 then ((bU st58 10).bind fun st172=>some st172) else some st58).bind fun st169=>some st169)).bind fun st161=>some st161) else ((bU st58 6).bind fun st174=>some st174)).bind fun st147=>some st147) else some st58).bind fun st117=>(gJ st117).bind fun (x176,st177)=>if x176=0 then (some ((⟨x6,x10,x14,(Go.bits .and .i64 x22 4294967295),x26,x30,x34,x38,x42,x46,x50,x54⟩:Pfx),st177)) else (some ((⟨0,0,0,0,0,0,0,0,0,0,0,0⟩:Pfx),st177))
theorem pP (g:Nat) (st:I)  (r:Pfx×I) (h:j5 st  = some r):aE Tryz.prog 133 #[jP g] .triv (InR g st) (fun v A' N=>v= .agg #[jI r.1.Jz,jI r.1.JD,jI r.1.Jv,jI r.1.JH,jI r.1.JJ,jI r.1.Jx,jI r.1.Jm,jI r.1.JF,jI r.1.I6,jI r.1.I8,jI r.1.Jn,jI r.1.JI]∧A'=InR g r.2∧N = []):=by
 refine aU Tryz.func133 Z Tryz.ntmps133 Z ?_
 intro F w hX
 unfold j5 at h
 refine GC Z (TL.alloc Z .u Tryz.zeroValue159 Z (fun b1=>(GV Z (TL.alloc Z .u Tryz.zeroValue159 Z (fun b2=>(GV Z (TL.alloc Z .u Tryz.zeroValue3 Z (fun b3=>(GU (cs':= #[jI 0]) Z .u Z Z JX Z Z Z Z (GD (T.seq (GC Z ?_))))))))))))
 refine It Z .u (.fn Tryz.call139 Z) (g7 b2 b3 () Z) (fun _ hs=>Hi _ _) Z ?_
 rintro _ _ _ ⟨b4,rfl,rfl,rfl⟩
 refine Hz [0,0,0,0,0] rfl (GE rfl (GQ rfl Ka) rfl (GK al rfl (T.block (T.unroll0 (TW.step (GC rfl (GK al rfl (T.seq (GO rfl (JS (show 0<13 by omega)) ?_)))))))))
 refine GW (T.seq (T.block (GC Z (GE Z (H6 (k:=0) (r:=0) Z Z Z Ka J1 (by decide) Z) Z (GE Z (GR (us := [jP b2,jI 8]) 0 Z Kz J1 Z Z Z) Z (TL.alloc Z .u Tryz.zeroValue236 Z (fun b5=>(GU (cs':= #[jP b2,jI 8]) Z .u Z Z J1 Z Z Z Z ?_))))))))
 refine GD (Hp (.q 0 (.q 1 (.q 2 (.q 3 (.q 4 (.e 5 (.q 6 (.e 7 .nil)))))))) [0,0,0,1] Z bG (NoP.blk (NoP.seq (NoP.seq (NoP.blk (NoP.seq bA))))) (by kernel_rfl) ?_)
 refine TD.run al [0] Z Z (GM Z (G5 0 Z KA Z Z) Z (TD.run al [2,3] Z Z (GM Z (G5 0 Z JZ Z Z) Z ?_)))
 obtain⟨⟨x6,st7⟩,hx8,h⟩:=JO h
 try dsimp only at h
 refine IE Z .u (.fn Tryz.call68 Z) (bj g st 8 _ hx8) sT Z [0,0,0,1] (Z) (TD.run al [6] Z Z (IR (cs':= #[jI x6,jI 0,jI 0,jI 0,jI 0,jI 0,jI 0,jI 0,jI 0,jI 0,jI 0,jI 0]) Z .u Z Z JX Z Z Z Z [0,0,0,1] (Z) (TD.nil (GX (X.seq (T.region Z (GE Z (Ex.add Z Z (by omega)) Z (GB al 1 Z (TL.nil (Il (TW.step (GC Z (GB al 1 Z ?_)))))))))))))
 refine GD (T.seq (GO rfl (JS (show 1<13 by omega)) (GW (T.seq (T.block (GC rfl (GE rfl (H6 (k:=1) (r:=2) rfl rfl rfl Ka J1 (by decide) rfl) rfl (GE rfl (GR (us := [.pointer (some ⟨b2,1,none⟩),jI 4]) 1 rfl Kz J1 rfl rfl rfl) rfl (TL.alloc rfl .u Tryz.zeroValue236 rfl (fun b9=>(GU (cs':= #[.pointer (some ⟨b2,1,none⟩),jI 4]) rfl .u rfl rfl J1 rfl rfl rfl rfl ?_)))))))))))
 refine GD (Hp (.q 0 (.q 1 (.q 2 (.q 3 (.q 4 (.e 5 (.q 6 (.e 7 .nil)))))))) [0,0,0,0,1] Z bG (NoP.blk (NoP.seq (NoP.seq (NoP.blk (NoP.seq bA))))) (by kernel_rfl) ?_)
 refine TD.run al [0] Z Z (GM Z (G5 0 Z KA Z Z) Z (TD.run al [2,3] Z Z (GM Z (G5 0 Z JZ Z Z) Z ?_)))
 obtain⟨⟨x10,st11⟩,hx12,h⟩:=JO h
 try dsimp only at h
 refine IF Z .u (.fn Tryz.call68 Z) (bj g st7 4 _ hx12) sT Z [0,0,0,0,1] (Z) (TD.run al [6] Z Z (ID (cs':= #[jI x6,jI x10,jI 0,jI 0,jI 0,jI 0,jI 0,jI 0,jI 0,jI 0,jI 0,jI 0]) Z .u Z Z JX Z Z Z Z [0,0,0,0,1] (Z) (TD.nil (GX (X.seq (T.region Z (GE Z (Ex.add Z Z (by omega)) Z (GB al 1 Z (TL.nil (HK [0,1,1,1,1,1] Z ?_))))))))))
 refine Il (TW.step (GC rfl (GK al rfl (T.seq (GO rfl (JS (show 2<13 by omega)) (GW (T.seq (T.block (GC rfl (GE rfl (H6 (k:=2) (r:=4) rfl rfl rfl Ka J1 (by decide) rfl) rfl (GE rfl (GR (us := [.pointer (some ⟨b2,2,none⟩),jI 4]) 1 rfl Kz J1 rfl rfl rfl) rfl (TL.alloc rfl .u Tryz.zeroValue236 rfl (fun b13=> ?_)))))))))))))
 refine GU (cs':= #[.pointer (some ⟨b2,2,none⟩),jI 4]) Z .u Z Z J1 Z Z Z Z ?_
 refine GD (Hp (.q 0 (.q 1 (.q 2 (.q 3 (.q 4 (.e 5 (.q 6 (.e 7 .nil)))))))) [0,0,0,0,1] Z bG (NoP.blk (NoP.seq (NoP.seq (NoP.blk (NoP.seq bA))))) (by kernel_rfl) ?_)
 refine TD.run al [0] Z Z (GM Z (G5 0 Z KA Z Z) Z (TD.run al [2,3] Z Z (GM Z (G5 0 Z JZ Z Z) Z ?_)))
 obtain⟨⟨x14,st15⟩,hx16,h⟩:=JO h
 try dsimp only at h
 refine IF Z .u (.fn Tryz.call68 Z) (bj g st11 4 _ hx16) sT Z [0,0,0,0,1] (Z) (TD.run al [6] Z Z (ID (cs':= #[jI x6,jI x10,jI x14,jI 0,jI 0,jI 0,jI 0,jI 0,jI 0,jI 0,jI 0,jI 0]) Z .u Z Z JX Z Z Z Z [0,0,0,0,1] (Z) (TD.nil (GX (X.seq (T.region Z (GE Z (Ex.add Z Z (by omega)) Z (GB al 1 Z (TL.nil (HK [0,1,1,1,1,1] Z ?_))))))))))
 refine Il (TW.step (GC rfl (GK al rfl (T.seq (GO rfl (JS (show 3<13 by omega)) (GW (T.seq (T.block (GC rfl (GE rfl (H6 (k:=3) (r:=6) rfl rfl rfl Ka J1 (by decide) rfl) rfl (GE rfl (GR (us := [jP b3,jI 1]) 1 rfl Kz J1 rfl rfl rfl) rfl (TL.alloc rfl .u Tryz.zeroValue236 rfl (fun b17=> ?_)))))))))))))
 refine GU (cs':= #[jP b3,jI 1]) Z .u Z Z J1 Z Z Z Z ?_
 refine GD (Hp (.q 0 (.q 1 (.q 2 (.q 3 (.q 4 (.e 5 (.q 6 (.e 7 .nil)))))))) [0,0,0,1,1] Z bG (NoP.blk (NoP.seq (NoP.seq (NoP.blk (NoP.seq bA))))) (by kernel_rfl) ?_)
 refine TD.run al [0] Z Z (GM Z (G5 0 Z KA Z Z) Z (TD.run al [2,3] Z Z (GM Z (G5 0 Z JZ Z Z) Z ?_)))
 obtain⟨⟨x18,st19⟩,hx20,h⟩:=JO h
 try dsimp only at h
 refine IF Z .u (.fn Tryz.call68 Z) (bj g st15 1 _ hx20) sT Z [0,0,0,1,1] (Z) (TD.run al [6] Z Z (IR (cs':= #[jI x18]) Z .u Z Z JX Z Z Z Z [0,0,0,1,1] (Z) (TD.nil (GX (X.seq (T.region Z (GE Z (Ex.add Z Z (by omega)) Z (GB al 1 Z (TL.nil (HK [0,1,1,1,1,1] Z ?_))))))))))
 refine Il (TW.step (GC rfl (GK al rfl (T.seq (GO rfl (JS (show 4<13 by omega)) (GW (T.seq (T.block (GC rfl (GE rfl (H6 (k:=4) (r:=8) rfl rfl rfl Ka J1 (by decide) rfl) rfl (GE rfl (GR (us := [.pointer (some ⟨b2,3,none⟩),jI 4]) 1 rfl Kz J1 rfl rfl rfl) rfl (TL.alloc rfl .u Tryz.zeroValue236 rfl (fun b21=> ?_)))))))))))))
 refine GU (cs':= #[.pointer (some ⟨b2,3,none⟩),jI 4]) Z .u Z Z J1 Z Z Z Z ?_
 refine GD (Hp (.q 0 (.q 1 (.q 2 (.q 3 (.q 4 (.e 5 (.q 6 (.e 7 .nil)))))))) [0,0,0,0,1] Z bG (NoP.blk (NoP.seq (NoP.seq (NoP.blk (NoP.seq bA))))) (by kernel_rfl) ?_)
 refine TD.run al [0] Z Z (GM Z (G5 0 Z KA Z Z) Z (TD.run al [2,3] Z Z (GM Z (G5 0 Z JZ Z Z) Z ?_)))
 obtain⟨⟨x22,st23⟩,hx24,h⟩:=JO h
 try dsimp only at h
 refine IF Z .u (.fn Tryz.call68 Z) (bj g st19 4 _ hx24) sT Z [0,0,0,0,1] (Z) (TD.run al [6] Z Z (ID (cs':= #[jI x6,jI x10,jI x14,jI x22,jI 0,jI 0,jI 0,jI 0,jI 0,jI 0,jI 0,jI 0]) Z .u Z Z JX Z Z Z Z [0,0,0,0,1] (Z) (TD.nil (GX (X.seq (T.region Z (GE Z (Ex.add Z Z (by omega)) Z (GB al 1 Z (TL.nil (HK [0,1,1,1,1,1] Z ?_))))))))))
 refine Il (TW.step (GC rfl (GK al rfl (T.seq (GO rfl (JS (show 5<13 by omega)) (GW (T.seq (T.block (GC rfl (GE rfl (H6 (k:=5) (r:=10) rfl rfl rfl Ka J1 (by decide) rfl) rfl (GE rfl (GR (us := [.pointer (some ⟨b2,4,none⟩),jI 2]) 1 rfl Kz J1 rfl rfl rfl) rfl (TL.alloc rfl .u Tryz.zeroValue236 rfl (fun b25=> ?_)))))))))))))
 refine GU (cs':= #[.pointer (some ⟨b2,4,none⟩),jI 2]) Z .u Z Z J1 Z Z Z Z ?_
 refine GD (Hp (.q 0 (.q 1 (.q 2 (.q 3 (.q 4 (.e 5 (.q 6 (.e 7 .nil)))))))) [0,0,0,0,1] Z bG (NoP.blk (NoP.seq (NoP.seq (NoP.blk (NoP.seq bA))))) (by kernel_rfl) ?_)
 refine TD.run al [0] Z Z (GM Z (G5 0 Z KA Z Z) Z (TD.run al [2,3] Z Z (GM Z (G5 0 Z JZ Z Z) Z ?_)))
 obtain⟨⟨x26,st27⟩,hx28,h⟩:=JO h
 try dsimp only at h
 refine IF Z .u (.fn Tryz.call68 Z) (bj g st23 2 _ hx28) sT Z [0,0,0,0,1] (Z) (TD.run al [6] Z Z (ID (cs':= #[jI x6,jI x10,jI x14,jI x22,jI x26,jI 0,jI 0,jI 0,jI 0,jI 0,jI 0,jI 0]) Z .u Z Z JX Z Z Z Z [0,0,0,0,1] (Z) (TD.nil (GX (X.seq (T.region Z (GE Z (Ex.add Z Z (by omega)) Z (GB al 1 Z (TL.nil (HK [0,1,1,1,1,1] Z ?_))))))))))
 refine Il (TW.step (GC rfl (GK al rfl (T.seq (GO rfl (JS (show 6<13 by omega)) (GW (T.seq (T.block (GC rfl (GE rfl (H6 (k:=6) (r:=12) rfl rfl rfl Ka J1 (by decide) rfl) rfl (GE rfl (GR (us := [.pointer (some ⟨b2,5,none⟩),jI 4]) 1 rfl Kz J1 rfl rfl rfl) rfl (TL.alloc rfl .u Tryz.zeroValue236 rfl (fun b29=> ?_)))))))))))))
 refine GU (cs':= #[.pointer (some ⟨b2,5,none⟩),jI 4]) Z .u Z Z J1 Z Z Z Z ?_
 refine GD (Hp (.q 0 (.q 1 (.q 2 (.q 3 (.q 4 (.e 5 (.q 6 (.e 7 .nil)))))))) [0,0,0,0,1] Z bG (NoP.blk (NoP.seq (NoP.seq (NoP.blk (NoP.seq bA))))) (by kernel_rfl) ?_)
 refine TD.run al [0] Z Z (GM Z (G5 0 Z KA Z Z) Z (TD.run al [2,3] Z Z (GM Z (G5 0 Z JZ Z Z) Z ?_)))
 obtain⟨⟨x30,st31⟩,hx32,h⟩:=JO h
 try dsimp only at h
 refine IF Z .u (.fn Tryz.call68 Z) (bj g st27 4 _ hx32) sT Z [0,0,0,0,1] (Z) (TD.run al [6] Z Z (ID (cs':= #[jI x6,jI x10,jI x14,jI x22,jI x26,jI x30,jI 0,jI 0,jI 0,jI 0,jI 0,jI 0]) Z .u Z Z JX Z Z Z Z [0,0,0,0,1] (Z) (TD.nil (GX (X.seq (T.region Z (GE Z (Ex.add Z Z (by omega)) Z (GB al 1 Z (TL.nil (HK [0,1,1,1,1,1] Z ?_))))))))))
 refine Il (TW.step (GC rfl (GK al rfl (T.seq (GO rfl (JS (show 7<13 by omega)) (GW (T.seq (T.block (GC rfl (GE rfl (H6 (k:=7) (r:=14) rfl rfl rfl Ka J1 (by decide) rfl) rfl (GE rfl (GR (us := [.pointer (some ⟨b2,6,none⟩),jI 8]) 1 rfl Kz J1 rfl rfl rfl) rfl (TL.alloc rfl .u Tryz.zeroValue236 rfl (fun b33=> ?_)))))))))))))
 refine GU (cs':= #[.pointer (some ⟨b2,6,none⟩),jI 8]) Z .u Z Z J1 Z Z Z Z ?_
 refine GD (Hp (.q 0 (.q 1 (.q 2 (.q 3 (.q 4 (.e 5 (.q 6 (.e 7 .nil)))))))) [0,0,0,0,1] Z bG (NoP.blk (NoP.seq (NoP.seq (NoP.blk (NoP.seq bA))))) (by kernel_rfl) ?_)
 refine TD.run al [0] Z Z (GM Z (G5 0 Z KA Z Z) Z (TD.run al [2,3] Z Z (GM Z (G5 0 Z JZ Z Z) Z ?_)))
 obtain⟨⟨x34,st35⟩,hx36,h⟩:=JO h
 try dsimp only at h
 refine IF Z .u (.fn Tryz.call68 Z) (bj g st31 8 _ hx36) sT Z [0,0,0,0,1] (Z) (TD.run al [6] Z Z (ID (cs':= #[jI x6,jI x10,jI x14,jI x22,jI x26,jI x30,jI x34,jI 0,jI 0,jI 0,jI 0,jI 0]) Z .u Z Z JX Z Z Z Z [0,0,0,0,1] (Z) (TD.nil (GX (X.seq (T.region Z (GE Z (Ex.add Z Z (by omega)) Z (GB al 1 Z (TL.nil (HK [0,1,1,1,1,1] Z ?_))))))))))
 refine Il (TW.step (GC rfl (GK al rfl (T.seq (GO rfl (JS (show 8<13 by omega)) (GW (T.seq (T.block (GC rfl (GE rfl (H6 (k:=8) (r:=16) rfl rfl rfl Ka J1 (by decide) rfl) rfl (GE rfl (GR (us := [.pointer (some ⟨b2,7,none⟩),jI 8]) 1 rfl Kz J1 rfl rfl rfl) rfl (TL.alloc rfl .u Tryz.zeroValue236 rfl (fun b37=> ?_)))))))))))))
 refine GU (cs':= #[.pointer (some ⟨b2,7,none⟩),jI 8]) Z .u Z Z J1 Z Z Z Z ?_
 refine GD (Hp (.q 0 (.q 1 (.q 2 (.q 3 (.q 4 (.e 5 (.q 6 (.e 7 .nil)))))))) [0,0,0,0,1] Z bG (NoP.blk (NoP.seq (NoP.seq (NoP.blk (NoP.seq bA))))) (by kernel_rfl) ?_)
 refine TD.run al [0] Z Z (GM Z (G5 0 Z KA Z Z) Z (TD.run al [2,3] Z Z (GM Z (G5 0 Z JZ Z Z) Z ?_)))
 obtain⟨⟨x38,st39⟩,hx40,h⟩:=JO h
 try dsimp only at h
 refine IF Z .u (.fn Tryz.call68 Z) (bj g st35 8 _ hx40) sT Z [0,0,0,0,1] (Z) (TD.run al [6] Z Z (ID (cs':= #[jI x6,jI x10,jI x14,jI x22,jI x26,jI x30,jI x34,jI x38,jI 0,jI 0,jI 0,jI 0]) Z .u Z Z JX Z Z Z Z [0,0,0,0,1] (Z) (TD.nil (GX (X.seq (T.region Z (GE Z (Ex.add Z Z (by omega)) Z (GB al 1 Z (TL.nil (HK [0,1,1,1,1,1] Z ?_))))))))))
 refine Il (TW.step (GC rfl (GK al rfl (T.seq (GO rfl (JS (show 9<13 by omega)) (GW (T.seq (T.block (GC rfl (GE rfl (H6 (k:=9) (r:=18) rfl rfl rfl Ka J1 (by decide) rfl) rfl (GE rfl (GR (us := [.pointer (some ⟨b2,8,none⟩),jI 8]) 1 rfl Kz J1 rfl rfl rfl) rfl (TL.alloc rfl .u Tryz.zeroValue236 rfl (fun b41=> ?_)))))))))))))
 refine GU (cs':= #[.pointer (some ⟨b2,8,none⟩),jI 8]) Z .u Z Z J1 Z Z Z Z ?_
 refine GD (Hp (.q 0 (.q 1 (.q 2 (.q 3 (.q 4 (.e 5 (.q 6 (.e 7 .nil)))))))) [0,0,0,0,1] Z bG (NoP.blk (NoP.seq (NoP.seq (NoP.blk (NoP.seq bA))))) (by kernel_rfl) ?_)
 refine TD.run al [0] Z Z (GM Z (G5 0 Z KA Z Z) Z (TD.run al [2,3] Z Z (GM Z (G5 0 Z JZ Z Z) Z ?_)))
 obtain⟨⟨x42,st43⟩,hx44,h⟩:=JO h
 try dsimp only at h
 refine IF Z .u (.fn Tryz.call68 Z) (bj g st39 8 _ hx44) sT Z [0,0,0,0,1] (Z) (TD.run al [6] Z Z (ID (cs':= #[jI x6,jI x10,jI x14,jI x22,jI x26,jI x30,jI x34,jI x38,jI x42,jI 0,jI 0,jI 0]) Z .u Z Z JX Z Z Z Z [0,0,0,0,1] (Z) (TD.nil (GX (X.seq (T.region Z (GE Z (Ex.add Z Z (by omega)) Z (GB al 1 Z (TL.nil (HK [0,1,1,1,1,1] Z ?_))))))))))
 refine Il (TW.step (GC rfl (GK al rfl (T.seq (GO rfl (JS (show 10<13 by omega)) (GW (T.seq (T.block (GC rfl (GE rfl (H6 (k:=10) (r:=20) rfl rfl rfl Ka J1 (by decide) rfl) rfl (GE rfl (GR (us := [.pointer (some ⟨b2,9,none⟩),jI 2]) 1 rfl Kz J1 rfl rfl rfl) rfl (TL.alloc rfl .u Tryz.zeroValue236 rfl (fun b45=> ?_)))))))))))))
 refine GU (cs':= #[.pointer (some ⟨b2,9,none⟩),jI 2]) Z .u Z Z J1 Z Z Z Z ?_
 refine GD (Hp (.q 0 (.q 1 (.q 2 (.q 3 (.q 4 (.e 5 (.q 6 (.e 7 .nil)))))))) [0,0,0,0,1] Z bG (NoP.blk (NoP.seq (NoP.seq (NoP.blk (NoP.seq bA))))) (by kernel_rfl) ?_)
 refine TD.run al [0] Z Z (GM Z (G5 0 Z KA Z Z) Z (TD.run al [2,3] Z Z (GM Z (G5 0 Z JZ Z Z) Z ?_)))
 obtain⟨⟨x46,st47⟩,hx48,h⟩:=JO h
 try dsimp only at h
 refine IF Z .u (.fn Tryz.call68 Z) (bj g st43 2 _ hx48) sT Z [0,0,0,0,1] (Z) (TD.run al [6] Z Z (ID (cs':= #[jI x6,jI x10,jI x14,jI x22,jI x26,jI x30,jI x34,jI x38,jI x42,jI x46,jI 0,jI 0]) Z .u Z Z JX Z Z Z Z [0,0,0,0,1] (Z) (TD.nil (GX (X.seq (T.region Z (GE Z (Ex.add Z Z (by omega)) Z (GB al 1 Z (TL.nil (HK [0,1,1,1,1,1] Z ?_))))))))))
 refine Il (TW.step (GC rfl (GK al rfl (T.seq (GO rfl (JS (show 11<13 by omega)) (GW (T.seq (T.block (GC rfl (GE rfl (H6 (k:=11) (r:=22) rfl rfl rfl Ka J1 (by decide) rfl) rfl (GE rfl (GR (us := [.pointer (some ⟨b2,10,none⟩),jI 4]) 1 rfl Kz J1 rfl rfl rfl) rfl (TL.alloc rfl .u Tryz.zeroValue236 rfl (fun b49=> ?_)))))))))))))
 refine GU (cs':= #[.pointer (some ⟨b2,10,none⟩),jI 4]) Z .u Z Z J1 Z Z Z Z ?_
 refine GD (Hp (.q 0 (.q 1 (.q 2 (.q 3 (.q 4 (.e 5 (.q 6 (.e 7 .nil)))))))) [0,0,0,0,1] Z bG (NoP.blk (NoP.seq (NoP.seq (NoP.blk (NoP.seq bA))))) (by kernel_rfl) ?_)
 refine TD.run al [0] Z Z (GM Z (G5 0 Z KA Z Z) Z (TD.run al [2,3] Z Z (GM Z (G5 0 Z JZ Z Z) Z ?_)))
 obtain⟨⟨x50,st51⟩,hx52,h⟩:=JO h
 try dsimp only at h
 refine IF Z .u (.fn Tryz.call68 Z) (bj g st47 4 _ hx52) sT Z [0,0,0,0,1] (Z) (TD.run al [6] Z Z (ID (cs':= #[jI x6,jI x10,jI x14,jI x22,jI x26,jI x30,jI x34,jI x38,jI x42,jI x46,jI x50,jI 0]) Z .u Z Z JX Z Z Z Z [0,0,0,0,1] (Z) (TD.nil (GX (X.seq (T.region Z (GE Z (Ex.add Z Z (by omega)) Z (GB al 1 Z (TL.nil (HK [0,1,1,1,1,1] Z ?_))))))))))
 refine Il (TW.step (GC rfl (GK al rfl (T.seq (GO rfl (JS (show 12<13 by omega)) (GW (T.seq (T.block (GC rfl (GE rfl (H6 (k:=12) (r:=24) rfl rfl rfl Ka J1 (by decide) rfl) rfl (GE rfl (GR (us := [.pointer (some ⟨b2,11,none⟩),jI 4]) 1 rfl Kz J1 rfl rfl rfl) rfl (TL.alloc rfl .u Tryz.zeroValue236 rfl (fun b53=> ?_)))))))))))))
 refine GU (cs':= #[.pointer (some ⟨b2,11,none⟩),jI 4]) Z .u Z Z J1 Z Z Z Z ?_
 refine GD (Hp (.q 0 (.q 1 (.q 2 (.q 3 (.q 4 (.e 5 (.q 6 (.e 7 .nil)))))))) [0,0,0,0,1] Z bG (NoP.blk (NoP.seq (NoP.seq (NoP.blk (NoP.seq bA))))) (by kernel_rfl) ?_)
 refine TD.run al [0] Z Z (GM Z (G5 0 Z KA Z Z) Z (TD.run al [2,3] Z Z (GM Z (G5 0 Z JZ Z Z) Z ?_)))
 obtain⟨⟨x54,st55⟩,hx56,h⟩:=JO h
 try dsimp only at h
 refine IF Z .u (.fn Tryz.call68 Z) (bj g st51 4 _ hx56) sT Z [0,0,0,0,1] (Z) (TD.run al [6] Z Z (ID (cs':= #[jI x6,jI x10,jI x14,jI x22,jI x26,jI x30,jI x34,jI x38,jI x42,jI x46,jI x50,jI x54]) Z .u Z Z JX Z Z Z Z [0,0,0,0,1] (Z) (TD.nil (GX (X.seq (T.region Z (GE Z (Ex.add Z Z (by omega)) Z (GB al 1 Z (TL.nil (HK [0,1,1,1,1,1] Z ?_))))))))))
 refine Il (TW.step (GC rfl (GK al rfl (T.seq (G7 rfl (JT (show ¬ (13<13) by omega)) (T.exit (GT (GT (Hu (X.seq (GC rfl (GG al fH 3 rfl 2 rfl rfl (GE rfl (Ex.bitw rfl rfl rfl) rfl (GB al 1 rfl ?_))))))))))))))
 refine Ig (cs':= #[jI x6,jI x10,jI x14,jI (Go.bits .and .i64 x22 4294967295),jI x26,jI x30,jI x34,jI x38,jI x42,jI x46,jI x50,jI x54]) Z .u Z Z JX Z Z Z Z (GD (T.seq (T.block (GC Z ?_))))
 obtain⟨⟨x57,st58⟩,hx59,h⟩:=JO h
 try dsimp only at h
 refine GB al 1 Z (IK Z .u (.fn Tryz.call23 Z) (cc g st55 _ hx59) sT Z (GK al Z ?_))
 obtain⟨st117,h,hk118⟩:=JO h
 refine HJ (fun e Rs=>e = [(0,jP g),(2,jP b1),(3,jP b2)]∧Rs = [aT b53 236 #[.pointer (some ⟨b2,11,none⟩),jI 4],aT b4 236 (vA1 b2 b3),aT b3 3 #[jI x18],aT b2 159 #[jI x6,jI x10,jI x14,jI (Go.bits .and .i64 x22 4294967295),jI x26,jI x30,jI x34,jI x38,jI x42,jI x46,jI x50,jI x54],aT b1 159 #[jI 0,jI 0,jI 0,jI 0,jI 0,jI 0,jI 0,jI 0,jI 0,jI 0,jI 0,jI 0],InR g st117]) ?_ ?_
 ·clear hk118
  rcases jF h with⟨c119,h⟩ | ⟨c119,h⟩
  ·refine T.nn Z c119 (GC Z (Ir al fH 2 Z Z Z ?_))
   obtain⟨st147,h,hk148⟩:=JO h
   refine HJ (fun e Rs=>e = [(0,jP g),(2,jP b1),(3,jP b2)]∧Rs = [aT b53 236 #[.pointer (some ⟨b2,11,none⟩),jI 4],aT b4 236 (vA1 b2 b3),aT b3 3 #[jI x18],aT b2 159 #[jI x6,jI x10,jI x14,jI (Go.bits .and .i64 x22 4294967295),jI x26,jI x30,jI x34,jI x38,jI x42,jI x46,jI x50,jI x54],aT b1 159 #[jI 0,jI 0,jI 0,jI 0,jI 0,jI 0,jI 0,jI 0,jI 0,jI 0,jI 0,jI 0],InR g st147]) ?_ ?_
   ·clear hk148
    rcases jF h with⟨c149,h⟩ | ⟨c149,h⟩
    ·refine T.nn Z c149 (GC Z (Ir al fH 3 Z Z Z ?_))
     obtain⟨st161,h,hk162⟩:=JO h
     refine HJ (fun e Rs=>e = [(0,jP g),(2,jP b1),(3,jP b2)]∧Rs = [aT b53 236 #[.pointer (some ⟨b2,11,none⟩),jI 4],aT b4 236 (vA1 b2 b3),aT b3 3 #[jI x18],aT b2 159 #[jI x6,jI x10,jI x14,jI (Go.bits .and .i64 x22 4294967295),jI x26,jI x30,jI x34,jI x38,jI x42,jI x46,jI x50,jI x54],aT b1 159 #[jI 0,jI 0,jI 0,jI 0,jI 0,jI 0,jI 0,jI 0,jI 0,jI 0,jI 0,jI 0],InR g st161]) ?_ ?_
     ·clear hk162
      rcases jF h with⟨c163,h⟩ | ⟨c163,h⟩
      ·refine Ij Z c163 (T.region Z ?_)
       obtain⟨st164,hx165,h⟩:=JO h
       refine GB al 1 Z (IK Z .u (.fn Tryz.call70 Z) (bx g st58 4 _ hx165) sT Z ?_)
       cases h
       exact TL.nil (GP [0,0,0,0,0,0])
      refine Io Z c163 (GC Z (Ir al fH 3 Z Z Z ?_))
      obtain⟨st169,h,hk170⟩:=JO h
      refine HJ (fun e Rs=>e = [(0,jP g),(2,jP b1),(3,jP b2)]∧Rs = [aT b53 236 #[.pointer (some ⟨b2,11,none⟩),jI 4],aT b4 236 (vA1 b2 b3),aT b3 3 #[jI x18],aT b2 159 #[jI x6,jI x10,jI x14,jI (Go.bits .and .i64 x22 4294967295),jI x26,jI x30,jI x34,jI x38,jI x42,jI x46,jI x50,jI x54],aT b1 159 #[jI 0,jI 0,jI 0,jI 0,jI 0,jI 0,jI 0,jI 0,jI 0,jI 0,jI 0,jI 0],InR g st169]) ?_ ?_
      ·clear hk170
       rcases jF h with⟨c171,h⟩ | ⟨c171,h⟩
       ·refine Ij Z c171 (T.region Z ?_)
        obtain⟨st172,hx173,h⟩:=JO h
        refine GB al 1 Z (IK Z .u (.fn Tryz.call70 Z) (bx g st58 10 _ hx173) sT Z ?_)
        cases h
        exact TL.nil (GP [0,0,0,0,0,0])
       refine Io Z c171 ?_
       cases h
       exact T.skip (GP [0,0,0,0,0,0])
      rintro _ _ ⟨rfl,rfl⟩
      clear h
      have h:=hk170
      clear hk170
      try dsimp only at h
      cases h
      exact GP [0,0,0,0,0,0]
     rintro _ _ ⟨rfl,rfl⟩
     clear h
     have h:=hk162
     clear hk162
     try dsimp only at h
     cases h
     exact GP [0,0,0,0,0,0]
    refine T.yn Z c149 (T.region Z ?_)
    obtain⟨st174,hx175,h⟩:=JO h
    refine GB al 1 Z (IK Z .u (.fn Tryz.call70 Z) (bx g st58 6 _ hx175) sT Z ?_)
    cases h
    exact TL.nil (GP [0,0,0,0,0,0])
   rintro _ _ ⟨rfl,rfl⟩
   clear h
   have h:=hk148
   clear hk148
   try dsimp only at h
   cases h
   exact GP [0,0,0,0,0,0]
  refine T.yn Z c119 ?_
  cases h
  exact T.skip (GP [0,0,0,0,0,0])
 rintro _ _ ⟨rfl,rfl⟩
 clear h
 have h:=hk118
 clear hk118
 try dsimp only at h
 refine GX (X.seq (T.seq (GC Z ?_)))
 obtain⟨⟨x176,st177⟩,hx178,h⟩:=JO h
 try dsimp only at h
 refine GB al 1 Z (IK Z .u (.fn Tryz.call23 Z) (cc g st117 _ hx178) sT Z (GB al 1 Z ?_))
 rcases jF h with⟨c179,h⟩ | ⟨c179,h⟩
 ·refine He Z c179 (Hb Z (GE Z (GR (us := [jI x6,jI x10,jI x14,jI (Go.bits .and .i64 x22 4294967295),jI x26,jI x30,jI x34,jI x38,jI x42,jI x46,jI x50,jI x54]) 3 Z LX Lc Z Z Z) Z (IU (cs':= #[jI x6,jI x10,jI x14,jI (Go.bits .and .i64 x22 4294967295),jI x26,jI x30,jI x34,jI x38,jI x42,jI x46,jI x50,jI x54]) Z .u Z Z Lc Z Z Z Z ?_)))
  obtain rfl:=JP h
  exact GD (T.ret (G8 [5] Tryz.results133 (Hs (us:= #[jI x6,jI x10,jI x14,jI (Go.bits .and .i64 x22 4294967295),jI x26,jI x30,jI x34,jI x38,jI x42,jI x46,jI x50,jI x54]) 4 Z LX Lc Z Z) ⟨Z,Z,Z⟩ (by rfl) (.inl Z)))
 refine Hc Z c179 (GC Z ?_)
 refine GE Z (Hf (cells:= #[jI 0,jI 0,jI 0,jI 0,jI 0,jI 0,jI 0,jI 0,jI 0,jI 0,jI 0,jI 0]) uE Z (by kernel_rfl)) Z ?_
 refine IU (cs':= #[jI 0,jI 0,jI 0,jI 0,jI 0,jI 0,jI 0,jI 0,jI 0,jI 0,jI 0,jI 0]) Z .u Z Z Lc Z Z Z Z ?_
 obtain rfl:=JP h
 exact GD (T.ret (GH (GL [5] Tryz.results133 (Hs (us:= #[jI 0,jI 0,jI 0,jI 0,jI 0,jI 0,jI 0,jI 0,jI 0,jI 0,jI 0,jI 0]) 4 Z LX Lc Z Z))))
def C2:eP := [(245,0,0),(245,1,1)]
theorem bc:(C2).OK Tryz.prog:=⟨FOK.mk K9 rfl Kk rfl,FOK.mk K9 rfl J2 rfl,trivial⟩
def C3:List Nat := [9]
theorem xG:NOK Tryz.prog C3:=⟨Ks,trivial⟩
theorem uF:BOK Tryz.prog 245 #[.string ⟨#[]⟩,.bool false,.string ⟨#[]⟩] [(0,1),(1,2)]:=BOK.mk Tryz.zeroValue245 K9 (by intro w; simp)
theorem tI:SOK Tryz.prog 89 245 1 3 #[.string ⟨#[]⟩,.bool false,.string ⟨#[]⟩]:=SOK.mk Kv KU Tryz.zeroValue245 (by decide) (by kernel_rfl)
theorem uG:(Tryz.prog.info? 245).map (fun i=>(i.zero,i.size,i.bytes))=some (some (.agg #[.string ⟨#[]⟩,.bool false,.string ⟨#[]⟩]),3,40):=by kernel_rfl
def dl:List Hd→(List UInt8×Int)→Option (List UInt8×Int)
 | [],st6=>some st6
 | x11::xs,st6=>(mm st6 x11.Jr).bind fun st16=>(iG st16 x11.Jj).bind fun st18=>dl xs st18
def g8 (st:List UInt8×Int) (a1:List Hd):Option (List UInt8×Int):=(qo st (a1.length:Int)).bind fun st3=>(dl a1 st3).bind fun st21=>some st21
theorem pa (g:Nat) (st:List UInt8×Int) (a1:List Hd) (A1:Option Addr) (c2:Nat) (r:List UInt8×Int) (h:g8 st a1=some r):aE Tryz.prog 184 #[jP g,.slice A1 a1.length c2] (RX.of (ao 3 db) [.slice A1 a1.length c2] a1) (bm g st) (fun v A' N=>v= .tuple #[]∧A'=bm g r∧N = []):=by
 refine aU Tryz.func184 Z Tryz.ntmps184 Z ?_
 intro F w hX
 unfold g8 at h
 refine GC Z (GB bc 2 Z (GE Z (GQ Z Kv) Z ?_))
 obtain⟨st3,hx4,h⟩:=JO h
 refine Ht Z .u (.fn Tryz.call182 Z) (qp g st (a1.length:Int) _ hx4) sT Z (GV Z (GB bc 1 Z (GE Z (GQ Z Kv) Z (GK bc Z (T.block ?_)))))
 obtain⟨E7,hE8,hO9⟩:=JO h
 have hk13len:=Hq hX
 refine Hv (fun m e Rs=> ∃ (k5:Nat) (st6:List UInt8×Int),k5+m=a1.length∧e = [(0,jP g),(10,.slice A1 a1.length c2),(11,jI (a1.length:Int)),(12,jI (k5:Int))]∧Rs = [bm g st6]∧dl (a1.drop k5) st6=some E7) (a1.length) [0] ⟨0,st3,by simp,Z,Z,by rw[List.drop_zero]; exact hE8⟩ (by rfl) (by rfl) ?_
 clear hE8 h
 rintro m10 _ _ ⟨k5,st6,hk13,rfl,rfl,h⟩
 cases m10 with
 | zero =>
  rw[List.drop_of_length_le (by omega),dl] at h
  have hk13ge: ¬ ((k5:Int)<(a1.length:Int)):=by omega
  refine GC Z (GK bc Z (T.seq (G7 Z (JT hk13ge) ?_)))
  obtain rfl:=JP h
  obtain rfl:=JP hO9
  exact T.exit (GT (GT (Hu (H7 [0] Tryz.results184 ⟨Z,Z,Z⟩ (by rfl) (.inr Z)))))
 | succ m10 =>
  obtain⟨x11,hxx11⟩: ∃ x,a1[k5]? = some x:=⟨_,List.getElem?_eq_getElem (by omega)⟩
  rw[bz hxx11,dl] at h
  have hk13lt:(k5:Int)<(a1.length:Int):=by omega
  refine GC Z (GK bc Z (T.seq (GO Z (JS hk13lt) ?_)))
  obtain⟨gz14,oz14,rfl,z14cs,z14cl,z14cc,z14nf,z14r⟩:=Hg (by decide) hX hxx11
  obtain⟨z14S,z14r,z14rr⟩:=z14r
  obtain rfl:z14cs=(wL3 x11):=z14r
  refine GW (T.seq (T.block (GC Z ?_)))
  refine GE Z (GY (k:=k5) Z Z Z Kv KU (JV hxx11).1) Z ?_
  refine GE Z (HW (us:=wL3 x11) 0 Z Me KU z14nf z14cc Z Z Z) Z (TL.alloc Z .u Tryz.zeroValue245 Z (fun b15=>(GU (cs':=wA4 x11) Z .u Z Z KU Z Z Z Z (GV Z ?_))))
  obtain⟨st16,hx17,h⟩:=JO h
  refine GG bc xG 0 Z 3 Z Z (Hh Z .u (.fn Tryz.call132 Z) (pt g st6 x11.Jr _ hx17) sT Z (GD (T.region Z (GB bc 2 Z (GE Z (GR (us := [.bool x11.Jj.null,jS x11.Jj.data]) 0 Z Kt J2 Z Z Z) Z ?_)))))
  obtain⟨st18,hx19,h⟩:=JO h
  exact Hh Z .u (.fn Tryz.call183 Z) (kr g st16 x11.Jj _ hx19) sT Z (TL.nil (GX (X.seq (T.region Z (GE Z (Ex.add Z Z (by omega)) Z (GB bc 1 Z (TL.nil (X.back (m':=m10) [1] (by omega) ⟨k5+1,st18,by omega,Z,Z,h⟩ (by rfl) (by rfl)))))))))
def cZ (x1:Int):Nat→List Hd→List Hd→Nat→I→Option (Lp (List Hd×I) (List Hd×List Hd×Nat×I))
 | 0,_,_,_,_=>none
 | m29+1,y18,y21,k24,st25=>if (k24:Int)<x1 then ((ui st25).bind fun (x34,st35)=>(cG st35).bind fun (x37,st38)=>if (y21.length+1)*40≤140737488355328 then ((gJ st38).bind fun (x44,st45)=>if x44=0 then (if -9223372036854775808≤((k24:Int)+1)∧((k24:Int)+1)≤9223372036854775807 then (cZ x1 m29 y18 (y21 ++ [(⟨x34,x37⟩:Hd)]) (k24+1) st45) else none) else (some (Lp.ret ([],st45)))) else none) else (some (Lp.go (y18,y21,k24,st25)))
def bP (st:I)  : Option (List Hd×I):=(nl st).bind fun (x1,st2)=>(gJ st2).bind fun (x4,st5)=>if x4=0 then (if x1<0 then ((bU st5 4).bind fun st9=>some ([],st9)) else ((ud st5).bind fun (x11,st12)=>if 0≤x11∧x11≤9223372036854775807 then (if x1>(x11 / 2) then ((bU st12 1).bind fun st16=>some ([],st16)) else ((cZ x1 ((x1).toNat+1) [] [] 0 st12).bind fun e=>match e with | .ret r=>some r | .go (y49,y52,k55,st56)=>some (y52,st56))) else none)) else some ([],st5)
theorem gp (g:Nat) (st:I)  (r:List Hd×I) (h:bP st  = some r):aE Tryz.prog 129 #[jP g] .triv (InR g st) (fun v A' N=> ∃ (A57:Option Addr) (c58:Nat),v= .slice A57 r.1.length c58∧A'=InR g r.2∧N = [RdR (ao 3 db) [.slice A57 r.1.length c58] r.1]):=by
 refine aU Tryz.func129 Z Tryz.ntmps129 Z ?_
 intro F w hX
 unfold bP at h
 refine GC Z (G4 bc Z Z ?_)
 obtain⟨⟨x1,st2⟩,hx3,h⟩:=JO h
 try dsimp only at h
 refine GB bc 1 Z (Ht Z .u (.fn Tryz.call127 Z) (pH g st _ hx3) sT Z (GK bc Z (T.seq (T.block (GC Z ?_)))))
 obtain⟨⟨x4,st5⟩,hx6,h⟩:=JO h
 try dsimp only at h
 refine GB bc 1 Z (Ht Z .u (.fn Tryz.call23 Z) (cc g st2 _ hx6) sT Z (GB bc 2 Z ?_))
 rcases jF h with⟨c7,h⟩ | ⟨c7,h⟩
 ·refine He Z c7 (GC Z (GB bc 3 Z ?_))
  rcases jF h with⟨c8,h⟩ | ⟨c8,h⟩
  ·refine G9 Z c8 (GC Z ?_)
   obtain⟨st9,hx10,h⟩:=JO h
   refine GB bc 1 Z (Ht Z .u (.fn Tryz.call70 Z) (bx g st5 4 _ hx10) sT Z (GV Z (GB bc 1 Z ?_)))
   obtain rfl:=JP h
   exact GD (T.ret (GN (GH (G6 3 db (G8 [1,0] Ml (GF Z) ⟨_,_,Z,Z,Z⟩ (by rfl) (.inl Z))))))
  refine Ha Z c8 (GC Z ?_)
  obtain⟨⟨x11,st12⟩,hx13,h⟩:=JO h
  try dsimp only at h
  refine GB bc 2 Z (Ht Z .u (.fn Tryz.call71 Z) (mK g st5 _ hx13) sT Z ?_)
  obtain⟨c14,h⟩:=ay h
  refine GE Z (Ex.quo Z Z (by omega) c14) Z (GB bc 2 Z ?_)
  rcases jF h with⟨c15,h⟩ | ⟨c15,h⟩
  ·refine G9 Z c15 (GC Z ?_)
   obtain⟨st16,hx17,h⟩:=JO h
   refine GB bc 1 Z (Ht Z .u (.fn Tryz.call70 Z) (bx g st12 1 _ hx17) sT Z (GV Z (GB bc 1 Z ?_)))
   obtain rfl:=JP h
   exact GD (T.ret (GN (GH (G6 3 db (G8 [1,0] Ml (GF Z) ⟨_,_,Z,Z,Z⟩ (by rfl) (.inl Z))))))
  refine Ha Z c15 (T.skip (GX (X.seq (GC Z (GK bc Z (T.seq (GC Z (GK bc Z (T.block ?_)))))))))
  iterate 2 refine Ih 245 3 db ?_
  obtain⟨E26,hE27,hO28⟩:=JO h
  refine Hv (fun m e Rs=> ∃ (y18:List Hd) (A19:Option Addr) (c20:Nat) (y21:List Hd) (A22:Option Addr) (c23:Nat) (k24:Nat) (st25:I),e = [(0,jP g),(2,.slice A19 y18.length c20),(4,.slice A22 y21.length c23),(25,jI x1),(26,jI (k24:Int))]∧Rs = [cI 245 3 db (.slice A19 y18.length c20) y18,cI 245 3 db (.slice A22 y21.length c23) y21,InR g st25]∧cZ x1 m y18 y21 k24 st25=some E26) ((x1).toNat+1) [0,0,0] ⟨[],none,0,[],none,0,0,st12,Z,Z,by exact hE27⟩ (by rfl) (by rfl) ?_
  clear hE27 h
  rintro m29 _ _ ⟨y18,A19,c20,y21,A22,c23,k24,st25,rfl,rfl,h⟩
  cases m29 with
  | zero =>
   rw[cZ] at h
   cases h
  | succ m29 =>
   rw[cZ] at h
   refine GC Z (GB bc 1 Z ?_)
   rcases jF h with⟨c33,h⟩ | ⟨c33,h⟩
   ·refine GD (T.seq (Ij Z c33 (GW (T.seq (T.block (GC Z ?_))))))
    obtain⟨⟨x34,st35⟩,hx36,h⟩:=JO h
    try dsimp only at h
    refine GB bc 1 Z (HY Z .u (.fn Tryz.call125 Z) (uj g st25 _ hx36) sT Z (G4 bc Z Z ?_))
    obtain⟨⟨x37,st38⟩,hx39,h⟩:=JO h
    try dsimp only at h
    refine GB bc 3 Z (HY Z .u (.fn Tryz.call128 Z) (eR g st35 _ hx39) sT Z ?_)
    refine GE Z (Hf (cells:= #[jS x34,.bool x37.null,jS x37.data]) uF Z (by kernel_rfl)) Z ?_
    refine Ix (cells:= #[jS x34,.bool x37.null,jS x37.data]) Z .u tI Z (by kernel_rfl) Z (fun b40=> ?_)
    obtain⟨c41,h⟩:=ay h
    refine TL.app1 1 Z .u (us := [jS x34,.bool x37.null,jS x37.data]) (u:=(⟨x34,x37⟩:Hd)) (l:=y21) (E:=db) Tryz.underlying89 uG Z (by decide) Z Z Z Z Z Z (fun _ _=>Z) (by have hq:=c41; omega) (by have hq:=c41; omega) Z (fun A42 c43=> ?_)
    refine Hz [0,0,0] Z (G4 bc Z Z ?_)
    obtain⟨⟨x44,st45⟩,hx46,h⟩:=JO h
    try dsimp only at h
    refine GB bc 1 Z (HY Z .u (.fn Tryz.call23 Z) (cc g st38 _ hx46) sT Z (GB bc 1 Z ?_))
    rcases jF h with⟨c47,h⟩ | ⟨c47,h⟩
    ·refine He Z c47 ?_
     obtain⟨c48,h⟩:=ay h
     exact T.skip (GX (X.seq (T.region Z (GE Z (Ex.add Z Z c48) Z (GB bc 1 Z (TL.nil (X.back (m':=m29) [0,0,0] (by omega) ⟨y18,A19,c20,(y21 ++ [(⟨x34,x37⟩:Hd)]),A42,c43,k24+1,st45,Z,Z,h⟩ (by rfl) (by rfl))))))))
    refine Hc Z c47 (GC Z (GB bc 1 Z ?_))
    obtain rfl:=JP h
    obtain rfl:=JP hO28
    exact GD (T.ret (GN (GH (GH (GN (GH (G6 3 db (G8 [3,0] Ml (GF Z) ⟨_,_,Z,Z,Z⟩ (by rfl) (.inl Z)))))))))
   refine GD (T.seq (Io Z c33 ?_))
   obtain rfl:=JP h
   replace h:=hO28
   clear hO28
   try dsimp only at h
   refine T.exit (GT (GT (Hu (X.seq (GC Z (GB bc 2 Z ?_))))))
   obtain rfl:=JP h
   exact GD (T.ret (IZ (by decide) 1 Z (HK [0,0,0] Z (G8 [2,1] Ml (GF Z) ⟨_,_,Z,Z,Z⟩ (by rfl) (.inl Z)))))
 refine Hc Z c7 (GC Z (GB bc 1 Z ?_))
 obtain rfl:=JP h
 exact GD (T.ret (GN (GH (G6 3 db (G8 [1,0] Ml (GF Z) ⟨_,_,Z,Z,Z⟩ (by rfl) (.inl Z))))))
def C4:eP := [(91,0,0),(91,1,1),(91,2,2),(91,3,4),(91,4,6),(245,1,1)]
theorem av:(C4).OK Tryz.prog:=⟨FOK.mk Ke rfl JX rfl,FOK.mk Ke rfl JX rfl,FOK.mk Ke rfl J2 rfl,FOK.mk Ke rfl J2 rfl,FOK.mk Ke rfl LH rfl,FOK.mk K9 rfl J2 rfl,trivial⟩
def C5:List Nat := [3,89]
theorem eU:NOK Tryz.prog C5:=⟨JZ,MG,trivial⟩
theorem fO:BOK Tryz.prog 91 #[.int .i64 0,.int .i64 0,.bool false,.string ⟨#[]⟩,.bool false,.string ⟨#[]⟩,.slice none 0 0] [(0,1),(1,1),(2,2),(4,2),(6,1)]:=BOK.mk Tryz.zeroValue91 Ke (by intro w; simp)
theorem su:SOK Tryz.prog 313 23 1 2 #[.bool false,.string ⟨#[]⟩]:=SOK.mk Mb J2 Tryz.zeroValue23 (by decide) (by kernel_rfl)
theorem sv:SOK Tryz.prog 313 23 2 2 #[.bool false,.string ⟨#[]⟩,.bool false,.string ⟨#[]⟩]:=SOK.mk Mb J2 Tryz.zeroValue23 (by decide) (by kernel_rfl)
def dP:List Bl→Bool→Option (Lp Bool Bool)
 | [],y3=>some (Lp.go y3)
 | x9::xs,y3=>(nQ x9).bind fun x14=>if x14=true then (dP xs y3) else some (Lp.ret false)
def fw (a0:List Bl):Option (Bool):=(dP a0 false).bind fun e=>match e with | .ret r=>some r | .go y17=>some true
theorem kh (a0:List Bl) (A1:Option Addr) (c2:Nat) (r:Bool) (h:fw a0=some r):aE Tryz.prog 180 #[.slice A1 a0.length c2] (RX.of (ao 2 yz) [.slice A1 a0.length c2] a0) (aO) (fun v A' N=>v= .bool r∧A'=aO∧N = []):=by
 refine aU Tryz.func180 Z Tryz.ntmps180 Z ?_
 intro F w hX
 unfold fw at h
 refine GC Z (GK av Z (T.seq (GC Z (GB av 1 Z (GE Z (GQ Z Mb) Z (GK av Z (T.block ?_)))))))
 obtain⟨E5,hE6,hO7⟩:=JO h
 have hk11len:=Hq hX
 refine Hv (fun m e Rs=> ∃ (y3:Bool) (k4:Nat),k4+m=a0.length∧e = [(2,.bool y3),(5,.slice A1 a0.length c2),(6,jI (a0.length:Int)),(7,jI (k4:Int))]∧Rs = [aO]∧dP (a0.drop k4) y3=some E5) (a0.length) [0] ⟨false,0,by simp,Z,Z,by rw[List.drop_zero]; exact hE6⟩ (by rfl) (by rfl) ?_
 clear hE6 h
 rintro m8 _ _ ⟨y3,k4,hk11,rfl,rfl,h⟩
 cases m8 with
 | zero =>
  rw[List.drop_of_length_le (by omega),dP] at h
  have hk11ge: ¬ ((k4:Int)<(a0.length:Int)):=by omega
  refine GC Z (GK av Z (T.seq (G7 Z (JT hk11ge) ?_)))
  obtain rfl:=JP h
  replace h:=hO7
  clear hO7
  try dsimp only at h
  refine T.exit (GT (GT (Hu (X.seq (GC Z (GB av 1 Z ?_))))))
  obtain rfl:=JP h
  exact GD (T.ret (GL [0] Tryz.results180 (GF Z)))
 | succ m8 =>
  obtain⟨x9,hxx9⟩: ∃ x,a0[k4]? = some x:=⟨_,List.getElem?_eq_getElem (by omega)⟩
  rw[bz hxx9,dP] at h
  have hk11lt:(k4:Int)<(a0.length:Int):=by omega
  refine GC Z (GK av Z (T.seq (GO Z (JS hk11lt) ?_)))
  obtain⟨gz12,oz12,rfl,z12cs,z12cl,z12cc,z12nf,z12r⟩:=Hg (by decide) hX hxx9
  obtain⟨z12S,z12r,z12rr⟩:=z12r
  obtain rfl:z12cs = [.bool x9.null,jS x9.data]:=z12r
  refine GW (T.seq (T.block (GC Z ?_)))
  refine GE Z (GY (k:=k4) Z Z Z Mb J2 (JV hxx9).1) Z ?_
  refine GE Z (HW (us := [.bool x9.null,jS x9.data]) 0 Z Kt J2 z12nf z12cc Z Z Z) Z (TL.alloc Z .u Tryz.zeroValue23 Z (fun b13=>(GU (cs':= #[.bool x9.null,jS x9.data]) Z .u Z Z J2 Z Z Z Z (GV Z (GE Z (GR (us := [.bool x9.null,jS x9.data]) 0 Z Kt J2 Z Z Z) Z ?_)))))
  obtain⟨x14,hx15,h⟩:=JO h
  refine GZ Z .u (.fn Tryz.call148 Z) (lK x9 _ hx15) rT Z (GB av 1 Z ?_)
  rcases jF h with⟨c16,h⟩ | ⟨c16,h⟩
  ·exact GD (G7 Z (aZ c16) (T.skip (GX (X.seq (T.region Z (GE Z (Ex.add Z Z (by omega)) Z (GB av 1 Z (TL.nil (X.back (m':=m8) [1] (by omega) ⟨y3,k4+1,by omega,Z,Z,h⟩ (by rfl) (by rfl))))))))))
  replace c16:=JW c16
  refine GD (GO Z (bw c16) (GC Z (GB av 1 Z ?_)))
  obtain rfl:=JP h
  obtain rfl:=JP hO7
  exact GD (T.ret (GN (GH (GH (GN (GH (GL [1] Tryz.results180 (GF Z))))))))
def d7:List Hd→Int→Option (Lp Int Int)
 | [],y12=>some (Lp.go y12)
 | x18::xs,y12=>(fw [x18.Jj]).bind fun x24=>if x24=true then (d7 xs y12) else some (Lp.ret 4)
def fj (a0:Rec):Option (Int):=if a0.Jq<0 then some 11 else ((il a0.Jq 4).bind fun x5=>if x5=true then ((fw [a0.Jr,a0.Jj]).bind fun x9=>if x9=true then ((d7 a0.Jl 0).bind fun e=>match e with | .ret r=>some r | .go y27=>some 0) else some 4) else some 11)
theorem iu (a0:Rec) (A1:Option Addr) (c2:Nat) (r:Int) (h:fj a0=some r):aE Tryz.prog 130 #[.agg (wA2 a0 A1 c2)] (RX.of (ao 3 db) [.slice A1 a0.Jl.length c2] a0.Jl) (aO) (fun v A' N=>v=jI r∧A'=aO∧N = []):=by
 refine aU Tryz.func130 Z Tryz.ntmps130 Z ?_
 intro F w hX
 unfold fj at h
 refine GC Z (TL.box Z .u Z Z (fun b3=>(GK av Z (T.seq (GC Z ?_)))))
 rcases jF h with⟨c4,h⟩ | ⟨c4,h⟩
 ·refine GG av eU 0 Z 4 Z Z (GI 8 Z (JS c4) (Hk av Z (GO Z Z (GC Z (GB av 1 Z ?_)))))
  obtain rfl:=JP h
  exact GD (T.ret (GH (GL [1] Mm (GF Z))))
 refine GG av eU 0 Z 4 Z Z (GI 8 Z (JT c4) ?_)
 obtain⟨x5,hx6,h⟩:=JO h
 refine GG av eU 0 Z 2 Z Z (GZ Z (.g Z Z Z) (.fn Tryz.call101 Z) (Hy (fun w=>de a0.Jq 4 _ hx6 w)) (fun _ _=>Hi _ _) Z (GJ av 2 Z ?_))
 rcases jF h with⟨c7,h⟩ | ⟨c7,h⟩
 ·refine GD (G7 Z (aZ c7) (GW (T.seq (GC Z (GB av 1 Z (GE Z (GR (us := [.bool a0.Jr.null,jS a0.Jr.data]) 0 Z Kt J2 Z Z Z) Z (GB av 1 Z (GE Z (GR (us := [.bool a0.Jj.null,jS a0.Jj.data]) 0 Z Kt J2 Z Z Z) Z ?_))))))))
  refine Ix (cells:= #[.bool a0.Jr.null,jS a0.Jr.data,.bool a0.Jj.null,jS a0.Jj.data]) Z .u sv Z (by kernel_rfl) Z (fun b8=> ?_)
  refine TL.rowOf (us := [.bool a0.Jr.null,jS a0.Jr.data,.bool a0.Jj.null,jS a0.Jj.data]) (xs := [a0.Jr,a0.Jj]) (E:=yz) (z:=2) Z (Nat.le_of_ble_eq_true Z) (fun _=>⟨Z,Z,⟨Z,Z,Z⟩⟩) ?_
  obtain⟨x9,hx10,h⟩:=JO h
  refine GZ Z .u (.fn Tryz.call180 Z) (kh [a0.Jr,a0.Jj] _ _ _ hx10) (fun _ hs=>(SrcE.res 0 hs Z (fun w G h=>ed (by decide) w G h))) Z (GB av 1 Z ?_)
  rcases jF h with⟨c11,h⟩ | ⟨c11,h⟩
  ·refine GD (G7 Z (aZ c11) (GW (T.seq (GC Z (GG av eU 1 Z 2 Z Z (GE Z (GQ Z Kv) Z (GK av Z (T.block ?_))))))))
   obtain⟨E14,hE15,hO16⟩:=JO h
   have hk20len:=Hq hX
   refine Hv (fun m e Rs=> ∃ (y12:Int) (k13:Nat),k13+m=a0.Jl.length∧e = [(2,jI y12),(22,.slice A1 a0.Jl.length c2),(23,jI (a0.Jl.length:Int)),(24,jI (k13:Int))]∧Rs = [cI 23 2 yz (.slice (some ⟨b8,0,none⟩) 2 2) [a0.Jr,a0.Jj],aT b3 91 (wA2 a0 A1 c2),aO]∧d7 (a0.Jl.drop k13) y12=some E14) (a0.Jl.length) [0,0,0] ⟨0,0,by simp,Z,Z,by rw[List.drop_zero]; exact hE15⟩ (by rfl) (by rfl) ?_
   clear hE15 h
   rintro m17 _ _ ⟨y12,k13,hk20,rfl,rfl,h⟩
   cases m17 with
   | zero =>
    rw[List.drop_of_length_le (by omega),d7] at h
    have hk20ge: ¬ ((k13:Int)<(a0.Jl.length:Int)):=by omega
    refine GC Z (GK av Z (T.seq (G7 Z (JT hk20ge) ?_)))
    obtain rfl:=JP h
    replace h:=hO16
    clear hO16
    try dsimp only at h
    refine T.exit (GT (GT (Hu (X.seq (GC Z (GB av 1 Z ?_))))))
    obtain rfl:=JP h
    exact GD (T.ret (GL [2] Mm (GF Z)))
   | succ m17 =>
    obtain⟨x18,hxx18⟩: ∃ x,a0.Jl[k13]? = some x:=⟨_,List.getElem?_eq_getElem (by omega)⟩
    rw[bz hxx18,d7] at h
    have hk20lt:(k13:Int)<(a0.Jl.length:Int):=by omega
    refine GC Z (GK av Z (T.seq (GO Z (JS hk20lt) ?_)))
    obtain⟨gz21,oz21,rfl,z21cs,z21cl,z21cc,z21nf,z21r⟩:=Hg (by decide) hX hxx18
    obtain⟨z21S,z21r,z21rr⟩:=z21r
    obtain rfl:z21cs=(wL3 x18):=z21r
    refine GW (T.seq (T.block (GC Z ?_)))
    refine GE Z (GY (k:=k13) Z Z Z Kv KU (JV hxx18).1) Z ?_
    refine GE Z (HW (us:=wL3 x18) 0 Z Me KU z21nf z21cc Z Z Z) Z (TL.alloc Z .u Tryz.zeroValue245 Z (fun b22=>(GU (cs':=wA4 x18) Z .u Z Z KU Z Z Z Z (GV Z (GB av 1 Z (GE Z (GR (us := [.bool x18.Jj.null,jS x18.Jj.data]) 0 Z Kt J2 Z Z Z) Z (Ix (cells:= #[.bool x18.Jj.null,jS x18.Jj.data]) Z .u su Z (by rfl) Z (fun b23=>(TL.rowOf (us := [.bool x18.Jj.null,jS x18.Jj.data]) (xs := [x18.Jj]) (E:=yz) (z:=2) Z (Nat.le_of_ble_eq_true Z) (fun _=>⟨Z,Z,Z⟩) ?_)))))))))
    obtain⟨x24,hx25,h⟩:=JO h
    refine GZ Z .u (.fn Tryz.call180 Z) (kh [x18.Jj] _ _ _ hx25) (fun _ hs=>(SrcE.res 0 hs Z (fun w G h=>ed (by decide) w G h))) Z (GB av 1 Z ?_)
    rcases jF h with⟨c26,h⟩ | ⟨c26,h⟩
    ·exact GD (G7 Z (aZ c26) (T.skip (GX (X.seq (T.region Z (GE Z (Ex.add Z Z (by omega)) Z (GB av 1 Z (TL.nil (X.back (m':=m17) [2,2,2] (by omega) ⟨y12,k13+1,by omega,Z,Z,h⟩ (by rfl) (by rfl))))))))))
    replace c26:=JW c26
    refine GD (GO Z (bw c26) (GC Z (GB av 1 Z ?_)))
    obtain rfl:=JP h
    obtain rfl:=JP hO16
    exact GD (T.ret (GN (GH (GH (GN (GH (GL [4] Mm (GF Z))))))))
  replace c11:=JW c11
  refine GD (GO Z (bw c11) (GC Z (GB av 1 Z ?_)))
  obtain rfl:=JP h
  exact GD (T.ret (GH (GL [2] Mm (GF Z))))
 replace c7:=JW c7
 refine GD (GO Z (bw c7) (GC Z (GB av 1 Z ?_)))
 obtain rfl:=JP h
 exact GD (T.ret (GH (GL [1] Mm (GF Z))))
def iC (a0:Rec):Option (List UInt8×Int):=(rt ([],0) 0).bind fun st5=>(qn st5 a0.JA).bind fun st7=>(qo st7 a0.Jq).bind fun st9=>(iG st9 a0.Jr).bind fun st11=>(iG st11 a0.Jj).bind fun st13=>(g8 st13 a0.Jl).bind fun st15=>(ld st15).bind fun (x17,x18,st19)=>some (x17,x18)
theorem pQ (a0:Rec) (A1:Option Addr) (c2:Nat) (r:List UInt8×Int) (h:iC a0=some r):aE Tryz.prog 131 #[.agg (wA2 a0 A1 c2)] (RX.of (ao 3 db) [.slice A1 a0.Jl.length c2] a0.Jl) (aO) (fun v A' N=>v= .tuple #[jS r.1,jI r.2]∧A'=aO∧N = []):=by
 refine aU Tryz.func131 Z Tryz.ntmps131 Z ?_
 intro F w hX
 unfold iC at h
 refine GC Z (TL.box Z .u Z Z (fun b3=>(G4 av Z Z (IH Z .u Tryz.zeroValue112 Z (fun b4=> ?_)))))
 obtain⟨st5,hx6,h⟩:=JO h
 refine GV Z (Ht Z .u (.fn Tryz.call102 Z) (nO b4 ([],0) 0 _ hx6) sT Z (GV Z ?_))
 obtain⟨st7,hx8,h⟩:=JO h
 refine GG av eU 1 Z 2 Z Z (Ht Z .u (.fn Tryz.call181 Z) (vR b4 st5 a0.JA _ hx8) sT Z (GV Z ?_))
 obtain⟨st9,hx10,h⟩:=JO h
 refine GG av eU 1 Z 2 Z Z (Ht Z .u (.fn Tryz.call182 Z) (qp b4 st7 a0.Jq _ hx10) sT Z (GV Z (GB av 1 Z (GE Z (GR (us := [.bool a0.Jr.null,jS a0.Jr.data]) 1 Z Kt J2 Z Z Z) Z ?_))))
 obtain⟨st11,hx12,h⟩:=JO h
 refine Ht Z .u (.fn Tryz.call183 Z) (kr b4 st9 a0.Jr _ hx12) sT Z (GV Z (GB av 1 Z (GE Z (GR (us := [.bool a0.Jj.null,jS a0.Jj.data]) 1 Z Kt J2 Z Z Z) Z ?_)))
 obtain⟨st13,hx14,h⟩:=JO h
 refine Ht Z .u (.fn Tryz.call183 Z) (kr b4 st11 a0.Jj _ hx14) sT Z (GV Z ?_)
 obtain⟨st15,hx16,h⟩:=JO h
 refine GG av eU 1 Z 2 Z Z (Ht Z .u (.fn Tryz.call184 Z) (pa b4 st13 a0.Jl _ _ _ hx16) (fun _ hs=>(Iw hs hX)) Z ?_)
 obtain⟨⟨x17,x18,st19⟩,hx20,h⟩:=JO h
 try dsimp only at h
 refine GV Z (Ht Z .u (.fn Tryz.call50 Z) (gR b4 st15 _ hx20) sT Z (GB av 4 Z ?_))
 obtain rfl:=JP h
 exact GD (T.ret (Hl [2] Tryz.results131 (GF Z) (GF Z) ⟨Z,Z,Z⟩ (by rfl) (.inl Z)))
def g9 (st:List UInt8×Int) (a1:Rec):Option (List UInt8×Int):=(fj a1).bind fun x4=>if x4=0 then ((iC a1).bind fun (x7,x8)=>if x8=0 then ((mm st x7).bind fun st11=>some st11) else ((jH st x8).bind fun st13=>some st13)) else ((jH st x4).bind fun st15=>some st15)
theorem pb (g:Nat) (st:List UInt8×Int) (a1:Rec) (A1:Option Addr) (c2:Nat) (r:List UInt8×Int) (h:g9 st a1=some r):aE Tryz.prog 79 #[jP g,.agg (wA2 a1 A1 c2)] (RX.of (ao 3 db) [.slice A1 a1.Jl.length c2] a1.Jl) (bm g st) (fun v A' N=>v= .tuple #[]∧A'=bm g r∧N = []):=by
 refine aU Tryz.func79 Z Tryz.ntmps79 Z ?_
 intro F w hX
 unfold g9 at h
 refine GC Z (TL.box Z .u Z Z (fun b3=>(GD (T.seq (GC Z (GE Z (GR (us:=wL1 a1 A1 c2) 0 Z Ky J4 Z Z Z) Z ?_))))))
 obtain⟨x4,hx5,h⟩:=JO h
 refine GZ Z .u (.fn Tryz.call130 Z) (iu a1 _ _ _ hx5) (fun _ hs=>(GS hs hX)) Z (G4 av Z Z (GB av 2 Z ?_))
 rcases jF h with⟨c6,h⟩ | ⟨c6,h⟩
 ·refine He Z c6 (Hb Z (GE Z (GR (us:=wL1 a1 A1 c2) 0 Z Ky J4 Z Z Z) Z ?_))
  obtain⟨⟨x7,x8⟩,hx9,h⟩:=JO h
  try dsimp only at h
  refine GZ Z .u (.fn Tryz.call131 Z) (pQ a1 _ _ _ hx9) (fun _ hs=>(GS hs hX)) Z (GK av Z (T.seq (GC Z (GB av 2 Z ?_))))
  rcases jF h with⟨c10,h⟩ | ⟨c10,h⟩
  ·refine He Z c10 (GW (T.region Z ?_))
   obtain⟨st11,hx12,h⟩:=JO h
   refine GB av 2 Z (Hh Z .u (.fn Tryz.call132 Z) (pt g st x7 _ hx12) sT Z ?_)
   obtain rfl:=JP h
   exact TL.nil (H7 [1] Tryz.results79 ⟨Z,Z,Z⟩ (by rfl) (.inr Z))
  refine Hc Z c10 (GC Z ?_)
  obtain⟨st13,hx14,h⟩:=JO h
  refine GB av 2 Z (Hh Z .u (.fn Tryz.call94 Z) (ga g st x8 _ hx14) sT Z ?_)
  obtain rfl:=JP h
  exact GD (T.ret (GH (H7 [1] Tryz.results79 ⟨Z,Z,Z⟩ (by rfl) (.inl Z))))
 refine Hc Z c6 (GC Z ?_)
 obtain⟨st15,hx16,h⟩:=JO h
 refine GB av 2 Z (Hh Z .u (.fn Tryz.call94 Z) (ga g st x4 _ hx16) sT Z ?_)
 obtain rfl:=JP h
 exact GD (T.ret (GH (H7 [1] Tryz.results79 ⟨Z,Z,Z⟩ (by rfl) (.inl Z))))
def gH (st:I)  : Option (Rec×I):=(ui st).bind fun (x2,st3)=>(gJ st3).bind fun (x5,st6)=>if x5=0 then ((tn x2).bind fun st9=>(dL st9 1).bind fun (x12,st13)=>if x12=0 then ((le st13).bind fun (x16,st17)=>(nl st17).bind fun (x19,st20)=>if x19<0 then ((bU st20 11).bind fun st24=>(cG st24).bind fun (x26,st27)=>(cG st27).bind fun (x29,st30)=>(bP st30).bind fun (x32,st35)=>(dM st35).bind fun (x37,st38)=>if x37=0 then (some ((⟨x16,x19,x26,x29,x32⟩:Rec),st6)) else ((bU st6 x37).bind fun st41=>some ((⟨0,0,(⟨false,[]⟩:Bl),(⟨false,[]⟩:Bl),[]⟩:Rec),st41))) else ((cG st20).bind fun (x43,st44)=>(cG st44).bind fun (x46,st47)=>(bP st47).bind fun (x49,st52)=>(dM st52).bind fun (x54,st55)=>if x54=0 then (some ((⟨x16,x19,x43,x46,x49⟩:Rec),st6)) else ((bU st6 x54).bind fun st58=>some ((⟨0,0,(⟨false,[]⟩:Bl),(⟨false,[]⟩:Bl),[]⟩:Rec),st58)))) else ((bU st13 8).bind fun st60=>(le st60).bind fun (x62,st63)=>(nl st63).bind fun (x65,st66)=>if x65<0 then ((bU st66 11).bind fun st70=>(cG st70).bind fun (x72,st73)=>(cG st73).bind fun (x75,st76)=>(bP st76).bind fun (x78,st81)=>(dM st81).bind fun (x83,st84)=>if x83=0 then (some ((⟨x62,x65,x72,x75,x78⟩:Rec),st6)) else ((bU st6 x83).bind fun st87=>some ((⟨0,0,(⟨false,[]⟩:Bl),(⟨false,[]⟩:Bl),[]⟩:Rec),st87))) else ((cG st66).bind fun (x89,st90)=>(cG st90).bind fun (x92,st93)=>(bP st93).bind fun (x95,st98)=>(dM st98).bind fun (x100,st101)=>if x100=0 then (some ((⟨x62,x65,x89,x92,x95⟩:Rec),st6)) else ((bU st6 x100).bind fun st104=>some ((⟨0,0,(⟨false,[]⟩:Bl),(⟨false,[]⟩:Bl),[]⟩:Rec),st104))))) else (some ((⟨0,0,(⟨false,[]⟩:Bl),(⟨false,[]⟩:Bl),[]⟩:Rec),st6))
theorem pR (g:Nat) (st:I)  (r:Rec×I) (h:gH st  = some r):aE Tryz.prog 78 #[jP g] .triv (InR g st) (fun v A' N=> ∃ (A106:Option Addr) (c107:Nat),v= .agg #[jI r.1.JA,jI r.1.Jq,.bool r.1.Jr.null,jS r.1.Jr.data,.bool r.1.Jj.null,jS r.1.Jj.data,.slice A106 r.1.Jl.length c107]∧A'=InR g r.2∧N = [RdR (ao 3 db) [.slice A106 r.1.Jl.length c107] r.1.Jl]):=by
 refine aU Tryz.func78 Z Tryz.ntmps78 Z ?_
 intro F w hX
 unfold gH at h
 refine GC Z (TL.alloc Z .u Tryz.zeroValue91 Z (fun b1=>(GV Z ?_)))
 obtain⟨⟨x2,st3⟩,hx4,h⟩:=JO h
 try dsimp only at h
 refine GB av 1 Z (Hh Z .u (.fn Tryz.call125 Z) (uj g st _ hx4) sT Z (GK av Z (T.seq (GC Z ?_))))
 obtain⟨⟨x5,st6⟩,hx7,h⟩:=JO h
 try dsimp only at h
 refine GB av 1 Z (Hh Z .u (.fn Tryz.call23 Z) (cc g st3 _ hx7) sT Z (GB av 1 Z ?_))
 rcases jF h with⟨c8,h⟩ | ⟨c8,h⟩
 ·refine He Z c8 (Hb Z ?_)
  obtain⟨st9,hx10,h⟩:=JO h
  refine GB av 1 Z (It Z .u (.fn Tryz.call19 Z) (iL x2 _ hx10) rT Z ?_)
  rintro _ _ _ ⟨b11,rfl,rfl,rfl⟩
  refine Hz [0,0,0] Z (GK av Z (T.seq (GC Z ?_)))
  obtain⟨⟨x12,st13⟩,hx14,h⟩:=JO h
  try dsimp only at h
  refine GB av 1 Z (Ht Z .u (.fn Tryz.call68 Z) (bj b11 st9 1 _ hx14) sT Z (GB av 1 Z ?_))
  rcases jF h with⟨c15,h⟩ | ⟨c15,h⟩
  ·refine He Z c15 (Hb Z ?_)
   obtain⟨⟨x16,st17⟩,hx18,h⟩:=JO h
   try dsimp only at h
   refine GB av 1 Z (Ht Z .u (.fn Tryz.call126 Z) (sX b11 st13 _ hx18) sT Z ?_)
   obtain⟨⟨x19,st20⟩,hx21,h⟩:=JO h
   try dsimp only at h
   refine GB av 1 Z (Ht Z .u (.fn Tryz.call127 Z) (pH b11 st17 _ hx21) sT Z ?_)
   refine GE Z (Hf (cells:=vA2 x16 x19) fO Z (by kernel_rfl)) Z ?_
   refine TL.alloc Z .u Tryz.zeroValue91 Z (fun b22=>(GU (cs':=vA2 x16 x19) Z .u Z Z J4 Z Z Z Z (GD (T.seq (GC Z (GG av eU 0 Z 3 Z Z ?_))))))
   rcases jF h with⟨c23,h⟩ | ⟨c23,h⟩
   ·refine G9 Z c23 (T.region Z ?_)
    obtain⟨st24,hx25,h⟩:=JO h
    refine GB av 1 Z (Hh Z .u (.fn Tryz.call70 Z) (bx b11 st20 11 _ hx25) sT Z (GV Z ?_))
    obtain⟨⟨x26,st27⟩,hx28,h⟩:=JO h
    try dsimp only at h
    refine GB av 1 Z (Hh Z .u (.fn Tryz.call128 Z) (eR b11 st24 _ hx28) sT Z (GB av 1 Z (GU (cs':=vA3 x16 x19 x26) Z .u Z Z J2 Z Z Z Z (GV Z ?_))))
    obtain⟨⟨x29,st30⟩,hx31,h⟩:=JO h
    try dsimp only at h
    refine GB av 1 Z (Hh Z .u (.fn Tryz.call128 Z) (eR b11 st27 _ hx31) sT Z (GB av 1 Z (GU (cs':=vA4 x16 x19 x26 x29) Z .u Z Z J2 Z Z Z Z (GV Z ?_))))
    obtain⟨⟨x32,st35⟩,hx36,h⟩:=JO h
    try dsimp only at h
    refine GB av 1 Z (IQ Z .u (.fn Tryz.call129 Z) (gp b11 st30 _ hx36) sT Z ?_)
    rintro _ _ _ ⟨A33,c34,rfl,rfl,rfl⟩
    refine Hz [0,0,0,0,0] Z (GB av 1 Z (H5 (cs':=vA5 x16 x19 A33 c34 (x32).length x26 x29) Z .u Z Z LH Z Z Z Z (GD (T.seq (GC Z ?_)))))
    obtain⟨⟨x37,st38⟩,hx39,h⟩:=JO h
    try dsimp only at h
    refine GB av 1 Z (HY Z .u (.fn Tryz.call21 Z) (cL b11 st35 _ hx39) sT Z (G4 av Z Z (GB av 2 Z ?_)))
    rcases jF h with⟨c40,h⟩ | ⟨c40,h⟩
    ·refine He Z c40 (Hb Z (GE Z (GR (us:=vL6 x16 x19 A33 c34 (x32).length x26 x29) 1 Z Ky J4 Z Z Z) Z (Ig (cs':=vA5 x16 x19 A33 c34 (x32).length x26 x29) Z .u Z Z J4 Z Z Z Z ?_)))
     obtain rfl:=JP h
     exact GD (T.ret (G8 [4,0] LB (Hs (us:=vA5 x16 x19 A33 c34 (x32).length x26 x29) 3 Z Ky J4 Z Z) ⟨_,_,Z,Z,Z⟩ (by rfl) (.inl Z)))
    refine Hc Z c40 (GC Z ?_)
    obtain⟨st41,hx42,h⟩:=JO h
    refine GB av 2 Z (TL.c4 Z .u (.fn Tryz.call70 Z) (bx g st6 x37 _ hx42) sT Z (GV Z ?_))
    refine GE Z (Hf (cells:= #[jI 0,jI 0,.bool false,.string ⟨#[]⟩,.bool false,.string ⟨#[]⟩,.slice none 0 0]) fO Z (by kernel_rfl)) Z ?_
    refine Ig (cs':= #[jI 0,jI 0,.bool false,.string ⟨#[]⟩,.bool false,.string ⟨#[]⟩,.slice none 0 0]) Z .u Z Z J4 Z Z Z Z ?_
    obtain rfl:=JP h
    exact GD (T.ret (GH (G6 3 db (G8 [5,0] LB (Hs (us:= #[jI 0,jI 0,.bool false,.string ⟨#[]⟩,.bool false,.string ⟨#[]⟩,.slice none 0 0]) 4 Z Ky J4 Z Z) ⟨_,_,Z,Z,Z⟩ (by rfl) (.inl Z)))))
   refine Ha Z c23 (Hb Z ?_)
   obtain⟨⟨x43,st44⟩,hx45,h⟩:=JO h
   try dsimp only at h
   refine GB av 1 Z (Hh Z .u (.fn Tryz.call128 Z) (eR b11 st20 _ hx45) sT Z (GB av 1 Z (GU (cs':=vA3 x16 x19 x43) Z .u Z Z J2 Z Z Z Z (GV Z ?_))))
   obtain⟨⟨x46,st47⟩,hx48,h⟩:=JO h
   try dsimp only at h
   refine GB av 1 Z (Hh Z .u (.fn Tryz.call128 Z) (eR b11 st44 _ hx48) sT Z (GB av 1 Z (GU (cs':=vA4 x16 x19 x43 x46) Z .u Z Z J2 Z Z Z Z (GV Z ?_))))
   obtain⟨⟨x49,st52⟩,hx53,h⟩:=JO h
   try dsimp only at h
   refine GB av 1 Z (IQ Z .u (.fn Tryz.call129 Z) (gp b11 st47 _ hx53) sT Z ?_)
   rintro _ _ _ ⟨A50,c51,rfl,rfl,rfl⟩
   refine Hz [0,0,0,0,0] Z (GB av 1 Z (H5 (cs':=vA5 x16 x19 A50 c51 (x49).length x43 x46) Z .u Z Z LH Z Z Z Z (GD (T.seq (GC Z ?_)))))
   obtain⟨⟨x54,st55⟩,hx56,h⟩:=JO h
   try dsimp only at h
   refine GB av 1 Z (HY Z .u (.fn Tryz.call21 Z) (cL b11 st52 _ hx56) sT Z (G4 av Z Z (GB av 2 Z ?_)))
   rcases jF h with⟨c57,h⟩ | ⟨c57,h⟩
   ·refine He Z c57 (Hb Z (GE Z (GR (us:=vL6 x16 x19 A50 c51 (x49).length x43 x46) 1 Z Ky J4 Z Z Z) Z (Ig (cs':=vA5 x16 x19 A50 c51 (x49).length x43 x46) Z .u Z Z J4 Z Z Z Z ?_)))
    obtain rfl:=JP h
    exact GD (T.ret (G8 [4,0] LB (Hs (us:=vA5 x16 x19 A50 c51 (x49).length x43 x46) 3 Z Ky J4 Z Z) ⟨_,_,Z,Z,Z⟩ (by rfl) (.inl Z)))
   refine Hc Z c57 (GC Z ?_)
   obtain⟨st58,hx59,h⟩:=JO h
   refine GB av 2 Z (TL.c4 Z .u (.fn Tryz.call70 Z) (bx g st6 x54 _ hx59) sT Z (GV Z ?_))
   refine GE Z (Hf (cells:= #[jI 0,jI 0,.bool false,.string ⟨#[]⟩,.bool false,.string ⟨#[]⟩,.slice none 0 0]) fO Z (by kernel_rfl)) Z ?_
   refine Ig (cs':= #[jI 0,jI 0,.bool false,.string ⟨#[]⟩,.bool false,.string ⟨#[]⟩,.slice none 0 0]) Z .u Z Z J4 Z Z Z Z ?_
   obtain rfl:=JP h
   exact GD (T.ret (GH (G6 3 db (G8 [5,0] LB (Hs (us:= #[jI 0,jI 0,.bool false,.string ⟨#[]⟩,.bool false,.string ⟨#[]⟩,.slice none 0 0]) 4 Z Ky J4 Z Z) ⟨_,_,Z,Z,Z⟩ (by rfl) (.inl Z)))))
  refine Hc Z c15 (T.region Z ?_)
  obtain⟨st60,hx61,h⟩:=JO h
  refine GB av 1 Z (Ht Z .u (.fn Tryz.call70 Z) (bx b11 st13 8 _ hx61) sT Z (GV Z ?_))
  obtain⟨⟨x62,st63⟩,hx64,h⟩:=JO h
  try dsimp only at h
  refine GB av 1 Z (Ht Z .u (.fn Tryz.call126 Z) (sX b11 st60 _ hx64) sT Z ?_)
  obtain⟨⟨x65,st66⟩,hx67,h⟩:=JO h
  try dsimp only at h
  refine GB av 1 Z (Ht Z .u (.fn Tryz.call127 Z) (pH b11 st63 _ hx67) sT Z ?_)
  refine GE Z (Hf (cells:=vA2 x62 x65) fO Z (by kernel_rfl)) Z ?_
  refine TL.alloc Z .u Tryz.zeroValue91 Z (fun b68=>(GU (cs':=vA2 x62 x65) Z .u Z Z J4 Z Z Z Z (GD (T.seq (GC Z (GG av eU 0 Z 3 Z Z ?_))))))
  rcases jF h with⟨c69,h⟩ | ⟨c69,h⟩
  ·refine G9 Z c69 (T.region Z ?_)
   obtain⟨st70,hx71,h⟩:=JO h
   refine GB av 1 Z (Hh Z .u (.fn Tryz.call70 Z) (bx b11 st66 11 _ hx71) sT Z (GV Z ?_))
   obtain⟨⟨x72,st73⟩,hx74,h⟩:=JO h
   try dsimp only at h
   refine GB av 1 Z (Hh Z .u (.fn Tryz.call128 Z) (eR b11 st70 _ hx74) sT Z (GB av 1 Z (GU (cs':=vA3 x62 x65 x72) Z .u Z Z J2 Z Z Z Z (GV Z ?_))))
   obtain⟨⟨x75,st76⟩,hx77,h⟩:=JO h
   try dsimp only at h
   refine GB av 1 Z (Hh Z .u (.fn Tryz.call128 Z) (eR b11 st73 _ hx77) sT Z (GB av 1 Z (GU (cs':=vA4 x62 x65 x72 x75) Z .u Z Z J2 Z Z Z Z (GV Z ?_))))
   obtain⟨⟨x78,st81⟩,hx82,h⟩:=JO h
   try dsimp only at h
   refine GB av 1 Z (IQ Z .u (.fn Tryz.call129 Z) (gp b11 st76 _ hx82) sT Z ?_)
   rintro _ _ _ ⟨A79,c80,rfl,rfl,rfl⟩
   refine Hz [0,0,0,0,0] Z (GB av 1 Z (H5 (cs':=vA5 x62 x65 A79 c80 (x78).length x72 x75) Z .u Z Z LH Z Z Z Z (GD (T.seq (GC Z ?_)))))
   obtain⟨⟨x83,st84⟩,hx85,h⟩:=JO h
   try dsimp only at h
   refine GB av 1 Z (HY Z .u (.fn Tryz.call21 Z) (cL b11 st81 _ hx85) sT Z (G4 av Z Z (GB av 2 Z ?_)))
   rcases jF h with⟨c86,h⟩ | ⟨c86,h⟩
   ·refine He Z c86 (Hb Z (GE Z (GR (us:=vL6 x62 x65 A79 c80 (x78).length x72 x75) 1 Z Ky J4 Z Z Z) Z (Ig (cs':=vA5 x62 x65 A79 c80 (x78).length x72 x75) Z .u Z Z J4 Z Z Z Z ?_)))
    obtain rfl:=JP h
    exact GD (T.ret (G8 [4,0] LB (Hs (us:=vA5 x62 x65 A79 c80 (x78).length x72 x75) 3 Z Ky J4 Z Z) ⟨_,_,Z,Z,Z⟩ (by rfl) (.inl Z)))
   refine Hc Z c86 (GC Z ?_)
   obtain⟨st87,hx88,h⟩:=JO h
   refine GB av 2 Z (TL.c4 Z .u (.fn Tryz.call70 Z) (bx g st6 x83 _ hx88) sT Z (GV Z ?_))
   refine GE Z (Hf (cells:= #[jI 0,jI 0,.bool false,.string ⟨#[]⟩,.bool false,.string ⟨#[]⟩,.slice none 0 0]) fO Z (by kernel_rfl)) Z ?_
   refine Ig (cs':= #[jI 0,jI 0,.bool false,.string ⟨#[]⟩,.bool false,.string ⟨#[]⟩,.slice none 0 0]) Z .u Z Z J4 Z Z Z Z ?_
   obtain rfl:=JP h
   exact GD (T.ret (GH (G6 3 db (G8 [5,0] LB (Hs (us:= #[jI 0,jI 0,.bool false,.string ⟨#[]⟩,.bool false,.string ⟨#[]⟩,.slice none 0 0]) 4 Z Ky J4 Z Z) ⟨_,_,Z,Z,Z⟩ (by rfl) (.inl Z)))))
  refine Ha Z c69 (Hb Z ?_)
  obtain⟨⟨x89,st90⟩,hx91,h⟩:=JO h
  try dsimp only at h
  refine GB av 1 Z (Hh Z .u (.fn Tryz.call128 Z) (eR b11 st66 _ hx91) sT Z (GB av 1 Z (GU (cs':=vA3 x62 x65 x89) Z .u Z Z J2 Z Z Z Z (GV Z ?_))))
  obtain⟨⟨x92,st93⟩,hx94,h⟩:=JO h
  try dsimp only at h
  refine GB av 1 Z (Hh Z .u (.fn Tryz.call128 Z) (eR b11 st90 _ hx94) sT Z (GB av 1 Z (GU (cs':=vA4 x62 x65 x89 x92) Z .u Z Z J2 Z Z Z Z (GV Z ?_))))
  obtain⟨⟨x95,st98⟩,hx99,h⟩:=JO h
  try dsimp only at h
  refine GB av 1 Z (IQ Z .u (.fn Tryz.call129 Z) (gp b11 st93 _ hx99) sT Z ?_)
  rintro _ _ _ ⟨A96,c97,rfl,rfl,rfl⟩
  refine Hz [0,0,0,0,0] Z (GB av 1 Z (H5 (cs':=vA5 x62 x65 A96 c97 (x95).length x89 x92) Z .u Z Z LH Z Z Z Z (GD (T.seq (GC Z ?_)))))
  obtain⟨⟨x100,st101⟩,hx102,h⟩:=JO h
  try dsimp only at h
  refine GB av 1 Z (HY Z .u (.fn Tryz.call21 Z) (cL b11 st98 _ hx102) sT Z (G4 av Z Z (GB av 2 Z ?_)))
  rcases jF h with⟨c103,h⟩ | ⟨c103,h⟩
  ·refine He Z c103 (Hb Z (GE Z (GR (us:=vL6 x62 x65 A96 c97 (x95).length x89 x92) 1 Z Ky J4 Z Z Z) Z (Ig (cs':=vA5 x62 x65 A96 c97 (x95).length x89 x92) Z .u Z Z J4 Z Z Z Z ?_)))
   obtain rfl:=JP h
   exact GD (T.ret (G8 [4,0] LB (Hs (us:=vA5 x62 x65 A96 c97 (x95).length x89 x92) 3 Z Ky J4 Z Z) ⟨_,_,Z,Z,Z⟩ (by rfl) (.inl Z)))
  refine Hc Z c103 (GC Z ?_)
  obtain⟨st104,hx105,h⟩:=JO h
  refine GB av 2 Z (TL.c4 Z .u (.fn Tryz.call70 Z) (bx g st6 x100 _ hx105) sT Z (GV Z ?_))
  refine GE Z (Hf (cells:= #[jI 0,jI 0,.bool false,.string ⟨#[]⟩,.bool false,.string ⟨#[]⟩,.slice none 0 0]) fO Z (by kernel_rfl)) Z ?_
  refine Ig (cs':= #[jI 0,jI 0,.bool false,.string ⟨#[]⟩,.bool false,.string ⟨#[]⟩,.slice none 0 0]) Z .u Z Z J4 Z Z Z Z ?_
  obtain rfl:=JP h
  exact GD (T.ret (GH (G6 3 db (G8 [5,0] LB (Hs (us:= #[jI 0,jI 0,.bool false,.string ⟨#[]⟩,.bool false,.string ⟨#[]⟩,.slice none 0 0]) 4 Z Ky J4 Z Z) ⟨_,_,Z,Z,Z⟩ (by rfl) (.inl Z)))))
 refine Hc Z c8 (GC Z ?_)
 refine GE Z (Hf (cells:= #[jI 0,jI 0,.bool false,.string ⟨#[]⟩,.bool false,.string ⟨#[]⟩,.slice none 0 0]) fO Z (by kernel_rfl)) Z ?_
 refine GU (cs':= #[jI 0,jI 0,.bool false,.string ⟨#[]⟩,.bool false,.string ⟨#[]⟩,.slice none 0 0]) Z .u Z Z J4 Z Z Z Z ?_
 obtain rfl:=JP h
 exact GD (T.ret (GH (G6 3 db (G8 [2,0] LB (Hs (us:= #[jI 0,jI 0,.bool false,.string ⟨#[]⟩,.bool false,.string ⟨#[]⟩,.slice none 0 0]) 1 Z Ky J4 Z Z) ⟨_,_,Z,Z,Z⟩ (by rfl) (.inl Z)))))
end Go.Proofs.YtheikonlgjdopaaGreat.Sl
