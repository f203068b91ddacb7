/- frameRows_holds: part 4. -/
import Derived.Test.YtheikonlgjdopaaGreatK3
set_option maxRecDepth 100000
set_option maxHeartbeats 4000000
set_option linter.defProp false
namespace Go.Proofs.YtheikonlgjdopaaGreat.Sl
open Go.RowKit
set_option linter.unusedVariables false
set_option linter.unusedSimpArgs false
def KB := @Tryz.results90
def KP := @Tryz.runUnderlying32
def KW := @Tryz.runUnderlying30
def K2 := @Tryz.sizeOf32
def K8 := @Tryz.runUnderlying27
def La := @Tryz.runUnderlying103
def Lf := @Tryz.runUnderlying53
def Lg := @Tryz.sizeOf27
def Lh := @Tryz.sizeOf30
def Ls := @Tryz.runUnderlying78
def Lu := @Tryz.results168
def LK := @Tryz.eqGuardType45
def LL := @Tryz.isAgg32
def LP := @Tryz.runUnderlying195
def Mt := @Tryz.isAgg27
def Mu := @Tryz.isAgg30
def MA := @Tryz.sizeOf45
def MK := @Tryz.results106
def ML := @Tryz.results189
def MM := @Tryz.results146
def MU := @Tryz.results13
def sg:eP := [(195,0,0),(195,1,1),(195,2,2),(195,3,3),(195,4,4)]
theorem aj:(sg).OK Tryz.prog:=⟨FOK.mk LP rfl JX rfl,FOK.mk LP rfl JX rfl,FOK.mk LP rfl Kr rfl,FOK.mk LP rfl LG rfl,FOK.mk LP rfl JX rfl,trivial⟩
def si:List Nat := [3,28]
theorem bC:NOK Tryz.prog si:=⟨JZ,Lm,trivial⟩
theorem qD:Tryz.prog.follows .mixedOrders=true:=by kernel_rfl
def my (a0:dG) (a1:Int):Option (Int):=(if a0.I6<0 then some true else (if a0.I8<0 then some true else (if a0.I8>32767 then some true else (if a0.Ji<0 then some true else (if a0.Ji>2147483647 then some true else (if a1=0 then (if a0.Ji=0 then some false else some true) else some false)))))).bind fun y10=>if y10=true then some 11 else (if (a0.I5.length:Int)=0 then some 10 else ((gi a0.I5).bind fun x21=>if x21=true then some 0 else some 13))
theorem uy (a0:dG) (A1:Option Addr) (c2:Nat) (a1:Int) (r:Int) (h:my a0 a1=some r):aE Tryz.prog 106 #[.agg #[jI a0.I6,jI a0.I8,.bool a0.Js,.slice A1 a0.I5.length c2,jI a0.Ji],jI a1] (RX.of (ao 2 ba) [.slice A1 a0.I5.length c2] a0.I5) (aO) (fun v A' N=>v=jI r∧A'=aO∧N = []):=by
 refine aU Tryz.func106 Z Tryz.ntmps106 Z ?_
 intro F w hX
 unfold my at h
 refine GC Z (TL.box Z .u Z Z (fun b3=>(GK aj Z (In ?_))))
 obtain⟨y10,h,hk11⟩:=JO h
 refine HJ (fun e Rs=>e = [(2,jP b3),(4,jI 0),(36,.bool y10)]∧Rs = [aT b3 195 #[jI a0.I6,jI a0.I8,.bool a0.Js,.slice A1 a0.I5.length c2,jI a0.Ji],aO]) ?_ ?_
 ·clear hk11
  refine T.region Z ?_
  rcases jF h with⟨c12,h⟩ | ⟨c12,h⟩
  ·refine GG aj bC 0 Z 4 Z Z (GI 8 Z (JS c12) (GJ aj 28 Z ?_))
   cases h
   exact TL.nil (GP [0,0])
  refine GG aj bC 0 Z 4 Z Z (GI 8 Z (JT c12) ?_)
  rcases jF h with⟨c13,h⟩ | ⟨c13,h⟩
  ·refine GG aj bC 0 Z 5 Z Z (GI 13 Z (JS c13) (GJ aj 23 Z ?_))
   cases h
   exact TL.nil (GP [0,0])
  refine GG aj bC 0 Z 5 Z Z (GI 13 Z (JT c13) ?_)
  rcases jF h with⟨c14,h⟩ | ⟨c14,h⟩
  ·refine GG aj bC 0 Z 5 Z Z (GI 18 Z (JS c14) (GJ aj 18 Z ?_))
   cases h
   exact TL.nil (GP [0,0])
  refine GG aj bC 0 Z 5 Z Z (GI 18 Z (JT c14) ?_)
  rcases jF h with⟨c15,h⟩ | ⟨c15,h⟩
  ·refine GG aj bC 0 Z 5 Z Z (GI 23 Z (JS c15) (GJ aj 13 Z ?_))
   cases h
   exact TL.nil (GP [0,0])
  refine GG aj bC 0 Z 5 Z Z (GI 23 Z (JT c15) ?_)
  rcases jF h with⟨c16,h⟩ | ⟨c16,h⟩
  ·refine GG aj bC 0 Z 5 Z Z (GI 28 Z (JS c16) (GJ aj 8 Z ?_))
   cases h
   exact TL.nil (GP [0,0])
  refine GG aj bC 0 Z 5 Z Z (GI 28 Z (JT c16) ?_)
  rcases jF h with⟨c17,h⟩ | ⟨c17,h⟩
  ·refine GJ aj 3 Z (GI 31 Z (JS c17) (GG aj bC 0 Z 5 Z Z ?_))
   rcases jF h with⟨c18,h⟩ | ⟨c18,h⟩
   ·cases h
    exact TL.nil (Hx (d:=36) (v':= .bool false) Z (congrArg Value.bool (aZ (JS c18))) (GP [0,0]))
   cases h
   exact TL.nil (Hx (d:=36) (v':= .bool true) Z (congrArg Value.bool (bw (JT c18))) (GP [0,0]))
  refine GJ aj 3 Z (GI 31 Z (JT c17) (GJ aj 5 Z ?_))
  cases h
  exact TL.nil (GP [0,0])
 rintro _ _ ⟨rfl,rfl⟩
 clear h
 have h:=hk11
 clear hk11
 try dsimp only at h
 rcases jF h with⟨c19,h⟩ | ⟨c19,h⟩
 ·refine X.seq (GO Z c19 (GC Z (GB aj 1 Z ?_)))
  obtain rfl:=JP h
  exact GD (T.ret (GH (GL [1] MK (GF Z))))
 replace c19:=JW c19
 refine X.seq (G7 Z c19 (GW (T.seq (GC Z (GG aj bC 0 Z 2 Z Z (GE Z (GQ Z J8) Z (GB aj 1 Z ?_)))))))
 rcases jF h with⟨c20,h⟩ | ⟨c20,h⟩
 ·refine G9 Z c20 (GC Z (GB aj 1 Z ?_))
  obtain rfl:=JP h
  exact GD (T.ret (GH (GL [1] MK (GF Z))))
 refine Ha Z c20 (GW (T.seq (GC Z ?_)))
 obtain⟨x21,hx22,h⟩:=JO h
 refine GG aj bC 0 Z 2 Z Z (GZ Z .u (.fn Tryz.call109 Z) (ku a0.I5 _ _ _ hx22) (fun _ hs=>(GS hs hX)) Z (GB aj 1 Z ?_))
 rcases jF h with⟨c23,h⟩ | ⟨c23,h⟩
 ·refine GD (G7 Z (aZ c23) (Hb Z (GB aj 1 Z ?_)))
  obtain rfl:=JP h
  exact GD (T.ret (GL [1] MK (GF Z)))
 replace c23:=JW c23
 refine GD (GO Z (bw c23) (GC Z (GB aj 1 Z ?_)))
 obtain rfl:=JP h
 exact GD (T.ret (GH (GL [1] MK (GF Z))))
def eF (a0:List dG) (a1:Int):Nat→Int→Nat→Option (Lp Int (Int×Nat))
 | 0,_,_=>none
 | m9+1,y4,k5=>if (k5:Int)<(a0.length:Int) then ((a0[k5]?).bind fun x14=>(my x14 a1).bind fun x20=>if x20=0 then (if -9223372036854775808≤((k5:Int)+1)∧((k5:Int)+1)≤9223372036854775807 then (eF a0 a1 m9 y4 (k5+1)) else none) else some (Lp.ret x20)) else (some (Lp.go (y4,k5)))
def iU (a0:List dG) (a1:Int):Option (Int):=if (a0.length:Int)=0 then some 10 else ((eF a0 a1 (((a0.length:Int)).toNat+1) 0 0).bind fun e=>match e with | .ret r=>some r | .go (y24,k25)=>some 0)
theorem sj (a0:List dG) (A1:Option Addr) (c2:Nat) (a1:Int) (r:Int) (h:iU a0 a1=some r):aE Tryz.prog 55 #[.slice A1 a0.length c2,jI a1] (RX.of (ao 5 dg) [.slice A1 a0.length c2] a0) (aO) (fun v A' N=>v=jI r∧A'=aO∧N = []):=by
 refine aU Tryz.func55 Z Tryz.ntmps55 Z ?_
 intro F w hX
 unfold iU at h
 refine GC Z (GK aj Z (T.seq (GC Z (GB aj 1 Z (GE Z (GQ Z Kq) Z (GB aj 1 Z ?_))))))
 rcases jF h with⟨c3,h⟩ | ⟨c3,h⟩
 ·refine G9 Z c3 (GC Z (GB aj 1 Z ?_))
  obtain rfl:=JP h
  exact GD (T.ret (GH (GL [0] Tryz.results55 (GF Z))))
 refine Ha Z c3 (GW (T.seq (GC Z (GK aj Z (T.block ?_)))))
 obtain⟨E6,hE7,hO8⟩:=JO h
 refine Hv (fun m e Rs=> ∃ (y4:Int) (k5:Nat),e = [(0,.slice A1 a0.length c2),(1,jI a1),(4,jI y4),(5,jI (k5:Int))]∧Rs = [aO]∧eF a0 a1 m y4 k5=some E6) (((a0.length:Int)).toNat+1) [0] ⟨0,0,Z,Z,by exact hE7⟩ (by rfl) (by rfl) ?_
 clear hE7 h
 rintro m9 _ _ ⟨y4,k5,rfl,rfl,h⟩
 cases m9 with
 | zero =>
  rw[eF] at h
  cases h
 | succ m9 =>
  rw[eF] at h
  refine T.seq (GC Z (GB aj 2 Z (GE Z (GQ Z Kq) Z (GB aj 1 Z ?_))))
  rcases jF h with⟨c13,h⟩ | ⟨c13,h⟩
  ·refine G9 Z c13 (GW (T.seq (T.block (GC Z ?_))))
   obtain⟨x14,hx15,h⟩:=JO h
   obtain⟨gz16,oz16,rfl,z16cs,z16cl,z16cc,z16nf,z16r⟩:=Hg (by decide) hX hx15
   obtain⟨z16S,z16r,z16rr⟩:=z16r
   obtain⟨A17,c18,rfl,z16s0⟩:=z16r
   have hX19:(RX.of (ao 2 ba) [.slice A17 x14.I5.length c18] x14.I5).reads w F:=⟨z16S,z16s0,z16rr⟩
   refine GB aj 2 Z ?_
   refine GE Z (GY (k:=k5) Z Z Z Kq KR (JV hx15).1) Z ?_
   refine GE Z (HW (us := [jI x14.I6,jI x14.I8,.bool x14.Js,.slice A17 x14.I5.length c18,jI x14.Ji]) 0 Z Tryz.isAgg195 KR z16nf z16cc Z Z Z) Z ?_
   obtain⟨x20,hx21,h⟩:=JO h
   refine GB aj 1 Z (GZ Z .u (.fn Tryz.call106 Z) (uy x14 _ _ a1 _ hx21) (fun _ hs=>(GS hs hX19)) Z (G4 aj Z Z (GB aj 2 Z ?_)))
   rcases jF h with⟨c22,h⟩ | ⟨c22,h⟩
   ·refine He Z c22 (T.skip (GX (X.seq (T.region Z ?_))))
    obtain⟨c23,h⟩:=ay h
    exact GB aj 1 Z (GE Z (Ex.add Z Z c23) Z (GB aj 1 Z (TL.nil (X.back (m':=m9) [0] (by omega) ⟨y4,k5+1,Z,Z,h⟩ (by rfl) (by rfl)))))
   refine Hc Z c22 (GC Z (GB aj 2 Z ?_))
   obtain rfl:=JP h
   obtain rfl:=JP hO8
   exact GD (T.ret (GN (GH (GH (GN (GH (GL [0] Tryz.results55 (GF Z))))))))
  refine Ha Z c13 ?_
  obtain rfl:=JP h
  replace h:=hO8
  clear hO8
  try dsimp only at h
  refine T.exit (GT (GT (Hu (X.seq (GC Z (GB aj 1 Z ?_))))))
  obtain rfl:=JP h
  exact GD (T.ret (GL [0] Tryz.results55 (GF Z)))
def e9 (a0:List dG) (a1:List dG):Nat→Bool→Nat→Option (Lp Bool (Bool×Nat))
 | 0,_,_=>none
 | m11+1,y6,k7=>if (k7:Int)<(a0.length:Int) then (((a0[k7]?).bind fun x41=>(a1[k7]?).bind fun x47=>if x41.I6=x47.I6 then (if x41.I8=x47.I8 then (if x41.Js=true then (if x47.Js=true then (if x41.Ji=x47.Ji then ((cJ x41.I5 x47.I5).bind fun x58=>if x58=true then some false else some true) else some true) else some true) else (if x47.Js=true then some true else (if x41.Ji=x47.Ji then ((cJ x41.I5 x47.I5).bind fun x63=>if x63=true then some false else some true) else some true))) else some true) else some true).bind fun y39=>if y39=true then some (Lp.ret false) else (if -9223372036854775808≤((k7:Int)+1)∧((k7:Int)+1)≤9223372036854775807 then (e9 a0 a1 m11 y6 (k7+1)) else none)) else (some (Lp.go (y6,k7)))
def iH (a0:List dG) (a1:List dG):Option (Bool):=if (a0.length:Int)=(a1.length:Int) then ((e9 a0 a1 (((a0.length:Int)).toNat+1) false 0).bind fun e=>match e with | .ret r=>some r | .go (y68,k69)=>some true) else some false
theorem tG (a0:List dG) (A1:Option Addr) (c2:Nat) (a1:List dG) (A3:Option Addr) (c4:Nat) (r:Bool) (h:iH a0 a1=some r):aE Tryz.prog 65 #[.slice A1 a0.length c2,.slice A3 a1.length c4] (RX.and (RX.of (ao 5 dg) [.slice A1 a0.length c2] a0) (RX.of (ao 5 dg) [.slice A3 a1.length c4] a1)) (aO) (fun v A' N=>v= .bool r∧A'=aO∧N = []):=by
 refine aU Tryz.func65 Z Tryz.ntmps65 Z ?_
 intro F w hX
 unfold iH at h
 refine GC Z (GK aj Z (T.seq (GC Z (GB aj 1 Z (GE Z (GQ Z Kq) Z (GB aj 1 Z (GE Z (GQ Z Kq) Z (GB aj 1 Z ?_))))))))
 rcases jF h with⟨c5,h⟩ | ⟨c5,h⟩
 ·refine He Z c5 (GW (T.seq (GC Z (GK aj Z (T.block ?_)))))
  obtain⟨E8,hE9,hO10⟩:=JO h
  refine Hv (fun m e Rs=> ∃ (y6:Bool) (k7:Nat),e = [(0,.slice A1 a0.length c2),(1,.slice A3 a1.length c4),(4,.bool y6),(5,jI (k7:Int))]∧Rs = [aO]∧e9 a0 a1 m y6 k7=some E8) (((a0.length:Int)).toNat+1) [0] ⟨false,0,Z,Z,by exact hE9⟩ (by rfl) (by rfl) ?_
  clear hE9 h
  rintro m11 _ _ ⟨y6,k7,rfl,rfl,h⟩
  cases m11 with
  | zero =>
   rw[e9] at h
   cases h
  | succ m11 =>
   rw[e9] at h
   refine T.seq (GC Z (GB aj 2 Z (GE Z (GQ Z Kq) Z (GB aj 1 Z ?_))))
   rcases jF h with⟨c15,h⟩ | ⟨c15,h⟩
   ·refine G9 Z c15 (GW (T.seq (T.block (T.seq ?_))))
    obtain⟨y39,h,hk40⟩:=JO h
    refine HJ (fun e Rs=>e = [(0,.slice A1 a0.length c2),(1,.slice A3 a1.length c4),(4,.bool y6),(5,jI (k7:Int)),(80,.bool y39)]∧Rs = [aO]) ?_ ?_
    ·clear hk40
     refine Hp (.q 0 (.q 1 (.q 2 (.q 3 (.q 4 (.q 5 (.q 6 (.q 7 (.q 8 (.q 9 (.q 10 (.q 11 (.q 12 (.q 13 (.q 14 (.q 15 (.q 16 (.q 17 (.q 18 (.q 19 (.q 20 (.q 21 (.q 22 (.q 23 (.q 24 (.q 25 (.q 26 (.q 27 (.q 28 (.q 29 (.q 30 (.q 31 (.q 32 (.q 33 (.q 34 (.q 35 (.q 36 (.q 37 (.q 38 (.q 39 (.q 40 (.q 41 (.q 42 (.q 43 (.q 44 (.q 45 (.q 46 (.q 47 (.q 48 (.q 49 (.q 50 (.q 51 (.q 52 (.q 53 (.q 54 (.q 55 (.q 56 (.q 57 (.q 58 (.q 59 (.q 60 (.e 61 (.q 62 (.q 63 .nil)))))))))))))))))))))))))))))))))))))))))))))))))))))))))))))))) [0] Z qD (NoP.seq (NoP.seq (NoP.blk (NoP.seq (NoP.seq (NoP.blk (NoP.seq bA))))))) (by kernel_rfl) ?_
     obtain⟨x41,hx42,h⟩:=JO h
     obtain⟨gz43,oz43,rfl,z43cs,z43cl,z43cc,z43nf,z43r⟩:=Hg (by decide) (Ho hX) hx42
     obtain⟨z43S,z43r,z43rr⟩:=z43r
     obtain⟨A44,c45,rfl,z43s0⟩:=z43r
     have hX46:(RX.of (ao 2 ba) [.slice A44 x41.I5.length c45] x41.I5).reads w F:=⟨z43S,z43s0,z43rr⟩
     refine TD.run aj [0,1] Z Z ?_
     refine GM Z (GY (k:=k7) Z Z Z Kq KR (JV hx42).1) Z ?_
     refine TD.run aj [3] Z Z (GM Z (Hr 0 Z JZ z43nf z43cc Z Z) Z ?_)
     obtain⟨x47,hx48,h⟩:=JO h
     obtain⟨gz49,oz49,rfl,z49cs,z49cl,z49cc,z49nf,z49r⟩:=Hg (by decide) (G3 hX) hx48
     obtain⟨z49S,z49r,z49rr⟩:=z49r
     obtain⟨A50,c51,rfl,z49s0⟩:=z49r
     have hX52:(RX.of (ao 2 ba) [.slice A50 x47.I5.length c51] x47.I5).reads w F:=⟨z49S,z49s0,z49rr⟩
     refine TD.run aj [5,6] Z Z ?_
     refine GM Z (GY (k:=k7) Z Z Z Kq KR (JV hx48).1) Z ?_
     refine TD.run aj [8] Z Z (GM Z (Hr 0 Z JZ z49nf z49cc Z Z) Z ?_)
     rcases jF h with⟨c53,h⟩ | ⟨c53,h⟩
     ·refine TD.run aj [10,11] Z Z ?_
      iterate 2 refine TD.q Z (.g Z Z (aZ (JS c53))) (Hm aj Z) Z ?_
      refine TD.q Z (.g Z Z (aZ (JS c53))) (GY (k:=k7) Z Z Z Kq KR (JV hx42).1) Z ?_
      refine TD.q Z (.g Z Z (aZ (JS c53))) (Hm aj Z) Z (TD.q Z (.g Z Z (aZ (JS c53))) (Hr 1 Z JZ z43nf z43cc Z Z) Z ?_)
      iterate 2 refine TD.q Z (.g Z Z (aZ (JS c53))) (Hm aj Z) Z ?_
      refine TD.q Z (.g Z Z (aZ (JS c53))) (GY (k:=k7) Z Z Z Kq KR (JV hx48).1) Z ?_
      refine TD.q Z (.g Z Z (aZ (JS c53))) (Hm aj Z) Z (TD.q Z (.g Z Z (aZ (JS c53))) (Hr 1 Z JZ z49nf z49cc Z Z) Z (TD.q Z (.g Z Z (aZ (JS c53))) (Hm aj Z) Z (GM Z (H9 Z (aZ (JS c53)) Z) Z ?_)))
      rcases jF h with⟨c54,h⟩ | ⟨c54,h⟩
      ·refine TD.run aj [24] Z Z ?_
       iterate 2 refine TD.q Z (.g Z Z (aZ (JS c54))) (Hm aj Z) Z ?_
       refine TD.q Z (.g Z Z (aZ (JS c54))) (GY (k:=k7) Z Z Z Kq KR (JV hx42).1) Z ?_
       refine TD.q Z (.g Z Z (aZ (JS c54))) (Hm aj Z) Z (TD.q Z (.g Z Z (aZ (JS c54))) (Hr 2 Z KG z43nf z43cc Z Z) Z ?_)
       iterate 2 refine TD.q Z (.g Z Z (aZ (JS c54))) (Hm aj Z) Z ?_
       refine TD.q Z (.g Z Z (aZ (JS c54))) (GY (k:=k7) Z Z Z Kq KR (JV hx48).1) Z ?_
       refine TD.q Z (.g Z Z (aZ (JS c54))) (Hm aj Z) Z (TD.q Z (.g Z Z (aZ (JS c54))) (Hr 2 Z KG z49nf z49cc Z Z) Z ?_)
       rcases jF h with⟨c55,h⟩ | ⟨c55,h⟩
       ·rcases jF h with⟨c56,h⟩ | ⟨c56,h⟩
        ·refine TD.q Z (.g Z Z (aZ (JS c54))) (Id Z c55 Z c56 Ki) Z (GM Z (H9 Z (aZ (JS c54)) Z) Z (TD.run aj [37] Z Z ?_))
         iterate 2 refine TD.q Z (.g Z Z Z) (Hm aj Z) Z ?_
         refine TD.q Z (.g Z Z Z) (GY (k:=k7) Z Z Z Kq KR (JV hx42).1) Z ?_
         refine TD.q Z (.g Z Z Z) (Hm aj Z) Z (TD.q Z (.g Z Z Z) (Hr 4 Z JZ z43nf z43cc Z Z) Z ?_)
         iterate 2 refine TD.q Z (.g Z Z Z) (Hm aj Z) Z ?_
         refine TD.q Z (.g Z Z Z) (GY (k:=k7) Z Z Z Kq KR (JV hx48).1) Z ?_
         refine TD.q Z (.g Z Z Z) (Hm aj Z) Z (TD.q Z (.g Z Z Z) (Hr 4 Z JZ z49nf z49cc Z Z) Z (TD.q Z (.g Z Z Z) (Hm aj Z) Z (GM Z (H9 Z Z Z) Z ?_)))
         rcases jF h with⟨c57,h⟩ | ⟨c57,h⟩
         ·refine TD.run aj [50] Z Z ?_
          iterate 2 refine TD.q Z (.g Z Z (aZ (JS c57))) (Hm aj Z) Z ?_
          refine TD.q Z (.g Z Z (aZ (JS c57))) (GY (k:=k7) Z Z Z Kq KR (JV hx42).1) Z ?_
          refine TD.q Z (.g Z Z (aZ (JS c57))) (Hm aj Z) Z (TD.q Z (.g Z Z (aZ (JS c57))) (Hr 3 Z Lm z43nf z43cc Z Z) Z ?_)
          iterate 2 refine TD.q Z (.g Z Z (aZ (JS c57))) (Hm aj Z) Z ?_
          refine TD.q Z (.g Z Z (aZ (JS c57))) (GY (k:=k7) Z Z Z Kq KR (JV hx48).1) Z ?_
          refine TD.q Z (.g Z Z (aZ (JS c57))) (Hm aj Z) Z (TD.q Z (.g Z Z (aZ (JS c57))) (Hr 3 Z Lm z49nf z49cc Z Z) Z ?_)
          obtain⟨x58,hx59,h⟩:=JO h
          refine Iv Z (.g Z Z (aZ (JS c57))) (.fn Tryz.call113 Z) (fo x41.I5 _ _ x47.I5 _ _ _ hx59) (fun _ hs=>(Hn (GS hs hX46) (GS hs hX52))) Z [0] (Z) (TD.q Z (.g Z Z (aZ (JS c57))) (Hm aj Z) Z (GM Z (H9 Z (aZ (JS c57)) Z) Z ?_))
          rcases jF h with⟨c60,h⟩ | ⟨c60,h⟩
          ·cases h
           exact TD.nil (Hx (d:=80) (v':= .bool false) Z (congrArg Value.bool (aZ c60)) (GP [0]))
          replace c60:=JW c60
          cases h
          exact TD.nil (Hx (d:=80) (v':= .bool true) Z (congrArg Value.bool (bw c60)) (GP [0]))
         refine TD.run aj [50] Z Z ?_
         iterate 10 refine HU Z (.gn Z Z (bw (JT c57))) Z ?_
         refine IB Z (.gn Z Z (bw (JT c57))) Z [0] Z (HU Z (.gn Z Z (bw (JT c57))) Z (GM Z (Ia Z (bw (JT c57)) Z) Z ?_))
         cases h
         exact TD.nil (GP [0])
        replace c56:=JW c56
        refine TD.q Z (.g Z Z (aZ (JS c54))) (Id Z c55 Z c56 Ki) Z (GM Z (H9 Z (aZ (JS c54)) Z) Z (TD.run aj [37] Z Z ?_))
        iterate 11 refine HU Z (.gn Z Z Z) Z ?_
        refine GM Z (Ia Z Z Z) Z (TD.run aj [50] Z Z ?_)
        iterate 10 refine HU Z (.gn Z Z Z) Z ?_
        refine IB Z (.gn Z Z Z) Z [0] Z (HU Z (.gn Z Z Z) Z (GM Z (Ia Z Z Z) Z ?_))
        cases h
        exact TD.nil (GP [0])
       replace c55:=JW c55
       rcases jF h with⟨c61,h⟩ | ⟨c61,h⟩
       ·refine TD.q Z (.g Z Z (aZ (JS c54))) (Id Z c55 Z c61 Ki) Z (GM Z (H9 Z (aZ (JS c54)) Z) Z (TD.run aj [37] Z Z ?_))
        iterate 11 refine HU Z (.gn Z Z Z) Z ?_
        refine GM Z (Ia Z Z Z) Z (TD.run aj [50] Z Z ?_)
        iterate 10 refine HU Z (.gn Z Z Z) Z ?_
        refine IB Z (.gn Z Z Z) Z [0] Z (HU Z (.gn Z Z Z) Z (GM Z (Ia Z Z Z) Z ?_))
        cases h
        exact TD.nil (GP [0])
       replace c61:=JW c61
       refine TD.q Z (.g Z Z (aZ (JS c54))) (Id Z c55 Z c61 Ki) Z (GM Z (H9 Z (aZ (JS c54)) Z) Z (TD.run aj [37] Z Z ?_))
       iterate 2 refine TD.q Z (.g Z Z Z) (Hm aj Z) Z ?_
       refine TD.q Z (.g Z Z Z) (GY (k:=k7) Z Z Z Kq KR (JV hx42).1) Z ?_
       refine TD.q Z (.g Z Z Z) (Hm aj Z) Z (TD.q Z (.g Z Z Z) (Hr 4 Z JZ z43nf z43cc Z Z) Z ?_)
       iterate 2 refine TD.q Z (.g Z Z Z) (Hm aj Z) Z ?_
       refine TD.q Z (.g Z Z Z) (GY (k:=k7) Z Z Z Kq KR (JV hx48).1) Z ?_
       refine TD.q Z (.g Z Z Z) (Hm aj Z) Z (TD.q Z (.g Z Z Z) (Hr 4 Z JZ z49nf z49cc Z Z) Z (TD.q Z (.g Z Z Z) (Hm aj Z) Z (GM Z (H9 Z Z Z) Z ?_)))
       rcases jF h with⟨c62,h⟩ | ⟨c62,h⟩
       ·refine TD.run aj [50] Z Z ?_
        iterate 2 refine TD.q Z (.g Z Z (aZ (JS c62))) (Hm aj Z) Z ?_
        refine TD.q Z (.g Z Z (aZ (JS c62))) (GY (k:=k7) Z Z Z Kq KR (JV hx42).1) Z ?_
        refine TD.q Z (.g Z Z (aZ (JS c62))) (Hm aj Z) Z (TD.q Z (.g Z Z (aZ (JS c62))) (Hr 3 Z Lm z43nf z43cc Z Z) Z ?_)
        iterate 2 refine TD.q Z (.g Z Z (aZ (JS c62))) (Hm aj Z) Z ?_
        refine TD.q Z (.g Z Z (aZ (JS c62))) (GY (k:=k7) Z Z Z Kq KR (JV hx48).1) Z ?_
        refine TD.q Z (.g Z Z (aZ (JS c62))) (Hm aj Z) Z (TD.q Z (.g Z Z (aZ (JS c62))) (Hr 3 Z Lm z49nf z49cc Z Z) Z ?_)
        obtain⟨x63,hx64,h⟩:=JO h
        refine Iv Z (.g Z Z (aZ (JS c62))) (.fn Tryz.call113 Z) (fo x41.I5 _ _ x47.I5 _ _ _ hx64) (fun _ hs=>(Hn (GS hs hX46) (GS hs hX52))) Z [0] (Z) (TD.q Z (.g Z Z (aZ (JS c62))) (Hm aj Z) Z (GM Z (H9 Z (aZ (JS c62)) Z) Z ?_))
        rcases jF h with⟨c65,h⟩ | ⟨c65,h⟩
        ·cases h
         exact TD.nil (Hx (d:=80) (v':= .bool false) Z (congrArg Value.bool (aZ c65)) (GP [0]))
        replace c65:=JW c65
        cases h
        exact TD.nil (Hx (d:=80) (v':= .bool true) Z (congrArg Value.bool (bw c65)) (GP [0]))
       refine TD.run aj [50] Z Z ?_
       iterate 10 refine HU Z (.gn Z Z (bw (JT c62))) Z ?_
       refine IB Z (.gn Z Z (bw (JT c62))) Z [0] Z (HU Z (.gn Z Z (bw (JT c62))) Z (GM Z (Ia Z (bw (JT c62)) Z) Z ?_))
       cases h
       exact TD.nil (GP [0])
      refine TD.run aj [24] Z Z ?_
      iterate 11 refine HU Z (.gn Z Z (bw (JT c54))) Z ?_
      refine GM Z (Ia Z (bw (JT c54)) Z) Z (TD.run aj [37] Z Z ?_)
      iterate 11 refine HU Z (.gn Z Z Z) Z ?_
      refine GM Z (Ia Z Z Z) Z (TD.run aj [50] Z Z ?_)
      iterate 10 refine HU Z (.gn Z Z Z) Z ?_
      refine IB Z (.gn Z Z Z) Z [0] Z (HU Z (.gn Z Z Z) Z (GM Z (Ia Z Z Z) Z ?_))
      cases h
      exact TD.nil (GP [0])
     refine TD.run aj [10,11] Z Z ?_
     iterate 11 refine HU Z (.gn Z Z (bw (JT c53))) Z ?_
     refine GM Z (Ia Z (bw (JT c53)) Z) Z (TD.run aj [24] Z Z ?_)
     iterate 11 refine HU Z (.gn Z Z Z) Z ?_
     refine GM Z (Ia Z Z Z) Z (TD.run aj [37] Z Z ?_)
     iterate 11 refine HU Z (.gn Z Z Z) Z ?_
     refine GM Z (Ia Z Z Z) Z (TD.run aj [50] Z Z ?_)
     iterate 10 refine HU Z (.gn Z Z Z) Z ?_
     refine IB Z (.gn Z Z Z) Z [0] Z (HU Z (.gn Z Z Z) Z (GM Z (Ia Z Z Z) Z ?_))
     cases h
     exact TD.nil (GP [0])
    rintro _ _ ⟨rfl,rfl⟩
    clear h
    have h:=hk40
    clear hk40
    try dsimp only at h
    rcases jF h with⟨c66,h⟩ | ⟨c66,h⟩
    ·refine X.seq (GO Z c66 (GC Z (GB aj 1 Z ?_)))
     obtain rfl:=JP h
     obtain rfl:=JP hO10
     exact GD (T.ret (GN (GH (GH (GN (GH (GL [0] Tryz.results65 (GF Z))))))))
    replace c66:=JW c66
    refine X.seq (G7 Z c66 (T.skip (GX (X.seq (T.region Z ?_)))))
    obtain⟨c67,h⟩:=ay h
    exact GB aj 1 Z (GE Z (Ex.add Z Z c67) Z (GB aj 1 Z (TL.nil (X.back (m':=m11) [0] (by omega) ⟨y6,k7+1,Z,Z,h⟩ (by rfl) (by rfl)))))
   refine Ha Z c15 ?_
   obtain rfl:=JP h
   replace h:=hO10
   clear hO10
   try dsimp only at h
   refine T.exit (GT (GT (Hu (X.seq (GC Z (GB aj 1 Z ?_))))))
   obtain rfl:=JP h
   exact GD (T.ret (GL [0] Tryz.results65 (GF Z)))
 refine Hc Z c5 (GC Z (GB aj 1 Z ?_))
 obtain rfl:=JP h
 exact GD (T.ret (GH (GL [0] Tryz.results65 (GF Z))))
def sk:eP := [(45,0,0),(45,1,1),(53,0,0),(53,1,5),(53,2,12),(53,3,13)]
theorem aK:(sk).OK Tryz.prog:=⟨FOK.mk LE rfl JX rfl,FOK.mk LE rfl JX rfl,FOK.mk Lf rfl MA rfl,FOK.mk Lf rfl Lq rfl,FOK.mk Lf rfl Tryz.sizeOf48 rfl,FOK.mk Lf rfl Lz rfl,trivial⟩
def sn:List Nat := [3,48]
theorem eg:NOK Tryz.prog sn:=⟨JZ,Tryz.isAgg48,trivial⟩
theorem dv:fM Tryz.prog 3 45 [.int .i64,.int .i64,.int .i64,.bool,.string] true:=(fM.struct Tryz.isAgg45 MA rfl Tryz.underlying45 Tryz.stoodInHeld45 ⟨by decide,rfl,[.int .i64],[.int .i64,.int .i64,.bool,.string],false,rfl,((HZ JZ JX Tryz.underlying3).mono (by decide)),⟨by decide,rfl,[.int .i64],[.int .i64,.bool,.string],false,rfl,((HZ JZ JX Tryz.underlying3).mono (by decide)),⟨by decide,rfl,[.int .i64],[.bool,.string],false,rfl,((HZ JZ JX Tryz.underlying3).mono (by decide)),⟨by decide,rfl,[.bool,.string],[],true,rfl,(fM.struct Kt J2 rfl Tryz.underlying23 Tryz.stoodInHeld23 ⟨by decide,rfl,[.bool],[.string],false,rfl,(HZ KG Kr Tryz.underlying4),⟨by decide,rfl,[.string],[],false,rfl,(HZ Ks Kk Tryz.underlying9),rfl⟩⟩),rfl⟩⟩⟩⟩)
def kg (a0:eQ):Option (Int):=(kf a0.I9).bind fun x8=>if x8=0 then (if a0.I9.Jk=0 then ((iR a0.Jh a0.I9.Jg).bind fun x12=>some x12) else (if a0.I9.Jk=27 then ((iU a0.Jt a0.I9.Jg).bind fun x15=>some x15) else ((iT a0.I9.Jk a0.I9.Jg a0.JE).bind fun x17=>some x17))) else some x8
theorem so (a0:eQ) (A1:Option Addr) (c2:Nat) (A3:Option Addr) (c4:Nat) (A5:Option Addr) (c6:Nat) (r:Int) (h:kg a0=some r):aE Tryz.prog 13 #[.agg (wA8 a0 A1 A3 A5 c2 c4 c6)] (RX.and (RX.of (ao 2 ba) [.slice A1 a0.JE.I5.length c2] a0.JE.I5) (RX.and (RX.of (ao 5 dg) [.slice A3 a0.Jt.length c4] a0.Jt) (RX.of (ao 2 cm) [.slice A5 a0.Jh.I5.length c6] a0.Jh.I5))) (aO) (fun v A' N=>v=jI r∧A'=aO∧N = []):=by
 refine aU Tryz.func13 Z Tryz.ntmps13 Z ?_
 intro F w hX
 unfold kg at h
 refine GC Z (TL.box Z .u Z Z (fun b7=>(G4 aK Z Z (GB aK 1 Z (GE Z (GR (us := [jI a0.I9.Jk,jI a0.I9.Jg,jI a0.I9.Jo,.bool a0.I9.Je.null,jS a0.I9.Je.data]) 0 Z Tryz.isAgg45 MA Z Z Z) Z ?_)))))
 obtain⟨x8,hx9,h⟩:=JO h
 refine GZ Z .u (.fn Tryz.call53 Z) (sc a0.I9 _ hx9) rT Z (GK aK Z (T.seq (GC Z (GB aK 2 Z ?_))))
 rcases jF h with⟨c10,h⟩ | ⟨c10,h⟩
 ·refine He Z c10 (GW (T.seq (GC Z (Ir aK eg 0 Z Z Z (T.block (GC Z (GB aK 2 Z ?_)))))))
  rcases jF h with⟨c11,h⟩ | ⟨c11,h⟩
  ·refine G9 Z c11 (GC Z (GB aK 1 Z (GE Z (GR (us := [.bool a0.Jh.Jc.null,jS a0.Jh.Jc.data,jI a0.Jh.Ju,jI a0.Jh.Jb,.slice A5 a0.Jh.I5.length c6]) 0 Z MH Lz Z Z Z) Z ?_)))
   obtain⟨x12,hx13,h⟩:=JO h
   refine GG aK eg 0 Z 3 Z Z (GZ Z .u (.fn Tryz.call54 Z) (r9 a0.Jh _ _ a0.I9.Jg _ hx13) (fun _ hs=>(GS hs (G3 (G3 hX)))) Z (GB aK 1 Z ?_))
   obtain rfl:=JP h
   exact GD (T.ret (GN (GH (GL [1] MU (GF Z)))))
  refine Ha Z c11 (GC Z (GB aK 2 Z ?_))
  rcases jF h with⟨c14,h⟩ | ⟨c14,h⟩
  ·refine G9 Z c14 (GC Z ?_)
   obtain⟨x15,hx16,h⟩:=JO h
   refine GG aK eg 0 Z 5 Z Z (GZ Z .u (.fn Tryz.call55 Z) (sj a0.Jt _ _ a0.I9.Jg _ hx16) (fun _ hs=>(GS hs (Ho (G3 hX)))) Z (GB aK 1 Z ?_))
   obtain rfl:=JP h
   exact GD (T.ret (GN (GH (GL [1] MU (GF Z)))))
  refine Ha Z c14 (T.skip (GX (X.seq (GC Z (GG aK eg 0 Z 7 Z Z (GE Z (GR (us:=wL7 a0.JE A1 c2) 0 Z Ms Lq Z Z Z) Z ?_))))))
  obtain⟨x17,hx18,h⟩:=JO h
  refine GZ Z .u (.fn Tryz.call56 Z) (sf a0.I9.Jk a0.I9.Jg a0.JE _ _ _ hx18) (fun _ hs=>(GS hs (Ho hX))) Z (GB aK 1 Z ?_)
  obtain rfl:=JP h
  exact GD (T.ret (GL [1] MU (GF Z)))
 refine Hc Z c10 (GC Z (GB aK 2 Z ?_))
 obtain rfl:=JP h
 exact GD (T.ret (GH (GL [1] MU (GF Z))))
def lq (a0:eQ) (a1:eQ):Option (Bool):=(if a0.I9.Jk=a1.I9.Jk then (if a0.I9.Jg=a1.I9.Jg then (if a0.I9.Jo=a1.I9.Jo then (if a0.I9.Je.null=a1.I9.Je.null then (if a0.I9.Je.data=a1.I9.Je.data then ((jR a0.JE a1.JE).bind fun x35=>if x35=true then ((iH a0.Jt a1.Jt).bind fun x38=>if x38=true then ((gX a0.Jh a1.Jh).bind fun x41=>some x41) else some false) else some false) else some false) else some false) else some false) else some false) else some false).bind fun y28=>some y28
theorem tH (a0:eQ) (A1:Option Addr) (c2:Nat) (A3:Option Addr) (c4:Nat) (A5:Option Addr) (c6:Nat) (a1:eQ) (A7:Option Addr) (c8:Nat) (A9:Option Addr) (c10:Nat) (A11:Option Addr) (c12:Nat) (r:Bool) (h:lq a0 a1=some r):aE Tryz.prog 17 #[.agg (wA8 a0 A1 A3 A5 c2 c4 c6),.agg (wA8 a1 A7 A9 A11 c8 c10 c12)] (RX.and (RX.of (ao 2 ba) [.slice A1 a0.JE.I5.length c2] a0.JE.I5) (RX.and (RX.of (ao 5 dg) [.slice A3 a0.Jt.length c4] a0.Jt) (RX.and (RX.of (ao 2 cm) [.slice A5 a0.Jh.I5.length c6] a0.Jh.I5) (RX.and (RX.of (ao 2 ba) [.slice A7 a1.JE.I5.length c8] a1.JE.I5) (RX.and (RX.of (ao 5 dg) [.slice A9 a1.Jt.length c10] a1.Jt) (RX.of (ao 2 cm) [.slice A11 a1.Jh.I5.length c12] a1.Jh.I5)))))) (aO) (fun v A' N=>v= .bool r∧A'=aO∧N = []):=by
 refine aU Tryz.func17 Z Tryz.ntmps17 Z ?_
 intro F w hX
 unfold lq at h
 refine GC Z (TL.box Z .u Z Z (fun b13=>(TL.box Z .u Z Z (fun b14=>(GK aK Z (T.seq ?_))))))
 obtain⟨y28,h,hk29⟩:=JO h
 refine HJ (fun e Rs=>e = [(4,.bool y28)]∧Rs = [aT b14 53 (wA8 a1 A7 A9 A11 c8 c10 c12),aT b13 53 (wA8 a0 A1 A3 A5 c2 c4 c6),aO]) ?_ ?_
 ·clear hk29
  refine T.region Z (GB aK 1 Z (GE Z (GR (us := [jI a0.I9.Jk,jI a0.I9.Jg,jI a0.I9.Jo,.bool a0.I9.Je.null,jS a0.I9.Je.data]) 1 Z Tryz.isAgg45 MA Z Z Z) Z (GB aK 1 Z (GE Z (GR (us := [jI a1.I9.Jk,jI a1.I9.Jg,jI a1.I9.Jo,.bool a1.I9.Je.null,jS a1.I9.Je.data]) 0 Z Tryz.isAgg45 MA Z Z Z) Z ?_))))
  rcases jF h with⟨c30,h⟩ | ⟨c30,h⟩
  ·rcases jF h with⟨c31,h⟩ | ⟨c31,h⟩
   ·rcases jF h with⟨c32,h⟩ | ⟨c32,h⟩
    ·rcases jF h with⟨c33,h⟩ | ⟨c33,h⟩
     ·rcases jF h with⟨c34,h⟩ | ⟨c34,h⟩
      ·refine GE Z (Ie (us := [jI a0.I9.Jk,jI a0.I9.Jg,jI a0.I9.Jo,.bool a0.I9.Je.null,jS a0.I9.Je.data]) (vs := [jI a1.I9.Jk,jI a1.I9.Jg,jI a1.I9.Jo,.bool a1.I9.Je.null,jS a1.I9.Je.data]) dv Z LK Z Z Z Z (dw (kb c30) (dw (kb c31) (dw (kb c32) (dw (mp c33) (dw (mq (l:=a0.I9.Je.data) (m:=a1.I9.Je.data) c34) Z)))))) Z (GJ aK 2 Z (TL.q Z (.g Z Z Z) (GR (us:=wL7 a0.JE A1 c2) 1 Z Ms Lq Z Z Z) Z (GJ aK 1 Z (TL.q Z (.g Z Z Z) (GR (us:=wL7 a1.JE A7 c8) 0 Z Ms Lq Z Z Z) Z ?_))))
       obtain⟨x35,hx36,h⟩:=JO h
       refine GZ Z (.g Z Z Z) (.fn Tryz.call64 Z) (tF a0.JE _ _ a1.JE _ _ _ hx36) (fun _ hs=>(Hn (GS hs (Ho hX)) (GS hs (Ho (G3 (G3 (G3 hX))))))) Z ?_
       rcases jF h with⟨c37,h⟩ | ⟨c37,h⟩
       ·refine GJ aK 2 Z (GI 17 Z c37 (GG aK eg 1 Z 3 Z Z ?_))
        obtain⟨x38,hx39,h⟩:=JO h
        refine GG aK eg 0 Z 1 Z Z (GZ Z (.g Z Z Z) (.fn Tryz.call65 Z) (tG a0.Jt _ _ a1.Jt _ _ _ hx39) (fun _ hs=>(Hn (GS hs (Ho (G3 hX))) (GS hs (Ho (G3 (G3 (G3 (G3 hX)))))))) Z ?_)
        rcases jF h with⟨c40,h⟩ | ⟨c40,h⟩
        ·refine GJ aK 2 Z (GI 24 Z c40 (GJ aK 1 Z (TL.q Z (.g Z Z Z) (GR (us := [.bool a0.Jh.Jc.null,jS a0.Jh.Jc.data,jI a0.Jh.Ju,jI a0.Jh.Jb,.slice A5 a0.Jh.I5.length c6]) 1 Z MH Lz Z Z Z) Z (GJ aK 1 Z (TL.q Z (.g Z Z Z) (GR (us := [.bool a1.Jh.Jc.null,jS a1.Jh.Jc.data,jI a1.Jh.Ju,jI a1.Jh.Jb,.slice A11 a1.Jh.I5.length c12]) 0 Z MH Lz Z Z Z) Z ?_)))))
         obtain⟨x41,hx42,h⟩:=JO h
         refine GZ Z (.g Z Z Z) (.fn Tryz.call66 Z) (tE a0.Jh _ _ a1.Jh _ _ _ hx42) (fun _ hs=>(Hn (GS hs (Ho (G3 (G3 hX)))) (GS hs (G3 (G3 (G3 (G3 (G3 hX)))))))) Z (GJ aK 2 Z ?_)
         cases h
         exact TL.nil (GP [0,0,0])
        replace c40:=JW c40
        refine GJ aK 2 Z (GI 24 Z c40 (GJ aK 7 Z ?_))
        cases h
        exact TL.nil (GP [0,0,0])
       replace c37:=JW c37
       refine GJ aK 2 Z (GI 17 Z c37 (GJ aK 14 Z ?_))
       cases h
       exact TL.nil (GP [0,0,0])
      refine GE Z (Ie (us := [jI a0.I9.Jk,jI a0.I9.Jg,jI a0.I9.Jo,.bool a0.I9.Je.null,jS a0.I9.Je.data]) (vs := [jI a1.I9.Jk,jI a1.I9.Jg,jI a1.I9.Jo,.bool a1.I9.Je.null,jS a1.I9.Je.data]) dv Z LK Z Z Z Z (dw (kb c30) (dw (kb c31) (dw (kb c32) (dw (mp c33) (iO (nS (l:=a0.I9.Je.data) (m:=a1.I9.Je.data) c34))))))) Z (GJ aK 22 Z ?_)
      cases h
      exact TL.nil (GP [0,0,0])
     refine GE Z (Ie (us := [jI a0.I9.Jk,jI a0.I9.Jg,jI a0.I9.Jo,.bool a0.I9.Je.null,jS a0.I9.Je.data]) (vs := [jI a1.I9.Jk,jI a1.I9.Jg,jI a1.I9.Jo,.bool a1.I9.Je.null,jS a1.I9.Je.data]) dv Z LK Z Z Z Z (dw (kb c30) (dw (kb c31) (dw (kb c32) (iO (pJ c33)))))) Z (GJ aK 22 Z ?_)
     cases h
     exact TL.nil (GP [0,0,0])
    refine GE Z (Ie (us := [jI a0.I9.Jk,jI a0.I9.Jg,jI a0.I9.Jo,.bool a0.I9.Je.null,jS a0.I9.Je.data]) (vs := [jI a1.I9.Jk,jI a1.I9.Jg,jI a1.I9.Jo,.bool a1.I9.Je.null,jS a1.I9.Je.data]) dv Z LK Z Z Z Z (dw (kb c30) (dw (kb c31) (iO (um c32))))) Z (GJ aK 22 Z ?_)
    cases h
    exact TL.nil (GP [0,0,0])
   refine GE Z (Ie (us := [jI a0.I9.Jk,jI a0.I9.Jg,jI a0.I9.Jo,.bool a0.I9.Je.null,jS a0.I9.Je.data]) (vs := [jI a1.I9.Jk,jI a1.I9.Jg,jI a1.I9.Jo,.bool a1.I9.Je.null,jS a1.I9.Je.data]) dv Z LK Z Z Z Z (dw (kb c30) (iO (um c31)))) Z (GJ aK 22 Z ?_)
   cases h
   exact TL.nil (GP [0,0,0])
  refine GE Z (Ie (us := [jI a0.I9.Jk,jI a0.I9.Jg,jI a0.I9.Jo,.bool a0.I9.Je.null,jS a0.I9.Je.data]) (vs := [jI a1.I9.Jk,jI a1.I9.Jg,jI a1.I9.Jo,.bool a1.I9.Je.null,jS a1.I9.Je.data]) dv Z LK Z Z Z Z (iO (um c30))) Z (GJ aK 22 Z ?_)
  cases h
  exact TL.nil (GP [0,0,0])
 rintro _ _ ⟨rfl,rfl⟩
 clear h
 have h:=hk29
 clear hk29
 try dsimp only at h
 obtain rfl:=JP h
 exact X.seq (T.ret (GL [2] Tryz.results17 (GF Z)))
def D4:eP := [(103,0,0),(103,1,1),(103,2,2),(103,3,3),(103,4,4),(103,5,5),(103,6,6),(171,0,0),(171,1,1)]
theorem am:(D4).OK Tryz.prog:=⟨FOK.mk La rfl JX rfl,FOK.mk La rfl JX rfl,FOK.mk La rfl JX rfl,FOK.mk La rfl JX rfl,FOK.mk La rfl LG rfl,FOK.mk La rfl JX rfl,FOK.mk La rfl JX rfl,FOK.mk K4 rfl Kk rfl,FOK.mk K4 rfl LF rfl,trivial⟩
def D5:List Nat := [3,9,28,74]
theorem bE:NOK Tryz.prog D5:=⟨JZ,Ks,Lm,K3,trivial⟩
theorem oP:Tryz.prog.follows .mixedOrders=true:=by kernel_rfl
theorem vX:BOK Tryz.prog 171 #[.string ⟨#[]⟩,.slice none 0 0] [(0,1),(1,1)]:=BOK.mk Tryz.zeroValue171 K4 (by intro w; simp)
theorem uz:SOK Tryz.prog 28 171 1 2 #[.string ⟨#[]⟩,.slice none 0 0]:=SOK.mk J8 Km Tryz.zeroValue171 (by decide) (by kernel_rfl)
theorem ls:SOK Tryz.prog 74 3 1 1 #[.int .i64 0]:=SOK.mk Kh JX Tryz.zeroValue3 (by decide) (by kernel_rfl)
theorem uA:SOK Tryz.prog 78 9 1 1 #[.string ⟨#[]⟩]:=SOK.mk Ls Kk Tryz.zeroValue9 (by decide) (by kernel_rfl)
theorem nZ:(Tryz.prog.info? 3).map (fun i=>(i.zero,i.size,i.bytes))=some (some (.int .i64 0),1,8):=by kernel_rfl
theorem yG:(Tryz.prog.info? 9).map (fun i=>(i.zero,i.size,i.bytes))=some (some (.string ⟨#[]⟩),1,16):=by kernel_rfl
theorem vY:(Tryz.prog.info? 171).map (fun i=>(i.zero,i.size,i.bytes))=some (some (.agg #[.string ⟨#[]⟩,.slice none 0 0]),2,40):=by kernel_rfl
def cA:List Int→(List UInt8×Int)→Option (List UInt8×Int)
 | [],st24=>some st24
 | x29::xs,st24=>(dK st24 x29 4).bind fun st33=>cA xs st33
def cB:List Top→(List UInt8×Int)→Option (List UInt8×Int)
 | [],st6=>some st6
 | x11::xs,st6=>(jc st6 x11.Jd).bind fun st19=>(dK st19 (x11.I7.length:Int) 4).bind fun st21=>(cA x11.I7 st21).bind fun st36=>cB xs st36
def eK (st:List UInt8×Int) (a1:List Top):Option (List UInt8×Int):=(dK st (a1.length:Int) 4).bind fun st3=>(cB a1 st3).bind fun st38=>some st38
theorem jk (g:Nat) (st:List UInt8×Int) (a1:List Top) (A1:Option Addr) (c2:Nat) (r:List UInt8×Int) (h:eK st a1=some r):aE Tryz.prog 91 #[jP g,.slice A1 a1.length c2] (RX.of (ao 2 ba) [.slice A1 a1.length c2] a1) (bm g st) (fun v A' N=>v= .tuple #[]∧A'=bm g r∧N = []):=by
 refine aU Tryz.func91 Z Tryz.ntmps91 Z ?_
 intro F w hX
 unfold eK at h
 refine GC Z (GB am 2 Z (GE Z (GQ Z J8) Z ?_))
 obtain⟨st3,hx4,h⟩:=JO h
 refine Ht Z .u (.fn Tryz.call51 Z) (bf g st (a1.length:Int) 4 _ hx4) sT Z (GV Z (GB am 1 Z (GE Z (GQ Z J8) Z (GK am Z (T.block ?_)))))
 obtain⟨E7,hE8,hO9⟩:=JO h
 have hk13len:=Hq hX
 refine Hv (fun m e Rs=> ∃ (k5:Nat) (st6:List UInt8×Int),k5+m=a1.length∧e = [(0,jP g),(12,.slice A1 a1.length c2),(13,jI (a1.length:Int)),(14,jI (k5:Int))]∧Rs = [bm g st6]∧cB (a1.drop k5) st6=some E7) (a1.length) [0] ⟨0,st3,by simp,Z,Z,by rw[List.drop_zero]; exact hE8⟩ (by rfl) (by rfl) ?_
 clear hE8 h
 rintro m10 _ _ ⟨k5,st6,hk13,rfl,rfl,h⟩
 cases m10 with
 | zero =>
  rw[List.drop_of_length_le (by omega),cB] at h
  have hk13ge: ¬ ((k5:Int)<(a1.length:Int)):=by omega
  refine GC Z (GK am Z (T.seq (G7 Z (JT hk13ge) ?_)))
  obtain rfl:=JP h
  obtain rfl:=JP hO9
  exact T.exit (GT (GT (Hu (H7 [0] Tryz.results91 ⟨Z,Z,Z⟩ (by rfl) (.inr Z)))))
 | succ m10 =>
  obtain⟨x11,hxx11⟩: ∃ x,a1[k5]? = some x:=⟨_,List.getElem?_eq_getElem (by omega)⟩
  rw[bz hxx11,cB] at h
  have hk13lt:(k5:Int)<(a1.length:Int):=by omega
  refine GC Z (GK am Z (T.seq (GO Z (JS hk13lt) ?_)))
  obtain⟨gz14,oz14,rfl,z14cs,z14cl,z14cc,z14nf,z14r⟩:=Hg (by decide) hX hxx11
  obtain⟨z14S,z14r,z14rr⟩:=z14r
  obtain⟨A15,c16,rfl,z14s0⟩:=z14r
  have hX17:(RX.of (ao 1 jL) [.slice A15 x11.I7.length c16] x11.I7).reads w F:=⟨z14S,z14s0,z14rr⟩
  refine GW (T.seq (T.block (GC Z ?_)))
  refine GE Z (GY (k:=k5) Z Z Z J8 Km (JV hxx11).1) Z ?_
  refine GE Z (HW (us := [jS x11.Jd,.slice A15 x11.I7.length c16]) 0 Z Md Km z14nf z14cc Z Z Z) Z (TL.alloc Z .u Tryz.zeroValue171 Z (fun b18=>(GU (cs':= #[jS x11.Jd,.slice A15 x11.I7.length c16]) Z .u Z Z Km Z Z Z Z (GV Z ?_))))
  obtain⟨st19,hx20,h⟩:=JO h
  refine GG am bE 0 Z 3 Z Z (Hh Z .u (.fn Tryz.call88 Z) (j2 g st6 x11.Jd _ hx20) sT Z (GV Z (GG am bE 0 Z 3 Z Z (GE Z (GQ Z Kh) Z ?_))))
  obtain⟨st21,hx22,h⟩:=JO h
  refine Hh Z .u (.fn Tryz.call51 Z) (bf g st19 (x11.I7.length:Int) 4 _ hx22) sT Z (GV Z (GG am bE 0 Z 2 Z Z (GE Z (GQ Z Kh) Z (GK am Z (T.block ?_)))))
  obtain⟨E25,hE26,hO27⟩:=JO h
  have hk31len:=Hq hX17
  refine Hv (fun m e Rs=> ∃ (k23:Nat) (st24:List UInt8×Int),k23+m=x11.I7.length∧e = [(0,jP g),(12,.slice (some ⟨gz14,oz14,none⟩) a1.length c2),(13,jI (a1.length:Int)),(14,jI (k5:Int)),(28,.slice A15 x11.I7.length c16),(29,jI (x11.I7.length:Int)),(30,jI (k23:Int))]∧Rs = [aT b18 171 #[jS x11.Jd,.slice A15 x11.I7.length c16],bm g st24]∧cA (x11.I7.drop k23) st24=some E25) (x11.I7.length) [0,0] ⟨0,st21,by simp,Z,Z,by rw[List.drop_zero]; exact hE26⟩ (by rfl) (by rfl) ?_
  clear hE26 h
  rintro m28 _ _ ⟨k23,st24,hk31,rfl,rfl,h⟩
  cases m28 with
  | zero =>
   rw[List.drop_of_length_le (by omega),cA] at h
   have hk31ge: ¬ ((k23:Int)<(x11.I7.length:Int)):=by omega
   refine GC Z (GK am Z (T.seq (G7 Z (JT hk31ge) ?_)))
   obtain rfl:=JP h
   replace h:=hO27
   clear hO27
   try dsimp only at h
   exact T.exit (GT (GT (Hu (GX (X.seq (T.region Z (GE Z (Ex.add Z Z (by omega)) Z (GB am 1 Z (TL.nil (X.back (m':=m10) [1] (by omega) ⟨k5+1,st24,by omega,Z,Z,h⟩ (by rfl) (by rfl)))))))))))
  | succ m28 =>
   obtain⟨x29,hxx29⟩: ∃ x,x11.I7[k23]? = some x:=⟨_,List.getElem?_eq_getElem (by omega)⟩
   rw[bz hxx29,cA] at h
   have hk31lt:(k23:Int)<(x11.I7.length:Int):=by omega
   refine GC Z (GK am Z (T.seq (GO Z (JS hk31lt) ?_)))
   obtain⟨gz32,oz32,rfl,z32cs,z32cl,z32cc,z32nf,z32r⟩:=Hg (by decide) hX17 hxx29
   obtain⟨z32S,z32r,z32rr⟩:=z32r
   obtain rfl:z32cs = [jI x29]:=z32r
   refine GW (T.seq (T.block (GC Z ?_)))
   refine GE Z (GY (k:=k23) Z Z Z Kh JX (JV hxx29).1) Z ?_
   refine GE Z (Hr 0 Z JZ z32nf z32cc Z Z) Z (GK am Z (T.region Z ?_))
   obtain⟨st33,hx34,h⟩:=JO h
   exact GB am 2 Z (Hh Z .u (.fn Tryz.call51 Z) (bf g st24 x29 4 _ hx34) sT Z (TL.nil (GX (X.seq (T.region Z (GE Z (Ex.add Z Z (by omega)) Z (GB am 1 Z (TL.nil (X.back (m':=m28) [0,0] (by omega) ⟨k23+1,st33,by omega,Z,Z,h⟩ (by rfl) (by rfl))))))))))
def kP (a0:Int):Option (Bool):=if a0=0 then some true else (if a0≥4 then some true else some false)
theorem qE (a0:Int) (r:Bool) (h:kP a0=some r):aE Tryz.prog 145 #[jI a0] .triv (aO) (fun v A' N=>v= .bool r∧A'=aO∧N = []):=by
 refine aU Tryz.func145 Z Tryz.ntmps145 Z ?_
 intro F w hX
 unfold kP at h
 refine GC Z (G4 am Z Z ?_)
 rcases jF h with⟨c1,h⟩ | ⟨c1,h⟩
 ·refine GB am 3 Z (GI 5 Z (JS c1) (GJ am 4 Z ?_))
  obtain rfl:=JP h
  exact GD (T.ret (GL [0] Tryz.results145 (GF Z)))
 refine GB am 3 Z (GI 5 Z (JT c1) (GJ am 4 Z ?_))
 rcases jF h with⟨c2,h⟩ | ⟨c2,h⟩
 ·obtain rfl:=JP h
  exact GD (T.ret (G8 [0] Tryz.results145 (GF (v:= .bool true) (congrArg (fun b=>some (Value.bool b)) (JS c2))) ⟨Z,Z,Z⟩ (by rfl) (.inl Z)))
 obtain rfl:=JP h
 exact GD (T.ret (G8 [0] Tryz.results145 (GF (v:= .bool false) (congrArg (fun b=>some (Value.bool b)) (JT c2))) ⟨Z,Z,Z⟩ (by rfl) (.inl Z)))
def cC (a0:List Int):Nat→Bool→Int→Option (Lp Bool (Bool×Int))
 | 0,_,_=>none
 | m8+1,y3,y4=>if y4<(a0.length:Int) then (if -9223372036854775808≤(y4 - 1)∧(y4 - 1)≤9223372036854775807 then (if 0≤(y4 - 1) then ((a0[(y4 - 1).toNat]?).bind fun x15=>if 0≤y4 then ((a0[y4.toNat]?).bind fun x19=>if x15≥x19 then some (Lp.ret false) else (if -9223372036854775808≤(y4+1)∧(y4+1)≤9223372036854775807 then (cC a0 m8 y3 (y4+1)) else none)) else none) else none) else none) else (some (Lp.go (y3,y4)))
def fE (a0:List Int):Option (Bool):=(cC a0 ((((a0.length:Int)) - (1)).toNat+1) false 1).bind fun e=>match e with | .ret r=>some r | .go (y24,y25)=>some true
theorem mU (a0:List Int) (A1:Option Addr) (c2:Nat) (r:Bool) (h:fE a0=some r):aE Tryz.prog 218 #[.slice A1 a0.length c2] (RX.of (ao 1 jL) [.slice A1 a0.length c2] a0) (aO) (fun v A' N=>v= .bool r∧A'=aO∧N = []):=by
 refine aU Tryz.func218 Z Tryz.ntmps218 Z ?_
 intro F w hX
 unfold fE at h
 refine GC Z (GK am Z (T.seq (GC Z (GK am Z (T.block ?_)))))
 obtain⟨E5,hE6,hO7⟩:=JO h
 refine Hv (fun m e Rs=> ∃ (y3:Bool) (y4:Int),e = [(0,.slice A1 a0.length c2),(2,.bool y3),(3,jI y4)]∧Rs = [aO]∧cC a0 m y3 y4=some E5) ((((a0.length:Int)) - (1)).toNat+1) [0] ⟨false,1,Z,Z,by exact hE6⟩ (by rfl) (by rfl) ?_
 clear hE6 h
 rintro m8 _ _ ⟨y3,y4,rfl,rfl,h⟩
 cases m8 with
 | zero =>
  rw[cC] at h
  cases h
 | succ m8 =>
  rw[cC] at h
  refine T.seq (GC Z (GB am 2 Z (GE Z (GQ Z Kh) Z (GB am 1 Z ?_))))
  rcases jF h with⟨c12,h⟩ | ⟨c12,h⟩
  ·refine G9 Z c12 ?_
   refine GW (T.seq (T.block (T.seq (Hp (.q 0 (.q 1 (.q 2 (.q 3 (.q 4 (.q 5 (.q 6 (.q 7 (.q 8 (.q 9 .nil)))))))))) [0] Z oP (NoP.seq (NoP.blk (NoP.seq (NoP.seq (NoP.blk (NoP.seq bA)))))) (by kernel_rfl) ?_))))
   obtain⟨c13,h⟩:=ay h
   refine TD.run am [0,1] Z Z (GM Z (Ex.sub Z Z c13) Z ?_)
   obtain⟨c14,h⟩:=ay h
   obtain⟨x15,hx16,h⟩:=JO h
   obtain⟨gz17,oz17,rfl,z17cs,z17cl,z17cc,z17nf,z17r⟩:=Hg (by decide) hX hx16
   obtain⟨z17S,z17r,z17rr⟩:=z17r
   obtain rfl:z17cs = [jI x15]:=z17r
   refine GM Z (GY (k:=(y4 - 1).toNat) Z Z ((Int.toNat_of_nonneg c14).symm) Kh JX (JV hx16).1) Z ?_
   refine GM Z (Hr 0 Z JZ z17nf z17cc Z Z) Z ?_
   obtain⟨c18,h⟩:=ay h
   obtain⟨x19,hx20,h⟩:=JO h
   obtain⟨z21cs,z21cl,z21cc,z21nf,z21r⟩:=IA (by decide) hX hx20
   obtain⟨z21S,z21r,z21rr⟩:=z21r
   obtain rfl:z21cs = [jI x19]:=z21r
   refine TD.run am [5,6] Z Z ?_
   refine GM Z (GY (k:=y4.toNat) Z Z ((Int.toNat_of_nonneg c18).symm) Kh JX (JV hx20).1) Z ?_
   refine GM Z (Hr 0 Z JZ z21nf z21cc Z Z) Z (TD.run am [9] Z Z ?_)
   rcases jF h with⟨c22,h⟩ | ⟨c22,h⟩
   ·refine HX (Ij Z c22 (GC Z (GB am 1 Z ?_)))
    obtain rfl:=JP h
    obtain rfl:=JP hO7
    exact GD (T.ret (GN (GH (GH (GN (GH (GL [0] Tryz.results218 (GF Z))))))))
   refine HX (Io Z c22 (T.skip (GX (X.seq (T.region Z ?_)))))
   obtain⟨c23,h⟩:=ay h
   exact GB am 1 Z (GE Z (Ex.add Z Z c23) Z (GB am 1 Z (TL.nil (X.back (m':=m8) [0] (by omega) ⟨y3,(y4+1),Z,Z,h⟩ (by rfl) (by rfl)))))
  refine Ha Z c12 ?_
  obtain rfl:=JP h
  replace h:=hO7
  clear hO7
  try dsimp only at h
  refine T.exit (GT (GT (Hu (X.seq (GC Z (GB am 1 Z ?_))))))
  obtain rfl:=JP h
  exact GD (T.ret (GL [0] Tryz.results218 (GF Z)))
def es:List Int→Bool→Option (Lp Bool Bool)
 | [],y3=>some (Lp.go y3)
 | x9::xs,y3=>if x9<0 then some (Lp.ret false) else ((il x9 4).bind fun x14=>if x14=true then (es xs y3) else some (Lp.ret false))
def iA (a0:List Int):Option (Bool):=(es a0 false).bind fun e=>match e with | .ret r=>some r | .go y17=>(if (a0.length:Int)>0 then ((fE a0).bind fun x20=>some x20) else some false)
theorem pL (a0:List Int) (A1:Option Addr) (c2:Nat) (r:Bool) (h:iA a0=some r):aE Tryz.prog 189 #[.slice A1 a0.length c2] (RX.of (ao 1 jL) [.slice A1 a0.length c2] a0) (aO) (fun v A' N=>v= .bool r∧A'=aO∧N = []):=by
 refine aU Tryz.func189 Z Tryz.ntmps189 Z ?_
 intro F w hX
 unfold iA at h
 refine GC Z (GK am Z (T.seq (GC Z (GB am 1 Z (GE Z (GQ Z Kh) Z (GK am Z (T.block ?_)))))))
 obtain⟨E5,hE6,hO7⟩:=JO h
 have hk11len:=Hq hX
 refine Hv (fun m e Rs=> ∃ (y3:Bool) (k4:Nat),k4+m=a0.length∧e = [(0,.slice A1 a0.length c2),(2,.bool y3),(5,.slice A1 a0.length c2),(6,jI (a0.length:Int)),(7,jI (k4:Int))]∧Rs = [aO]∧es (a0.drop k4) y3=some E5) (a0.length) [0] ⟨false,0,by simp,Z,Z,by rw[List.drop_zero]; exact hE6⟩ (by rfl) (by rfl) ?_
 clear hE6 h
 rintro m8 _ _ ⟨y3,k4,hk11,rfl,rfl,h⟩
 cases m8 with
 | zero =>
  rw[List.drop_of_length_le (by omega),es] at h
  have hk11ge: ¬ ((k4:Int)<(a0.length:Int)):=by omega
  refine GC Z (GK am Z (T.seq (G7 Z (JT hk11ge) ?_)))
  obtain rfl:=JP h
  replace h:=hO7
  clear hO7
  try dsimp only at h
  refine T.exit (GT (GT (Hu (X.seq (GC Z (GB am 1 Z (GE Z (GQ Z Kh) Z ?_)))))))
  rcases jF h with⟨c22,h⟩ | ⟨c22,h⟩
  ·refine GB am 2 Z (GI 22 Z (JS c22) ?_)
   obtain⟨x23,hx24,h⟩:=JO h
   refine GJ am 1 Z (GZ Z (.g Z Z Z) (.fn Tryz.call218 Z) (mU a0 _ _ _ hx24) (fun _ hs=>(GS hs hX)) Z (GJ am 2 Z ?_))
   obtain rfl:=JP h
   exact GD (T.ret (GL [0] ML (GF Z)))
  refine GB am 2 Z (GI 22 Z (JT c22) (GJ am 4 Z ?_))
  obtain rfl:=JP h
  exact GD (T.ret (GL [0] ML (GF Z)))
 | succ m8 =>
  obtain⟨x9,hxx9⟩: ∃ x,a0[k4]? = some x:=⟨_,List.getElem?_eq_getElem (by omega)⟩
  rw[bz hxx9,es] at h
  have hk11lt:(k4:Int)<(a0.length:Int):=by omega
  refine GC Z (GK am Z (T.seq (GO Z (JS hk11lt) ?_)))
  obtain⟨gz12,oz12,rfl,z12cs,z12cl,z12cc,z12nf,z12r⟩:=Hg (by decide) hX hxx9
  obtain⟨z12S,z12r,z12rr⟩:=z12r
  obtain rfl:z12cs = [jI x9]:=z12r
  refine GW (T.seq (T.block (GC Z ?_)))
  refine GE Z (GY (k:=k4) Z Z Z Kh JX (JV hxx9).1) Z ?_
  refine GE Z (Hr 0 Z JZ z12nf z12cc Z Z) Z (G4 am Z Z ?_)
  rcases jF h with⟨c13,h⟩ | ⟨c13,h⟩
  ·refine GB am 3 Z (GI 13 Z (JS c13) (Hk am Z (GO Z Z (GC Z (GB am 1 Z ?_)))))
   obtain rfl:=JP h
   obtain rfl:=JP hO7
   exact GD (T.ret (GN (GH (GH (GN (GH (GL [0] ML (GF Z))))))))
  refine GB am 3 Z (GI 13 Z (JT c13) ?_)
  obtain⟨x14,hx15,h⟩:=JO h
  refine GJ am 1 Z (GZ Z (.g Z Z Z) (.fn Tryz.call101 Z) (Hy (fun w=>de x9 4 _ hx15 w)) (fun _ _=>Hi _ _) Z (GJ am 2 Z ?_))
  rcases jF h with⟨c16,h⟩ | ⟨c16,h⟩
  ·exact GD (G7 Z (aZ c16) (T.skip (GX (X.seq (T.region Z (GE Z (Ex.add Z Z (by omega)) Z (GB am 1 Z (TL.nil (X.back (m':=m8) [0] (by omega) ⟨y3,k4+1,by omega,Z,Z,h⟩ (by rfl) (by rfl))))))))))
  replace c16:=JW c16
  refine GD (GO Z (bw c16) (GC Z (GB am 1 Z ?_)))
  obtain rfl:=JP h
  obtain rfl:=JP hO7
  exact GD (T.ret (GN (GH (GH (GN (GH (GL [0] ML (GF Z))))))))
def bW (a0:List (List UInt8)):Nat→Bool→Int→Option (Lp Bool (Bool×Int))
 | 0,_,_=>none
 | m8+1,y3,y4=>if y4<(a0.length:Int) then (if -9223372036854775808≤(y4 - 1)∧(y4 - 1)≤9223372036854775807 then (if 0≤(y4 - 1) then ((a0[(y4 - 1).toNat]?).bind fun x15=>if 0≤y4 then ((a0[y4.toNat]?).bind fun x19=>if (Op.bytesLess x15 x19)=true then (if -9223372036854775808≤(y4+1)∧(y4+1)≤9223372036854775807 then (bW a0 m8 y3 (y4+1)) else none) else some (Lp.ret false)) else none) else none) else none) else (some (Lp.go (y3,y4)))
def eG (a0:List (List UInt8)):Option (Bool):=(bW a0 ((((a0.length:Int)) - (1)).toNat+1) false 1).bind fun e=>match e with | .ret r=>some r | .go (y24,y25)=>some true
theorem lH (a0:List (List UInt8)) (A1:Option Addr) (c2:Nat) (r:Bool) (h:eG a0=some r):aE Tryz.prog 190 #[.slice A1 a0.length c2] (RX.of (ao 1 rz) [.slice A1 a0.length c2] a0) (aO) (fun v A' N=>v= .bool r∧A'=aO∧N = []):=by
 refine aU Tryz.func190 Z Tryz.ntmps190 Z ?_
 intro F w hX
 unfold eG at h
 refine GC Z (GK am Z (T.seq (GC Z (GK am Z (T.block ?_)))))
 obtain⟨E5,hE6,hO7⟩:=JO h
 refine Hv (fun m e Rs=> ∃ (y3:Bool) (y4:Int),e = [(0,.slice A1 a0.length c2),(2,.bool y3),(3,jI y4)]∧Rs = [aO]∧bW a0 m y3 y4=some E5) ((((a0.length:Int)) - (1)).toNat+1) [0] ⟨false,1,Z,Z,by exact hE6⟩ (by rfl) (by rfl) ?_
 clear hE6 h
 rintro m8 _ _ ⟨y3,y4,rfl,rfl,h⟩
 cases m8 with
 | zero =>
  rw[bW] at h
  cases h
 | succ m8 =>
  rw[bW] at h
  refine T.seq (GC Z (GB am 2 Z (GE Z (GQ Z Ls) Z (GB am 1 Z ?_))))
  rcases jF h with⟨c12,h⟩ | ⟨c12,h⟩
  ·refine G9 Z c12 ?_
   refine GW (T.seq (T.block (T.seq (Hp (.q 0 (.q 1 (.q 2 (.q 3 (.q 4 (.q 5 (.q 6 (.q 7 (.q 8 (.q 9 .nil)))))))))) [0] Z oP (NoP.seq (NoP.blk (NoP.seq (NoP.seq (NoP.blk (NoP.seq bA)))))) (by kernel_rfl) ?_))))
   obtain⟨c13,h⟩:=ay h
   refine TD.run am [0,1] Z Z (GM Z (Ex.sub Z Z c13) Z ?_)
   obtain⟨c14,h⟩:=ay h
   obtain⟨x15,hx16,h⟩:=JO h
   obtain⟨gz17,oz17,rfl,z17cs,z17cl,z17cc,z17nf,z17r⟩:=Hg (by decide) hX hx16
   obtain⟨z17S,z17r,z17rr⟩:=z17r
   obtain rfl:z17cs = [jS x15]:=z17r
   refine GM Z (GY (k:=(y4 - 1).toNat) Z Z ((Int.toNat_of_nonneg c14).symm) Ls Kk (JV hx16).1) Z ?_
   refine GM Z (Hr 0 Z Ks z17nf z17cc Z Z) Z ?_
   obtain⟨c18,h⟩:=ay h
   obtain⟨x19,hx20,h⟩:=JO h
   obtain⟨z21cs,z21cl,z21cc,z21nf,z21r⟩:=IA (by decide) hX hx20
   obtain⟨z21S,z21r,z21rr⟩:=z21r
   obtain rfl:z21cs = [jS x19]:=z21r
   refine TD.run am [5,6] Z Z ?_
   refine GM Z (GY (k:=y4.toNat) Z Z ((Int.toNat_of_nonneg c18).symm) Ls Kk (JV hx20).1) Z ?_
   refine GM Z (Hr 0 Z Ks z21nf z21cc Z Z) Z (GM Z (Ex.sGe Z Z) Z ?_)
   rcases jF h with⟨c22,h⟩ | ⟨c22,h⟩
   ·refine HX (G7 Z (aZ c22) (T.skip (GX (X.seq (T.region Z ?_)))))
    obtain⟨c23,h⟩:=ay h
    exact GB am 1 Z (GE Z (Ex.add Z Z c23) Z (GB am 1 Z (TL.nil (X.back (m':=m8) [0] (by omega) ⟨y3,(y4+1),Z,Z,h⟩ (by rfl) (by rfl)))))
   replace c22:=JW c22
   refine HX (GO Z (bw c22) (GC Z (GB am 1 Z ?_)))
   obtain rfl:=JP h
   obtain rfl:=JP hO7
   exact GD (T.ret (GN (GH (GH (GN (GH (GL [0] Tryz.results190 (GF Z))))))))
  refine Ha Z c12 ?_
  obtain rfl:=JP h
  replace h:=hO7
  clear hO7
  try dsimp only at h
  refine T.exit (GT (GT (Hu (X.seq (GC Z (GB am 1 Z ?_))))))
  obtain rfl:=JP h
  exact GD (T.ret (GL [0] Tryz.results190 (GF Z)))
def di:List Top→Bool→List (List UInt8)→Option (Lp Bool (Bool×List (List UInt8)))
 | [],y3,y4=>some (Lp.go (y3,y4))
 | x12::xs,y3,y4=>if x12.Jd = [] then some (Lp.ret false) else (if (x12.Jd.length:Int)>32767 then some (Lp.ret false) else ((iA x12.I7).bind fun x22=>if x22=true then (if (y4.length+1)*16≤140737488355328 then (di xs y3 (y4 ++ [x12.Jd])) else none) else some (Lp.ret false)))
def eH (a0:List Top):Option (Bool):=(di a0 false []).bind fun e=>match e with | .ret r=>some r | .go (y29,y30)=>((eG y30).bind fun x34=>some x34)
theorem fR (a0:List Top) (A1:Option Addr) (c2:Nat) (r:Bool) (h:eH a0=some r):aE Tryz.prog 146 #[.slice A1 a0.length c2] (RX.of (ao 2 ba) [.slice A1 a0.length c2] a0) (aO) (fun v A' N=>v= .bool r∧A'=aO∧N = []):=by
 refine aU Tryz.func146 Z Tryz.ntmps146 Z ?_
 intro F w hX
 unfold eH at h
 refine GC Z (G4 am Z Z (GK am Z (T.seq (GC Z (GB am 1 Z (GE Z (GQ Z J8) Z (GB am 1 Z ?_)))))))
 refine GD (T.block (Ih 9 1 rz ?_))
 obtain⟨E8,hE9,hO10⟩:=JO h
 have hk14len:=Hq hX
 refine Hv (fun m e Rs=> ∃ (y3:Bool) (y4:List (List UInt8)) (A5:Option Addr) (c6:Nat) (k7:Nat),k7+m=a0.length∧e = [(2,.bool y3),(3,.slice A5 y4.length c6),(6,.slice A1 a0.length c2),(7,jI (a0.length:Int)),(8,jI (k7:Int))]∧Rs = [cI 9 1 rz (.slice A5 y4.length c6) y4,aO]∧di (a0.drop k7) y3 y4=some E8) (a0.length) [0,0] ⟨false,[],none,0,0,by simp,Z,Z,by rw[List.drop_zero]; exact hE9⟩ (by rfl) (by rfl) ?_
 clear hE9 h
 rintro m11 _ _ ⟨y3,y4,A5,c6,k7,hk14,rfl,rfl,h⟩
 cases m11 with
 | zero =>
  rw[List.drop_of_length_le (by omega),di] at h
  have hk14ge: ¬ ((k7:Int)<(a0.length:Int)):=by omega
  refine GC Z (GK am Z (T.seq (G7 Z (JT hk14ge) ?_)))
  obtain rfl:=JP h
  replace h:=hO10
  clear hO10
  try dsimp only at h
  refine T.exit (GT (GT (Hu (X.seq (GC Z ?_)))))
  obtain⟨x36,hx37,h⟩:=JO h
  refine GB am 1 Z (GZ Z .u (.fn Tryz.call190 Z) (lH y4 _ _ _ hx37) (fun _ hs=>(SrcE.res 0 hs Z (fun w G h=>ed (by decide) w G h))) Z (GB am 1 Z ?_))
  obtain rfl:=JP h
  exact GD (T.ret (GL [1] MM (GF Z)))
 | succ m11 =>
  obtain⟨x12,hxx12⟩: ∃ x,a0[k7]? = some x:=⟨_,List.getElem?_eq_getElem (by omega)⟩
  rw[bz hxx12,di] at h
  have hk14lt:(k7:Int)<(a0.length:Int):=by omega
  refine GC Z (GK am Z (T.seq (GO Z (JS hk14lt) ?_)))
  obtain⟨gz15,oz15,rfl,z15cs,z15cl,z15cc,z15nf,z15r⟩:=Hg (by decide) hX hxx12
  obtain⟨z15S,z15r,z15rr⟩:=z15r
  obtain⟨A16,c17,rfl,z15s0⟩:=z15r
  have hX18:(RX.of (ao 1 jL) [.slice A16 x12.I7.length c17] x12.I7).reads w F:=⟨z15S,z15s0,z15rr⟩
  refine GW (T.seq (T.block (GC Z ?_)))
  refine GE Z (GY (k:=k7) Z Z Z J8 Km (JV hxx12).1) Z ?_
  refine GE Z (HW (us := [jS x12.Jd,.slice A16 x12.I7.length c17]) 0 Z Md Km z15nf z15cc Z Z Z) Z (TL.alloc Z .u Tryz.zeroValue171 Z (fun b19=>(GU (cs':= #[jS x12.Jd,.slice A16 x12.I7.length c17]) Z .u Z Z Km Z Z Z Z (GD (T.seq (GC Z (GG am bE 0 Z 2 Z Z (GE Z (Ex.sEq Z (m := []) Z) Z ?_))))))))
  rcases jF h with⟨c20,h⟩ | ⟨c20,h⟩
  ·refine GB am 1 Z (GI 15 Z (JS c20) (Hk am Z (GO Z Z (GC Z (GB am 1 Z ?_)))))
   obtain rfl:=JP h
   obtain rfl:=JP hO10
   exact GD (T.ret (GH (GN (GH (GH (GN (GH (GL [2] MM (GF Z)))))))))
  refine GB am 1 Z (GI 15 Z (JT c20) (GG am bE 0 Z 2 Z Z (TL.q Z (.g Z Z Z) (Hw Z J3) Z ?_)))
  rcases jF h with⟨c21,h⟩ | ⟨c21,h⟩
  ·refine GJ am 3 Z (GI 21 Z (JS c21) (Hk am Z (GO Z Z (GC Z (GB am 1 Z ?_)))))
   obtain rfl:=JP h
   obtain rfl:=JP hO10
   exact GD (T.ret (GH (GN (GH (GH (GN (GH (GL [2] MM (GF Z)))))))))
  refine GJ am 3 Z (GI 21 Z (JT c21) ?_)
  obtain⟨x22,hx23,h⟩:=JO h
  refine GG am bE 0 Z 2 Z Z (GZ Z (.g Z Z Z) (.fn Tryz.call189 Z) (pL x12.I7 _ _ _ hx23) (fun _ hs=>(GS hs hX18)) Z (GJ am 2 Z ?_))
  rcases jF h with⟨c24,h⟩ | ⟨c24,h⟩
  ·refine GD (G7 Z (aZ c24) (GW (T.region Z (GG am bE 0 Z 3 Z Z (Ix (cells:= #[jS x12.Jd]) Z .u uA Z (by rfl) Z (fun b25=> ?_))))))
   obtain⟨c26,h⟩:=ay h
   refine TL.app1 1 Z .u (us := [jS x12.Jd]) (u:=x12.Jd) (l:=y4) (E:=rz) Tryz.underlying78 yG Z (by decide) Z Z Z Z Z Z (fun _ _=>Z) (by have hq:=c26; omega) (by have hq:=c26; omega) Z (fun A27 c28=> ?_)
   exact Hz [0,0,0] Z (GB am 1 Z (TL.nil (GX (X.seq (T.region Z (GE Z (Ex.add Z Z (by omega)) Z (GB am 1 Z (TL.nil (X.back (m':=m11) [1,1] (by omega) ⟨y3,(y4 ++ [x12.Jd]),A27,c28,k7+1,by omega,Z,Z,h⟩ (by rfl) (by rfl))))))))))
  replace c24:=JW c24
  refine GD (GO Z (bw c24) (GC Z (GB am 1 Z ?_)))
  obtain rfl:=JP h
  obtain rfl:=JP hO10
  exact GD (T.ret (GH (GN (GH (GH (GN (GH (GL [2] MM (GF Z)))))))))
def iB (a0:Val):Option (Int):=if a0.I6<0 then some 11 else (if a0.I8<0 then some 11 else ((il a0.I8 2).bind fun x6=>if x6=true then (if a0.Jb<0 then some 11 else ((il a0.Jb 4).bind fun x10=>if x10=true then (if a0.JN<0 then some 11 else (if a0.JM<(-1) then some 11 else (if a0.JL<0 then some 12 else (if a0.JL≥7 then some 12 else ((kP a0.JL).bind fun x17=>if x17=true then (if (a0.I5.length:Int)=0 then (if a0.JL=0 then (if a0.JM=(-1) then ((eH a0.I5).bind fun x23=>if x23=true then some 0 else some 13) else some 10) else (if a0.JM=(-1) then some 10 else ((eH a0.I5).bind fun x27=>if x27=true then some 0 else some 13))) else some 10) else (if (a0.I5.length:Int)=0 then some 10 else (if a0.JL=0 then (if a0.JM=(-1) then ((eH a0.I5).bind fun x33=>if x33=true then some 0 else some 13) else some 10) else (if a0.JM=(-1) then some 10 else ((eH a0.I5).bind fun x37=>if x37=true then some 0 else some 13))))))))) else some 11)) else some 11))
theorem pM (a0:Val) (A1:Option Addr) (c2:Nat) (r:Int) (h:iB a0=some r):aE Tryz.prog 90 #[.agg #[jI a0.I6,jI a0.I8,jI a0.Jb,jI a0.JL,.slice A1 a0.I5.length c2,jI a0.JN,jI a0.JM]] (RX.of (ao 2 ba) [.slice A1 a0.I5.length c2] a0.I5) (aO) (fun v A' N=>v=jI r∧A'=aO∧N = []):=by
 refine aU Tryz.func90 Z Tryz.ntmps90 Z ?_
 intro F w hX
 unfold iB at h
 refine GC Z (TL.box Z .u Z Z (fun b3=>(GK am Z (T.seq (T.block (GC Z ?_))))))
 rcases jF h with⟨c4,h⟩ | ⟨c4,h⟩
 ·refine GG am bE 0 Z 4 Z Z (GI 7 Z (JS c4) (Hk am Z (GO Z Z (GC Z (GB am 1 Z ?_)))))
  obtain rfl:=JP h
  exact GD (T.ret (GN (GH (GL [1] KB (GF Z)))))
 refine GG am bE 0 Z 4 Z Z (GI 7 Z (JT c4) ?_)
 rcases jF h with⟨c5,h⟩ | ⟨c5,h⟩
 ·refine GG am bE 0 Z 5 Z Z (GI 12 Z (JS c5) (Hk am Z (GO Z Z (GC Z (GB am 1 Z ?_)))))
  obtain rfl:=JP h
  exact GD (T.ret (GN (GH (GL [1] KB (GF Z)))))
 refine GG am bE 0 Z 5 Z Z (GI 12 Z (JT c5) ?_)
 obtain⟨x6,hx7,h⟩:=JO h
 refine GG am bE 0 Z 2 Z Z (GZ Z (.g Z Z Z) (.fn Tryz.call101 Z) (Hy (fun w=>de a0.I8 2 _ hx7 w)) (fun _ _=>Hi _ _) Z ?_)
 rcases jF h with⟨c8,h⟩ | ⟨c8,h⟩
 ·refine GJ am 3 Z (GI 18 Z (aZ c8) ?_)
  rcases jF h with⟨c9,h⟩ | ⟨c9,h⟩
  ·refine GG am bE 0 Z 5 Z Z (GI 23 Z (JS c9) (Hk am Z (GO Z Z (GC Z (GB am 1 Z ?_)))))
   obtain rfl:=JP h
   exact GD (T.ret (GN (GH (GL [1] KB (GF Z)))))
  refine GG am bE 0 Z 5 Z Z (GI 23 Z (JT c9) ?_)
  obtain⟨x10,hx11,h⟩:=JO h
  refine GG am bE 0 Z 2 Z Z (GZ Z (.g Z Z Z) (.fn Tryz.call101 Z) (Hy (fun w=>de a0.Jb 4 _ hx11 w)) (fun _ _=>Hi _ _) Z ?_)
  rcases jF h with⟨c12,h⟩ | ⟨c12,h⟩
  ·refine GJ am 3 Z (GI 29 Z (aZ c12) ?_)
   rcases jF h with⟨c13,h⟩ | ⟨c13,h⟩
   ·refine GG am bE 0 Z 5 Z Z (GI 34 Z (JS c13) (Hk am Z (GO Z Z (GC Z (GB am 1 Z ?_)))))
    obtain rfl:=JP h
    exact GD (T.ret (GN (GH (GL [1] KB (GF Z)))))
   refine GG am bE 0 Z 5 Z Z (GI 34 Z (JT c13) (GG am bE 0 Z 5 Z Z ?_))
   rcases jF h with⟨c14,h⟩ | ⟨c14,h⟩
   ·refine G9 Z c14 (GC Z (GB am 1 Z ?_))
    obtain rfl:=JP h
    exact GD (T.ret (GN (GH (GL [1] KB (GF Z)))))
   refine Ha Z c14 (GC Z ?_)
   rcases jF h with⟨c15,h⟩ | ⟨c15,h⟩
   ·refine GG am bE 0 Z 4 Z Z (GI 43 Z (JS c15) (Hk am Z (GO Z Z (GC Z (GB am 1 Z ?_)))))
    obtain rfl:=JP h
    exact GD (T.ret (GN (GH (GL [1] KB (GF Z)))))
   refine GG am bE 0 Z 4 Z Z (GI 43 Z (JT c15) (GG am bE 0 Z 5 Z Z ?_))
   rcases jF h with⟨c16,h⟩ | ⟨c16,h⟩
   ·refine G9 Z c16 (GC Z (GB am 1 Z ?_))
    obtain rfl:=JP h
    exact GD (T.ret (GN (GH (GL [1] KB (GF Z)))))
   refine Ha Z c16 ?_
   refine T.seq (Hp (.q 0 (.q 1 (.q 3 (.q 4 (.q 5 (.q 6 (.e 2 (.q 7 (.q 8 (.q 9 (.q 10 (.q 11 (.q 12 (.q 13 (.q 14 (.q 15 (.q 16 (.q 17 .nil)))))))))))))))))) [0,0] Z oP (NoP.seq (NoP.blk (NoP.seq bA))) (by kernel_rfl) ?_)
   refine TD.run am [0] Z Z (GM Z (G5 0 Z JZ Z Z) Z (TD.run am [3] Z Z (GM Z (G5 0 Z Lm Z Z) Z (GM Z (GQ Z J8) Z ?_))))
   obtain⟨x17,hx18,h⟩:=JO h
   refine TD.run am [6] Z Z (Iv Z .u (.fn Tryz.call145 Z) (qE a0.JL _ hx18) rT Z [0,0] (Z) ?_)
   rcases jF h with⟨c19,h⟩ | ⟨c19,h⟩
   ·rcases jF h with⟨c20,h⟩ | ⟨c20,h⟩
    ·refine GM Z (Id Z c19 Z (JS c20) Ki) Z (TD.run am [8] Z Z (TD.q Z (.g Z Z Z) (Hm am Z) Z (TD.q Z (.g Z Z Z) (G5 0 Z JZ Z Z) Z ?_)))
     iterate 2 refine TD.q Z (.g Z Z Z) (Hm am Z) Z ?_
     refine TD.q Z (.g Z Z Z) (G5 0 Z JZ Z Z) Z (TD.q Z (.g Z Z Z) (Hm am Z) Z ?_)
     rcases jF h with⟨c21,h⟩ | ⟨c21,h⟩
     ·rcases jF h with⟨c22,h⟩ | ⟨c22,h⟩
      ·refine TD.q Z (.g Z Z Z) (Id Z (JS c21) Z (JS c22) Ki) Z (GM Z (H9 Z Z Z) Z (TD.run am [17] Z Z (HX (G7 Z Z (GC Z ?_)))))
       obtain⟨x23,hx24,h⟩:=JO h
       refine GG am bE 0 Z 2 Z Z (GZ Z .u (.fn Tryz.call146 Z) (fR a0.I5 _ _ _ hx24) (fun _ hs=>(GS hs hX)) Z (GB am 2 Z ?_))
       rcases jF h with⟨c25,h⟩ | ⟨c25,h⟩
       ·refine GD (G7 Z (aZ c25) (T.skip (GX (X.seq (GC Z (GB am 1 Z ?_))))))
        obtain rfl:=JP h
        exact GD (T.ret (GL [1] KB (GF Z)))
       replace c25:=JW c25
       refine GD (GO Z (bw c25) (GC Z (GB am 1 Z ?_)))
       obtain rfl:=JP h
       exact GD (T.ret (GN (GH (GL [1] KB (GF Z)))))
      refine TD.q Z (.g Z Z Z) (Id Z (JS c21) Z (JT c22) Ki) Z (GM Z (H9 Z Z Z) Z (TD.run am [17] Z Z (HX (GO Z Z (GC Z (GB am 1 Z ?_))))))
      obtain rfl:=JP h
      exact GD (T.ret (GN (GH (GL [1] KB (GF Z)))))
     rcases jF h with⟨c26,h⟩ | ⟨c26,h⟩
     ·refine TD.q Z (.g Z Z Z) (Id Z (JT c21) Z (JS c26) Ki) Z (GM Z (H9 Z Z Z) Z (TD.run am [17] Z Z (HX (GO Z Z (GC Z (GB am 1 Z ?_))))))
      obtain rfl:=JP h
      exact GD (T.ret (GN (GH (GL [1] KB (GF Z)))))
     refine TD.q Z (.g Z Z Z) (Id Z (JT c21) Z (JT c26) Ki) Z (GM Z (H9 Z Z Z) Z (TD.run am [17] Z Z (HX (G7 Z Z (GC Z ?_)))))
     obtain⟨x27,hx28,h⟩:=JO h
     refine GG am bE 0 Z 2 Z Z (GZ Z .u (.fn Tryz.call146 Z) (fR a0.I5 _ _ _ hx28) (fun _ hs=>(GS hs hX)) Z (GB am 2 Z ?_))
     rcases jF h with⟨c29,h⟩ | ⟨c29,h⟩
     ·refine GD (G7 Z (aZ c29) (T.skip (GX (X.seq (GC Z (GB am 1 Z ?_))))))
      obtain rfl:=JP h
      exact GD (T.ret (GL [1] KB (GF Z)))
     replace c29:=JW c29
     refine GD (GO Z (bw c29) (GC Z (GB am 1 Z ?_)))
     obtain rfl:=JP h
     exact GD (T.ret (GN (GH (GL [1] KB (GF Z)))))
    refine GM Z (Id Z c19 Z (JT c20) Ki) Z (TD.run am [8] Z Z ?_)
    iterate 7 refine HU Z (.gn Z Z Z) Z ?_
    refine GM Z (Ia Z Z Z) Z (TD.run am [17] Z Z (HX (GO Z Z (GC Z (GB am 1 Z ?_)))))
    obtain rfl:=JP h
    exact GD (T.ret (GN (GH (GL [1] KB (GF Z)))))
   replace c19:=JW c19
   rcases jF h with⟨c30,h⟩ | ⟨c30,h⟩
   ·refine GM Z (Id Z c19 Z (JS c30) Ki) Z (TD.run am [8] Z Z ?_)
    iterate 7 refine HU Z (.gn Z Z Z) Z ?_
    refine GM Z (Ia Z Z Z) Z (TD.run am [17] Z Z (HX (GO Z Z (GC Z (GB am 1 Z ?_)))))
    obtain rfl:=JP h
    exact GD (T.ret (GN (GH (GL [1] KB (GF Z)))))
   refine GM Z (Id Z c19 Z (JT c30) Ki) Z (TD.run am [8] Z Z (TD.q Z (.g Z Z Z) (Hm am Z) Z (TD.q Z (.g Z Z Z) (G5 0 Z JZ Z Z) Z ?_)))
   iterate 2 refine TD.q Z (.g Z Z Z) (Hm am Z) Z ?_
   refine TD.q Z (.g Z Z Z) (G5 0 Z JZ Z Z) Z (TD.q Z (.g Z Z Z) (Hm am Z) Z ?_)
   rcases jF h with⟨c31,h⟩ | ⟨c31,h⟩
   ·rcases jF h with⟨c32,h⟩ | ⟨c32,h⟩
    ·refine TD.q Z (.g Z Z Z) (Id Z (JS c31) Z (JS c32) Ki) Z (GM Z (H9 Z Z Z) Z (TD.run am [17] Z Z (HX (G7 Z Z (GC Z ?_)))))
     obtain⟨x33,hx34,h⟩:=JO h
     refine GG am bE 0 Z 2 Z Z (GZ Z .u (.fn Tryz.call146 Z) (fR a0.I5 _ _ _ hx34) (fun _ hs=>(GS hs hX)) Z (GB am 2 Z ?_))
     rcases jF h with⟨c35,h⟩ | ⟨c35,h⟩
     ·refine GD (G7 Z (aZ c35) (T.skip (GX (X.seq (GC Z (GB am 1 Z ?_))))))
      obtain rfl:=JP h
      exact GD (T.ret (GL [1] KB (GF Z)))
     replace c35:=JW c35
     refine GD (GO Z (bw c35) (GC Z (GB am 1 Z ?_)))
     obtain rfl:=JP h
     exact GD (T.ret (GN (GH (GL [1] KB (GF Z)))))
    refine TD.q Z (.g Z Z Z) (Id Z (JS c31) Z (JT c32) Ki) Z (GM Z (H9 Z Z Z) Z (TD.run am [17] Z Z (HX (GO Z Z (GC Z (GB am 1 Z ?_))))))
    obtain rfl:=JP h
    exact GD (T.ret (GN (GH (GL [1] KB (GF Z)))))
   rcases jF h with⟨c36,h⟩ | ⟨c36,h⟩
   ·refine TD.q Z (.g Z Z Z) (Id Z (JT c31) Z (JS c36) Ki) Z (GM Z (H9 Z Z Z) Z (TD.run am [17] Z Z (HX (GO Z Z (GC Z (GB am 1 Z ?_))))))
    obtain rfl:=JP h
    exact GD (T.ret (GN (GH (GL [1] KB (GF Z)))))
   refine TD.q Z (.g Z Z Z) (Id Z (JT c31) Z (JT c36) Ki) Z (GM Z (H9 Z Z Z) Z (TD.run am [17] Z Z (HX (G7 Z Z (GC Z ?_)))))
   obtain⟨x37,hx38,h⟩:=JO h
   refine GG am bE 0 Z 2 Z Z (GZ Z .u (.fn Tryz.call146 Z) (fR a0.I5 _ _ _ hx38) (fun _ hs=>(GS hs hX)) Z (GB am 2 Z ?_))
   rcases jF h with⟨c39,h⟩ | ⟨c39,h⟩
   ·refine GD (G7 Z (aZ c39) (T.skip (GX (X.seq (GC Z (GB am 1 Z ?_))))))
    obtain rfl:=JP h
    exact GD (T.ret (GL [1] KB (GF Z)))
   replace c39:=JW c39
   refine GD (GO Z (bw c39) (GC Z (GB am 1 Z ?_)))
   obtain rfl:=JP h
   exact GD (T.ret (GN (GH (GL [1] KB (GF Z)))))
  replace c12:=JW c12
  refine GJ am 3 Z (GI 29 Z (bw c12) (Hk am Z (GO Z Z (GC Z (GB am 1 Z ?_)))))
  obtain rfl:=JP h
  exact GD (T.ret (GN (GH (GL [1] KB (GF Z)))))
 replace c8:=JW c8
 refine GJ am 3 Z (GI 18 Z (bw c8) (Hk am Z (GO Z Z (GC Z (GB am 1 Z ?_)))))
 obtain rfl:=JP h
 exact GD (T.ret (GN (GH (GL [1] KB (GF Z)))))
def cw (x24:Int):Nat→Nat→List Int→I→Option (Nat×List Int×I)
 | 0,_,_,_=>none
 | m35+1,k27,y28,st31=>if (k27:Int)<x24 then ((dL st31 4).bind fun (x40,st41)=>if (y28.length+1)*8≤140737488355328 then (if -9223372036854775808≤((k27:Int)+1)∧((k27:Int)+1)≤9223372036854775807 then (cw x24 m35 (k27+1) (y28 ++ [x40]) st41) else none) else none) else some (k27,y28,st31)
def bR (x1:Int):Nat→List Top→List Top→Nat→I→Option (Lp (List Top×I) (List Top×List Top×Nat×I))
 | 0,_,_,_,_=>none
 | m15+1,y4,y7,k10,st11=>if (k10:Int)<x1 then ((qr st11).bind fun (x20,st21)=>(ip st21 4 4).bind fun (x24,st25)=>(cw x24 ((x24).toNat+1) 0 [] st25).bind fun (k57,y58,st61)=>if (y7.length+1)*40≤140737488355328 then ((gJ st61).bind fun (x66,st67)=>if x66=0 then (if -9223372036854775808≤((k10:Int)+1)∧((k10:Int)+1)≤9223372036854775807 then (bR x1 m15 y4 (y7 ++ [(⟨x20,y58⟩:Top)]) (k10+1) st67) else none) else (some (Lp.ret ([],st67)))) else none) else (some (Lp.go (y4,y7,k10,st11)))
def dA (st:I)  : Option (List Top×I):=(ip st 4 6).bind fun (x1,st2)=>(bR x1 ((x1).toNat+1) [] [] 0 st2).bind fun e=>match e with | .ret r=>some r | .go (y71,y74,k77,st78)=>some (y74,st78)
theorem kG (g:Nat) (st:I)  (r:List Top×I) (h:dA st  = some r):aE Tryz.prog 89 #[jP g] .triv (InR g st) (fun v A' N=> ∃ (A79:Option Addr) (c80:Nat),v= .slice A79 r.1.length c80∧A'=InR g r.2∧N = [RdR (ao 2 ba) [.slice A79 r.1.length c80] r.1]):=by
 refine aU Tryz.func89 Z Tryz.ntmps89 Z ?_
 intro F w hX
 unfold dA at h
 refine GC Z (G4 am Z Z (GK am Z (T.seq (GC Z ?_))))
 obtain⟨⟨x1,st2⟩,hx3,h⟩:=JO h
 try dsimp only at h
 refine GB am 1 Z (Ht Z .u (.fn Tryz.call144 Z) (ka g st 4 6 _ hx3) sT Z (GK am Z (T.block ?_)))
 iterate 2 refine Ih 171 2 ba ?_
 obtain⟨E12,hE13,hO14⟩:=JO h
 refine Hv (fun m e Rs=> ∃ (y4:List Top) (A5:Option Addr) (c6:Nat) (y7:List Top) (A8:Option Addr) (c9:Nat) (k10:Nat) (st11:I),e = [(0,jP g),(2,.slice A5 y4.length c6),(3,.slice A8 y7.length c9),(6,jI x1),(7,jI (k10:Int))]∧Rs = [cI 171 2 ba (.slice A5 y4.length c6) y4,cI 171 2 ba (.slice A8 y7.length c9) y7,InR g st11]∧bR x1 m y4 y7 k10 st11=some E12) ((x1).toNat+1) [0,0,0] ⟨[],none,0,[],none,0,0,st2,Z,Z,by exact hE13⟩ (by rfl) (by rfl) ?_
 clear hE13 h
 rintro m15 _ _ ⟨y4,A5,c6,y7,A8,c9,k10,st11,rfl,rfl,h⟩
 cases m15 with
 | zero =>
  rw[bR] at h
  cases h
 | succ m15 =>
  rw[bR] at h
  refine GC Z (GB am 1 Z ?_)
  rcases jF h with⟨c19,h⟩ | ⟨c19,h⟩
  ·refine GD (T.seq (Ij Z c19 (GW (T.seq (T.block (GC Z ?_))))))
   obtain⟨⟨x20,st21⟩,hx22,h⟩:=JO h
   try dsimp only at h
   refine GB am 1 Z (HY Z .u (.fn Tryz.call86 Z) (mN g st11 _ hx22) sT Z ?_)
   refine GE Z (Hf (cells:= #[jS x20,.slice none 0 0]) vX Z (by kernel_rfl)) Z ?_
   refine TL.alloc Z .u Tryz.zeroValue171 Z (fun b23=>(GU (cs':= #[jS x20,.slice none 0 0]) Z .u Z Z Km Z Z Z Z (GD (T.seq (GC Z ?_)))))
   obtain⟨⟨x24,st25⟩,hx26,h⟩:=JO h
   try dsimp only at h
   refine GB am 1 Z (Iu Z .u (.fn Tryz.call144 Z) (ka g st21 4 4 _ hx26) sT Z (GK am Z (T.block (Ih 3 1 jL ?_))))
   obtain⟨E32,hE33,hO34⟩:=JO h
   refine Hv (fun m e Rs=> ∃ (k27:Nat) (y28:List Int) (A29:Option Addr) (c30:Nat) (st31:I),e = [(0,jP g),(2,.slice A5 y4.length c6),(3,.slice A8 y7.length c9),(4,jP b23),(6,jI x1),(7,jI (k10:Int)),(13,jI x24),(14,jI (k27:Int))]∧Rs = [cI 3 1 jL (.slice A29 y28.length c30) y28,aT b23 171 #[jS x20,.slice A29 y28.length c30],cI 171 2 ba (.slice A5 y4.length c6) y4,cI 171 2 ba (.slice A8 y7.length c9) y7,InR g st31]∧cw x24 m k27 y28 st31=some E32) ((x24).toNat+1) [0,0,0,0,0] ⟨0,[],none,0,st25,Z,Z,by exact hE33⟩ (by rfl) (by rfl) ?_
   clear hE33 h
   rintro m35 _ _ ⟨k27,y28,A29,c30,st31,rfl,rfl,h⟩
   cases m35 with
   | zero =>
    rw[cw] at h
    cases h
   | succ m35 =>
    rw[cw] at h
    refine GC Z (GB am 1 Z ?_)
    rcases jF h with⟨c39,h⟩ | ⟨c39,h⟩
    ·refine GD (T.seq (Ij Z c39 ?_))
     obtain⟨⟨x40,st41⟩,hx42,h⟩:=JO h
     try dsimp only at h
     obtain⟨c44,h⟩:=ay h
     refine GW (T.seq (T.block ?_))
     refine IX (fun e Rs=> ∃ (b43:Nat) (A45:Option Addr) (c46:Nat),e = [(0,jP g),(2,.slice A5 y4.length c6),(3,.slice A8 y7.length c9),(4,jP b23),(6,jI x1),(7,jI (k10:Int)),(13,jI x24),(14,jI (k27:Int))]∧Rs = [cI 3 1 jL (.slice A45 (y28 ++ [x40]).length c46) (y28 ++ [x40]),aT b23 171 #[jS x20,.slice A45 (y28 ++ [x40]).length c46],cI 171 2 ba (.slice A5 y4.length c6) y4,cI 171 2 ba (.slice A8 y7.length c9) y7,InR g st41]) ?_ ?_
     ·refine Hp (.q 0 (.q 2 (.br 1 (.e 3 (.e 4 (.e 5 (.q 6 (.e 7 .nil))))) (.e 3 (.br 1 (.e 4 (.e 5 (.q 6 (.e 7 .nil)))) (.e 4 (.e 1 (.e 5 (.q 6 (.e 7 .nil)))))))))) [2,2] Z oP ul (by kernel_rfl) ?_
      refine TD.run am [0,2] Z Z ?_
      refine TD.br ?_ ?_
      ·refine II Z .u (G5 1 Z K3 Z Z) Z [2,2] Z (TD.c4 Z .u (.fn Tryz.call68 Z) (bj g st31 4 _ hx42) sT Z [2,2] (Z) (Ip (cells:= #[jI x40]) Z .u ls Z (by rfl) Z [3,3] (fun _=>Z) (fun b43=> ?_)))
       refine TD.app1 0 Z .u (us := [jI x40]) (u:=x40) (l:=y28) (E:=jL) Tryz.underlying74 nZ Z (by decide) Z Z Z Z Z Z (fun _ _=>Z) (by have hq:=c44; omega) (by have hq:=c44; omega) Z [2,2] (fun _ _=>Z) (fun A45 c46=> ?_)
       exact Ic [0,0,0,0,0] Z (TD.run am [6] Z Z (IP (cs':= #[jS x20,.slice A45 (y28 ++ [x40]).length c46]) Z .u Z Z LF Z Z Z Z [2,2] (Z) (TD.nil (IC [0,0,0,0,0] ⟨b43,A45,c46,Z,Z⟩ (by rfl) (by rfl)))))
      refine TD.c4 Z .u (.fn Tryz.call68 Z) (bj g st31 4 _ hx42) sT Z [2,2] (Z) ?_
      refine TD.br ?_ ?_
      ·refine II Z .u (G5 1 Z K3 Z Z) Z [2,2] Z (Ip (cells:= #[jI x40]) Z .u ls Z (by rfl) Z [3,3] (fun _=>Z) (fun b43=> ?_))
       refine TD.app1 0 Z .u (us := [jI x40]) (u:=x40) (l:=y28) (E:=jL) Tryz.underlying74 nZ Z (by decide) Z Z Z Z Z Z (fun _ _=>Z) (by have hq:=c44; omega) (by have hq:=c44; omega) Z [2,2] (fun _ _=>Z) (fun A45 c46=> ?_)
       exact Ic [0,0,0,0,0] Z (TD.run am [6] Z Z (IP (cs':= #[jS x20,.slice A45 (y28 ++ [x40]).length c46]) Z .u Z Z LF Z Z Z Z [2,2] (Z) (TD.nil (IC [0,0,0,0,0] ⟨b43,A45,c46,Z,Z⟩ (by rfl) (by rfl)))))
      refine Ip (cells:= #[jI x40]) Z .u ls Z (by rfl) Z [3,3] (fun _=>Z) (fun b43=>(II Z .u (G5 2 Z K3 Z Z) Z [3,3] Z ?_))
      refine TD.app1 0 Z .u (us := [jI x40]) (u:=x40) (l:=y28) (E:=jL) Tryz.underlying74 nZ Z (by decide) Z Z Z Z Z Z (fun _ _=>Z) (by have hq:=c44; omega) (by have hq:=c44; omega) Z [2,2] (fun _ _=>Z) (fun A45 c46=> ?_)
      exact Ic [0,0,0,0,0] Z (TD.run am [6] Z Z (IP (cs':= #[jS x20,.slice A45 (y28 ++ [x40]).length c46]) Z .u Z Z LF Z Z Z Z [2,2] (Z) (TD.nil (IC [0,0,0,0,0] ⟨b43,A45,c46,Z,Z⟩ (by rfl) (by rfl)))))
     rintro _ _ ⟨b43,A45,c46,rfl,rfl⟩
     obtain⟨c47,h⟩:=ay h
     exact GX (X.seq (T.region Z (GE Z (Ex.add Z Z c47) Z (GB am 1 Z (TL.nil (X.back (m':=m35) [0,0,0,0,0] (by omega) ⟨k27+1,(y28 ++ [x40]),A45,c46,st41,Z,Z,h⟩ (by rfl) (by rfl)))))))
    refine GD (T.seq (Io Z c39 ?_))
    obtain rfl:=JP h
    replace h:=hO34
    clear hO34
    try dsimp only at h
    refine T.exit (GT (GT (Hu (X.seq (GC Z (GB am 1 Z (GE Z (GR (us := [jS x20,.slice A29 y28.length c30]) 1 Z Md Km Z Z Z) Z (Ix (cells:= #[jS x20,.slice A29 y28.length c30]) Z .u uz Z (by rfl) Z (fun b48=> ?_)))))))))
    obtain⟨c49,h⟩:=ay h
    refine IV 3 0 Z .u (us := [jS x20,.slice A29 y28.length c30]) (u:=(⟨x20,y28⟩:Top)) (l:=y7) (E:=ba) Tryz.underlying28 vY Z (by decide) Z Z Z Z Z Z Z (fun w G hG=>⟨_,_,Z,ed (by decide) _ _ hG⟩) (by have hq:=c49; omega) (by have hq:=c49; omega) Z (fun A50 c51=> ?_)
    refine Hz [0,0,0,0] Z (G4 am Z Z ?_)
    obtain⟨⟨x52,st53⟩,hx54,h⟩:=JO h
    try dsimp only at h
    refine GB am 1 Z (Iu Z .u (.fn Tryz.call23 Z) (cc g st31 _ hx54) sT Z (GB am 1 Z ?_))
    rcases jF h with⟨c55,h⟩ | ⟨c55,h⟩
    ·refine He Z c55 ?_
     obtain⟨c56,h⟩:=ay h
     exact T.skip (GX (X.seq (T.region Z (GE Z (Ex.add Z Z c56) Z (GB am 1 Z (TL.nil (X.back (m':=m15) [2,0,1] (by omega) ⟨y4,A5,c6,(y7 ++ [(⟨x20,y28⟩:Top)]),A50,c51,k10+1,st53,Z,Z,h⟩ (by rfl) (by rfl))))))))
    refine Hc Z c55 (GC Z (GB am 1 Z ?_))
    obtain rfl:=JP h
    obtain rfl:=JP hO14
    exact GD (T.ret (GN (GH (GH (GN (GH (G6 2 ba (G8 [4,0] Tryz.results89 (GF Z) ⟨_,_,Z,Z,Z⟩ (by rfl) (.inl Z)))))))))
  refine GD (T.seq (Io Z c19 ?_))
  obtain rfl:=JP h
  replace h:=hO14
  clear hO14
  try dsimp only at h
  refine T.exit (GT (GT (Hu (X.seq (GC Z (GB am 2 Z ?_))))))
  obtain rfl:=JP h
  exact GD (T.ret (IZ (by decide) 1 Z (HK [0,0,0] Z (G8 [2,1] Tryz.results89 (GF Z) ⟨_,_,Z,Z,Z⟩ (by rfl) (.inl Z)))))
def ft_txn:eP := [(23,0,0),(23,1,1),(27,0,0),(27,1,2),(27,2,3),(27,3,4),(30,0,0),(30,1,1),(30,2,2),(30,3,3),(32,0,0),(32,1,1),(32,2,2),(32,3,3)]
theorem ar:(ft_txn).OK Tryz.prog:=⟨FOK.mk Kf rfl Kr rfl,FOK.mk Kf rfl Kk rfl,FOK.mk K8 rfl J2 rfl,FOK.mk K8 rfl JX rfl,FOK.mk K8 rfl JX rfl,FOK.mk K8 rfl JX rfl,FOK.mk KW rfl Kk rfl,FOK.mk KW rfl JX rfl,FOK.mk KW rfl JX rfl,FOK.mk KW rfl LG rfl,FOK.mk KP rfl Kk rfl,FOK.mk KP rfl JX rfl,FOK.mk KP rfl JX rfl,FOK.mk KP rfl Kr rfl,trivial⟩
def nt_txn:List Nat := [3,4,9,28]
theorem bQ:NOK Tryz.prog nt_txn:=⟨JZ,KG,Ks,Lm,trivial⟩
theorem qF (v : Value) (w : World) : (method (Tryz.prog.types.size + Made.depth) 30 v "Check").run Tryz.prog w = .ok (170, v) w := ut (k := Tryz.prog.types.size + Made.depth - 1) (by kernel_rfl) (by kernel_rfl) KW v w
theorem qG (v : Value) (w : World) : (method (Tryz.prog.types.size + Made.depth) 32 v "Check").run Tryz.prog w = .ok (172, v) w := ut (k := Tryz.prog.types.size + Made.depth - 1) (by kernel_rfl) (by kernel_rfl) KP v w
theorem uB:BOK Tryz.prog 27 #[.bool false,.string ⟨#[]⟩,.int .i64 0,.int .i64 0,.int .i64 0] [(0,2),(2,1),(3,1),(4,1)]:=BOK.mk Tryz.zeroValue27 K8 (by intro w; simp)
theorem uC:BOK Tryz.prog 30 #[.string ⟨#[]⟩,.int .i64 0,.int .i64 0,.slice none 0 0] [(0,1),(1,1),(2,1),(3,1)]:=BOK.mk Tryz.zeroValue30 KW (by intro w; simp)
theorem uD:BOK Tryz.prog 32 #[.string ⟨#[]⟩,.int .i64 0,.int .i64 0,.bool false] [(0,1),(1,1),(2,1),(3,1)]:=BOK.mk Tryz.zeroValue32 KP (by intro w; simp)
theorem yH:BOK Tryz.prog 103 #[.int .i64 0,.int .i64 0,.int .i64 0,.int .i64 0,.slice none 0 0,.int .i64 0,.int .i64 0] [(0,1),(1,1),(2,1),(3,1),(4,1),(5,1),(6,1)]:=BOK.mk Tryz.zeroValue103 La (by intro w; simp)
def iI (st:List UInt8×Int) (a1:Int):Option (Bool×(List UInt8×Int)):=(if a1=0 then some st else ((jH st a1).bind fun st7=>some st7)).bind fun st4=>if a1=0 then some (false,st4) else some (true,st4)
theorem kv (g:Nat) (st:List UInt8×Int) (a1:Int) (r:Bool×(List UInt8×Int)) (h:iI st a1=some r):aE Tryz.prog 151 #[jP g,jI a1] .triv (bm g st) (fun v A' N=>v= .bool r.1∧A'=bm g r.2∧N = []):=by
 refine aU Tryz.func151 Z Tryz.ntmps151 Z ?_
 intro F w hX
 unfold iI at h
 refine GC Z (GK ar Z (T.seq (GC Z (GK ar Z ?_))))
 obtain⟨st4,h,hk5⟩:=JO h
 refine HJ (fun e Rs=>e = [(1,jI a1),(4,.bool false)]∧Rs = [bm g st4]) ?_ ?_
 ·clear hk5
  rcases jF h with⟨c6,h⟩ | ⟨c6,h⟩
  ·refine T.nn Z c6 ?_
   cases h
   exact T.skip (GP [0])
  refine T.yn Z c6 (T.region Z ?_)
  obtain⟨st7,hx8,h⟩:=JO h
  refine GB ar 2 Z (Ht Z .u (.fn Tryz.call94 Z) (ga g st a1 _ hx8) sT Z ?_)
  cases h
  exact TL.nil (GP [0])
 rintro _ _ ⟨rfl,rfl⟩
 clear h
 have h:=hk5
 clear hk5
 try dsimp only at h
 refine X.seq (GC Z (GB ar 3 Z ?_))
 rcases jF h with⟨c9,h⟩ | ⟨c9,h⟩
 ·obtain rfl:=JP h
  exact GD (T.ret (G8 [0] Tryz.results151 (GF (v:= .bool false) (congrArg (fun b=>some (Value.bool b)) (aZ (JS c9)))) ⟨Z,Z,Z⟩ (by rfl) (.inl Z)))
 obtain rfl:=JP h
 exact GD (T.ret (G8 [0] Tryz.results151 (GF (v:= .bool true) (congrArg (fun b=>some (Value.bool b)) (bw (JT c9)))) ⟨Z,Z,Z⟩ (by rfl) (.inl Z)))
def iV (a0:Int) (a1:Int):Option (Bool):=(if a0≥0 then (if a1≥0 then ((il a1 2).bind fun x9=>some x9) else some false) else some false).bind fun y5=>some y5
theorem jl (a0:Int) (a1:Int) (r:Bool) (h:iV a0 a1=some r):aE Tryz.prog 192 #[jI a0,jI a1] .triv (aO) (fun v A' N=>v= .bool r∧A'=aO∧N = []):=by
 refine aU Tryz.func192 Z Tryz.ntmps192 Z ?_
 intro F w hX
 unfold iV at h
 refine GC Z (GK ar Z (T.seq ?_))
 obtain⟨y5,h,hk6⟩:=JO h
 refine HJ (fun e Rs=>e = [(4,.bool y5)]∧Rs = [aO]) ?_ ?_
 ·clear hk6
  refine T.region Z ?_
  rcases jF h with⟨c7,h⟩ | ⟨c7,h⟩
  ·refine GB ar 3 Z (GI 7 Z (JS c7) ?_)
   rcases jF h with⟨c8,h⟩ | ⟨c8,h⟩
   ·refine GJ ar 4 Z (GI 11 Z (JS c8) ?_)
    obtain⟨x9,hx10,h⟩:=JO h
    refine GJ ar 1 Z (GZ Z (.g Z Z Z) (.fn Tryz.call101 Z) (Hy (fun w=>de a1 2 _ hx10 w)) (fun _ _=>Hi _ _) Z (GJ ar 2 Z ?_))
    cases h
    exact TL.nil (GP [0])
   refine GJ ar 4 Z (GI 11 Z (JT c8) (GJ ar 4 Z ?_))
   cases h
   exact TL.nil (GP [0])
  refine GB ar 3 Z (GI 7 Z (JT c7) (GJ ar 8 Z ?_))
  cases h
  exact TL.nil (GP [0])
 rintro _ _ ⟨rfl,rfl⟩
 clear h
 have h:=hk6
 clear hk6
 try dsimp only at h
 obtain rfl:=JP h
 exact X.seq (T.ret (GL [0] Tryz.results192 (GF Z)))
def fb (a0:aX) (a1:Int):Option (Int):=(if a0.I6=(-1) then (if a0.I8=(-1) then some true else some false) else some false).bind fun y3=>((nQ a0.Jc).bind fun x15=>if x15=true then (if a0.Jc.null=true then some false else ((lL a0.Jc.data).bind fun x19=>if x19=true then some false else some true)) else some true).bind fun y13=>if y13=true then some 4 else ((if a0.Jb<0 then some true else ((il a0.Jb 4).bind fun x29=>if x29=true then some false else some true)).bind fun y26=>(if y26=true then some true else ((if y3=true then some false else (if a1>0 then ((iV a0.I6 a0.I8).bind fun x55=>if x55=true then some false else some true) else some true)).bind fun y51=>some y51)).bind fun y44=>if y44=true then some 11 else some 0)
theorem jC (a0:aX) (a1:Int) (r:Int) (h:fb a0 a1=some r):aE Tryz.prog 152 #[.agg #[.bool a0.Jc.null,jS a0.Jc.data,jI a0.Jb,jI a0.I6,jI a0.I8],jI a1] .triv (aO) (fun v A' N=>v=jI r∧A'=aO∧N = []):=by
 refine aU Tryz.func152 Z Tryz.ntmps152 Z ?_
 intro F w hX
 unfold fb at h
 refine GC Z (TL.box Z .u Z Z (fun b1=>(GK ar Z (T.seq ?_))))
 obtain⟨y3,h,hk4⟩:=JO h
 refine HJ (fun e Rs=>e = [(1,jI a1),(2,jP b1),(4,jI 0),(5,.bool y3)]∧Rs = [aT b1 27 #[.bool a0.Jc.null,jS a0.Jc.data,jI a0.Jb,jI a0.I6,jI a0.I8],aO]) ?_ ?_
 ·clear hk4
  refine T.region Z ?_
  rcases jF h with⟨c5,h⟩ | ⟨c5,h⟩
  ·refine GG ar bQ 0 Z 4 Z Z (GI 9 Z (JS c5) (GG ar bQ 0 Z 5 Z Z ?_))
   rcases jF h with⟨c6,h⟩ | ⟨c6,h⟩
   ·cases h
    exact TL.nil (Hx (d:=5) (v':= .bool true) Z (congrArg Value.bool (JS c6)) (GP [0,0]))
   cases h
   exact TL.nil (Hx (d:=5) (v':= .bool false) Z (congrArg Value.bool (JT c6)) (GP [0,0]))
  refine GG ar bQ 0 Z 4 Z Z (GI 9 Z (JT c5) (GJ ar 5 Z ?_))
  cases h
  exact TL.nil (GP [0,0])
 rintro _ _ ⟨rfl,rfl⟩
 clear h
 have h:=hk4
 clear hk4
 try dsimp only at h
 refine X.seq (T.seq (T.block (T.seq ?_)))
 obtain⟨y13,h,hk14⟩:=JO h
 refine HJ (fun e Rs=>e = [(1,jI a1),(2,jP b1),(4,jI 0),(5,.bool y3),(14,.bool y13)]∧Rs = [aT b1 27 #[.bool a0.Jc.null,jS a0.Jc.data,jI a0.Jb,jI a0.I6,jI a0.I8],aO]) ?_ ?_
 ·clear hk14
  refine T.region Z (GB ar 1 Z (GE Z (GR (us := [.bool a0.Jc.null,jS a0.Jc.data]) 0 Z Kt J2 Z Z Z) Z ?_))
  obtain⟨x15,hx16,h⟩:=JO h
  refine GZ Z .u (.fn Tryz.call148 Z) (lK a0.Jc _ hx16) rT Z ?_
  rcases jF h with⟨c17,h⟩ | ⟨c17,h⟩
  ·refine GB ar 2 Z (GI 19 Z (aZ c17) ?_)
   rcases jF h with⟨c18,h⟩ | ⟨c18,h⟩
   ·refine GG ar bQ 0 Z 5 Z Z (GI 24 Z (aZ c18) (GJ ar 8 Z ?_))
    cases h
    exact TL.nil (GP [0,0])
   replace c18:=JW c18
   refine GG ar bQ 0 Z 5 Z Z (GI 24 Z (bw c18) ?_)
   obtain⟨x19,hx20,h⟩:=JO h
   refine GG ar bQ 0 Z 3 Z Z (GZ Z (.g Z Z Z) (.fn Tryz.call87 Z) (Hy (fun w=>kO a0.Jc.data _ hx20 w)) (fun _ _=>Hi _ _) Z (GJ ar 4 Z ?_))
   rcases jF h with⟨c21,h⟩ | ⟨c21,h⟩
   ·cases h
    exact TL.nil (Hx (d:=14) (v':= .bool false) Z (congrArg Value.bool (aZ c21)) (GP [0,0]))
   replace c21:=JW c21
   cases h
   exact TL.nil (Hx (d:=14) (v':= .bool true) Z (congrArg Value.bool (bw c21)) (GP [0,0]))
  replace c17:=JW c17
  refine GB ar 2 Z (GI 19 Z (bw c17) (GJ ar 13 Z ?_))
  cases h
  exact TL.nil (GP [0,0])
 rintro _ _ ⟨rfl,rfl⟩
 clear h
 have h:=hk14
 clear hk14
 try dsimp only at h
 rcases jF h with⟨c22,h⟩ | ⟨c22,h⟩
 ·refine X.seq (GO Z c22 (GC Z (GB ar 1 Z ?_)))
  obtain rfl:=JP h
  exact GD (T.ret (GN (GH (GL [1] Tryz.results152 (GF Z)))))
 replace c22:=JW c22
 refine X.seq (G7 Z c22 (In ?_))
 obtain⟨y26,h,hk27⟩:=JO h
 refine HJ (fun e Rs=>e = [(1,jI a1),(2,jP b1),(4,jI 0),(5,.bool y3),(32,.bool y26)]∧Rs = [aT b1 27 #[.bool a0.Jc.null,jS a0.Jc.data,jI a0.Jb,jI a0.I6,jI a0.I8],aO]) ?_ ?_
 ·clear hk27
  refine T.region Z ?_
  rcases jF h with⟨c28,h⟩ | ⟨c28,h⟩
  ·refine GG ar bQ 0 Z 4 Z Z (GI 36 Z (JS c28) (GJ ar 6 Z ?_))
   cases h
   exact TL.nil (GP [0,0])
  refine GG ar bQ 0 Z 4 Z Z (GI 36 Z (JT c28) ?_)
  obtain⟨x29,hx30,h⟩:=JO h
  refine GG ar bQ 0 Z 2 Z Z (GZ Z (.g Z Z Z) (.fn Tryz.call101 Z) (Hy (fun w=>de a0.Jb 4 _ hx30 w)) (fun _ _=>Hi _ _) Z (GJ ar 3 Z ?_))
  rcases jF h with⟨c31,h⟩ | ⟨c31,h⟩
  ·cases h
   exact TL.nil (Hx (d:=32) (v':= .bool false) Z (congrArg Value.bool (aZ c31)) (GP [0,0]))
  replace c31:=JW c31
  cases h
  exact TL.nil (Hx (d:=32) (v':= .bool true) Z (congrArg Value.bool (bw c31)) (GP [0,0]))
 rintro _ _ ⟨rfl,rfl⟩
 clear h
 have h:=hk27
 clear hk27
 try dsimp only at h
 refine X.seq ?_
 obtain⟨y44,h,hk45⟩:=JO h
 refine HJ (fun e Rs=>e = [(4,jI 0),(32,.bool y44)]∧Rs = [aT b1 27 #[.bool a0.Jc.null,jS a0.Jc.data,jI a0.Jb,jI a0.I6,jI a0.I8],aO]) ?_ ?_
 ·clear hk45
  rcases jF h with⟨c46,h⟩ | ⟨c46,h⟩
  ·refine GO Z c46 ?_
   cases h
   exact T.skip (Hx (d:=32) (v':= .bool true) Z (congrArg Value.bool c46) (GP [0,0]))
  replace c46:=JW c46
  refine G7 Z c46 ?_
  obtain⟨y51,h,hk52⟩:=JO h
  refine HJ (fun e Rs=>e = [(4,jI 0),(32,.bool y51)]∧Rs = [aT b1 27 #[.bool a0.Jc.null,jS a0.Jc.data,jI a0.Jb,jI a0.I6,jI a0.I8],aO]) ?_ ?_
  ·clear hk52
   refine T.region Z ?_
   rcases jF h with⟨c53,h⟩ | ⟨c53,h⟩
   ·refine GB ar 3 Z (GI 44 Z (aZ c53) (GJ ar 12 Z ?_))
    cases h
    exact TL.nil (GP [0,0])
   replace c53:=JW c53
   refine GB ar 3 Z (GI 44 Z (bw c53) ?_)
   rcases jF h with⟨c54,h⟩ | ⟨c54,h⟩
   ·refine GJ ar 3 Z (GI 47 Z (JS c54) ?_)
    obtain⟨x55,hx56,h⟩:=JO h
    refine GG ar bQ 0 Z 4 Z Z (GZ Z (.g Z Z Z) (.fn Tryz.call192 Z) (jl a0.I6 a0.I8 _ hx56) rT Z (GJ ar 4 Z ?_))
    rcases jF h with⟨c57,h⟩ | ⟨c57,h⟩
    ·cases h
     exact TL.nil (Hx (d:=32) (v':= .bool false) Z (congrArg Value.bool (aZ c57)) (GP [0,0]))
    replace c57:=JW c57
    cases h
    exact TL.nil (Hx (d:=32) (v':= .bool true) Z (congrArg Value.bool (bw c57)) (GP [0,0]))
   refine GJ ar 3 Z (GI 47 Z (JT c54) (GJ ar 9 Z ?_))
   cases h
   exact TL.nil (GP [0,0])
  rintro _ _ ⟨rfl,rfl⟩
  clear h
  have h:=hk52
  clear hk52
  try dsimp only at h
  cases h
  exact GP [0,0]
 rintro _ _ ⟨rfl,rfl⟩
 clear h
 have h:=hk45
 clear hk45
 try dsimp only at h
 rcases jF h with⟨c58,h⟩ | ⟨c58,h⟩
 ·refine X.seq (GO Z c58 (GC Z (GB ar 1 Z ?_)))
  obtain rfl:=JP h
  exact GD (T.ret (GN (GH (GL [1] Tryz.results152 (GF Z)))))
 replace c58:=JW c58
 refine X.seq (G7 Z c58 (T.skip (GX (X.seq (GC Z (GB ar 1 Z ?_))))))
 obtain rfl:=JP h
 exact GD (T.ret (GL [1] Tryz.results152 (GF Z)))
def fX (st:List UInt8×Int) (a0:aX) (a2:Int):Option (List UInt8×Int):=(fb a0 a2).bind fun x2=>(iI st x2).bind fun (x4,st5)=>if x4=true then some st5 else ((iM st5 a0.Jc 2).bind fun st8=>(dK st8 a0.Jb 4).bind fun st10=>(if a2>0 then ((dK st10 a0.I6 8).bind fun st20=>(dK st20 a0.I8 2).bind fun st22=>some st22) else some st10).bind fun st17=>some st17)
theorem nC (g:Nat) (st:List UInt8×Int) (a0:aX) (a2:Int) (r:List UInt8×Int) (h:fX st a0 a2=some r):aE Tryz.prog 96 #[.agg #[.bool a0.Jc.null,jS a0.Jc.data,jI a0.Jb,jI a0.I6,jI a0.I8],jP g,jI a2] .triv (bm g st) (fun v A' N=>v= .tuple #[]∧A'=bm g r∧N = []):=by
 refine aU Tryz.func96 Z Tryz.ntmps96 Z ?_
 intro F w hX
 unfold fX at h
 refine GC Z (TL.box Z .u Z Z (fun b1=>(GD (T.seq (GC Z (GB ar 1 Z (GE Z (GR (us := [.bool a0.Jc.null,jS a0.Jc.data,jI a0.Jb,jI a0.I6,jI a0.I8]) 0 Z Mt Lg Z Z Z) Z ?_)))))))
 obtain⟨x2,hx3,h⟩:=JO h
 refine GB ar 1 Z (GZ Z .u (.fn Tryz.call152 Z) (jC a0 a2 _ hx3) rT Z ?_)
 obtain⟨⟨x4,st5⟩,hx6,h⟩:=JO h
 try dsimp only at h
 refine Hh Z .u (.fn Tryz.call151 Z) (kv g st x2 _ hx6) sT Z ?_
 rcases jF h with⟨c7,h⟩ | ⟨c7,h⟩
 ·refine GD (GO Z c7 ?_)
  obtain rfl:=JP h
  exact T.ret (GH (H7 [1] Tryz.results96 ⟨Z,Z,Z⟩ (by rfl) (.inl Z)))
 replace c7:=JW c7
 refine GD (G7 Z c7 (Hb Z (GB ar 2 Z (GE Z (GR (us := [.bool a0.Jc.null,jS a0.Jc.data]) 0 Z Kt J2 Z Z Z) Z ?_))))
 obtain⟨st8,hx9,h⟩:=JO h
 refine Hh Z .u (.fn Tryz.call95 Z) (jb g st5 a0.Jc 2 _ hx9) sT Z (GV Z ?_)
 obtain⟨st10,hx11,h⟩:=JO h
 refine GG ar bQ 0 Z 3 Z Z (Hh Z .u (.fn Tryz.call51 Z) (bf g st8 a0.Jb 4 _ hx11) sT Z (GV Z (GK ar Z ?_)))
 obtain⟨st17,h,hk18⟩:=JO h
 refine HJ (fun e Rs=>e = []∧Rs = [aT b1 27 #[.bool a0.Jc.null,jS a0.Jc.data,jI a0.Jb,jI a0.I6,jI a0.I8],bm g st17]) ?_ ?_
 ·clear hk18
  rcases jF h with⟨c19,h⟩ | ⟨c19,h⟩
  ·refine Ij Z c19 (GC Z ?_)
   obtain⟨st20,hx21,h⟩:=JO h
   refine GG ar bQ 0 Z 3 Z Z (Hh Z .u (.fn Tryz.call51 Z) (bf g st10 a0.I6 8 _ hx21) sT Z (GD (T.region Z ?_)))
   obtain⟨st22,hx23,h⟩:=JO h
   refine GG ar bQ 0 Z 3 Z Z (Hh Z .u (.fn Tryz.call51 Z) (bf g st20 a0.I8 2 _ hx23) sT Z ?_)
   cases h
   exact TL.nil (GP [0,0])
  refine Io Z c19 ?_
  cases h
  exact T.skip (GP [0,0])
 rintro _ _ ⟨rfl,rfl⟩
 clear h
 have h:=hk18
 clear hk18
 try dsimp only at h
 obtain rfl:=JP h
 exact H7 [1] Tryz.results96 ⟨Z,Z,Z⟩ (by rfl) (.inr Z)
def jT (a0:List Top):Option (Int):=if (a0.length:Int)=0 then some 10 else ((iB (⟨0,0,0,1,a0,0,0⟩:Val)).bind fun x5=>some x5)
theorem np (a0:List Top) (A1:Option Addr) (c2:Nat) (r:Int) (h:jT a0=some r):aE Tryz.prog 210 #[.slice A1 a0.length c2] (RX.of (ao 2 ba) [.slice A1 a0.length c2] a0) (aO) (fun v A' N=>v=jI r∧A'=aO∧N = []):=by
 refine aU Tryz.func210 Z Tryz.ntmps210 Z ?_
 intro F w hX
 unfold jT at h
 refine GC Z (GK ar Z (T.seq (GC Z (GB ar 1 Z (GE Z (GQ Z J8) Z (GB ar 1 Z ?_))))))
 rcases jF h with⟨c3,h⟩ | ⟨c3,h⟩
 ·refine G9 Z c3 (GC Z (GB ar 1 Z ?_))
  obtain rfl:=JP h
  exact GD (T.ret (GH (GL [0] Tryz.results210 (GF Z))))
 refine Ha Z c3 (Hb Z (GB ar 1 Z ?_))
 refine GE Z (Hf (cells:= #[jI 0,jI 0,jI 0,jI 1,.slice A1 a0.length c2,jI 0,jI 0]) yH Z (by kernel_rfl)) Z ?_
 refine TL.alloc Z .u Tryz.zeroValue103 Z (fun b4=>(GU (cs':= #[jI 0,jI 0,jI 0,jI 1,.slice A1 a0.length c2,jI 0,jI 0]) Z .u Z Z Tryz.sizeOf103 Z Z Z Z (GV Z (GE Z (GR (us := [jI 0,jI 0,jI 0,jI 1,.slice A1 a0.length c2,jI 0,jI 0]) 0 Z Tryz.isAgg103 Tryz.sizeOf103 Z Z Z) Z ?_))))
 obtain⟨x5,hx6,h⟩:=JO h
 refine GZ Z .u (.fn Tryz.call90 Z) (pM (⟨0,0,0,1,a0,0,0⟩:Val) _ _ _ hx6) (fun _ hs=>(GS hs hX)) Z (GB ar 1 Z ?_)
 obtain rfl:=JP h
 exact GD (T.ret (GL [1] Tryz.results210 (GF Z)))
def fY (a0:bJ):Option (Int):=(lL a0.Jc).bind fun x4=>if x4=true then ((iV a0.I6 a0.I8).bind fun x7=>if x7=true then ((jT a0.I5).bind fun x10=>some x10) else some 11) else some 4
theorem kH (a0:bJ) (A1:Option Addr) (c2:Nat) (r:Int) (h:fY a0=some r):aE Tryz.prog 170 #[.agg (wA9 a0 A1 c2)] (RX.of (ao 2 ba) [.slice A1 a0.I5.length c2] a0.I5) (aO) (fun v A' N=>v=jI r∧A'=aO∧N = []):=by
 refine aU Tryz.func170 Z Tryz.ntmps170 Z ?_
 intro F w hX
 unfold fY at h
 refine GC Z (TL.box Z .u Z Z (fun b3=>(GK ar Z (T.seq (T.block (GC Z ?_))))))
 obtain⟨x4,hx5,h⟩:=JO h
 refine GG ar bQ 0 Z 2 Z Z (GZ Z .u (.fn Tryz.call87 Z) (Hy (fun w=>kO a0.Jc _ hx5 w)) (fun _ _=>Hi _ _) Z (GB ar 2 Z ?_))
 rcases jF h with⟨c6,h⟩ | ⟨c6,h⟩
 ·refine GD (G7 Z (aZ c6) (GC Z ?_))
  obtain⟨x7,hx8,h⟩:=JO h
  refine GG ar bQ 0 Z 4 Z Z (GZ Z .u (.fn Tryz.call192 Z) (jl a0.I6 a0.I8 _ hx8) rT Z (GB ar 2 Z ?_))
  rcases jF h with⟨c9,h⟩ | ⟨c9,h⟩
  ·refine GD (G7 Z (aZ c9) (T.skip (GX (X.seq (GC Z ?_)))))
   obtain⟨x10,hx11,h⟩:=JO h
   refine GG ar bQ 0 Z 2 Z Z (GZ Z .u (.fn Tryz.call210 Z) (np a0.I5 _ _ _ hx11) (fun _ hs=>(GS hs hX)) Z (GB ar 1 Z ?_))
   obtain rfl:=JP h
   exact GD (T.ret (GL [1] Tryz.results170 (GF Z)))
  replace c9:=JW c9
  refine GD (GO Z (bw c9) (GC Z (GB ar 1 Z ?_)))
  obtain rfl:=JP h
  exact GD (T.ret (GN (GH (GL [1] Tryz.results170 (GF Z)))))
 replace c6:=JW c6
 refine GD (GO Z (bw c6) (GC Z (GB ar 1 Z ?_)))
 obtain rfl:=JP h
 exact GD (T.ret (GN (GH (GL [1] Tryz.results170 (GF Z)))))
def gj (st:List UInt8×Int) (a1:bJ):Option (Bool×(List UInt8×Int)):=(fY a1).bind fun x3=>(iI st x3).bind fun (x5,st6)=>some (x5,st6)
theorem mz (g:Nat) (st:List UInt8×Int) (a1:bJ) (A1:Option Addr) (c2:Nat) (r:Bool×(List UInt8×Int)) (h:gj st a1=some r):aE Tryz.prog 153 #[jP g,.iface 30 (.agg (wA9 a1 A1 c2))] (RX.of (ao 2 ba) [.slice A1 a1.I5.length c2] a1.I5) (bm g st) (fun v A' N=>v= .bool r.1∧A'=bm g r.2∧N = []):=by
 refine aU Tryz.func153 Z Tryz.ntmps153 Z ?_
 intro F w hX
 unfold gj at h
 refine GC Z (G4 ar Z Z ?_)
 obtain⟨x3,hx4,h⟩:=JO h
 refine GB ar 2 Z (GZ Z .u (.inv Z (qF _) Tryz.call170 Z) (kH a1 _ _ _ hx4) (fun _ hs=>(GS hs hX)) Z ?_)
 obtain⟨⟨x5,st6⟩,hx7,h⟩:=JO h
 try dsimp only at h
 refine Ht Z .u (.fn Tryz.call151 Z) (kv g st x3 _ hx7) sT Z (GB ar 1 Z ?_)
 obtain rfl:=JP h
 exact GD (T.ret (GL [0] Tryz.results153 (GF Z)))
def gZ (st:List UInt8×Int) (a0:bJ):Option (List UInt8×Int):=(gj st a0).bind fun (x4,st5)=>if x4=true then some st5 else ((jc st5 a0.Jc).bind fun st8=>(dK st8 a0.I6 8).bind fun st10=>(dK st10 a0.I8 2).bind fun st12=>(eK st12 a0.I5).bind fun st14=>some st14)
theorem o7 (g:Nat) (st:List UInt8×Int) (a0:bJ) (A1:Option Addr) (c2:Nat) (r:List UInt8×Int) (h:gZ st a0=some r):aE Tryz.prog 97 #[.agg (wA9 a0 A1 c2),jP g] (RX.of (ao 2 ba) [.slice A1 a0.I5.length c2] a0.I5) (bm g st) (fun v A' N=>v= .tuple #[]∧A'=bm g r∧N = []):=by
 refine aU Tryz.func97 Z Tryz.ntmps97 Z ?_
 intro F w hX
 unfold gZ at h
 refine GC Z (TL.box Z .u Z Z (fun b3=>(GD (T.seq (GC Z (GB ar 1 Z (GE Z (GR (us:=wL10 a0 A1 c2) 0 Z Mu Lh Z Z Z) Z (GE Z (Ex.mkI Z KW) Z ?_))))))))
 obtain⟨⟨x4,st5⟩,hx6,h⟩:=JO h
 try dsimp only at h
 refine Hh Z .u (.fn Tryz.call153 Z) (mz g st a0 _ _ _ hx6) (fun _ hs=>(Iw hs hX)) Z ?_
 rcases jF h with⟨c7,h⟩ | ⟨c7,h⟩
 ·refine GD (GO Z c7 ?_)
  obtain rfl:=JP h
  exact T.ret (GH (H7 [1] Tryz.results97 ⟨Z,Z,Z⟩ (by rfl) (.inl Z)))
 replace c7:=JW c7
 refine GD (G7 Z c7 (Hb Z ?_))
 obtain⟨st8,hx9,h⟩:=JO h
 refine GG ar bQ 0 Z 3 Z Z (Hh Z .u (.fn Tryz.call88 Z) (j2 g st5 a0.Jc _ hx9) sT Z (GV Z ?_))
 obtain⟨st10,hx11,h⟩:=JO h
 refine GG ar bQ 0 Z 3 Z Z (Hh Z .u (.fn Tryz.call51 Z) (bf g st8 a0.I6 8 _ hx11) sT Z (GV Z ?_))
 obtain⟨st12,hx13,h⟩:=JO h
 refine GG ar bQ 0 Z 3 Z Z (Hh Z .u (.fn Tryz.call51 Z) (bf g st10 a0.I8 2 _ hx13) sT Z (GD (T.region Z ?_)))
 obtain⟨st14,hx15,h⟩:=JO h
 refine GG ar bQ 0 Z 3 Z Z (Hh Z .u (.fn Tryz.call91 Z) (jk g st12 a0.I5 _ _ _ hx15) (fun _ hs=>(Iw hs hX)) Z ?_)
 obtain rfl:=JP h
 exact TL.nil (H7 [1] Tryz.results97 ⟨Z,Z,Z⟩ (by rfl) (.inr Z))
def gG (st:List UInt8×Int) (a1:Bool):Option (List UInt8×Int):=(if a1=true then ((rt st 1).bind fun st9=>some st9) else ((rt st 0).bind fun st11=>some st11)).bind fun st6=>some st6
theorem lu (g:Nat) (st:List UInt8×Int) (a1:Bool) (r:List UInt8×Int) (h:gG st a1=some r):aE Tryz.prog 154 #[jP g,.bool a1] .triv (bm g st) (fun v A' N=>v= .tuple #[]∧A'=bm g r∧N = []):=by
 refine aU Tryz.func154 Z Tryz.ntmps154 Z ?_
 intro F w hX
 unfold gG at h
 refine GC Z (GK ar Z ?_)
 obtain⟨st6,h,hk7⟩:=JO h
 refine HJ (fun e Rs=>e = []∧Rs = [bm g st6]) ?_ ?_
 ·clear hk7
  rcases jF h with⟨c8,h⟩ | ⟨c8,h⟩
  ·refine GO Z c8 (T.region Z ?_)
   obtain⟨st9,hx10,h⟩:=JO h
   refine GB ar 1 Z (Ht Z .u (.fn Tryz.call102 Z) (nO g st 1 _ hx10) sT Z ?_)
   cases h
   exact TL.nil (GP [0])
  replace c8:=JW c8
  refine G7 Z c8 (T.region Z ?_)
  obtain⟨st11,hx12,h⟩:=JO h
  refine GB ar 1 Z (Ht Z .u (.fn Tryz.call102 Z) (nO g st 0 _ hx12) sT Z ?_)
  cases h
  exact TL.nil (GP [0])
 rintro _ _ ⟨rfl,rfl⟩
 clear h
 have h:=hk7
 clear hk7
 try dsimp only at h
 obtain rfl:=JP h
 exact H7 [0] Tryz.results154 ⟨Z,Z,Z⟩ (by rfl) (.inr Z)
def fZ (a0:bI):Option (Int):=(lL a0.Jc).bind fun x2=>if x2=true then ((iV a0.I6 a0.I8).bind fun x5=>if x5=true then some 0 else some 11) else some 4
theorem kI (a0:bI) (r:Int) (h:fZ a0=some r):aE Tryz.prog 172 #[.agg (wA11 a0)] .triv (aO) (fun v A' N=>v=jI r∧A'=aO∧N = []):=by
 refine aU Tryz.func172 Z Tryz.ntmps172 Z ?_
 intro F w hX
 unfold fZ at h
 refine GC Z (TL.box Z .u Z Z (fun b1=>(GK ar Z (T.seq (T.block (GC Z ?_))))))
 obtain⟨x2,hx3,h⟩:=JO h
 refine GG ar bQ 0 Z 2 Z Z (GZ Z .u (.fn Tryz.call87 Z) (Hy (fun w=>kO a0.Jc _ hx3 w)) (fun _ _=>Hi _ _) Z (GB ar 2 Z ?_))
 rcases jF h with⟨c4,h⟩ | ⟨c4,h⟩
 ·refine GD (G7 Z (aZ c4) (GC Z ?_))
  obtain⟨x5,hx6,h⟩:=JO h
  refine GG ar bQ 0 Z 4 Z Z (GZ Z .u (.fn Tryz.call192 Z) (jl a0.I6 a0.I8 _ hx6) rT Z (GB ar 2 Z ?_))
  rcases jF h with⟨c7,h⟩ | ⟨c7,h⟩
  ·refine GD (G7 Z (aZ c7) (T.skip (GX (X.seq (GC Z (GB ar 1 Z ?_))))))
   obtain rfl:=JP h
   exact GD (T.ret (GL [1] Tryz.results172 (GF Z)))
  replace c7:=JW c7
  refine GD (GO Z (bw c7) (GC Z (GB ar 1 Z ?_)))
  obtain rfl:=JP h
  exact GD (T.ret (GN (GH (GL [1] Tryz.results172 (GF Z)))))
 replace c4:=JW c4
 refine GD (GO Z (bw c4) (GC Z (GB ar 1 Z ?_)))
 obtain rfl:=JP h
 exact GD (T.ret (GN (GH (GL [1] Tryz.results172 (GF Z)))))
def gk (st:List UInt8×Int) (a1:bI):Option (Bool×(List UInt8×Int)):=(fZ a1).bind fun x1=>(iI st x1).bind fun (x3,st4)=>some (x3,st4)
theorem mA (g:Nat) (st:List UInt8×Int) (a1:bI) (r:Bool×(List UInt8×Int)) (h:gk st a1=some r):aE Tryz.prog 153 #[jP g,.iface 32 (.agg (wA11 a1))] .triv (bm g st) (fun v A' N=>v= .bool r.1∧A'=bm g r.2∧N = []):=by
 refine aU Tryz.func153 Z Tryz.ntmps153 Z ?_
 intro F w hX
 unfold gk at h
 refine GC Z (G4 ar Z Z ?_)
 obtain⟨x1,hx2,h⟩:=JO h
 refine GB ar 2 Z (GZ Z .u (.inv Z (qG _) Tryz.call172 Z) (kI a1 _ hx2) rT Z ?_)
 obtain⟨⟨x3,st4⟩,hx5,h⟩:=JO h
 try dsimp only at h
 refine Ht Z .u (.fn Tryz.call151 Z) (kv g st x1 _ hx5) sT Z (GB ar 1 Z ?_)
 obtain rfl:=JP h
 exact GD (T.ret (GL [0] Tryz.results153 (GF Z)))
def g6 (st:List UInt8×Int) (a0:bI):Option (List UInt8×Int):=(gk st a0).bind fun (x2,st3)=>if x2=true then some st3 else ((jc st3 a0.Jc).bind fun st6=>(dK st6 a0.I6 8).bind fun st8=>(dK st8 a0.I8 2).bind fun st10=>(gG st10 a0.Js).bind fun st12=>some st12)
theorem o8 (g:Nat) (st:List UInt8×Int) (a0:bI) (r:List UInt8×Int) (h:g6 st a0=some r):aE Tryz.prog 98 #[.agg (wA11 a0),jP g] .triv (bm g st) (fun v A' N=>v= .tuple #[]∧A'=bm g r∧N = []):=by
 refine aU Tryz.func98 Z Tryz.ntmps98 Z ?_
 intro F w hX
 unfold g6 at h
 refine GC Z (TL.box Z .u Z Z (fun b1=>(GD (T.seq (GC Z (GB ar 1 Z (GE Z (GR (us:=yF a0) 0 Z LL K2 Z Z Z) Z (GE Z (Ex.mkI Z KP) Z ?_))))))))
 obtain⟨⟨x2,st3⟩,hx4,h⟩:=JO h
 try dsimp only at h
 refine Hh Z .u (.fn Tryz.call153 Z) (mA g st a0 _ hx4) sT Z ?_
 rcases jF h with⟨c5,h⟩ | ⟨c5,h⟩
 ·refine GD (GO Z c5 ?_)
  obtain rfl:=JP h
  exact T.ret (GH (H7 [1] Tryz.results98 ⟨Z,Z,Z⟩ (by rfl) (.inl Z)))
 replace c5:=JW c5
 refine GD (G7 Z c5 (Hb Z ?_))
 obtain⟨st6,hx7,h⟩:=JO h
 refine GG ar bQ 0 Z 3 Z Z (Hh Z .u (.fn Tryz.call88 Z) (j2 g st3 a0.Jc _ hx7) sT Z (GV Z ?_))
 obtain⟨st8,hx9,h⟩:=JO h
 refine GG ar bQ 0 Z 3 Z Z (Hh Z .u (.fn Tryz.call51 Z) (bf g st6 a0.I6 8 _ hx9) sT Z (GV Z ?_))
 obtain⟨st10,hx11,h⟩:=JO h
 refine GG ar bQ 0 Z 3 Z Z (Hh Z .u (.fn Tryz.call51 Z) (bf g st8 a0.I8 2 _ hx11) sT Z (GD (T.region Z ?_)))
 obtain⟨st12,hx13,h⟩:=JO h
 refine GG ar bQ 0 Z 3 Z Z (Hh Z .u (.fn Tryz.call154 Z) (lu g st10 a0.Js _ hx13) sT Z ?_)
 obtain rfl:=JP h
 exact TL.nil (H7 [1] Tryz.results98 ⟨Z,Z,Z⟩ (by rfl) (.inr Z))
def gl (a0:aX) (a1:Int):Option (Int):=(fb a0 a1).bind fun x1=>some x1
theorem mB (a0:aX) (ba0:Nat) (a1:Int) (ba1:Nat) (r:Int) (h:gl a0 a1=some r):aE Tryz.prog 169 #[jP ba0,jP ba1] (RX.and (RX.blk ba0 27 #[.bool a0.Jc.null,jS a0.Jc.data,jI a0.Jb,jI a0.I6,jI a0.I8]) (RX.blk ba1 3 #[jI a1])) (aO) (fun v A' N=>v=jI r∧A'=aO∧N = []):=by
 refine aU Tryz.func169 Z Tryz.ntmps169 Z ?_
 intro F w hX
 unfold gl at h
 refine GC Z (G4 ar Z Z (GE Z (Ex.xbS (us := [.bool a0.Jc.null,jS a0.Jc.data,jI a0.Jb,jI a0.I6,jI a0.I8]) (Ho hX) Z Mt Lg Z Z) Z (GE Z (Ex.xb1 (G3 hX) Z JZ Z) Z ?_)))
 obtain⟨x1,hx2,h⟩:=JO h
 refine GZ Z .u (.fn Tryz.call152 Z) (jC a0 a1 _ hx2) rT Z (GB ar 1 Z ?_)
 obtain rfl:=JP h
 exact GD (T.ret (GL [0] Tryz.results169 (GF Z)))
def ck (st:I) (a1_0:aX) (a1_1:Int):Option (Bool×I):=(gJ st).bind fun (x1,st2)=>if x1=0 then ((gl a1_0 a1_1).bind fun x5=>if x5=0 then some (true,st2) else ((bU st2 x5).bind fun st8=>some (false,st8))) else some (false,st2)
theorem jm (g:Nat) (st:I) (a1_0:aX) (ba1_0:Nat) (a1_1:Int) (ba1_1:Nat) (r:Bool×I) (h:ck st a1_0 a1_1=some r):aE Tryz.prog 168 #[jP g,.func (.func 169) #[] #[jP ba1_0,jP ba1_1]] (RX.and (RX.blk ba1_0 27 #[.bool a1_0.Jc.null,jS a1_0.Jc.data,jI a1_0.Jb,jI a1_0.I6,jI a1_0.I8]) (RX.blk ba1_1 3 #[jI a1_1])) (InR g st) (fun v A' N=>v= .bool r.1∧A'=InR g r.2∧N = []):=by
 refine aU Tryz.func168 Z Tryz.ntmps168 Z ?_
 intro F w hX
 unfold ck at h
 refine GC Z (GK ar Z (T.seq (GC Z ?_)))
 obtain⟨⟨x1,st2⟩,hx3,h⟩:=JO h
 try dsimp only at h
 refine GB ar 1 Z (Ht Z .u (.fn Tryz.call23 Z) (cc g st _ hx3) sT Z (GB ar 1 Z ?_))
 rcases jF h with⟨c4,h⟩ | ⟨c4,h⟩
 ·refine He Z c4 (GW (T.seq (GC Z ?_)))
  obtain⟨x5,hx6,h⟩:=JO h
  refine GB ar 1 Z (GZ Z .u (.val Z Tryz.call169 Z Z) (mB a1_0 ba1_0 a1_1 ba1_1 _ hx6) (fun _ hs=>(Hn (GS hs (Ho hX)) (GS hs (G3 hX)))) Z (G4 ar Z Z (GB ar 2 Z ?_)))
  rcases jF h with⟨c7,h⟩ | ⟨c7,h⟩
  ·refine He Z c7 (Hb Z (GB ar 1 Z ?_))
   obtain rfl:=JP h
   exact GD (T.ret (GL [0] Lu (GF Z)))
  refine Hc Z c7 (GC Z ?_)
  obtain⟨st8,hx9,h⟩:=JO h
  refine GB ar 2 Z (Ht Z .u (.fn Tryz.call70 Z) (bx g st2 x5 _ hx9) sT Z (GV Z (GB ar 1 Z ?_)))
  obtain rfl:=JP h
  exact GD (T.ret (GH (GL [0] Lu (GF Z))))
 refine Hc Z c4 (GC Z (GB ar 1 Z ?_))
 obtain rfl:=JP h
 exact GD (T.ret (GH (GL [0] Lu (GF Z))))
def eh (st:I) (a1:Int):Option (aX×I):=(jK st 2).bind fun (x3,st4)=>(dL st4 4).bind fun (x6,st7)=>(if a1>0 then ((dL st7 8).bind fun (x22,st23)=>(dL st23 2).bind fun (x25,st26)=>some (x22,x25,st26)) else ((some (-1,-1,st7):Option (Int×Int×I)))).bind fun (y17,y18,st19)=>(ck st19 (⟨x3,x6,y17,y18⟩:aX) a1).bind fun (x28,st29)=>if x28=true then (some ((⟨x3,x6,y17,y18⟩:aX),st29)) else (some ((⟨(⟨false,[]⟩:Bl),0,0,0⟩:aX),st29))
theorem n7 (g:Nat) (st:I) (a1:Int) (r:aX×I) (h:eh st a1=some r):aE Tryz.prog 116 #[jP g,jI a1] .triv (InR g st) (fun v A' N=>v= .agg #[.bool r.1.Jc.null,jS r.1.Jc.data,jI r.1.Jb,jI r.1.I6,jI r.1.I8]∧A'=InR g r.2∧N = []):=by
 refine aU Tryz.func116 Z Tryz.ntmps116 Z ?_
 intro F w hX
 unfold eh at h
 refine GC Z (TL.box Z .u Z Z (fun b1=>(TL.alloc Z .u Tryz.zeroValue27 Z (fun b2=>(GV Z ?_)))))
 obtain⟨⟨x3,st4⟩,hx5,h⟩:=JO h
 try dsimp only at h
 refine GB ar 1 Z (HY Z .u (.fn Tryz.call142 Z) (iN g st 2 _ hx5) sT Z ?_)
 obtain⟨⟨x6,st7⟩,hx8,h⟩:=JO h
 try dsimp only at h
 refine GB ar 1 Z (HY Z .u (.fn Tryz.call68 Z) (bj g st4 4 _ hx8) sT Z ?_)
 refine GE Z (Hf (cells:= #[.bool x3.null,jS x3.data,jI x6,jI (-1),jI (-1)]) uB Z (by kernel_rfl)) Z ?_
 refine TL.alloc Z .u Tryz.zeroValue27 Z (fun b9=>(GU (cs':= #[.bool x3.null,jS x3.data,jI x6,jI (-1),jI (-1)]) Z .u Z Z Lg Z Z Z Z (GD (T.seq (GC Z (Ir ar bQ 2 Z Z Z ?_))))))
 obtain⟨⟨y17,y18,st19⟩,h,hk20⟩:=JO h
 refine HJ (fun e Rs=>e = [(0,jP g),(3,jP b1),(4,jP b2),(5,jP b9)]∧Rs = [aT b9 27 (vA0 x6 y17 y18 x3),aT b2 27 #[.bool false,.string ⟨#[]⟩,jI 0,jI 0,jI 0],aT b1 3 #[jI a1],InR g st19]) ?_ ?_
 ·clear hk20
  rcases jF h with⟨c21,h⟩ | ⟨c21,h⟩
  ·refine Ij Z c21 (T.region Z ?_)
   obtain⟨⟨x22,st23⟩,hx24,h⟩:=JO h
   try dsimp only at h
   refine GB ar 1 Z (Iu Z .u (.fn Tryz.call68 Z) (bj g st7 8 _ hx24) sT Z ?_)
   obtain⟨⟨x25,st26⟩,hx27,h⟩:=JO h
   try dsimp only at h
   refine GB ar 1 Z (Iu Z .u (.fn Tryz.call68 Z) (bj g st23 2 _ hx27) sT Z (GB ar 1 Z (GU (cs':= #[.bool x3.null,jS x3.data,jI x6,jI x22,jI (-1)]) Z .u Z Z JX Z Z Z Z (GB ar 1 Z (GU (cs':=vA0 x6 x22 x25 x3) Z .u Z Z JX Z Z Z Z ?_)))))
   cases h
   exact TL.nil (GP [0,0,0,0])
  refine Io Z c21 ?_
  cases h
  exact T.skip (GP [0,0,0,0])
 rintro _ _ ⟨rfl,rfl⟩
 clear h
 have h:=hk20
 clear hk20
 try dsimp only at h
 refine X.seq (T.seq (GC Z (GB ar 1 Z (GE Z (Ex.mkF Z Z (fun _=>Z)) Z ?_))))
 obtain⟨⟨x28,st29⟩,hx30,h⟩:=JO h
 try dsimp only at h
 refine Iu Z .u (.fn Tryz.call168 Z) (jm g st19 (⟨x3,x6,y17,y18⟩:aX) b9 a1 b1 _ hx30) (fun _ hs=>(Src.and (Src.res 0 Z wl) (Src.res 2 Z wl))) Z (GB ar 1 Z ?_)
 rcases jF h with⟨c31,h⟩ | ⟨c31,h⟩
 ·refine GD (G7 Z (aZ c31) (Hb Z (GE Z (GR (us := [.bool x3.null,jS x3.data,jI x6,jI y17,jI y18]) 0 Z Mt Lg Z Z Z) Z (H5 (cs':=vA0 x6 y17 y18 x3) Z .u Z Z Lg Z Z Z Z ?_))))
  obtain rfl:=JP h
  exact GD (T.ret (GL [3] Tryz.results116 (Hs (us:=vA0 x6 y17 y18 x3) 1 Z Mt Lg Z Z)))
 replace c31:=JW c31
 refine GD (GO Z (bw c31) (GC Z ?_))
 refine GE Z (Hf (cells:= #[.bool false,.string ⟨#[]⟩,jI 0,jI 0,jI 0]) uB Z (by kernel_rfl)) Z ?_
 refine H5 (cs':= #[.bool false,.string ⟨#[]⟩,jI 0,jI 0,jI 0]) Z .u Z Z Lg Z Z Z Z ?_
 obtain rfl:=JP h
 exact GD (T.ret (GH (GL [3] Tryz.results116 (Hs (us:= #[.bool false,.string ⟨#[]⟩,jI 0,jI 0,jI 0]) 1 Z Mt Lg Z Z))))
def cE (st:I) (a1_0:bJ):Option (Bool×I):=(gJ st).bind fun (x3,st4)=>if x3=0 then ((fY a1_0).bind fun x7=>if x7=0 then some (true,st4) else ((bU st4 x7).bind fun st10=>some (false,st10))) else some (false,st4)
theorem jU (g:Nat) (st:I) (a1_0:bJ) (A1:Option Addr) (c2:Nat) (r:Bool×I) (h:cE st a1_0=some r):aE Tryz.prog 168 #[jP g,.func (.func 170) #[.agg (wA9 a1_0 A1 c2)] #[]] (RX.of (ao 2 ba) [.slice A1 a1_0.I5.length c2] a1_0.I5) (InR g st) (fun v A' N=>v= .bool r.1∧A'=InR g r.2∧N = []):=by
 refine aU Tryz.func168 Z Tryz.ntmps168 Z ?_
 intro F w hX
 unfold cE at h
 refine GC Z (GK ar Z (T.seq (GC Z ?_)))
 obtain⟨⟨x3,st4⟩,hx5,h⟩:=JO h
 try dsimp only at h
 refine GB ar 1 Z (Ht Z .u (.fn Tryz.call23 Z) (cc g st _ hx5) sT Z (GB ar 1 Z ?_))
 rcases jF h with⟨c6,h⟩ | ⟨c6,h⟩
 ·refine He Z c6 (GW (T.seq (GC Z ?_)))
  obtain⟨x7,hx8,h⟩:=JO h
  refine GB ar 1 Z (GZ Z .u (.val Z Tryz.call170 Z Z) (kH a1_0 _ _ _ hx8) (fun _ hs=>(GS hs hX)) Z (G4 ar Z Z (GB ar 2 Z ?_)))
  rcases jF h with⟨c9,h⟩ | ⟨c9,h⟩
  ·refine He Z c9 (Hb Z (GB ar 1 Z ?_))
   obtain rfl:=JP h
   exact GD (T.ret (GL [0] Lu (GF Z)))
  refine Hc Z c9 (GC Z ?_)
  obtain⟨st10,hx11,h⟩:=JO h
  refine GB ar 2 Z (Ht Z .u (.fn Tryz.call70 Z) (bx g st4 x7 _ hx11) sT Z (GV Z (GB ar 1 Z ?_)))
  obtain rfl:=JP h
  exact GD (T.ret (GH (GL [0] Lu (GF Z))))
 refine Hc Z c6 (GC Z (GB ar 1 Z ?_))
 obtain rfl:=JP h
 exact GD (T.ret (GH (GL [0] Lu (GF Z))))
def j3 (st:I)  : Option (bJ×I):=(qr st).bind fun (x2,st3)=>(dL st3 8).bind fun (x5,st6)=>(dL st6 2).bind fun (x8,st9)=>(dA st9).bind fun (x12,st15)=>(cE st15 (⟨x2,x5,x8,x12⟩:bJ)).bind fun (x17,st18)=>if x17=true then (some ((⟨x2,x5,x8,x12⟩:bJ),st18)) else (some ((⟨[],0,0,[]⟩:bJ),st18))
theorem pN (g:Nat) (st:I)  (r:bJ×I) (h:j3 st  = some r):aE Tryz.prog 117 #[jP g] .triv (InR g st) (fun v A' N=> ∃ (A21:Option Addr) (c22:Nat),v= .agg #[jS r.1.Jc,jI r.1.I6,jI r.1.I8,.slice A21 r.1.I5.length c22]∧A'=InR g r.2∧N = [RdR (ao 2 ba) [.slice A21 r.1.I5.length c22] r.1.I5]):=by
 refine aU Tryz.func117 Z Tryz.ntmps117 Z ?_
 intro F w hX
 unfold j3 at h
 refine GC Z (TL.alloc Z .u Tryz.zeroValue30 Z (fun b1=>(GV Z ?_)))
 obtain⟨⟨x2,st3⟩,hx4,h⟩:=JO h
 try dsimp only at h
 refine GB ar 1 Z (Hh Z .u (.fn Tryz.call86 Z) (mN g st _ hx4) sT Z ?_)
 obtain⟨⟨x5,st6⟩,hx7,h⟩:=JO h
 try dsimp only at h
 refine GB ar 1 Z (Hh Z .u (.fn Tryz.call68 Z) (bj g st3 8 _ hx7) sT Z ?_)
 obtain⟨⟨x8,st9⟩,hx10,h⟩:=JO h
 try dsimp only at h
 refine GB ar 1 Z (Hh Z .u (.fn Tryz.call68 Z) (bj g st6 2 _ hx10) sT Z ?_)
 refine GE Z (Hf (cells:= #[jS x2,jI x5,jI x8,.slice none 0 0]) uC Z (by kernel_rfl)) Z ?_
 refine TL.alloc Z .u Tryz.zeroValue30 Z (fun b11=>(GU (cs':= #[jS x2,jI x5,jI x8,.slice none 0 0]) Z .u Z Z Lh Z Z Z Z (GV Z ?_)))
 obtain⟨⟨x12,st15⟩,hx16,h⟩:=JO h
 try dsimp only at h
 refine GB ar 1 Z (TL.cg2 Z .u (.fn Tryz.call89 Z) (kG g st9 _ hx16) sT Z ?_)
 rintro _ _ _ ⟨A13,c14,rfl,rfl,rfl⟩
 refine Hz [0,0,0,0] Z (GB ar 1 Z (H5 (cs':= #[jS x2,jI x5,jI x8,.slice A13 x12.length c14]) Z .u Z Z LG Z Z Z Z (GD (T.seq (GC Z (GB ar 1 Z (GE Z (GR (us := [jS x2,jI x5,jI x8,.slice A13 x12.length c14]) 1 Z Mu Lh Z Z Z) Z (GE Z (Ex.mkF Z Z (fun _=>Z)) Z ?_))))))))
 obtain⟨⟨x17,st18⟩,hx19,h⟩:=JO h
 try dsimp only at h
 refine Iu Z .u (.fn Tryz.call168 Z) (jU g st15 (⟨x2,x5,x8,x12⟩:bJ) _ _ _ hx19) (fun _ hs=>(Src.res 0 Z (fun w G h=>qv w G h))) Z (GB ar 1 Z ?_)
 rcases jF h with⟨c20,h⟩ | ⟨c20,h⟩
 ·refine GD (G7 Z (aZ c20) (Hb Z (GE Z (GR (us := [jS x2,jI x5,jI x8,.slice A13 x12.length c14]) 1 Z Mu Lh Z Z Z) Z (Iq (cs':= #[jS x2,jI x5,jI x8,.slice A13 x12.length c14]) Z .u Z Z Lh Z Z Z Z ?_))))
  obtain rfl:=JP h
  exact GD (T.ret (G8 [3,0] Tryz.results117 (Hs (us:= #[jS x2,jI x5,jI x8,.slice A13 x12.length c14]) 2 Z Mu Lh Z Z) ⟨_,_,Z,Z,Z⟩ (by rfl) (.inl Z)))
 replace c20:=JW c20
 refine GD (GO Z (bw c20) (GC Z ?_))
 refine GE Z (Hf (cells:= #[.string ⟨#[]⟩,jI 0,jI 0,.slice none 0 0]) uC Z (by kernel_rfl)) Z ?_
 refine Iq (cs':= #[.string ⟨#[]⟩,jI 0,jI 0,.slice none 0 0]) Z .u Z Z Lh Z Z Z Z ?_
 obtain rfl:=JP h
 exact GD (T.ret (GH (G6 2 ba (G8 [4,0] Tryz.results117 (Hs (us:= #[.string ⟨#[]⟩,jI 0,jI 0,.slice none 0 0]) 3 Z Mu Lh Z Z) ⟨_,_,Z,Z,Z⟩ (by rfl) (.inl Z)))))
def fN (st:I)  : Option (Bool×I):=(dL st 1).bind fun (x1,st2)=>(if x1=0 then some false else (if x1=1 then some false else some true)).bind fun y5=>(if y5=true then ((bU st2 11).bind fun st15=>some st15) else some st2).bind fun st12=>if x1=1 then some (true,st12) else some (false,st12)
theorem nq (g:Nat) (st:I)  (r:Bool×I) (h:fN st  = some r):aE Tryz.prog 171 #[jP g] .triv (InR g st) (fun v A' N=>v= .bool r.1∧A'=InR g r.2∧N = []):=by
 refine aU Tryz.func171 Z Tryz.ntmps171 Z ?_
 intro F w hX
 unfold fN at h
 refine GC Z (G4 ar Z Z ?_)
 obtain⟨⟨x1,st2⟩,hx3,h⟩:=JO h
 try dsimp only at h
 refine GB ar 1 Z (Ht Z .u (.fn Tryz.call68 Z) (bj g st 1 _ hx3) sT Z (GK ar Z (In ?_)))
 obtain⟨y5,h,hk6⟩:=JO h
 refine HJ (fun e Rs=>e = [(0,jP g),(2,.bool false),(3,jI x1),(11,.bool y5)]∧Rs = [InR g st2]) ?_ ?_
 ·clear hk6
  refine T.region Z ?_
  rcases jF h with⟨c7,h⟩ | ⟨c7,h⟩
  ·refine GB ar 3 Z (GI 8 Z (aZ (JS c7)) (GJ ar 3 Z ?_))
   cases h
   exact TL.nil (GP [0])
  refine GB ar 3 Z (GI 8 Z (bw (JT c7)) (GJ ar 3 Z ?_))
  rcases jF h with⟨c8,h⟩ | ⟨c8,h⟩
  ·cases h
   exact TL.nil (Hx (d:=11) (v':= .bool false) Z (congrArg Value.bool (aZ (JS c8))) (GP [0]))
  cases h
  exact TL.nil (Hx (d:=11) (v':= .bool true) Z (congrArg Value.bool (bw (JT c8))) (GP [0]))
 rintro _ _ ⟨rfl,rfl⟩
 clear h
 have h:=hk6
 clear hk6
 try dsimp only at h
 refine X.seq ?_
 obtain⟨st12,h,hk13⟩:=JO h
 refine HJ (fun e Rs=>e = [(2,.bool false),(3,jI x1)]∧Rs = [InR g st12]) ?_ ?_
 ·clear hk13
  rcases jF h with⟨c14,h⟩ | ⟨c14,h⟩
  ·refine GO Z c14 (T.region Z ?_)
   obtain⟨st15,hx16,h⟩:=JO h
   refine GB ar 1 Z (Ht Z .u (.fn Tryz.call70 Z) (bx g st2 11 _ hx16) sT Z ?_)
   cases h
   exact TL.nil (GP [0])
  replace c14:=JW c14
  refine G7 Z c14 ?_
  cases h
  exact T.skip (GP [0])
 rintro _ _ ⟨rfl,rfl⟩
 clear h
 have h:=hk13
 clear hk13
 try dsimp only at h
 refine X.seq (GC Z (GB ar 3 Z ?_))
 rcases jF h with⟨c17,h⟩ | ⟨c17,h⟩
 ·obtain rfl:=JP h
  exact GD (T.ret (G8 [0] Tryz.results171 (GF (v:= .bool true) (congrArg (fun b=>some (Value.bool b)) (JS c17))) ⟨Z,Z,Z⟩ (by rfl) (.inl Z)))
 obtain rfl:=JP h
 exact GD (T.ret (G8 [0] Tryz.results171 (GF (v:= .bool false) (congrArg (fun b=>some (Value.bool b)) (JT c17))) ⟨Z,Z,Z⟩ (by rfl) (.inl Z)))
def cF (st:I) (a1_0:bI):Option (Bool×I):=(gJ st).bind fun (x1,st2)=>if x1=0 then ((fZ a1_0).bind fun x5=>if x5=0 then some (true,st2) else ((bU st2 x5).bind fun st8=>some (false,st8))) else some (false,st2)
theorem jV (g:Nat) (st:I) (a1_0:bI) (r:Bool×I) (h:cF st a1_0=some r):aE Tryz.prog 168 #[jP g,.func (.func 172) #[.agg (wA11 a1_0)] #[]] .triv (InR g st) (fun v A' N=>v= .bool r.1∧A'=InR g r.2∧N = []):=by
 refine aU Tryz.func168 Z Tryz.ntmps168 Z ?_
 intro F w hX
 unfold cF at h
 refine GC Z (GK ar Z (T.seq (GC Z ?_)))
 obtain⟨⟨x1,st2⟩,hx3,h⟩:=JO h
 try dsimp only at h
 refine GB ar 1 Z (Ht Z .u (.fn Tryz.call23 Z) (cc g st _ hx3) sT Z (GB ar 1 Z ?_))
 rcases jF h with⟨c4,h⟩ | ⟨c4,h⟩
 ·refine He Z c4 (GW (T.seq (GC Z ?_)))
  obtain⟨x5,hx6,h⟩:=JO h
  refine GB ar 1 Z (GZ Z .u (.val Z Tryz.call172 Z Z) (kI a1_0 _ hx6) rT Z (G4 ar Z Z (GB ar 2 Z ?_)))
  rcases jF h with⟨c7,h⟩ | ⟨c7,h⟩
  ·refine He Z c7 (Hb Z (GB ar 1 Z ?_))
   obtain rfl:=JP h
   exact GD (T.ret (GL [0] Lu (GF Z)))
  refine Hc Z c7 (GC Z ?_)
  obtain⟨st8,hx9,h⟩:=JO h
  refine GB ar 2 Z (Ht Z .u (.fn Tryz.call70 Z) (bx g st2 x5 _ hx9) sT Z (GV Z (GB ar 1 Z ?_)))
  obtain rfl:=JP h
  exact GD (T.ret (GH (GL [0] Lu (GF Z))))
 refine Hc Z c4 (GC Z (GB ar 1 Z ?_))
 obtain rfl:=JP h
 exact GD (T.ret (GH (GL [0] Lu (GF Z))))
def j4 (st:I)  : Option (bI×I):=(qr st).bind fun (x2,st3)=>(dL st3 8).bind fun (x5,st6)=>(dL st6 2).bind fun (x8,st9)=>(fN st9).bind fun (x12,st13)=>(cF st13 (⟨x2,x5,x8,x12⟩:bI)).bind fun (x15,st16)=>if x15=true then (some ((⟨x2,x5,x8,x12⟩:bI),st16)) else (some ((⟨[],0,0,false⟩:bI),st16))
theorem pO (g:Nat) (st:I)  (r:bI×I) (h:j4 st  = some r):aE Tryz.prog 118 #[jP g] .triv (InR g st) (fun v A' N=>v= .agg #[jS r.1.Jc,jI r.1.I6,jI r.1.I8,.bool r.1.Js]∧A'=InR g r.2∧N = []):=by
 refine aU Tryz.func118 Z Tryz.ntmps118 Z ?_
 intro F w hX
 unfold j4 at h
 refine GC Z (TL.alloc Z .u Tryz.zeroValue32 Z (fun b1=>(GV Z ?_)))
 obtain⟨⟨x2,st3⟩,hx4,h⟩:=JO h
 try dsimp only at h
 refine GB ar 1 Z (Hh Z .u (.fn Tryz.call86 Z) (mN g st _ hx4) sT Z ?_)
 obtain⟨⟨x5,st6⟩,hx7,h⟩:=JO h
 try dsimp only at h
 refine GB ar 1 Z (Hh Z .u (.fn Tryz.call68 Z) (bj g st3 8 _ hx7) sT Z ?_)
 obtain⟨⟨x8,st9⟩,hx10,h⟩:=JO h
 try dsimp only at h
 refine GB ar 1 Z (Hh Z .u (.fn Tryz.call68 Z) (bj g st6 2 _ hx10) sT Z ?_)
 refine GE Z (Hf (cells:= #[jS x2,jI x5,jI x8,.bool false]) uD Z (by kernel_rfl)) Z ?_
 refine TL.alloc Z .u Tryz.zeroValue32 Z (fun b11=>(GU (cs':= #[jS x2,jI x5,jI x8,.bool false]) Z .u Z Z K2 Z Z Z Z (GV Z ?_)))
 obtain⟨⟨x12,st13⟩,hx14,h⟩:=JO h
 try dsimp only at h
 refine GB ar 1 Z (HY Z .u (.fn Tryz.call171 Z) (nq g st9 _ hx14) sT Z (GB ar 1 Z (GU (cs':= #[jS x2,jI x5,jI x8,.bool x12]) Z .u Z Z Kr Z Z Z Z (GD (T.seq (GC Z (GB ar 1 Z (GE Z (GR (us := [jS x2,jI x5,jI x8,.bool x12]) 0 Z LL K2 Z Z Z) Z (GE Z (Ex.mkF Z Z (fun _=>Z)) Z ?_)))))))))
 obtain⟨⟨x15,st16⟩,hx17,h⟩:=JO h
 try dsimp only at h
 refine HY Z .u (.fn Tryz.call168 Z) (jV g st13 (⟨x2,x5,x8,x12⟩:bI) _ hx17) sT Z (GB ar 1 Z ?_)
 rcases jF h with⟨c18,h⟩ | ⟨c18,h⟩
 ·refine GD (G7 Z (aZ c18) (Hb Z (GE Z (GR (us := [jS x2,jI x5,jI x8,.bool x12]) 0 Z LL K2 Z Z Z) Z (H5 (cs':= #[jS x2,jI x5,jI x8,.bool x12]) Z .u Z Z K2 Z Z Z Z ?_))))
  obtain rfl:=JP h
  exact GD (T.ret (G8 [2] Tryz.results118 (Hs (us:= #[jS x2,jI x5,jI x8,.bool x12]) 1 Z LL K2 Z Z) ⟨Z,Z,Z⟩ (by rfl) (.inl Z)))
 replace c18:=JW c18
 refine GD (GO Z (bw c18) (GC Z ?_))
 refine GE Z (Hf (cells:= #[.string ⟨#[]⟩,jI 0,jI 0,.bool false]) uD Z (by kernel_rfl)) Z ?_
 refine H5 (cs':= #[.string ⟨#[]⟩,jI 0,jI 0,.bool false]) Z .u Z Z K2 Z Z Z Z ?_
 obtain rfl:=JP h
 exact GD (T.ret (GH (GL [2] Tryz.results118 (Hs (us:= #[.string ⟨#[]⟩,jI 0,jI 0,.bool false]) 1 Z LL K2 Z Z))))
end Go.Proofs.YtheikonlgjdopaaGreat.Sl
