/- frameRows_holds: part 8. -/
import Derived.Test.YtheikonlgjdopaaGreatK7
set_option maxRecDepth 100000
set_option maxHeartbeats 4000000
set_option linter.defProp false
namespace Go.Proofs.YtheikonlgjdopaaGreat.Sl
open Go.RowKit
set_option linter.unusedVariables false
set_option linter.unusedSimpArgs false
def JY := @List.append_assoc
def J5 := @Tryz.sizeOf38
def Kj := @Prod.mk.inj
def Kx := @Tryz.isAgg38
def KF := @Tryz.runUnderlying38
def KL := @Tryz.sizeOf53
def Li := @Tryz.results69
def Lo := @Tryz.isAgg53
def LT := @Tryz.runUnderlying60
def L5 := @Tryz.eqGuardType32
def Mc := @Tryz.results14
def MR := @Tryz.runUnderlying67
def Ec:eP := [(25,0,0),(25,1,1),(38,0,0),(38,1,5),(38,2,10),(38,3,14),(38,4,18),(38,5,19)]
theorem ax:(Ec).OK Tryz.prog:=⟨FOK.mk K0 rfl JX rfl,FOK.mk K0 rfl JX rfl,FOK.mk KF rfl KI rfl,FOK.mk KF rfl Lg rfl,FOK.mk KF rfl Lh rfl,FOK.mk KF rfl K2 rfl,FOK.mk KF rfl Tryz.sizeOf33 rfl,FOK.mk KF rfl KN rfl,trivial⟩
def Ed:List Nat := [3,33]
theorem gc:NOK Tryz.prog Ed:=⟨JZ,Tryz.isAgg33,trivial⟩
theorem eD:BOK Tryz.prog 38 #[.int .i64 0,.int .i64 0,.int .i64 0,.bool false,.string ⟨#[]⟩,.bool false,.string ⟨#[]⟩,.int .i64 0,.int .i64 0,.int .i64 0,.string ⟨#[]⟩,.int .i64 0,.int .i64 0,.slice none 0 0,.string ⟨#[]⟩,.int .i64 0,.int .i64 0,.bool false,.slice none 0 0,.bool false,.string ⟨#[]⟩,.int .i64 0,.int .i64 0,.slice none 0 0] [(0,5),(5,5),(10,4),(14,4),(18,1),(19,5)]:=BOK.mk Tryz.zeroValue38 KF (by intro w; simp)
def dn (st:List UInt8×Int) (a0:aC):Option (List UInt8×Int):=(if a0.I9.Jk=22 then ((fX st a0.Jw a0.I9.Jg).bind fun st86=>some st86) else ((if a0.I9.Jk=24 then ((gZ st a0.Jy).bind fun st126=>some st126) else ((if a0.I9.Jk=26 then ((g6 st a0.JC).bind fun st146=>some st146) else ((if a0.I9.Jk=27 then ((jo st a0.Jt a0.I9.Jg).bind fun st156=>some st156) else ((d9 st a0.Jh a0.I9.Jg).bind fun st158=>some st158)).bind fun st153=>some st153)).bind fun st143=>some st143)).bind fun st123=>some st123)).bind fun st83=>some st83
theorem mW (g:Nat) (st:List UInt8×Int) (a0:aC) (A1:Option Addr) (c2:Nat) (A3:Option Addr) (c4:Nat) (A5:Option Addr) (c6:Nat) (r:List UInt8×Int) (h:dn st a0=some r):aE Tryz.prog 49 #[.agg (lg a0 A1 A3 A5 c2 c4 c6),jP g] (RX.and (RX.of (ao 2 ba) [.slice A1 a0.Jy.I5.length c2] a0.Jy.I5) (RX.and (RX.of (ao 5 aW) [.slice A3 a0.Jt.length c4] a0.Jt) (RX.of (ao 2 aH) [.slice A5 a0.Jh.I5.length c6] a0.Jh.I5))) (bm g st) (fun v A' N=>v= .tuple #[]∧A'=bm g r∧N = []):=by
 refine aU Tryz.func49 Z Tryz.ntmps49 Z ?_
 intro F w hX
 unfold dn at h
 refine GC Z (TL.box Z .u Z Z (fun b7=>(GV Z (Ir ax gc 0 Z Z Z (T.block (GC Z (GK ax Z ?_)))))))
 obtain⟨st83,h,hk84⟩:=JO h
 refine HJ (fun e Rs=>e = []∧Rs = [aT b7 38 (lg a0 A1 A3 A5 c2 c4 c6),bm g st83]) ?_ ?_
 ·clear hk84
  rcases jF h with⟨c85,h⟩ | ⟨c85,h⟩
  ·refine Ij Z c85 (T.region Z (GB ax 1 Z (GE Z (GR (us := [.bool a0.Jw.Jc.null,jS a0.Jw.Jc.data,jI a0.Jw.Jb,jI a0.Jw.I6,jI a0.Jw.I8]) 0 Z Mt Lg Z Z Z) Z ?_)))
   obtain⟨st86,hx87,h⟩:=JO h
   refine GG ax gc 0 Z 4 Z Z (Hh Z .u (.fn Tryz.call96 Z) (nC g st a0.Jw a0.I9.Jg _ hx87) sT Z ?_)
   cases h
   exact TL.nil (GP [0,0])
  refine Io Z c85 (GC Z (GK ax Z ?_))
  obtain⟨st123,h,hk124⟩:=JO h
  refine HJ (fun e Rs=>e = []∧Rs = [aT b7 38 (lg a0 A1 A3 A5 c2 c4 c6),bm g st123]) ?_ ?_
  ·clear hk124
   rcases jF h with⟨c125,h⟩ | ⟨c125,h⟩
   ·refine Ij Z c125 (T.region Z (GB ax 1 Z (GE Z (GR (us:=wL10 a0.Jy A1 c2) 0 Z Mu Lh Z Z Z) Z ?_)))
    obtain⟨st126,hx127,h⟩:=JO h
    refine GB ax 1 Z (Hh Z .u (.fn Tryz.call97 Z) (o7 g st a0.Jy _ _ _ hx127) (fun _ hs=>(Iw hs (Ho hX))) Z ?_)
    cases h
    exact TL.nil (GP [0,0])
   refine Io Z c125 (GC Z (GK ax Z ?_))
   obtain⟨st143,h,hk144⟩:=JO h
   refine HJ (fun e Rs=>e = []∧Rs = [aT b7 38 (lg a0 A1 A3 A5 c2 c4 c6),bm g st143]) ?_ ?_
   ·clear hk144
    rcases jF h with⟨c145,h⟩ | ⟨c145,h⟩
    ·refine Ij Z c145 (T.region Z (GB ax 1 Z (GE Z (GR (us:=yF a0.JC) 0 Z LL K2 Z Z Z) Z ?_)))
     obtain⟨st146,hx147,h⟩:=JO h
     refine GB ax 1 Z (Hh Z .u (.fn Tryz.call98 Z) (o8 g st a0.JC _ hx147) sT Z ?_)
     cases h
     exact TL.nil (GP [0,0])
    refine Io Z c145 (GC Z (GK ax Z ?_))
    obtain⟨st153,h,hk154⟩:=JO h
    refine HJ (fun e Rs=>e = []∧Rs = [aT b7 38 (lg a0 A1 A3 A5 c2 c4 c6),bm g st153]) ?_ ?_
    ·clear hk154
     rcases jF h with⟨c155,h⟩ | ⟨c155,h⟩
     ·refine Ij Z c155 (T.region Z ?_)
      obtain⟨st156,hx157,h⟩:=JO h
      refine GG ax gc 0 Z 6 Z Z (Hh Z .u (.fn Tryz.call99 Z) (qH g st a0.Jt _ _ a0.I9.Jg _ hx157) (fun _ hs=>(Iw hs (Ho (G3 hX)))) Z ?_)
      cases h
      exact TL.nil (GP [0,0])
     refine Io Z c155 (T.region Z (GB ax 1 Z (GE Z (GR (us := [.bool a0.Jh.Jc.null,jS a0.Jh.Jc.data,jI a0.Jh.Ju,jI a0.Jh.Jb,.slice A5 a0.Jh.I5.length c6]) 0 Z Lx KN Z Z Z) Z ?_)))
     obtain⟨st158,hx159,h⟩:=JO h
     refine GG ax gc 0 Z 4 Z Z (Hh Z .u (.fn Tryz.call100 Z) (kQ g st a0.Jh _ _ a0.I9.Jg _ hx159) (fun _ hs=>(Iw hs (G3 (G3 hX)))) Z ?_)
     cases h
     exact TL.nil (GP [0,0])
    rintro _ _ ⟨rfl,rfl⟩
    clear h
    have h:=hk154
    clear hk154
    try dsimp only at h
    cases h
    exact GP [0,0]
   rintro _ _ ⟨rfl,rfl⟩
   clear h
   have h:=hk144
   clear hk144
   try dsimp only at h
   cases h
   exact GP [0,0]
  rintro _ _ ⟨rfl,rfl⟩
  clear h
  have h:=hk124
  clear hk124
  try dsimp only at h
  cases h
  exact GP [0,0]
 rintro _ _ ⟨rfl,rfl⟩
 clear h
 have h:=hk84
 clear hk84
 try dsimp only at h
 obtain rfl:=JP h
 exact GX (H7 [1] Tryz.results49 ⟨Z,Z,Z⟩ (by rfl) (.inr Z))
def dE (a0:aC):Option (List UInt8×Int):=(gz ([],0) a0.I9).bind fun st10=>(BF st10).bind fun (x12,st13)=>(if x12=0 then ((dn st13 a0).bind fun st21=>some st21) else some st13).bind fun st18=>(ld st18).bind fun (x23,x24,st25)=>if x24=0 then ((dK ([],0) (x23.length:Int) 4).bind fun st28=>(wi st28 x23).bind fun st30=>(ld st30).bind fun (x32,x33,st34)=>some (x32,x33)) else some ([],x24)
theorem kK (a0:aC) (A1:Option Addr) (c2:Nat) (A3:Option Addr) (c4:Nat) (A5:Option Addr) (c6:Nat) (r:List UInt8×Int) (h:dE a0=some r):aE Tryz.prog 12 #[.agg (lg a0 A1 A3 A5 c2 c4 c6)] (RX.and (RX.of (ao 2 ba) [.slice A1 a0.Jy.I5.length c2] a0.Jy.I5) (RX.and (RX.of (ao 5 aW) [.slice A3 a0.Jt.length c4] a0.Jt) (RX.of (ao 2 aH) [.slice A5 a0.Jh.I5.length c6] a0.Jh.I5))) (aO) (fun v A' N=>v= .tuple #[jS r.1,jI r.2]∧A'=aO∧N = []):=by
 refine aU Tryz.func12 Z Tryz.ntmps12 Z ?_
 intro F w hX
 unfold dE at h
 refine GC Z (TL.box Z .u Z Z (fun b7=>(G4 ax Z Z (IH Z .u Tryz.zeroValue112 Z (fun b8=>(IH Z .u Tryz.zeroValue112 Z (fun b9=>(GV Z (GB ax 1 Z ?_)))))))))
 refine GE Z (GR (us := [jI a0.I9.Jk,jI a0.I9.Jg,jI a0.I9.Jo,.bool a0.I9.Je.null,jS a0.I9.Je.data]) 2 Z Ln KI Z Z Z) Z ?_
 obtain⟨st10,hx11,h⟩:=JO h
 refine Hh Z .u (.fn Tryz.call47 Z) (ob b8 ([],0) a0.I9 _ hx11) sT Z ?_
 obtain⟨⟨x12,st13⟩,hx14,h⟩:=JO h
 try dsimp only at h
 refine GD (T.seq (GC Z (Hh Z .u (.fn Tryz.call48 Z) (Aq b8 st10 _ hx14) sT Z (GK ax Z ?_))))
 obtain⟨st18,h,hk19⟩:=JO h
 refine HJ (fun e Rs=>e = [(2,.string ⟨#[]⟩),(3,jI 0),(4,jP b8),(5,jP b9)]∧Rs = [bm b9 ([],0),bm b8 st18,aT b7 38 (lg a0 A1 A3 A5 c2 c4 c6),aO]) ?_ ?_
 ·clear hk19
  rcases jF h with⟨c20,h⟩ | ⟨c20,h⟩
  ·refine Ij Z c20 (T.region Z (GE Z (GR (us:=xz a0 A1 A3 A5 c2 c4 c6) 2 Z Kx J5 Z Z Z) Z ?_))
   obtain⟨st21,hx22,h⟩:=JO h
   refine Hh Z .u (.fn Tryz.call49 Z) (mW b8 st13 a0 _ _ _ _ _ _ _ hx22) (fun _ hs=>(Src.and (Iw hs (Ho hX)) (Src.and (Iw hs (Ho (G3 hX))) (Iw hs (G3 (G3 hX)))))) Z ?_
   cases h
   exact TL.nil (GP [0,0,0,0])
  refine Io Z c20 ?_
  cases h
  exact T.skip (GP [0,0,0,0])
 rintro _ _ ⟨rfl,rfl⟩
 clear h
 have h:=hk19
 clear hk19
 try dsimp only at h
 obtain⟨⟨x23,x24,st25⟩,hx26,h⟩:=JO h
 try dsimp only at h
 refine X.seq (GC Z (Hh Z .u (.fn Tryz.call50 Z) (gR b8 st18 _ hx26) sT Z (GK ax Z (T.seq (GC Z (GB ax 2 Z ?_))))))
 rcases jF h with⟨c27,h⟩ | ⟨c27,h⟩
 ·refine He Z c27 (Hb Z (GB ax 1 Z (GE Z (Hw Z J3) Z ?_)))
  obtain⟨st28,hx29,h⟩:=JO h
  refine Ht Z .u (.fn Tryz.call51 Z) (bf b9 ([],0) (x23.length:Int) 4 _ hx29) sT Z (GV Z ?_)
  obtain⟨st30,hx31,h⟩:=JO h
  refine GB ax 1 Z (Ht Z .u (.fn Tryz.call52 Z) (uc b9 st28 x23 _ hx31) sT Z ?_)
  obtain⟨⟨x32,x33,st34⟩,hx35,h⟩:=JO h
  try dsimp only at h
  refine GV Z (Ht Z .u (.fn Tryz.call50 Z) (gR b9 st30 _ hx35) sT Z (GB ax 4 Z ?_))
  obtain rfl:=JP h
  exact GD (T.ret (Hl [3] Tryz.results12 (GF Z) (GF Z) ⟨Z,Z,Z⟩ (by rfl) (.inl Z)))
 refine Hc Z c27 (GC Z (GB ax 3 Z ?_))
 obtain rfl:=JP h
 exact GD (T.ret (GH (Hl [3] Tryz.results12 (GF Z) (GF Z) ⟨Z,Z,Z⟩ (by rfl) (.inl Z))))
def gq (a0:List UInt8):Option (aC×Int):=(tn a0).bind fun st2=>(f9 st2).bind fun (x5,st6)=>(gJ st6).bind fun (x9,st10)=>if x9=0 then (if x5.Jk=22 then ((eh st10 x5.Jg).bind fun (x14,st15)=>(dM st15).bind fun (x17,st18)=>if x17=0 then (some ((⟨x5,x14,(⟨[],0,0,[]⟩:bJ),(⟨[],0,0,false⟩:bI),[],(⟨(⟨false,[]⟩:Bl),0,0,[]⟩:aw)⟩:aC),0)) else (some ((⟨(⟨0,0,0,(⟨false,[]⟩:Bl)⟩:eS),(⟨(⟨false,[]⟩:Bl),0,0,0⟩:aX),(⟨[],0,0,[]⟩:bJ),(⟨[],0,0,false⟩:bI),[],(⟨(⟨false,[]⟩:Bl),0,0,[]⟩:aw)⟩:aC),x17))) else (if x5.Jk=24 then ((j3 st10).bind fun (x22,st25)=>(dM st25).bind fun (x27,st28)=>if x27=0 then (some ((⟨x5,(⟨(⟨false,[]⟩:Bl),0,0,0⟩:aX),x22,(⟨[],0,0,false⟩:bI),[],(⟨(⟨false,[]⟩:Bl),0,0,[]⟩:aw)⟩:aC),0)) else (some ((⟨(⟨0,0,0,(⟨false,[]⟩:Bl)⟩:eS),(⟨(⟨false,[]⟩:Bl),0,0,0⟩:aX),(⟨[],0,0,[]⟩:bJ),(⟨[],0,0,false⟩:bI),[],(⟨(⟨false,[]⟩:Bl),0,0,[]⟩:aw)⟩:aC),x27))) else (if x5.Jk=26 then ((j4 st10).bind fun (x32,st33)=>(dM st33).bind fun (x35,st36)=>if x35=0 then (some ((⟨x5,(⟨(⟨false,[]⟩:Bl),0,0,0⟩:aX),(⟨[],0,0,[]⟩:bJ),x32,[],(⟨(⟨false,[]⟩:Bl),0,0,[]⟩:aw)⟩:aC),0)) else (some ((⟨(⟨0,0,0,(⟨false,[]⟩:Bl)⟩:eS),(⟨(⟨false,[]⟩:Bl),0,0,0⟩:aX),(⟨[],0,0,[]⟩:bJ),(⟨[],0,0,false⟩:bI),[],(⟨(⟨false,[]⟩:Bl),0,0,[]⟩:aw)⟩:aC),x35))) else (if x5.Jk=27 then ((fF st10 x5.Jg).bind fun (x40,st43)=>(dM st43).bind fun (x45,st46)=>if x45=0 then (some ((⟨x5,(⟨(⟨false,[]⟩:Bl),0,0,0⟩:aX),(⟨[],0,0,[]⟩:bJ),(⟨[],0,0,false⟩:bI),x40,(⟨(⟨false,[]⟩:Bl),0,0,[]⟩:aw)⟩:aC),0)) else (some ((⟨(⟨0,0,0,(⟨false,[]⟩:Bl)⟩:eS),(⟨(⟨false,[]⟩:Bl),0,0,0⟩:aX),(⟨[],0,0,[]⟩:bJ),(⟨[],0,0,false⟩:bI),[],(⟨(⟨false,[]⟩:Bl),0,0,[]⟩:aw)⟩:aC),x45))) else ((ea st10 x5.Jg).bind fun (x49,st52)=>(dM st52).bind fun (x54,st55)=>if x54=0 then (some ((⟨x5,(⟨(⟨false,[]⟩:Bl),0,0,0⟩:aX),(⟨[],0,0,[]⟩:bJ),(⟨[],0,0,false⟩:bI),[],x49⟩:aC),0)) else (some ((⟨(⟨0,0,0,(⟨false,[]⟩:Bl)⟩:eS),(⟨(⟨false,[]⟩:Bl),0,0,0⟩:aX),(⟨[],0,0,[]⟩:bJ),(⟨[],0,0,false⟩:bI),[],(⟨(⟨false,[]⟩:Bl),0,0,[]⟩:aw)⟩:aC),x54))))))) else (some ((⟨(⟨0,0,0,(⟨false,[]⟩:Bl)⟩:eS),(⟨(⟨false,[]⟩:Bl),0,0,0⟩:aX),(⟨[],0,0,[]⟩:bJ),(⟨[],0,0,false⟩:bI),[],(⟨(⟨false,[]⟩:Bl),0,0,[]⟩:aw)⟩:aC),x9))
theorem qL (a0:List UInt8) (r:aC×Int) (h:gq a0=some r):aE Tryz.prog 69 #[jS a0] .triv (aO) (fun v A' N=> ∃ (A58:Option Addr) (c59:Nat) (A60:Option Addr) (c61:Nat) (A62:Option Addr) (c63:Nat),v= .tuple #[.agg #[jI r.1.I9.Jk,jI r.1.I9.Jg,jI r.1.I9.Jo,.bool r.1.I9.Je.null,jS r.1.I9.Je.data,.bool r.1.Jw.Jc.null,jS r.1.Jw.Jc.data,jI r.1.Jw.Jb,jI r.1.Jw.I6,jI r.1.Jw.I8,jS r.1.Jy.Jc,jI r.1.Jy.I6,jI r.1.Jy.I8,.slice A58 r.1.Jy.I5.length c59,jS r.1.JC.Jc,jI r.1.JC.I6,jI r.1.JC.I8,.bool r.1.JC.Js,.slice A60 r.1.Jt.length c61,.bool r.1.Jh.Jc.null,jS r.1.Jh.Jc.data,jI r.1.Jh.Ju,jI r.1.Jh.Jb,.slice A62 r.1.Jh.I5.length c63],jI r.2]∧A'=aO∧N = [RdR (ao 2 ba) [.slice A58 r.1.Jy.I5.length c59] r.1.Jy.I5,RdR (ao 5 aW) [.slice A60 r.1.Jt.length c61] r.1.Jt,RdR (ao 2 aH) [.slice A62 r.1.Jh.I5.length c63] r.1.Jh.I5]):=by
 refine aU Tryz.func69 Z Tryz.ntmps69 Z ?_
 intro F w hX
 unfold gq at h
 refine GC Z (TL.alloc Z .u Tryz.zeroValue38 Z (fun b1=>(G4 ax Z Z ?_)))
 obtain⟨st2,hx3,h⟩:=JO h
 refine GB ax 1 Z (It Z .u (.fn Tryz.call19 Z) (iL a0 _ hx3) rT Z ?_)
 rintro _ _ _ ⟨b4,rfl,rfl,rfl⟩
 refine Hz [0,0,0] Z (G4 ax Z Z ?_)
 obtain⟨⟨x5,st6⟩,hx7,h⟩:=JO h
 try dsimp only at h
 refine GB ax 1 Z (Ht Z .u (.fn Tryz.call115 Z) (pi b4 st2 _ hx7) sT Z ?_)
 refine GE Z (Hf (cells:= #[jI x5.Jk,jI x5.Jg,jI x5.Jo,.bool x5.Je.null,jS x5.Je.data,.bool false,.string ⟨#[]⟩,jI 0,jI 0,jI 0,.string ⟨#[]⟩,jI 0,jI 0,.slice none 0 0,.string ⟨#[]⟩,jI 0,jI 0,.bool false,.slice none 0 0,.bool false,.string ⟨#[]⟩,jI 0,jI 0,.slice none 0 0]) eD Z (by kernel_rfl)) Z ?_
 refine TL.alloc Z .u Tryz.zeroValue38 Z (fun b8=>(GU (cs':= #[jI x5.Jk,jI x5.Jg,jI x5.Jo,.bool x5.Je.null,jS x5.Je.data,.bool false,.string ⟨#[]⟩,jI 0,jI 0,jI 0,.string ⟨#[]⟩,jI 0,jI 0,.slice none 0 0,.string ⟨#[]⟩,jI 0,jI 0,.bool false,.slice none 0 0,.bool false,.string ⟨#[]⟩,jI 0,jI 0,.slice none 0 0]) Z .u Z Z J5 Z Z Z Z (GD (T.seq (GC Z ?_)))))
 obtain⟨⟨x9,st10⟩,hx11,h⟩:=JO h
 try dsimp only at h
 refine GB ax 1 Z (Hh Z .u (.fn Tryz.call23 Z) (cc b4 st6 _ hx11) sT Z (G4 ax Z Z (GB ax 2 Z ?_)))
 rcases jF h with⟨c12,h⟩ | ⟨c12,h⟩
 ·refine He Z c12 (GW (T.seq (GC Z (Ir ax gc 0 Z Z Z (T.block (GC Z (GB ax 2 Z ?_)))))))
  rcases jF h with⟨c13,h⟩ | ⟨c13,h⟩
  ·refine G9 Z c13 (T.region Z ?_)
   obtain⟨⟨x14,st15⟩,hx16,h⟩:=JO h
   try dsimp only at h
   refine GG ax gc 0 Z 4 Z Z (Hh Z .u (.fn Tryz.call116 Z) (n7 b4 st10 x5.Jg _ hx16) sT Z (GB ax 1 Z (GU (cs':= #[jI x5.Jk,jI x5.Jg,jI x5.Jo,.bool x5.Je.null,jS x5.Je.data,.bool x14.Jc.null,jS x14.Jc.data,jI x14.Jb,jI x14.I6,jI x14.I8,.string ⟨#[]⟩,jI 0,jI 0,.slice none 0 0,.string ⟨#[]⟩,jI 0,jI 0,.bool false,.slice none 0 0,.bool false,.string ⟨#[]⟩,jI 0,jI 0,.slice none 0 0]) Z .u Z Z Lg Z Z Z Z (TL.nil (GX (X.seq (T.seq (GC Z ?_))))))))
   obtain⟨⟨x17,st18⟩,hx19,h⟩:=JO h
   try dsimp only at h
   refine GB ax 1 Z (Hh Z .u (.fn Tryz.call21 Z) (cL b4 st15 _ hx19) sT Z (G4 ax Z Z (GB ax 2 Z ?_)))
   rcases jF h with⟨c20,h⟩ | ⟨c20,h⟩
   ·refine He Z c20 (Hb Z (GE Z (GR (us := [jI x5.Jk,jI x5.Jg,jI x5.Jo,.bool x5.Je.null,jS x5.Je.data,.bool x14.Jc.null,jS x14.Jc.data,jI x14.Jb,jI x14.I6,jI x14.I8,.string ⟨#[]⟩,jI 0,jI 0,.slice none 0 0,.string ⟨#[]⟩,jI 0,jI 0,.bool false,.slice none 0 0,.bool false,.string ⟨#[]⟩,jI 0,jI 0,.slice none 0 0]) 0 Z Kx J5 Z Z Z) Z (Iq (cs':= #[jI x5.Jk,jI x5.Jg,jI x5.Jo,.bool x5.Je.null,jS x5.Je.data,.bool x14.Jc.null,jS x14.Jc.data,jI x14.Jb,jI x14.I6,jI x14.I8,.string ⟨#[]⟩,jI 0,jI 0,.slice none 0 0,.string ⟨#[]⟩,jI 0,jI 0,.bool false,.slice none 0 0,.bool false,.string ⟨#[]⟩,jI 0,jI 0,.slice none 0 0]) Z .u Z Z J5 Z Z Z Z (GB ax 1 Z ?_))))
    obtain rfl:=JP h
    exact GD (T.ret (G6 2 ba (G6 5 aW (G6 2 aH (Hl [6,2,1,0] Li (Hs (us:= #[jI x5.Jk,jI x5.Jg,jI x5.Jo,.bool x5.Je.null,jS x5.Je.data,.bool x14.Jc.null,jS x14.Jc.data,jI x14.Jb,jI x14.I6,jI x14.I8,.string ⟨#[]⟩,jI 0,jI 0,.slice none 0 0,.string ⟨#[]⟩,jI 0,jI 0,.bool false,.slice none 0 0,.bool false,.string ⟨#[]⟩,jI 0,jI 0,.slice none 0 0]) 5 Z Kx J5 Z Z) (GF Z) ⟨_,_,_,_,_,_,Z,Z,Z⟩ (by rfl) (.inl Z))))))
   refine Hc Z c20 (GC Z ?_)
   refine GE Z (Hf (cells:= #[jI 0,jI 0,jI 0,.bool false,.string ⟨#[]⟩,.bool false,.string ⟨#[]⟩,jI 0,jI 0,jI 0,.string ⟨#[]⟩,jI 0,jI 0,.slice none 0 0,.string ⟨#[]⟩,jI 0,jI 0,.bool false,.slice none 0 0,.bool false,.string ⟨#[]⟩,jI 0,jI 0,.slice none 0 0]) eD Z (by kernel_rfl)) Z ?_
   refine GB ax 1 Z (Iq (cs':= #[jI 0,jI 0,jI 0,.bool false,.string ⟨#[]⟩,.bool false,.string ⟨#[]⟩,jI 0,jI 0,jI 0,.string ⟨#[]⟩,jI 0,jI 0,.slice none 0 0,.string ⟨#[]⟩,jI 0,jI 0,.bool false,.slice none 0 0,.bool false,.string ⟨#[]⟩,jI 0,jI 0,.slice none 0 0]) Z .u Z Z J5 Z Z Z Z (GB ax 1 Z ?_))
   obtain rfl:=JP h
   exact GD (T.ret (GH (G6 2 ba (G6 5 aW (G6 2 aH (Hl [6,2,1,0] Li (Hs (us:= #[jI 0,jI 0,jI 0,.bool false,.string ⟨#[]⟩,.bool false,.string ⟨#[]⟩,jI 0,jI 0,jI 0,.string ⟨#[]⟩,jI 0,jI 0,.slice none 0 0,.string ⟨#[]⟩,jI 0,jI 0,.bool false,.slice none 0 0,.bool false,.string ⟨#[]⟩,jI 0,jI 0,.slice none 0 0]) 5 Z Kx J5 Z Z) (GF Z) ⟨_,_,_,_,_,_,Z,Z,Z⟩ (by rfl) (.inl Z)))))))
  refine Ha Z c13 (GC Z (GB ax 2 Z ?_))
  rcases jF h with⟨c21,h⟩ | ⟨c21,h⟩
  ·refine G9 Z c21 (T.region Z ?_)
   obtain⟨⟨x22,st25⟩,hx26,h⟩:=JO h
   try dsimp only at h
   refine GB ax 1 Z (IQ Z .u (.fn Tryz.call117 Z) (pN b4 st10 _ hx26) sT Z ?_)
   rintro _ _ _ ⟨A23,c24,rfl,rfl,rfl⟩
   refine Hz [0,0,0,0,0] Z (GB ax 1 Z (H5 (cs':= #[jI x5.Jk,jI x5.Jg,jI x5.Jo,.bool x5.Je.null,jS x5.Je.data,.bool false,.string ⟨#[]⟩,jI 0,jI 0,jI 0,jS x22.Jc,jI x22.I6,jI x22.I8,.slice A23 x22.I5.length c24,.string ⟨#[]⟩,jI 0,jI 0,.bool false,.slice none 0 0,.bool false,.string ⟨#[]⟩,jI 0,jI 0,.slice none 0 0]) Z .u Z Z Lh Z Z Z Z (TL.nil (GX (X.seq (T.seq (GC Z ?_)))))))
   obtain⟨⟨x27,st28⟩,hx29,h⟩:=JO h
   try dsimp only at h
   refine GB ax 1 Z (HY Z .u (.fn Tryz.call21 Z) (cL b4 st25 _ hx29) sT Z (G4 ax Z Z (GB ax 2 Z ?_)))
   rcases jF h with⟨c30,h⟩ | ⟨c30,h⟩
   ·refine He Z c30 (Hb Z (GE Z (GR (us := [jI x5.Jk,jI x5.Jg,jI x5.Jo,.bool x5.Je.null,jS x5.Je.data,.bool false,.string ⟨#[]⟩,jI 0,jI 0,jI 0,jS x22.Jc,jI x22.I6,jI x22.I8,.slice A23 x22.I5.length c24,.string ⟨#[]⟩,jI 0,jI 0,.bool false,.slice none 0 0,.bool false,.string ⟨#[]⟩,jI 0,jI 0,.slice none 0 0]) 1 Z Kx J5 Z Z Z) Z (Ig (cs':= #[jI x5.Jk,jI x5.Jg,jI x5.Jo,.bool x5.Je.null,jS x5.Je.data,.bool false,.string ⟨#[]⟩,jI 0,jI 0,jI 0,jS x22.Jc,jI x22.I6,jI x22.I8,.slice A23 x22.I5.length c24,.string ⟨#[]⟩,jI 0,jI 0,.bool false,.slice none 0 0,.bool false,.string ⟨#[]⟩,jI 0,jI 0,.slice none 0 0]) Z .u Z Z J5 Z Z Z Z (GB ax 1 Z ?_))))
    obtain rfl:=JP h
    exact GD (T.ret (G6 5 aW (G6 2 aH (Hl [6,2,1,0] Li (Hs (us:= #[jI x5.Jk,jI x5.Jg,jI x5.Jo,.bool x5.Je.null,jS x5.Je.data,.bool false,.string ⟨#[]⟩,jI 0,jI 0,jI 0,jS x22.Jc,jI x22.I6,jI x22.I8,.slice A23 x22.I5.length c24,.string ⟨#[]⟩,jI 0,jI 0,.bool false,.slice none 0 0,.bool false,.string ⟨#[]⟩,jI 0,jI 0,.slice none 0 0]) 5 Z Kx J5 Z Z) (GF Z) ⟨_,_,_,_,_,_,Z,Z,Z⟩ (by rfl) (.inl Z)))))
   refine Hc Z c30 (GC Z ?_)
   refine GE Z (Hf (cells:= #[jI 0,jI 0,jI 0,.bool false,.string ⟨#[]⟩,.bool false,.string ⟨#[]⟩,jI 0,jI 0,jI 0,.string ⟨#[]⟩,jI 0,jI 0,.slice none 0 0,.string ⟨#[]⟩,jI 0,jI 0,.bool false,.slice none 0 0,.bool false,.string ⟨#[]⟩,jI 0,jI 0,.slice none 0 0]) eD Z (by kernel_rfl)) Z ?_
   refine GB ax 1 Z (Ig (cs':= #[jI 0,jI 0,jI 0,.bool false,.string ⟨#[]⟩,.bool false,.string ⟨#[]⟩,jI 0,jI 0,jI 0,.string ⟨#[]⟩,jI 0,jI 0,.slice none 0 0,.string ⟨#[]⟩,jI 0,jI 0,.bool false,.slice none 0 0,.bool false,.string ⟨#[]⟩,jI 0,jI 0,.slice none 0 0]) Z .u Z Z J5 Z Z Z Z (GB ax 1 Z ?_))
   obtain rfl:=JP h
   exact GD (T.ret (GH (G6 2 ba (G6 5 aW (G6 2 aH (Hl [7,2,1,0] Li (Hs (us:= #[jI 0,jI 0,jI 0,.bool false,.string ⟨#[]⟩,.bool false,.string ⟨#[]⟩,jI 0,jI 0,jI 0,.string ⟨#[]⟩,jI 0,jI 0,.slice none 0 0,.string ⟨#[]⟩,jI 0,jI 0,.bool false,.slice none 0 0,.bool false,.string ⟨#[]⟩,jI 0,jI 0,.slice none 0 0]) 6 Z Kx J5 Z Z) (GF Z) ⟨_,_,_,_,_,_,Z,Z,Z⟩ (by rfl) (.inl Z)))))))
  refine Ha Z c21 (GC Z (GB ax 2 Z ?_))
  rcases jF h with⟨c31,h⟩ | ⟨c31,h⟩
  ·refine G9 Z c31 (T.region Z ?_)
   obtain⟨⟨x32,st33⟩,hx34,h⟩:=JO h
   try dsimp only at h
   refine GB ax 1 Z (Hh Z .u (.fn Tryz.call118 Z) (pO b4 st10 _ hx34) sT Z (GB ax 1 Z (GU (cs':= #[jI x5.Jk,jI x5.Jg,jI x5.Jo,.bool x5.Je.null,jS x5.Je.data,.bool false,.string ⟨#[]⟩,jI 0,jI 0,jI 0,.string ⟨#[]⟩,jI 0,jI 0,.slice none 0 0,jS x32.Jc,jI x32.I6,jI x32.I8,.bool x32.Js,.slice none 0 0,.bool false,.string ⟨#[]⟩,jI 0,jI 0,.slice none 0 0]) Z .u Z Z K2 Z Z Z Z (TL.nil (GX (X.seq (T.seq (GC Z ?_))))))))
   obtain⟨⟨x35,st36⟩,hx37,h⟩:=JO h
   try dsimp only at h
   refine GB ax 1 Z (Hh Z .u (.fn Tryz.call21 Z) (cL b4 st33 _ hx37) sT Z (G4 ax Z Z (GB ax 2 Z ?_)))
   rcases jF h with⟨c38,h⟩ | ⟨c38,h⟩
   ·refine He Z c38 (Hb Z (GE Z (GR (us := [jI x5.Jk,jI x5.Jg,jI x5.Jo,.bool x5.Je.null,jS x5.Je.data,.bool false,.string ⟨#[]⟩,jI 0,jI 0,jI 0,.string ⟨#[]⟩,jI 0,jI 0,.slice none 0 0,jS x32.Jc,jI x32.I6,jI x32.I8,.bool x32.Js,.slice none 0 0,.bool false,.string ⟨#[]⟩,jI 0,jI 0,.slice none 0 0]) 0 Z Kx J5 Z Z Z) Z (Iq (cs':= #[jI x5.Jk,jI x5.Jg,jI x5.Jo,.bool x5.Je.null,jS x5.Je.data,.bool false,.string ⟨#[]⟩,jI 0,jI 0,jI 0,.string ⟨#[]⟩,jI 0,jI 0,.slice none 0 0,jS x32.Jc,jI x32.I6,jI x32.I8,.bool x32.Js,.slice none 0 0,.bool false,.string ⟨#[]⟩,jI 0,jI 0,.slice none 0 0]) Z .u Z Z J5 Z Z Z Z (GB ax 1 Z ?_))))
    obtain rfl:=JP h
    exact GD (T.ret (G6 2 ba (G6 5 aW (G6 2 aH (Hl [6,2,1,0] Li (Hs (us:= #[jI x5.Jk,jI x5.Jg,jI x5.Jo,.bool x5.Je.null,jS x5.Je.data,.bool false,.string ⟨#[]⟩,jI 0,jI 0,jI 0,.string ⟨#[]⟩,jI 0,jI 0,.slice none 0 0,jS x32.Jc,jI x32.I6,jI x32.I8,.bool x32.Js,.slice none 0 0,.bool false,.string ⟨#[]⟩,jI 0,jI 0,.slice none 0 0]) 5 Z Kx J5 Z Z) (GF Z) ⟨_,_,_,_,_,_,Z,Z,Z⟩ (by rfl) (.inl Z))))))
   refine Hc Z c38 (GC Z ?_)
   refine GE Z (Hf (cells:= #[jI 0,jI 0,jI 0,.bool false,.string ⟨#[]⟩,.bool false,.string ⟨#[]⟩,jI 0,jI 0,jI 0,.string ⟨#[]⟩,jI 0,jI 0,.slice none 0 0,.string ⟨#[]⟩,jI 0,jI 0,.bool false,.slice none 0 0,.bool false,.string ⟨#[]⟩,jI 0,jI 0,.slice none 0 0]) eD Z (by kernel_rfl)) Z ?_
   refine GB ax 1 Z (Iq (cs':= #[jI 0,jI 0,jI 0,.bool false,.string ⟨#[]⟩,.bool false,.string ⟨#[]⟩,jI 0,jI 0,jI 0,.string ⟨#[]⟩,jI 0,jI 0,.slice none 0 0,.string ⟨#[]⟩,jI 0,jI 0,.bool false,.slice none 0 0,.bool false,.string ⟨#[]⟩,jI 0,jI 0,.slice none 0 0]) Z .u Z Z J5 Z Z Z Z (GB ax 1 Z ?_))
   obtain rfl:=JP h
   exact GD (T.ret (GH (G6 2 ba (G6 5 aW (G6 2 aH (Hl [6,2,1,0] Li (Hs (us:= #[jI 0,jI 0,jI 0,.bool false,.string ⟨#[]⟩,.bool false,.string ⟨#[]⟩,jI 0,jI 0,jI 0,.string ⟨#[]⟩,jI 0,jI 0,.slice none 0 0,.string ⟨#[]⟩,jI 0,jI 0,.bool false,.slice none 0 0,.bool false,.string ⟨#[]⟩,jI 0,jI 0,.slice none 0 0]) 5 Z Kx J5 Z Z) (GF Z) ⟨_,_,_,_,_,_,Z,Z,Z⟩ (by rfl) (.inl Z)))))))
  refine Ha Z c31 (GC Z (GB ax 2 Z ?_))
  rcases jF h with⟨c39,h⟩ | ⟨c39,h⟩
  ·refine G9 Z c39 (T.region Z ?_)
   obtain⟨⟨x40,st43⟩,hx44,h⟩:=JO h
   try dsimp only at h
   refine GG ax gc 0 Z 4 Z Z (IQ Z .u (.fn Tryz.call119 Z) (sp b4 st10 x5.Jg _ hx44) sT Z ?_)
   rintro _ _ _ ⟨A41,c42,rfl,rfl,rfl⟩
   refine Hz [0,0,0,0,0] Z (GB ax 1 Z (H5 (cs':= #[jI x5.Jk,jI x5.Jg,jI x5.Jo,.bool x5.Je.null,jS x5.Je.data,.bool false,.string ⟨#[]⟩,jI 0,jI 0,jI 0,.string ⟨#[]⟩,jI 0,jI 0,.slice none 0 0,.string ⟨#[]⟩,jI 0,jI 0,.bool false,.slice A41 x40.length c42,.bool false,.string ⟨#[]⟩,jI 0,jI 0,.slice none 0 0]) Z .u Z Z Tryz.sizeOf33 Z Z Z Z (TL.nil (GX (X.seq (T.seq (GC Z ?_)))))))
   obtain⟨⟨x45,st46⟩,hx47,h⟩:=JO h
   try dsimp only at h
   refine GB ax 1 Z (HY Z .u (.fn Tryz.call21 Z) (cL b4 st43 _ hx47) sT Z (G4 ax Z Z (GB ax 2 Z ?_)))
   rcases jF h with⟨c48,h⟩ | ⟨c48,h⟩
   ·refine He Z c48 (Hb Z (GE Z (GR (us := [jI x5.Jk,jI x5.Jg,jI x5.Jo,.bool x5.Je.null,jS x5.Je.data,.bool false,.string ⟨#[]⟩,jI 0,jI 0,jI 0,.string ⟨#[]⟩,jI 0,jI 0,.slice none 0 0,.string ⟨#[]⟩,jI 0,jI 0,.bool false,.slice A41 x40.length c42,.bool false,.string ⟨#[]⟩,jI 0,jI 0,.slice none 0 0]) 1 Z Kx J5 Z Z Z) Z (Ig (cs':= #[jI x5.Jk,jI x5.Jg,jI x5.Jo,.bool x5.Je.null,jS x5.Je.data,.bool false,.string ⟨#[]⟩,jI 0,jI 0,jI 0,.string ⟨#[]⟩,jI 0,jI 0,.slice none 0 0,.string ⟨#[]⟩,jI 0,jI 0,.bool false,.slice A41 x40.length c42,.bool false,.string ⟨#[]⟩,jI 0,jI 0,.slice none 0 0]) Z .u Z Z J5 Z Z Z Z (GB ax 1 Z ?_))))
    obtain rfl:=JP h
    exact GD (T.ret (G6 2 ba (G6 2 aH (Hl [6,1,1,0] Li (Hs (us:= #[jI x5.Jk,jI x5.Jg,jI x5.Jo,.bool x5.Je.null,jS x5.Je.data,.bool false,.string ⟨#[]⟩,jI 0,jI 0,jI 0,.string ⟨#[]⟩,jI 0,jI 0,.slice none 0 0,.string ⟨#[]⟩,jI 0,jI 0,.bool false,.slice A41 x40.length c42,.bool false,.string ⟨#[]⟩,jI 0,jI 0,.slice none 0 0]) 5 Z Kx J5 Z Z) (GF Z) ⟨_,_,_,_,_,_,Z,Z,Z⟩ (by rfl) (.inl Z)))))
   refine Hc Z c48 (GC Z ?_)
   refine GE Z (Hf (cells:= #[jI 0,jI 0,jI 0,.bool false,.string ⟨#[]⟩,.bool false,.string ⟨#[]⟩,jI 0,jI 0,jI 0,.string ⟨#[]⟩,jI 0,jI 0,.slice none 0 0,.string ⟨#[]⟩,jI 0,jI 0,.bool false,.slice none 0 0,.bool false,.string ⟨#[]⟩,jI 0,jI 0,.slice none 0 0]) eD Z (by kernel_rfl)) Z ?_
   refine GB ax 1 Z (Ig (cs':= #[jI 0,jI 0,jI 0,.bool false,.string ⟨#[]⟩,.bool false,.string ⟨#[]⟩,jI 0,jI 0,jI 0,.string ⟨#[]⟩,jI 0,jI 0,.slice none 0 0,.string ⟨#[]⟩,jI 0,jI 0,.bool false,.slice none 0 0,.bool false,.string ⟨#[]⟩,jI 0,jI 0,.slice none 0 0]) Z .u Z Z J5 Z Z Z Z (GB ax 1 Z ?_))
   obtain rfl:=JP h
   exact GD (T.ret (GH (G6 2 ba (G6 5 aW (G6 2 aH (Hl [7,2,1,0] Li (Hs (us:= #[jI 0,jI 0,jI 0,.bool false,.string ⟨#[]⟩,.bool false,.string ⟨#[]⟩,jI 0,jI 0,jI 0,.string ⟨#[]⟩,jI 0,jI 0,.slice none 0 0,.string ⟨#[]⟩,jI 0,jI 0,.bool false,.slice none 0 0,.bool false,.string ⟨#[]⟩,jI 0,jI 0,.slice none 0 0]) 6 Z Kx J5 Z Z) (GF Z) ⟨_,_,_,_,_,_,Z,Z,Z⟩ (by rfl) (.inl Z)))))))
  refine Ha Z c39 (T.region Z ?_)
  obtain⟨⟨x49,st52⟩,hx53,h⟩:=JO h
  try dsimp only at h
  refine GG ax gc 0 Z 4 Z Z (IQ Z .u (.fn Tryz.call120 Z) (ph b4 st10 x5.Jg _ hx53) sT Z ?_)
  rintro _ _ _ ⟨A50,c51,rfl,rfl,rfl⟩
  refine Hz [0,0,0,0,0] Z (GB ax 1 Z (H5 (cs':= #[jI x5.Jk,jI x5.Jg,jI x5.Jo,.bool x5.Je.null,jS x5.Je.data,.bool false,.string ⟨#[]⟩,jI 0,jI 0,jI 0,.string ⟨#[]⟩,jI 0,jI 0,.slice none 0 0,.string ⟨#[]⟩,jI 0,jI 0,.bool false,.slice none 0 0,.bool x49.Jc.null,jS x49.Jc.data,jI x49.Ju,jI x49.Jb,.slice A50 x49.I5.length c51]) Z .u Z Z KN Z Z Z Z (TL.nil (GX (X.seq (T.seq (GC Z ?_)))))))
  obtain⟨⟨x54,st55⟩,hx56,h⟩:=JO h
  try dsimp only at h
  refine GB ax 1 Z (HY Z .u (.fn Tryz.call21 Z) (cL b4 st52 _ hx56) sT Z (G4 ax Z Z (GB ax 2 Z ?_)))
  rcases jF h with⟨c57,h⟩ | ⟨c57,h⟩
  ·refine He Z c57 (Hb Z (GE Z (GR (us := [jI x5.Jk,jI x5.Jg,jI x5.Jo,.bool x5.Je.null,jS x5.Je.data,.bool false,.string ⟨#[]⟩,jI 0,jI 0,jI 0,.string ⟨#[]⟩,jI 0,jI 0,.slice none 0 0,.string ⟨#[]⟩,jI 0,jI 0,.bool false,.slice none 0 0,.bool x49.Jc.null,jS x49.Jc.data,jI x49.Ju,jI x49.Jb,.slice A50 x49.I5.length c51]) 1 Z Kx J5 Z Z Z) Z (Ig (cs':= #[jI x5.Jk,jI x5.Jg,jI x5.Jo,.bool x5.Je.null,jS x5.Je.data,.bool false,.string ⟨#[]⟩,jI 0,jI 0,jI 0,.string ⟨#[]⟩,jI 0,jI 0,.slice none 0 0,.string ⟨#[]⟩,jI 0,jI 0,.bool false,.slice none 0 0,.bool x49.Jc.null,jS x49.Jc.data,jI x49.Ju,jI x49.Jb,.slice A50 x49.I5.length c51]) Z .u Z Z J5 Z Z Z Z (GB ax 1 Z ?_))))
   obtain rfl:=JP h
   exact GD (T.ret (G6 2 ba (G6 5 aW (Hl [6,1,0,0] Li (Hs (us:= #[jI x5.Jk,jI x5.Jg,jI x5.Jo,.bool x5.Je.null,jS x5.Je.data,.bool false,.string ⟨#[]⟩,jI 0,jI 0,jI 0,.string ⟨#[]⟩,jI 0,jI 0,.slice none 0 0,.string ⟨#[]⟩,jI 0,jI 0,.bool false,.slice none 0 0,.bool x49.Jc.null,jS x49.Jc.data,jI x49.Ju,jI x49.Jb,.slice A50 x49.I5.length c51]) 5 Z Kx J5 Z Z) (GF Z) ⟨_,_,_,_,_,_,Z,Z,Z⟩ (by rfl) (.inl Z)))))
  refine Hc Z c57 (GC Z ?_)
  refine GE Z (Hf (cells:= #[jI 0,jI 0,jI 0,.bool false,.string ⟨#[]⟩,.bool false,.string ⟨#[]⟩,jI 0,jI 0,jI 0,.string ⟨#[]⟩,jI 0,jI 0,.slice none 0 0,.string ⟨#[]⟩,jI 0,jI 0,.bool false,.slice none 0 0,.bool false,.string ⟨#[]⟩,jI 0,jI 0,.slice none 0 0]) eD Z (by kernel_rfl)) Z ?_
  refine GB ax 1 Z (Ig (cs':= #[jI 0,jI 0,jI 0,.bool false,.string ⟨#[]⟩,.bool false,.string ⟨#[]⟩,jI 0,jI 0,jI 0,.string ⟨#[]⟩,jI 0,jI 0,.slice none 0 0,.string ⟨#[]⟩,jI 0,jI 0,.bool false,.slice none 0 0,.bool false,.string ⟨#[]⟩,jI 0,jI 0,.slice none 0 0]) Z .u Z Z J5 Z Z Z Z (GB ax 1 Z ?_))
  obtain rfl:=JP h
  exact GD (T.ret (GH (G6 2 ba (G6 5 aW (G6 2 aH (Hl [7,2,1,0] Li (Hs (us:= #[jI 0,jI 0,jI 0,.bool false,.string ⟨#[]⟩,.bool false,.string ⟨#[]⟩,jI 0,jI 0,jI 0,.string ⟨#[]⟩,jI 0,jI 0,.slice none 0 0,.string ⟨#[]⟩,jI 0,jI 0,.bool false,.slice none 0 0,.bool false,.string ⟨#[]⟩,jI 0,jI 0,.slice none 0 0]) 6 Z Kx J5 Z Z) (GF Z) ⟨_,_,_,_,_,_,Z,Z,Z⟩ (by rfl) (.inl Z)))))))
 refine Hc Z c12 (GC Z ?_)
 refine GE Z (Hf (cells:= #[jI 0,jI 0,jI 0,.bool false,.string ⟨#[]⟩,.bool false,.string ⟨#[]⟩,jI 0,jI 0,jI 0,.string ⟨#[]⟩,jI 0,jI 0,.slice none 0 0,.string ⟨#[]⟩,jI 0,jI 0,.bool false,.slice none 0 0,.bool false,.string ⟨#[]⟩,jI 0,jI 0,.slice none 0 0]) eD Z (by kernel_rfl)) Z ?_
 refine GB ax 1 Z (Iq (cs':= #[jI 0,jI 0,jI 0,.bool false,.string ⟨#[]⟩,.bool false,.string ⟨#[]⟩,jI 0,jI 0,jI 0,.string ⟨#[]⟩,jI 0,jI 0,.slice none 0 0,.string ⟨#[]⟩,jI 0,jI 0,.bool false,.slice none 0 0,.bool false,.string ⟨#[]⟩,jI 0,jI 0,.slice none 0 0]) Z .u Z Z J5 Z Z Z Z (GB ax 1 Z ?_))
 obtain rfl:=JP h
 exact GD (T.ret (GH (G6 2 ba (G6 5 aW (G6 2 aH (Hl [6,2,1,0] Li (Hs (us:= #[jI 0,jI 0,jI 0,.bool false,.string ⟨#[]⟩,.bool false,.string ⟨#[]⟩,jI 0,jI 0,jI 0,.string ⟨#[]⟩,jI 0,jI 0,.slice none 0 0,.string ⟨#[]⟩,jI 0,jI 0,.bool false,.slice none 0 0,.bool false,.string ⟨#[]⟩,jI 0,jI 0,.slice none 0 0]) 5 Z Kx J5 Z Z) (GF Z) ⟨_,_,_,_,_,_,Z,Z,Z⟩ (by rfl) (.inl Z)))))))
def gr (st:I)  : Option (aC×I):=(dL st 4).bind fun (x2,st3)=>(ue st3 x2).bind fun (x5,st6)=>(gJ st6).bind fun (x8,st9)=>if x8=0 then ((gq x5).bind fun (x12,x19)=>if x19=0 then some (x12,st9) else ((bU st9 x19).bind fun st23=>some ((⟨(⟨0,0,0,(⟨false,[]⟩:Bl)⟩:eS),(⟨(⟨false,[]⟩:Bl),0,0,0⟩:aX),(⟨[],0,0,[]⟩:bJ),(⟨[],0,0,false⟩:bI),[],(⟨(⟨false,[]⟩:Bl),0,0,[]⟩:aw)⟩:aC),st23))) else (some ((⟨(⟨0,0,0,(⟨false,[]⟩:Bl)⟩:eS),(⟨(⟨false,[]⟩:Bl),0,0,0⟩:aX),(⟨[],0,0,[]⟩:bJ),(⟨[],0,0,false⟩:bI),[],(⟨(⟨false,[]⟩:Bl),0,0,[]⟩:aw)⟩:aC),st9))
theorem lR (g:Nat) (st:I)  (r:aC×I) (h:gr st  = some r):aE Tryz.prog 20 #[jP g] .triv (InR g st) (fun v A' N=> ∃ (A25:Option Addr) (c26:Nat) (A27:Option Addr) (c28:Nat) (A29:Option Addr) (c30:Nat),v= .agg #[jI r.1.I9.Jk,jI r.1.I9.Jg,jI r.1.I9.Jo,.bool r.1.I9.Je.null,jS r.1.I9.Je.data,.bool r.1.Jw.Jc.null,jS r.1.Jw.Jc.data,jI r.1.Jw.Jb,jI r.1.Jw.I6,jI r.1.Jw.I8,jS r.1.Jy.Jc,jI r.1.Jy.I6,jI r.1.Jy.I8,.slice A25 r.1.Jy.I5.length c26,jS r.1.JC.Jc,jI r.1.JC.I6,jI r.1.JC.I8,.bool r.1.JC.Js,.slice A27 r.1.Jt.length c28,.bool r.1.Jh.Jc.null,jS r.1.Jh.Jc.data,jI r.1.Jh.Ju,jI r.1.Jh.Jb,.slice A29 r.1.Jh.I5.length c30]∧A'=InR g r.2∧N = [RdR (ao 2 ba) [.slice A25 r.1.Jy.I5.length c26] r.1.Jy.I5,RdR (ao 5 aW) [.slice A27 r.1.Jt.length c28] r.1.Jt,RdR (ao 2 aH) [.slice A29 r.1.Jh.I5.length c30] r.1.Jh.I5]):=by
 refine aU Tryz.func20 Z Tryz.ntmps20 Z ?_
 intro F w hX
 unfold gr at h
 refine GC Z (TL.alloc Z .u Tryz.zeroValue38 Z (fun b1=>(GV Z ?_)))
 obtain⟨⟨x2,st3⟩,hx4,h⟩:=JO h
 try dsimp only at h
 refine GB ax 2 Z (Hh Z .u (.fn Tryz.call68 Z) (bj g st 4 _ hx4) sT Z ?_)
 obtain⟨⟨x5,st6⟩,hx7,h⟩:=JO h
 try dsimp only at h
 refine Hh Z .u (.fn Tryz.call67 Z) (uf g st3 x2 _ hx7) sT Z (GK ax Z (T.seq (GC Z ?_)))
 obtain⟨⟨x8,st9⟩,hx10,h⟩:=JO h
 try dsimp only at h
 refine GB ax 1 Z (Hh Z .u (.fn Tryz.call23 Z) (cc g st6 _ hx10) sT Z (GB ax 1 Z ?_))
 rcases jF h with⟨c11,h⟩ | ⟨c11,h⟩
 ·refine He Z c11 (Hb Z ?_)
  obtain⟨⟨x12,x19⟩,hx20,h⟩:=JO h
  try dsimp only at h
  refine GB ax 1 Z (It Z .u (.fn Tryz.call69 Z) (qL x5 _ hx20) rT Z ?_)
  rintro _ _ _ ⟨A13,c14,A15,c16,A17,c18,rfl,rfl,rfl⟩
  refine Hz [0,0,0,0,0] Z (GB ax 3 Z (TL.alloc Z .u Tryz.zeroValue38 Z (fun b21=>(GU (cs':=lg x12 A13 A15 A17 c14 c16 c18) Z .u Z Z J5 Z Z Z Z (GK ax Z (T.seq (GC Z (GB ax 2 Z ?_))))))))
  rcases jF h with⟨c22,h⟩ | ⟨c22,h⟩
  ·refine He Z c22 (Hb Z (GE Z (GR (us:=xz x12 A13 A15 A17 c14 c16 c18) 0 Z Kx J5 Z Z Z) Z (IU (cs':=lg x12 A13 A15 A17 c14 c16 c18) Z .u Z Z J5 Z Z Z Z ?_)))
   obtain rfl:=JP h
   exact GD (T.ret (G8 [5,1,1,1] Tryz.results20 (Hs (us:=lg x12 A13 A15 A17 c14 c16 c18) 4 Z Kx J5 Z Z) ⟨_,_,_,_,_,_,Z,Z,Z⟩ (by rfl) (.inl Z)))
  refine Hc Z c22 (GC Z ?_)
  obtain⟨st23,hx24,h⟩:=JO h
  refine GB ax 2 Z (IK Z .u (.fn Tryz.call70 Z) (bx g st9 x19 _ hx24) sT Z (GV Z ?_))
  refine GE Z (Hf (cells:= #[jI 0,jI 0,jI 0,.bool false,.string ⟨#[]⟩,.bool false,.string ⟨#[]⟩,jI 0,jI 0,jI 0,.string ⟨#[]⟩,jI 0,jI 0,.slice none 0 0,.string ⟨#[]⟩,jI 0,jI 0,.bool false,.slice none 0 0,.bool false,.string ⟨#[]⟩,jI 0,jI 0,.slice none 0 0]) eD Z (by kernel_rfl)) Z ?_
  refine IU (cs':= #[jI 0,jI 0,jI 0,.bool false,.string ⟨#[]⟩,.bool false,.string ⟨#[]⟩,jI 0,jI 0,jI 0,.string ⟨#[]⟩,jI 0,jI 0,.slice none 0 0,.string ⟨#[]⟩,jI 0,jI 0,.bool false,.slice none 0 0,.bool false,.string ⟨#[]⟩,jI 0,jI 0,.slice none 0 0]) Z .u Z Z J5 Z Z Z Z ?_
  obtain rfl:=JP h
  exact GD (T.ret (GH (G6 2 ba (G6 5 aW (G6 2 aH (G8 [8,2,1,0] Tryz.results20 (Hs (us:= #[jI 0,jI 0,jI 0,.bool false,.string ⟨#[]⟩,.bool false,.string ⟨#[]⟩,jI 0,jI 0,jI 0,.string ⟨#[]⟩,jI 0,jI 0,.slice none 0 0,.string ⟨#[]⟩,jI 0,jI 0,.bool false,.slice none 0 0,.bool false,.string ⟨#[]⟩,jI 0,jI 0,.slice none 0 0]) 7 Z Kx J5 Z Z) ⟨_,_,_,_,_,_,Z,Z,Z⟩ (by rfl) (.inl Z)))))))
 refine Hc Z c11 (GC Z ?_)
 refine GE Z (Hf (cells:= #[jI 0,jI 0,jI 0,.bool false,.string ⟨#[]⟩,.bool false,.string ⟨#[]⟩,jI 0,jI 0,jI 0,.string ⟨#[]⟩,jI 0,jI 0,.slice none 0 0,.string ⟨#[]⟩,jI 0,jI 0,.bool false,.slice none 0 0,.bool false,.string ⟨#[]⟩,jI 0,jI 0,.slice none 0 0]) eD Z (by kernel_rfl)) Z ?_
 refine GU (cs':= #[jI 0,jI 0,jI 0,.bool false,.string ⟨#[]⟩,.bool false,.string ⟨#[]⟩,jI 0,jI 0,jI 0,.string ⟨#[]⟩,jI 0,jI 0,.slice none 0 0,.string ⟨#[]⟩,jI 0,jI 0,.bool false,.slice none 0 0,.bool false,.string ⟨#[]⟩,jI 0,jI 0,.slice none 0 0]) Z .u Z Z J5 Z Z Z Z ?_
 obtain rfl:=JP h
 exact GD (T.ret (GH (G6 2 ba (G6 5 aW (G6 2 aH (G8 [4,2,1,0] Tryz.results20 (Hs (us:= #[jI 0,jI 0,jI 0,.bool false,.string ⟨#[]⟩,.bool false,.string ⟨#[]⟩,jI 0,jI 0,jI 0,.string ⟨#[]⟩,jI 0,jI 0,.slice none 0 0,.string ⟨#[]⟩,jI 0,jI 0,.bool false,.slice none 0 0,.bool false,.string ⟨#[]⟩,jI 0,jI 0,.slice none 0 0]) 3 Z Kx J5 Z Z) ⟨_,_,_,_,_,_,Z,Z,Z⟩ (by rfl) (.inl Z)))))))
def jz (a0:List UInt8):Option (aC×Int):=(tn a0).bind fun st2=>(gr st2).bind fun (x5,st12)=>(dM st12).bind fun (x15,st16)=>if x15=0 then some (x5,0) else (some ((⟨(⟨0,0,0,(⟨false,[]⟩:Bl)⟩:eS),(⟨(⟨false,[]⟩:Bl),0,0,0⟩:aX),(⟨[],0,0,[]⟩:bJ),(⟨[],0,0,false⟩:bI),[],(⟨(⟨false,[]⟩:Bl),0,0,[]⟩:aw)⟩:aC),x15))
theorem kL (a0:List UInt8) (r:aC×Int) (h:jz a0=some r):aE Tryz.prog 15 #[jS a0] .triv (aO) (fun v A' N=> ∃ (A19:Option Addr) (c20:Nat) (A21:Option Addr) (c22:Nat) (A23:Option Addr) (c24:Nat),v= .tuple #[.agg #[jI r.1.I9.Jk,jI r.1.I9.Jg,jI r.1.I9.Jo,.bool r.1.I9.Je.null,jS r.1.I9.Je.data,.bool r.1.Jw.Jc.null,jS r.1.Jw.Jc.data,jI r.1.Jw.Jb,jI r.1.Jw.I6,jI r.1.Jw.I8,jS r.1.Jy.Jc,jI r.1.Jy.I6,jI r.1.Jy.I8,.slice A19 r.1.Jy.I5.length c20,jS r.1.JC.Jc,jI r.1.JC.I6,jI r.1.JC.I8,.bool r.1.JC.Js,.slice A21 r.1.Jt.length c22,.bool r.1.Jh.Jc.null,jS r.1.Jh.Jc.data,jI r.1.Jh.Ju,jI r.1.Jh.Jb,.slice A23 r.1.Jh.I5.length c24],jI r.2]∧A'=aO∧N = [RdR (ao 2 ba) [.slice A19 r.1.Jy.I5.length c20] r.1.Jy.I5,RdR (ao 5 aW) [.slice A21 r.1.Jt.length c22] r.1.Jt,RdR (ao 2 aH) [.slice A23 r.1.Jh.I5.length c24] r.1.Jh.I5]):=by
 refine aU Tryz.func15 Z Tryz.ntmps15 Z ?_
 intro F w hX
 unfold jz at h
 refine GC Z (TL.alloc Z .u Tryz.zeroValue38 Z (fun b1=>(G4 ax Z Z ?_)))
 obtain⟨st2,hx3,h⟩:=JO h
 refine GB ax 1 Z (It Z .u (.fn Tryz.call19 Z) (iL a0 _ hx3) rT Z ?_)
 rintro _ _ _ ⟨b4,rfl,rfl,rfl⟩
 refine Hz [0,0,0] Z (G4 ax Z Z ?_)
 obtain⟨⟨x5,st12⟩,hx13,h⟩:=JO h
 try dsimp only at h
 refine GB ax 1 Z (TL.cg0 Z .u (.fn Tryz.call20 Z) (lR b4 st2 _ hx13) sT Z ?_)
 rintro _ _ _ ⟨A6,c7,A8,c9,A10,c11,rfl,rfl,rfl⟩
 refine Hz [0,0,0,0,0,0] Z (TL.alloc Z .u Tryz.zeroValue38 Z (fun b14=>(GU (cs':=lg x5 A6 A8 A10 c7 c9 c11) Z .u Z Z J5 Z Z Z Z (GD (T.seq (GC Z ?_))))))
 obtain⟨⟨x15,st16⟩,hx17,h⟩:=JO h
 try dsimp only at h
 refine GB ax 1 Z (TL.c4 Z .u (.fn Tryz.call21 Z) (cL b4 st12 _ hx17) sT Z (G4 ax Z Z (GB ax 2 Z ?_)))
 rcases jF h with⟨c18,h⟩ | ⟨c18,h⟩
 ·refine He Z c18 (Hb Z (GE Z (GR (us:=xz x5 A6 A8 A10 c7 c9 c11) 0 Z Kx J5 Z Z Z) Z (TL.st5 (cs':=lg x5 A6 A8 A10 c7 c9 c11) Z .u Z Z J5 Z Z Z Z (GB ax 1 Z ?_))))
  obtain rfl:=JP h
  exact GD (T.ret (Hl [6,1,1,1] Tryz.results15 (Hs (us:=lg x5 A6 A8 A10 c7 c9 c11) 5 Z Kx J5 Z Z) (GF Z) ⟨_,_,_,_,_,_,Z,Z,Z⟩ (by rfl) (.inl Z)))
 refine Hc Z c18 (GC Z ?_)
 refine GE Z (Hf (cells:= #[jI 0,jI 0,jI 0,.bool false,.string ⟨#[]⟩,.bool false,.string ⟨#[]⟩,jI 0,jI 0,jI 0,.string ⟨#[]⟩,jI 0,jI 0,.slice none 0 0,.string ⟨#[]⟩,jI 0,jI 0,.bool false,.slice none 0 0,.bool false,.string ⟨#[]⟩,jI 0,jI 0,.slice none 0 0]) eD Z (by kernel_rfl)) Z ?_
 refine GB ax 1 Z (TL.st5 (cs':= #[jI 0,jI 0,jI 0,.bool false,.string ⟨#[]⟩,.bool false,.string ⟨#[]⟩,jI 0,jI 0,jI 0,.string ⟨#[]⟩,jI 0,jI 0,.slice none 0 0,.string ⟨#[]⟩,jI 0,jI 0,.bool false,.slice none 0 0,.bool false,.string ⟨#[]⟩,jI 0,jI 0,.slice none 0 0]) Z .u Z Z J5 Z Z Z Z (GB ax 1 Z ?_))
 obtain rfl:=JP h
 exact GD (T.ret (GH (G6 2 ba (G6 5 aW (G6 2 aH (Hl [9,2,1,0] Tryz.results15 (Hs (us:= #[jI 0,jI 0,jI 0,.bool false,.string ⟨#[]⟩,.bool false,.string ⟨#[]⟩,jI 0,jI 0,jI 0,.string ⟨#[]⟩,jI 0,jI 0,.slice none 0 0,.string ⟨#[]⟩,jI 0,jI 0,.bool false,.slice none 0 0,.bool false,.string ⟨#[]⟩,jI 0,jI 0,.slice none 0 0]) 8 Z Kx J5 Z Z) (GF Z) ⟨_,_,_,_,_,_,Z,Z,Z⟩ (by rfl) (.inl Z)))))))
def sy:eP := [(23,1,1),(25,0,0),(25,3,3),(27,0,0),(27,1,2),(27,2,3),(27,3,4),(30,0,0),(30,1,1),(30,2,2),(30,3,3),(32,0,0),(32,1,1),(32,2,2),(32,3,3),(38,0,0),(38,1,5),(38,2,10),(38,3,14),(38,4,18),(38,5,19),(53,1,5),(53,2,12),(53,3,13),(67,0,0),(67,1,18),(67,2,19)]
theorem ai:(sy).OK Tryz.prog:=⟨FOK.mk Kf rfl Kk rfl,FOK.mk K0 rfl JX rfl,FOK.mk K0 rfl J2 rfl,FOK.mk K8 rfl J2 rfl,FOK.mk K8 rfl JX rfl,FOK.mk K8 rfl JX rfl,FOK.mk K8 rfl JX rfl,FOK.mk KW rfl Kk rfl,FOK.mk KW rfl JX rfl,FOK.mk KW rfl JX rfl,FOK.mk KW rfl LG rfl,FOK.mk KP rfl Kk rfl,FOK.mk KP rfl JX rfl,FOK.mk KP rfl JX rfl,FOK.mk KP rfl Kr rfl,FOK.mk KF rfl KI rfl,FOK.mk KF rfl Lg rfl,FOK.mk KF rfl Lh rfl,FOK.mk KF rfl K2 rfl,FOK.mk KF rfl Tryz.sizeOf33 rfl,FOK.mk KF rfl KN rfl,FOK.mk Lf rfl Lq rfl,FOK.mk Lf rfl Tryz.sizeOf48 rfl,FOK.mk Lf rfl Lz rfl,FOK.mk MR rfl KL rfl,FOK.mk MR rfl JX rfl,FOK.mk MR rfl JX rfl,trivial⟩
def sA:List Nat := [3,4,9,28,33]
theorem bD:NOK Tryz.prog sA:=⟨JZ,KG,Ks,Lm,Tryz.isAgg33,trivial⟩
theorem qM:Tryz.prog.follows .mixedOrders=true:=by kernel_rfl
theorem hN:BOK Tryz.prog 23 #[.bool false,.string ⟨#[]⟩] [(0,1),(1,1)]:=BOK.mk Tryz.zeroValue23 Kf (by intro w; simp)
theorem oc:BOK Tryz.prog 25 #[.int .i64 0,.int .i64 0,.int .i64 0,.bool false,.string ⟨#[]⟩] [(0,1),(1,1),(2,1),(3,2)]:=BOK.mk Tryz.zeroValue25 K0 (by intro w; simp)
theorem od:BOK Tryz.prog 32 #[.string ⟨#[]⟩,.int .i64 0,.int .i64 0,.bool false] [(0,1),(1,1),(2,1),(3,1)]:=BOK.mk Tryz.zeroValue32 KP (by intro w; simp)
theorem oe:BOK Tryz.prog 38 #[.int .i64 0,.int .i64 0,.int .i64 0,.bool false,.string ⟨#[]⟩,.bool false,.string ⟨#[]⟩,.int .i64 0,.int .i64 0,.int .i64 0,.string ⟨#[]⟩,.int .i64 0,.int .i64 0,.slice none 0 0,.string ⟨#[]⟩,.int .i64 0,.int .i64 0,.bool false,.slice none 0 0,.bool false,.string ⟨#[]⟩,.int .i64 0,.int .i64 0,.slice none 0 0] [(0,5),(5,5),(10,4),(14,4),(18,1),(19,5)]:=BOK.mk Tryz.zeroValue38 KF (by intro w; simp)
theorem hO:BOK Tryz.prog 47 #[.bool false,.string ⟨#[]⟩,.int .i64 0,.int .i64 0,.int .i64 0,.slice none 0 0,.bool false] [(0,2),(2,1),(3,1),(4,1),(5,1),(6,1)]:=BOK.mk Tryz.zeroValue47 Lr (by intro w; simp)
theorem og:BOK Tryz.prog 53 #[.int .i64 0,.int .i64 0,.int .i64 0,.bool false,.string ⟨#[]⟩,.bool false,.string ⟨#[]⟩,.int .i64 0,.int .i64 0,.int .i64 0,.slice none 0 0,.bool false,.slice none 0 0,.bool false,.string ⟨#[]⟩,.int .i64 0,.int .i64 0,.slice none 0 0] [(0,5),(5,7),(12,1),(13,5)]:=BOK.mk Tryz.zeroValue53 Lf (by intro w; simp)
theorem ek:fM Tryz.prog 2 32 [.string,.int .i64,.int .i64,.bool] true:=(fM.struct LL K2 rfl Tryz.underlying32 Tryz.stoodInHeld32 ⟨by decide,rfl,[.string],[.int .i64,.int .i64,.bool],false,rfl,(HZ Ks Kk Tryz.underlying9),⟨by decide,rfl,[.int .i64],[.int .i64,.bool],false,rfl,(HZ JZ JX Tryz.underlying3),⟨by decide,rfl,[.int .i64],[.bool],false,rfl,(HZ JZ JX Tryz.underlying3),⟨by decide,rfl,[.bool],[],false,rfl,(HZ KG Kr Tryz.underlying4),rfl⟩⟩⟩⟩)
def kR  : Option (Bool):=(dE (⟨(⟨26,0,0,(⟨true,[]⟩:Bl)⟩:eS),(⟨(⟨false,[]⟩:Bl),0,0,0⟩:aX),(⟨[],0,0,[]⟩:bJ),(⟨[97],0,0,false⟩:bI),[],(⟨(⟨false,[]⟩:Bl),0,0,[]⟩:aw)⟩:aC)).bind fun (x2,x3)=>(jz x2).bind fun (x5,x12)=>if x2.length + [120].length≤9223372036854775807 then ((jz (x2 ++ [120])).bind fun (x16,x23)=>(if x3=0 then (if (x2.length:Int)=28 then ((x2[3]?).bind fun ch40=>if (ch40.toNat:Int)=24 then (if x12=0 then (if x5.JC.Jc = [97] then (if x5.JC.I6=0 then (if x5.JC.I8=0 then (if x5.JC.Js=true then some false else (if x23=2 then some true else some false)) else some false) else some false) else some false) else some false) else some false) else some false) else some false).bind fun y36=>some y36) else none
theorem qN  (r:Bool) (h:kR  = some r):aE Tryz.prog 10 #[] .triv (aO) (fun v A' N=>v= .bool r∧A'=aO∧N = []):=by
 refine aU Tryz.func10 Z Tryz.ntmps10 Z ?_
 intro F w hX
 unfold kR at h
 refine GC Z (G4 ai Z Z ?_)
 refine GE Z (Hf (cells:= #[.bool true,.string ⟨#[]⟩]) hN Z (by kernel_rfl)) Z ?_
 refine GE Z (Hf (cells:= #[jI 26,jI 0,jI 0,.bool true,.string ⟨#[]⟩]) oc Z (by kernel_rfl)) Z ?_
 refine GE Z (Hf (cells:= #[.string ⟨#[97]⟩,jI 0,jI 0,.bool false]) od Z (by kernel_rfl)) Z ?_
 refine GE Z (Hf (cells:= #[jI 26,jI 0,jI 0,.bool true,.string ⟨#[]⟩,.bool false,.string ⟨#[]⟩,jI 0,jI 0,jI 0,.string ⟨#[]⟩,jI 0,jI 0,.slice none 0 0,.string ⟨#[97]⟩,jI 0,jI 0,.bool false,.slice none 0 0,.bool false,.string ⟨#[]⟩,jI 0,jI 0,.slice none 0 0]) oe Z (by kernel_rfl)) Z ?_
 refine TL.alloc Z .u Tryz.zeroValue38 Z (fun b1=>(GU (cs':= #[jI 26,jI 0,jI 0,.bool true,.string ⟨#[]⟩,.bool false,.string ⟨#[]⟩,jI 0,jI 0,jI 0,.string ⟨#[]⟩,jI 0,jI 0,.slice none 0 0,.string ⟨#[97]⟩,jI 0,jI 0,.bool false,.slice none 0 0,.bool false,.string ⟨#[]⟩,jI 0,jI 0,.slice none 0 0]) Z .u Z Z J5 Z Z Z Z (GV Z (GE Z (GR (us := [jI 26,jI 0,jI 0,.bool true,.string ⟨#[]⟩,.bool false,.string ⟨#[]⟩,jI 0,jI 0,jI 0,.string ⟨#[]⟩,jI 0,jI 0,.slice none 0 0,.string ⟨#[97]⟩,jI 0,jI 0,.bool false,.slice none 0 0,.bool false,.string ⟨#[]⟩,jI 0,jI 0,.slice none 0 0]) 0 Z Kx J5 Z Z Z) Z ?_))))
 obtain⟨⟨x2,x3⟩,hx4,h⟩:=JO h
 try dsimp only at h
 refine GZ Z .u (.fn Tryz.call12 Z) (kK (⟨(⟨26,0,0,(⟨true,[]⟩:Bl)⟩:eS),(⟨(⟨false,[]⟩:Bl),0,0,0⟩:aX),(⟨[],0,0,[]⟩:bJ),(⟨[97],0,0,false⟩:bI),[],(⟨(⟨false,[]⟩:Bl),0,0,[]⟩:aw)⟩:aC) _ _ _ _ _ _ _ hx4) (fun _ hs=>(Hn kt (Hn kt kt))) Z (G4 ai Z Z ?_)
 obtain⟨⟨x5,x12⟩,hx13,h⟩:=JO h
 try dsimp only at h
 refine GB ai 1 Z (It Z .u (.fn Tryz.call15 Z) (kL x2 _ hx13) rT Z ?_)
 rintro _ _ _ ⟨A6,c7,A8,c9,A10,c11,rfl,rfl,rfl⟩
 refine Hz [0,0,0,0,0] Z (GB ai 3 Z (TL.alloc Z .u Tryz.zeroValue38 Z (fun b14=>(GU (cs':=lg x5 A6 A8 A10 c7 c9 c11) Z .u Z Z J5 Z Z Z Z (G4 ai Z Z ?_)))))
 obtain⟨c15,h⟩:=ay h
 refine GB ai 1 Z (GE Z (Ex.sAdd Z (m := [120]) Z c15) Z ?_)
 obtain⟨⟨x16,x23⟩,hx24,h⟩:=JO h
 try dsimp only at h
 refine It Z .u (.fn Tryz.call15 Z) (kL (x2 ++ [120]) _ hx24) rT Z ?_
 rintro _ _ _ ⟨A17,c18,A19,c20,A21,c22,rfl,rfl,rfl⟩
 refine Hz [0,0,0,0,0,0,0,0,0] Z (GB ai 3 Z (TL.alloc Z .u Tryz.zeroValue38 Z (fun b25=>(GU (cs':=lg x16 A17 A19 A21 c18 c20 c22) Z .u Z Z J5 Z Z Z Z (GK ai Z (T.seq ?_))))))
 obtain⟨y36,h,hk37⟩:=JO h
 refine HJ (fun e Rs=>e = [(0,.bool y36)]∧Rs = [aT b25 38 (lg x16 A17 A19 A21 c18 c20 c22),RdR (ao 2 ba) [.slice A17 x16.Jy.I5.length c18] x16.Jy.I5,RdR (ao 5 aW) [.slice A19 x16.Jt.length c20] x16.Jt,RdR (ao 2 aH) [.slice A21 x16.Jh.I5.length c22] x16.Jh.I5,aT b14 38 (lg x5 A6 A8 A10 c7 c9 c11),RdR (ao 2 ba) [.slice A6 x5.Jy.I5.length c7] x5.Jy.I5,RdR (ao 5 aW) [.slice A8 x5.Jt.length c9] x5.Jt,RdR (ao 2 aH) [.slice A10 x5.Jh.I5.length c11] x5.Jh.I5,aT b1 38 #[jI 26,jI 0,jI 0,.bool true,.string ⟨#[]⟩,.bool false,.string ⟨#[]⟩,jI 0,jI 0,jI 0,.string ⟨#[]⟩,jI 0,jI 0,.slice none 0 0,.string ⟨#[97]⟩,jI 0,jI 0,.bool false,.slice none 0 0,.bool false,.string ⟨#[]⟩,jI 0,jI 0,.slice none 0 0],aO]) ?_ ?_
 ·clear hk37
  refine T.region Z ?_
  rcases jF h with⟨c38,h⟩ | ⟨c38,h⟩
  ·refine GB ai 3 Z (GI 30 Z (JS c38) (GJ ai 1 Z (TL.q Z (.g Z Z Z) (Hw Z J3) Z ?_)))
   rcases jF h with⟨c39,h⟩ | ⟨c39,h⟩
   ·refine GJ ai 3 Z (GI 35 Z (JS c39) ?_)
    obtain⟨ch40,hc41,h⟩:=JO h
    refine GJ ai 1 Z (TL.q Z (.g Z Z Z) (Ex.sIx Z Z Z Tryz.underlying9 hc41) Z ?_)
    rcases jF h with⟨c42,h⟩ | ⟨c42,h⟩
    ·refine GJ ai 3 Z (GI 40 Z (JS c42) ?_)
     rcases jF h with⟨c43,h⟩ | ⟨c43,h⟩
     ·refine GJ ai 4 Z (GI 44 Z (JS c43) (GJ ai 1 Z (TL.q Z (.g Z Z Z) (GR (us:=yF x5.JC) 4 Z LL K2 Z Z Z) Z (GJ ai 1 Z (TL.q Z (.g Z Z Z) (GR (us := [.string ⟨#[97]⟩,jI 0,jI 0,.bool false]) 8 Z LL K2 Z Z Z) Z ?_)))))
      rcases jF h with⟨c44,h⟩ | ⟨c44,h⟩
      ·rcases jF h with⟨c45,h⟩ | ⟨c45,h⟩
       ·rcases jF h with⟨c46,h⟩ | ⟨c46,h⟩
        ·rcases jF h with⟨c47,h⟩ | ⟨c47,h⟩
         ·refine TL.q Z (.g Z Z Z) (Ie (us:=yF x5.JC) (vs := [.string ⟨#[97]⟩,jI 0,jI 0,.bool false]) ek Z L5 Z Z Z Z (dw (mq (l:=x5.JC.Jc) (m := [97]) c44) (dw (kb c45) (dw (kb c46) (iO (pJ (fun h=>absurd ((Eq.symm c47).trans (h.trans Z)) (by decide)))))))) Z (GJ ai 6 Z ?_)
          cases h
          exact TL.nil (GP [0,0,0,0,0,0,0,0,0,0])
         replace c47:=JW c47
         refine TL.q Z (.g Z Z Z) (Ie (us:=yF x5.JC) (vs := [.string ⟨#[97]⟩,jI 0,jI 0,.bool false]) ek Z L5 Z Z Z Z (dw (mq (l:=x5.JC.Jc) (m := [97]) c44) (dw (kb c45) (dw (kb c46) (dw (mp (c47.trans (Eq.symm Z))) Z))))) Z (GJ ai 6 Z ?_)
         rcases jF h with⟨c48,h⟩ | ⟨c48,h⟩
         ·cases h
          exact TL.nil (Hx (d:=0) (v':= .bool true) Z (congrArg Value.bool (JS c48)) (GP [0,0,0,0,0,0,0,0,0,0]))
         cases h
         exact TL.nil (Hx (d:=0) (v':= .bool false) Z (congrArg Value.bool (JT c48)) (GP [0,0,0,0,0,0,0,0,0,0]))
        refine TL.q Z (.g Z Z Z) (Ie (us:=yF x5.JC) (vs := [.string ⟨#[97]⟩,jI 0,jI 0,.bool false]) ek Z L5 Z Z Z Z (dw (mq (l:=x5.JC.Jc) (m := [97]) c44) (dw (kb c45) (iO (um c46))))) Z (GJ ai 6 Z ?_)
        cases h
        exact TL.nil (GP [0,0,0,0,0,0,0,0,0,0])
       refine TL.q Z (.g Z Z Z) (Ie (us:=yF x5.JC) (vs := [.string ⟨#[97]⟩,jI 0,jI 0,.bool false]) ek Z L5 Z Z Z Z (dw (mq (l:=x5.JC.Jc) (m := [97]) c44) (iO (um c45)))) Z (GJ ai 6 Z ?_)
       cases h
       exact TL.nil (GP [0,0,0,0,0,0,0,0,0,0])
      refine TL.q Z (.g Z Z Z) (Ie (us:=yF x5.JC) (vs := [.string ⟨#[97]⟩,jI 0,jI 0,.bool false]) ek Z L5 Z Z Z Z (iO (nS (l:=x5.JC.Jc) (m := [97]) c44))) Z (GJ ai 6 Z ?_)
      cases h
      exact TL.nil (GP [0,0,0,0,0,0,0,0,0,0])
     refine GJ ai 4 Z (GI 44 Z (JT c43) (GJ ai 11 Z ?_))
     cases h
     exact TL.nil (GP [0,0,0,0,0,0,0,0,0,0])
    refine GJ ai 3 Z (GI 40 Z (JT c42) (GJ ai 15 Z ?_))
    cases h
    exact TL.nil (GP [0,0,0,0,0,0,0,0,0,0])
   refine GJ ai 3 Z (GI 35 Z (JT c39) (GJ ai 20 Z ?_))
   cases h
   exact TL.nil (GP [0,0,0,0,0,0,0,0,0,0])
  refine GB ai 3 Z (GI 30 Z (JT c38) (GJ ai 25 Z ?_))
  cases h
  exact TL.nil (GP [0,0,0,0,0,0,0,0,0,0])
 rintro _ _ ⟨rfl,rfl⟩
 clear h
 have h:=hk37
 clear hk37
 try dsimp only at h
 obtain rfl:=JP h
 exact X.seq (T.ret (GL [9] Tryz.results10 (GF Z)))
def kZ (a0:aC):Option (Int):=(if (a0.I9.Je.data.length:Int)>1000 then some true else (if (a0.Jw.Jc.data.length:Int)>1000 then some true else (if (a0.Jy.Jc.length:Int)>1000 then some true else (if (a0.JC.Jc.length:Int)>1000 then some true else ((jM a0.Jy.I5).bind fun x26=>if x26=0 then some true else ((kU a0.Jt).bind fun x29=>if x29=0 then some true else ((kV a0.Jh).bind fun x32=>if x32=0 then some true else some false))))))).bind fun y20=>if y20=true then some 0 else some 1
theorem uJ (a0:aC) (A1:Option Addr) (c2:Nat) (A3:Option Addr) (c4:Nat) (A5:Option Addr) (c6:Nat) (r:Int) (h:kZ a0=some r):aE Tryz.prog 11 #[.agg (lg a0 A1 A3 A5 c2 c4 c6)] (RX.and (RX.of (ao 2 ba) [.slice A1 a0.Jy.I5.length c2] a0.Jy.I5) (RX.and (RX.of (ao 5 aW) [.slice A3 a0.Jt.length c4] a0.Jt) (RX.of (ao 2 aH) [.slice A5 a0.Jh.I5.length c6] a0.Jh.I5))) (aO) (fun v A' N=>v=jI r∧A'=aO∧N = []):=by
 refine aU Tryz.func11 Z Tryz.ntmps11 Z ?_
 intro F w hX
 unfold kZ at h
 refine GC Z (TL.box Z .u Z Z (fun b7=>(GK ai Z (In ?_))))
 obtain⟨y20,h,hk21⟩:=JO h
 refine HJ (fun e Rs=>e = [(2,jI 0),(49,.bool y20)]∧Rs = [aT b7 38 (lg a0 A1 A3 A5 c2 c4 c6),aO]) ?_ ?_
 ·clear hk21
  refine T.region Z (GG ai bD 0 Z 4 Z Z (GE Z (Hw Z J3) Z ?_))
  rcases jF h with⟨c22,h⟩ | ⟨c22,h⟩
  ·refine GB ai 2 Z (GI 9 Z (JS c22) (GJ ai 40 Z ?_))
   cases h
   exact TL.nil (GP [0,0])
  refine GB ai 2 Z (GI 9 Z (JT c22) (GG ai bD 0 Z 4 Z Z (TL.q Z (.g Z Z Z) (Hw Z J3) Z ?_)))
  rcases jF h with⟨c23,h⟩ | ⟨c23,h⟩
  ·refine GJ ai 3 Z (GI 17 Z (JS c23) (GJ ai 32 Z ?_))
   cases h
   exact TL.nil (GP [0,0])
  refine GJ ai 3 Z (GI 17 Z (JT c23) (GG ai bD 0 Z 3 Z Z (TL.q Z (.g Z Z Z) (Hw Z J3) Z ?_)))
  rcases jF h with⟨c24,h⟩ | ⟨c24,h⟩
  ·refine GJ ai 3 Z (GI 24 Z (JS c24) (GJ ai 25 Z ?_))
   cases h
   exact TL.nil (GP [0,0])
  refine GJ ai 3 Z (GI 24 Z (JT c24) (GG ai bD 0 Z 3 Z Z (TL.q Z (.g Z Z Z) (Hw Z J3) Z ?_)))
  rcases jF h with⟨c25,h⟩ | ⟨c25,h⟩
  ·refine GJ ai 3 Z (GI 31 Z (JS c25) (GJ ai 18 Z ?_))
   cases h
   exact TL.nil (GP [0,0])
  refine GJ ai 3 Z (GI 31 Z (JT c25) ?_)
  obtain⟨x26,hx27,h⟩:=JO h
  refine GG ai bD 0 Z 3 Z Z (GZ Z (.g Z Z Z) (.fn Tryz.call44 Z) (nU a0.Jy.I5 _ _ _ hx27) (fun _ hs=>(GS hs (Ho hX))) Z ?_)
  rcases jF h with⟨c28,h⟩ | ⟨c28,h⟩
  ·refine GJ ai 3 Z (GI 38 Z (JS c28) (GJ ai 11 Z ?_))
   cases h
   exact TL.nil (GP [0,0])
  refine GJ ai 3 Z (GI 38 Z (JT c28) ?_)
  obtain⟨x29,hx30,h⟩:=JO h
  refine GG ai bD 0 Z 2 Z Z (GZ Z (.g Z Z Z) (.fn Tryz.call45 Z) (uw a0.Jt _ _ _ hx30) (fun _ hs=>(GS hs (Ho (G3 hX)))) Z ?_)
  rcases jF h with⟨c31,h⟩ | ⟨c31,h⟩
  ·refine GJ ai 3 Z (GI 44 Z (JS c31) (GJ ai 5 Z ?_))
   cases h
   exact TL.nil (GP [0,0])
  refine GJ ai 3 Z (GI 44 Z (JT c31) (GJ ai 1 Z (TL.q Z (.g Z Z Z) (GR (us := [.bool a0.Jh.Jc.null,jS a0.Jh.Jc.data,jI a0.Jh.Ju,jI a0.Jh.Jb,.slice A5 a0.Jh.I5.length c6]) 0 Z Lx KN Z Z Z) Z ?_)))
  obtain⟨x32,hx33,h⟩:=JO h
  refine GZ Z (.g Z Z Z) (.fn Tryz.call46 Z) (ux a0.Jh _ _ _ hx33) (fun _ hs=>(GS hs (G3 (G3 hX)))) Z (GJ ai 2 Z ?_)
  rcases jF h with⟨c34,h⟩ | ⟨c34,h⟩
  ·cases h
   exact TL.nil (Hx (d:=49) (v':= .bool true) Z (congrArg Value.bool (JS c34)) (GP [0,0]))
  cases h
  exact TL.nil (Hx (d:=49) (v':= .bool false) Z (congrArg Value.bool (JT c34)) (GP [0,0]))
 rintro _ _ ⟨rfl,rfl⟩
 clear h
 have h:=hk21
 clear hk21
 try dsimp only at h
 rcases jF h with⟨c35,h⟩ | ⟨c35,h⟩
 ·refine X.seq (GO Z c35 (GC Z (GB ai 1 Z ?_)))
  obtain rfl:=JP h
  exact GD (T.ret (GH (GL [1] Tryz.results11 (GF Z))))
 replace c35:=JW c35
 refine X.seq (G7 Z c35 (Hb Z (GB ai 1 Z ?_)))
 obtain rfl:=JP h
 exact GD (T.ret (GL [1] Tryz.results11 (GF Z)))
def jA (a0:aC):Option (eQ):=if a0.I9.Jk=0 then ((lh a0.Jh).bind fun x11=>some (⟨(⟨a0.I9.Jk,a0.I9.Jg,a0.I9.Jo,a0.I9.Je⟩:jd),(⟨(⟨false,[]⟩:Bl),0,0,0,[],false⟩:bK),[],x11⟩:eQ)) else (if a0.I9.Jk=22 then (some (⟨(⟨a0.I9.Jk,a0.I9.Jg,a0.I9.Jo,a0.I9.Je⟩:jd),(⟨a0.Jw.Jc,a0.Jw.Jb,a0.Jw.I6,a0.Jw.I8,[],false⟩:bK),[],(⟨(⟨false,[]⟩:Bl),0,0,[]⟩:bF)⟩:eQ)) else (if a0.I9.Jk=24 then (some (⟨(⟨a0.I9.Jk,a0.I9.Jg,a0.I9.Jo,a0.I9.Je⟩:jd),(⟨(⟨false,a0.Jy.Jc⟩:Bl),0,a0.Jy.I6,a0.Jy.I8,a0.Jy.I5,false⟩:bK),[],(⟨(⟨false,[]⟩:Bl),0,0,[]⟩:bF)⟩:eQ)) else (if a0.I9.Jk=26 then (some (⟨(⟨a0.I9.Jk,a0.I9.Jg,a0.I9.Jo,a0.I9.Je⟩:jd),(⟨(⟨false,a0.JC.Jc⟩:Bl),0,a0.JC.I6,a0.JC.I8,[],a0.JC.Js⟩:bK),[],(⟨(⟨false,[]⟩:Bl),0,0,[]⟩:bF)⟩:eQ)) else (if a0.I9.Jk=27 then ((nV a0.Jt).bind fun x19=>some (⟨(⟨a0.I9.Jk,a0.I9.Jg,a0.I9.Jo,a0.I9.Je⟩:jd),(⟨(⟨false,[]⟩:Bl),0,0,0,[],false⟩:bK),x19,(⟨(⟨false,[]⟩:Bl),0,0,[]⟩:bF)⟩:eQ)) else (some (⟨(⟨a0.I9.Jk,a0.I9.Jg,a0.I9.Jo,a0.I9.Je⟩:jd),(⟨(⟨false,[]⟩:Bl),0,0,0,[],false⟩:bK),[],(⟨(⟨false,[]⟩:Bl),0,0,[]⟩:bF)⟩:eQ))))))
theorem l6 (a0:aC) (A1:Option Addr) (c2:Nat) (A3:Option Addr) (c4:Nat) (A5:Option Addr) (c6:Nat) (r:eQ) (h:jA a0=some r):pu Tryz.prog 14 #[.agg (lg a0 A1 A3 A5 c2 c4 c6)] (RX.and (RX.of (ao 2 ba) [.slice A1 a0.Jy.I5.length c2] a0.Jy.I5) (RX.and (RX.of (ao 5 aW) [.slice A3 a0.Jt.length c4] a0.Jt) (RX.of (ao 2 aH) [.slice A5 a0.Jh.I5.length c6] a0.Jh.I5))) aO (fun v A' L=> ∃ (A23:Option Addr) (c24:Nat) (A25:Option Addr) (c26:Nat) (A27:Option Addr) (c28:Nat),v= .agg (wA8 r A23 A25 A27 c24 c26 c28)∧A'=aO∧L = [(⟨_,ao 2 ba,[.slice A23 r.JE.I5.length c24],r.JE.I5⟩:RO),(⟨_,ao 5 dg,[.slice A25 r.Jt.length c26],r.Jt⟩:RO),(⟨_,ao 2 cm,[.slice A27 r.Jh.I5.length c28],r.Jh.I5⟩:RO)]):=by
 refine Au Tryz.func14 Z Tryz.ntmps14 Z ?_
 intro F w S hS hSF
 have hX:(RX.and (RX.of (ao 2 ba) [.slice A1 a0.Jy.I5.length c2] a0.Jy.I5) (RX.and (RX.of (ao 5 aW) [.slice A3 a0.Jt.length c4] a0.Jt) (RX.of (ao 2 aH) [.slice A5 a0.Jh.I5.length c6] a0.Jh.I5))).reads w F:=⟨S,hS,hSF⟩
 unfold jA at h
 refine GC Z (TL.box Z .u Z Z (fun b7=>(TL.alloc Z .u Tryz.zeroValue53 Z (fun b8=>(GV Z (GB ai 1 Z (GE Z (GR (us := [jI a0.I9.Jk,jI a0.I9.Jg,jI a0.I9.Jo,.bool a0.I9.Je.null,jS a0.I9.Je.data]) 1 Z Ln KI Z Z Z) Z ?_)))))))
 refine GE Z (Hf (cells:= #[jI a0.I9.Jk,jI a0.I9.Jg,jI a0.I9.Jo,.bool a0.I9.Je.null,jS a0.I9.Je.data,.bool false,.string ⟨#[]⟩,jI 0,jI 0,jI 0,.slice none 0 0,.bool false,.slice none 0 0,.bool false,.string ⟨#[]⟩,jI 0,jI 0,.slice none 0 0]) og Z (by kernel_rfl)) Z ?_
 refine TL.alloc Z .u Tryz.zeroValue53 Z (fun b9=>(GU (cs':= #[jI a0.I9.Jk,jI a0.I9.Jg,jI a0.I9.Jo,.bool a0.I9.Je.null,jS a0.I9.Je.data,.bool false,.string ⟨#[]⟩,jI 0,jI 0,jI 0,.slice none 0 0,.bool false,.slice none 0 0,.bool false,.string ⟨#[]⟩,jI 0,jI 0,.slice none 0 0]) Z .u Z Z KL Z Z Z Z (GD (T.seq (GC Z (Ir ai bD 2 Z Z Z (T.block (GC Z (GB ai 2 Z ?_)))))))))
 rcases jF h with⟨c10,h⟩ | ⟨c10,h⟩
 ·refine G9 Z c10 (T.region Z (GB ai 1 Z (GE Z (GR (us := [.bool a0.Jh.Jc.null,jS a0.Jh.Jc.data,jI a0.Jh.Ju,jI a0.Jh.Jb,.slice A5 a0.Jh.I5.length c6]) 2 Z Lx KN Z Z Z) Z ?_)))
  obtain⟨x11,hx14,h⟩:=JO h
  refine TL.cso  Z .u (.fn Tryz.call57 Z) (vW a0.Jh _ _ _ hx14) hS.2.2 hSF Z ?_
  rintro _ _ _ ⟨A12,c13,rfl,rfl,rfl⟩
  refine Hz [0,0,0,0,0] Z (GB ai 1 Z (H5 (cs':= #[jI a0.I9.Jk,jI a0.I9.Jg,jI a0.I9.Jo,.bool a0.I9.Je.null,jS a0.I9.Je.data,.bool false,.string ⟨#[]⟩,jI 0,jI 0,jI 0,.slice none 0 0,.bool false,.slice none 0 0,.bool x11.Jc.null,jS x11.Jc.data,jI x11.Ju,jI x11.Jb,.slice A12 x11.I5.length c13]) Z .u Z Z Lz Z Z Z Z (TL.nil (GX (X.seq (GC Z (GE Z (GR (us := [jI a0.I9.Jk,jI a0.I9.Jg,jI a0.I9.Jo,.bool a0.I9.Je.null,jS a0.I9.Je.data,.bool false,.string ⟨#[]⟩,jI 0,jI 0,jI 0,.slice none 0 0,.bool false,.slice none 0 0,.bool x11.Jc.null,jS x11.Jc.data,jI x11.Ju,jI x11.Jb,.slice A12 x11.I5.length c13]) 1 Z Lo KL Z Z Z) Z (Iq (cs':= #[jI a0.I9.Jk,jI a0.I9.Jg,jI a0.I9.Jo,.bool a0.I9.Je.null,jS a0.I9.Je.data,.bool false,.string ⟨#[]⟩,jI 0,jI 0,jI 0,.slice none 0 0,.bool false,.slice none 0 0,.bool x11.Jc.null,jS x11.Jc.data,jI x11.Ju,jI x11.Jb,.slice A12 x11.I5.length c13]) Z .u Z Z KL Z Z Z Z ?_))))))))
  obtain rfl:=JP h
  exact GD (T.ret (G6 2 ba (Ii (S:=S) 0 Z (HK [0,0,0,0,0,0] Z (G6 5 dg (Ii (S:=S) 0 Z (HK [0,0,0,0,0,0,0] Z (G8 [6,1,0,0] Mc (Hs (us:= #[jI a0.I9.Jk,jI a0.I9.Jg,jI a0.I9.Jo,.bool a0.I9.Je.null,jS a0.I9.Je.data,.bool false,.string ⟨#[]⟩,jI 0,jI 0,jI 0,.slice none 0 0,.bool false,.slice none 0 0,.bool x11.Jc.null,jS x11.Jc.data,jI x11.Ju,jI x11.Jb,.slice A12 x11.I5.length c13]) 4 Z Lo KL Z Z) ⟨_,⟨_,_,_,_,_,_,Z,Z,Z⟩,Z⟩ (by rfl) (.inl Z)))))))))
 refine Ha Z c10 (GC Z (GB ai 2 Z ?_))
 rcases jF h with⟨c15,h⟩ | ⟨c15,h⟩
 ·refine G9 Z c15 (T.region Z (GB ai 2 Z (GE Z (GR (us := [.bool a0.Jw.Jc.null,jS a0.Jw.Jc.data]) 2 Z Kt J2 Z Z Z) Z (GG ai bD 2 Z 9 Z Z ?_))))
  refine GE Z (Hf (cells:= #[.bool a0.Jw.Jc.null,jS a0.Jw.Jc.data,jI a0.Jw.Jb,jI a0.Jw.I6,jI a0.Jw.I8,.slice none 0 0,.bool false]) hO Z (by kernel_rfl)) Z ?_
  refine GB ai 1 Z (GU (cs':=wA17 a0) Z .u Z Z Lq Z Z Z Z (TL.nil (GX (X.seq (GC Z (GE Z (GR (us := [jI a0.I9.Jk,jI a0.I9.Jg,jI a0.I9.Jo,.bool a0.I9.Je.null,jS a0.I9.Je.data,.bool a0.Jw.Jc.null,jS a0.Jw.Jc.data,jI a0.Jw.Jb,jI a0.Jw.I6,jI a0.Jw.I8,.slice none 0 0,.bool false,.slice none 0 0,.bool false,.string ⟨#[]⟩,jI 0,jI 0,.slice none 0 0]) 0 Z Lo KL Z Z Z) Z (H5 (cs':=wA17 a0) Z .u Z Z KL Z Z Z Z ?_)))))))
  obtain rfl:=JP h
  refine GD (T.ret (G6 2 ba (Ii (S:=S) 0 Z (HK [0,0,0,0,0] Z (G6 5 dg (Ii (S:=S) 0 Z (HK [0,0,0,0,0,0] Z (G6 2 cm ?_))))))))
  exact Ii (S:=S) 0 Z (HK [0,0,0,0,0,0,0] Z (G8 [6,2,1,0] Mc (Hs (us:=wA17 a0) 4 Z Lo KL Z Z) ⟨_,⟨_,_,_,_,_,_,Z,Z,Z⟩,Z⟩ (by rfl) (.inl Z)))
 refine Ha Z c15 (GC Z (GB ai 2 Z ?_))
 rcases jF h with⟨c16,h⟩ | ⟨c16,h⟩
 ·refine G9 Z c16 (T.region Z (GG ai bD 2 Z 3 Z Z ?_))
  refine GE Z (Hf (cells:= #[.bool false,jS a0.Jy.Jc]) hN Z (by kernel_rfl)) Z ?_
  refine GG ai bD 2 Z 9 Z Z ?_
  refine GE Z (Hf (cells:= #[.bool false,jS a0.Jy.Jc,jI 0,jI a0.Jy.I6,jI a0.Jy.I8,.slice A1 a0.Jy.I5.length c2,.bool false]) hO Z (by kernel_rfl)) Z ?_
  refine GB ai 1 Z (GU (cs':=wA18 a0 A1 c2) Z .u Z Z Lq Z Z Z Z (TL.nil (GX (X.seq (GC Z (GE Z (GR (us := [jI a0.I9.Jk,jI a0.I9.Jg,jI a0.I9.Jo,.bool a0.I9.Je.null,jS a0.I9.Je.data,.bool false,jS a0.Jy.Jc,jI 0,jI a0.Jy.I6,jI a0.Jy.I8,.slice A1 a0.Jy.I5.length c2,.bool false,.slice none 0 0,.bool false,.string ⟨#[]⟩,jI 0,jI 0,.slice none 0 0]) 0 Z Lo KL Z Z Z) Z (H5 (cs':=wA18 a0 A1 c2) Z .u Z Z KL Z Z Z Z ?_)))))))
  obtain rfl:=JP h
  refine GD (T.ret (X.oldrd (E:=ao 2 ba) (cs := [.slice A1 a0.Jy.I5.length c2]) (x:=a0.Jy.I5) hS.1 (G6 5 dg (Ii (S:=S) 0 Z (HK [0,0,0,0,0,0] Z (G6 2 cm (Ii (S:=S) 0 Z (HK [0,0,0,0,0,0,0] Z ?_))))))))
  exact G8 [6,2,1,0] Mc (Hs (us:=wA18 a0 A1 c2) 4 Z Lo KL Z Z) ⟨_,⟨_,_,_,_,_,_,Z,Z,Z⟩,Z⟩ (by rfl) (.inl Z)
 refine Ha Z c16 (GC Z (GB ai 2 Z ?_))
 rcases jF h with⟨c17,h⟩ | ⟨c17,h⟩
 ·refine G9 Z c17 (T.region Z (GG ai bD 2 Z 3 Z Z ?_))
  refine GE Z (Hf (cells:= #[.bool false,jS a0.JC.Jc]) hN Z (by kernel_rfl)) Z ?_
  refine GG ai bD 2 Z 9 Z Z ?_
  refine GE Z (Hf (cells:= #[.bool false,jS a0.JC.Jc,jI 0,jI a0.JC.I6,jI a0.JC.I8,.slice none 0 0,.bool a0.JC.Js]) hO Z (by kernel_rfl)) Z ?_
  refine GB ai 1 Z (GU (cs':=wA19 a0) Z .u Z Z Lq Z Z Z Z (TL.nil (GX (X.seq (GC Z (GE Z (GR (us := [jI a0.I9.Jk,jI a0.I9.Jg,jI a0.I9.Jo,.bool a0.I9.Je.null,jS a0.I9.Je.data,.bool false,jS a0.JC.Jc,jI 0,jI a0.JC.I6,jI a0.JC.I8,.slice none 0 0,.bool a0.JC.Js,.slice none 0 0,.bool false,.string ⟨#[]⟩,jI 0,jI 0,.slice none 0 0]) 0 Z Lo KL Z Z Z) Z (H5 (cs':=wA19 a0) Z .u Z Z KL Z Z Z Z ?_)))))))
  obtain rfl:=JP h
  refine GD (T.ret (G6 2 ba (Ii (S:=S) 0 Z (HK [0,0,0,0,0] Z (G6 5 dg (Ii (S:=S) 0 Z (HK [0,0,0,0,0,0] Z (G6 2 cm ?_))))))))
  exact Ii (S:=S) 0 Z (HK [0,0,0,0,0,0,0] Z (G8 [6,2,1,0] Mc (Hs (us:=wA19 a0) 4 Z Lo KL Z Z) ⟨_,⟨_,_,_,_,_,_,Z,Z,Z⟩,Z⟩ (by rfl) (.inl Z)))
 refine Ha Z c17 (GC Z (GB ai 2 Z ?_))
 rcases jF h with⟨c18,h⟩ | ⟨c18,h⟩
 ·refine G9 Z c18 (T.region Z ?_)
  obtain⟨x19,hx22,h⟩:=JO h
  refine GG ai bD 2 Z 2 Z Z (TL.cso  Z .u (.fn Tryz.call58 Z) (vV a0.Jt _ _ _ hx22) hS.2.1 hSF Z ?_)
  rintro _ _ _ ⟨A20,c21,rfl,rfl,rfl⟩
  refine Hz [0,0,0,0,0] Z (GB ai 1 Z (H5 (cs':= #[jI a0.I9.Jk,jI a0.I9.Jg,jI a0.I9.Jo,.bool a0.I9.Je.null,jS a0.I9.Je.data,.bool false,.string ⟨#[]⟩,jI 0,jI 0,jI 0,.slice none 0 0,.bool false,.slice A20 x19.length c21,.bool false,.string ⟨#[]⟩,jI 0,jI 0,.slice none 0 0]) Z .u Z Z Tryz.sizeOf48 Z Z Z Z (TL.nil (GX (X.seq (GC Z (GE Z (GR (us := [jI a0.I9.Jk,jI a0.I9.Jg,jI a0.I9.Jo,.bool a0.I9.Je.null,jS a0.I9.Je.data,.bool false,.string ⟨#[]⟩,jI 0,jI 0,jI 0,.slice none 0 0,.bool false,.slice A20 x19.length c21,.bool false,.string ⟨#[]⟩,jI 0,jI 0,.slice none 0 0]) 1 Z Lo KL Z Z Z) Z (Iq (cs':= #[jI a0.I9.Jk,jI a0.I9.Jg,jI a0.I9.Jo,.bool a0.I9.Je.null,jS a0.I9.Je.data,.bool false,.string ⟨#[]⟩,jI 0,jI 0,jI 0,.slice none 0 0,.bool false,.slice A20 x19.length c21,.bool false,.string ⟨#[]⟩,jI 0,jI 0,.slice none 0 0]) Z .u Z Z KL Z Z Z Z ?_))))))))
  obtain rfl:=JP h
  exact GD (T.ret (G6 2 ba (Ii (S:=S) 0 Z (HK [0,0,0,0,0,0] Z (G6 2 cm (Ii (S:=S) 0 Z (HK [0,0,0,0,0,0,0] Z (G8 [6,1,1,0] Mc (Hs (us:= #[jI a0.I9.Jk,jI a0.I9.Jg,jI a0.I9.Jo,.bool a0.I9.Je.null,jS a0.I9.Je.data,.bool false,.string ⟨#[]⟩,jI 0,jI 0,jI 0,.slice none 0 0,.bool false,.slice A20 x19.length c21,.bool false,.string ⟨#[]⟩,jI 0,jI 0,.slice none 0 0]) 4 Z Lo KL Z Z) ⟨_,⟨_,_,_,_,_,_,Z,Z,Z⟩,Z⟩ (by rfl) (.inl Z)))))))))
 refine Ha Z c18 (T.skip (GX (X.seq (GC Z (GE Z (GR (us := [jI a0.I9.Jk,jI a0.I9.Jg,jI a0.I9.Jo,.bool a0.I9.Je.null,jS a0.I9.Je.data,.bool false,.string ⟨#[]⟩,jI 0,jI 0,jI 0,.slice none 0 0,.bool false,.slice none 0 0,.bool false,.string ⟨#[]⟩,jI 0,jI 0,.slice none 0 0]) 0 Z Lo KL Z Z Z) Z (H5 (cs':= #[jI a0.I9.Jk,jI a0.I9.Jg,jI a0.I9.Jo,.bool a0.I9.Je.null,jS a0.I9.Je.data,.bool false,.string ⟨#[]⟩,jI 0,jI 0,jI 0,.slice none 0 0,.bool false,.slice none 0 0,.bool false,.string ⟨#[]⟩,jI 0,jI 0,.slice none 0 0]) Z .u Z Z KL Z Z Z Z ?_))))))
 obtain rfl:=JP h
 refine GD (T.ret (G6 2 ba (Ii (S:=S) 0 Z (HK [0,0,0,0,0] Z (G6 5 dg (Ii (S:=S) 0 Z (HK [0,0,0,0,0,0] Z (G6 2 cm ?_))))))))
 exact Ii (S:=S) 0 Z (HK [0,0,0,0,0,0,0] Z (G8 [6,2,1,0] Mc (Hs (us:= #[jI a0.I9.Jk,jI a0.I9.Jg,jI a0.I9.Jo,.bool a0.I9.Je.null,jS a0.I9.Je.data,.bool false,.string ⟨#[]⟩,jI 0,jI 0,jI 0,.slice none 0 0,.bool false,.slice none 0 0,.bool false,.string ⟨#[]⟩,jI 0,jI 0,.slice none 0 0]) 4 Z Lo KL Z Z) ⟨_,⟨_,_,_,_,_,_,Z,Z,Z⟩,Z⟩ (by rfl) (.inl Z)))
def cH:List aC→Bool→List UInt8→Option (Lp Bool (Bool×List UInt8))
 | [],y7,y8=>some (Lp.go (y7,y8))
 | x14::xs,y7,y8=>((kZ x14).bind fun x43=>if x43=0 then some true else ((jA x14).bind fun x46=>(kg x46).bind fun x54=>if x54=0 then some false else some true)).bind fun y41=>if y41=true then some (Lp.ret true) else ((dE x14).bind fun (x58,x59)=>if x59=0 then (if y8.length+x58.length≤9223372036854775807 then (cH xs y7 (y8++x58)) else none) else none)
def cY:List aC→Bool→I→Option (Lp Bool (Bool×I))
 | [],y133,st135=>some (Lp.go (y133,st135))
 | x140::xs,y133,st135=>(gr st135).bind fun (x154,st161)=>(jA x154).bind fun x163=>(jA x140).bind fun x172=>(lq x163 x172).bind fun x180=>if x180=true then (cY xs y133 st161) else none
def iE (a0:List aC):Option (Bool):=(kR).bind fun x3=>if x3=true then (if (a0.length:Int)>8 then some true else ((cH a0 false []).bind fun e=>match e with | .ret r=>some r | .go (y63,y64)=>((tn y64).bind fun st66=>(cY a0 y63 st66).bind fun e=>match e with | .ret r=>some r | .go (y119,st121)=>((dM st121).bind fun (x122,st123)=>if x122=0 then some true else none)))) else none
theorem f_l21_FrameRows_spec (a0:List aC) (A1:Option Addr) (c2:Nat) (r:Bool) (h:iE a0=some r):aE Tryz.prog 4 #[.slice A1 a0.length c2] (RX.of (ao 24 lY) [.slice A1 a0.length c2] a0) (aO) (fun v A' N=>v= .bool r∧A'=aO∧N = []):=by
 refine aU Tryz.func4 Z Tryz.ntmps4 Z ?_
 intro F w hX
 obtain⟨S,hS,hSF⟩:=hX
 have hX:(RX.of (ao 24 lY) [.slice A1 a0.length c2] a0).reads w F:=⟨S,hS,hSF⟩
 unfold iE at h
 refine GC Z (GB ai 1 Z ?_)
 obtain⟨x3,hx4,h⟩:=JO h
 refine GD (T.seq (GC Z (GZ Z .u (.fn Tryz.call10 Z) (qN _ hx4) rT Z (GB ai 1 Z ?_))))
 rcases jF h with⟨c5,h⟩ | ⟨c5,h⟩
 ·refine GD (G7 Z (aZ c5) (GW (T.seq (GC Z (GB ai 1 Z (GE Z (GQ Z LT) Z (GB ai 1 Z ?_)))))))
  rcases jF h with⟨c6,h⟩ | ⟨c6,h⟩
  ·refine G9 Z c6 (GC Z (GB ai 1 Z ?_))
   obtain rfl:=JP h
   exact GD (T.ret (GH (GL [0] Tryz.results4 (GF Z))))
  refine Ha Z c6 (Hb Z (GK ai Z (T.seq (GC Z (GB ai 1 Z (GE Z (GQ Z LT) Z (GB ai 1 Z ?_)))))))
  refine GD (T.block ?_)
  obtain⟨E10,hE11,hO12⟩:=JO h
  have hk16len:=Hq hX
  refine Hv (fun m e Rs=> ∃ (y7:Bool) (y8:List UInt8) (k9:Nat),k9+m=a0.length∧e = [(0,.slice A1 a0.length c2),(2,.bool y7),(3,jS y8),(16,.slice A1 a0.length c2),(17,jI (a0.length:Int)),(18,jI (k9:Int))]∧Rs = [aO]∧cH (a0.drop k9) y7 y8=some E10) (a0.length) [0] ⟨false,[],0,by simp,Z,Z,by rw[List.drop_zero]; exact hE11⟩ (by rfl) (by rfl) ?_
  clear hE11 h
  rintro m13 _ _ ⟨y7,y8,k9,hk16,rfl,rfl,h⟩
  cases m13 with
  | zero =>
   rw[List.drop_of_length_le (by omega),cH] at h
   have hk16ge: ¬ ((k9:Int)<(a0.length:Int)):=by omega
   refine GC Z (GK ai Z (T.seq (G7 Z (JT hk16ge) ?_)))
   obtain rfl:=JP h
   replace h:=hO12
   clear hO12
   try dsimp only at h
   refine T.exit (GT (GT (Hu (X.seq (GC Z ?_)))))
   obtain⟨st130,hx131,h⟩:=JO h
   refine GB ai 1 Z (It Z .u (.fn Tryz.call19 Z) (iL y8 _ hx131) rT Z ?_)
   rintro _ _ _ ⟨b132,rfl,rfl,rfl⟩
   refine Hz [0,0] Z (GK ai Z (T.seq (GC Z (GB ai 1 Z (GE Z (GQ Z LT) Z (GK ai Z (T.block ?_)))))))
   obtain⟨E136,hE137,hO138⟩:=JO h
   have hk142len:=Hq hX
   refine Hv (fun m e Rs=> ∃ (y133:Bool) (k134:Nat) (st135:I),k134+m=a0.length∧e = [(2,.bool y133),(8,jP b132),(44,.slice A1 a0.length c2),(45,jI (a0.length:Int)),(46,jI (k134:Int))]∧Rs = [InR b132 st135,aO]∧cY (a0.drop k134) y133 st135=some E136) (a0.length) [0,0] ⟨y7,0,st130,by simp,Z,Z,by rw[List.drop_zero]; exact hE137⟩ (by rfl) (by rfl) ?_
   clear hE137 h
   rintro m139 _ _ ⟨y133,k134,st135,hk142,rfl,rfl,h⟩
   cases m139 with
   | zero =>
    rw[List.drop_of_length_le (by omega),cY] at h
    have hk142ge: ¬ ((k134:Int)<(a0.length:Int)):=by omega
    refine GC Z (GK ai Z (T.seq (G7 Z (JT hk142ge) ?_)))
    obtain rfl:=JP h
    replace h:=hO138
    clear hO138
    try dsimp only at h
    refine T.exit (GT (GT (Hu (X.seq (GC Z ?_)))))
    obtain⟨⟨x190,st191⟩,hx192,h⟩:=JO h
    try dsimp only at h
    refine GB ai 1 Z (Ht Z .u (.fn Tryz.call21 Z) (cL b132 st135 _ hx192) sT Z (GB ai 2 Z ?_))
    rcases jF h with⟨c193,h⟩ | ⟨c193,h⟩
    ·obtain rfl:=JP h
     exact GD (T.ret (G8 [1] Tryz.results4 (GF (v:= .bool true) (congrArg (fun b=>some (Value.bool b)) (JS c193))) ⟨Z,Z,Z⟩ (by rfl) (.inl Z)))
    exact nomatch h
   | succ m139 =>
    obtain⟨x140,hxx140⟩: ∃ x,a0[k134]? = some x:=⟨_,List.getElem?_eq_getElem (by omega)⟩
    rw[bz hxx140,cY] at h
    have hk142lt:(k134:Int)<(a0.length:Int):=by omega
    refine GC Z (GK ai Z (T.seq (GO Z (JS hk142lt) ?_)))
    obtain⟨gz143,oz143,rfl,z143cs,z143cl,z143cc,z143nf,z143r⟩:=I1 (by decide) hS hSF hxx140
    obtain⟨A144,c145,A146,c147,A148,c149,rfl,z143s0,z143s1,z143s2⟩:=z143r
    have hX150:(RX.of (ao 2 ba) [.slice A144 x140.Jy.I5.length c145] x140.Jy.I5).reads w F:=⟨S,z143s0,hSF⟩
    have hX151:(RX.of (ao 5 aW) [.slice A146 x140.Jt.length c147] x140.Jt).reads w F:=⟨S,z143s1,hSF⟩
    have hX152:(RX.of (ao 2 aH) [.slice A148 x140.Jh.I5.length c149] x140.Jh.I5).reads w F:=⟨S,z143s2,hSF⟩
    refine GW (T.seq (T.block (GC Z ?_)))
    refine GE Z (GY (k:=k134) Z Z Z LT J5 (JV hxx140).1) Z ?_
    refine GE Z (HW (us:=xz x140 A144 A146 A148 c145 c147 c149) 0 Z Kx J5 z143nf z143cc Z Z Z) Z (TL.alloc Z .u Tryz.zeroValue38 Z (fun b153=>(GU (cs':=lg x140 A144 A146 A148 c145 c147 c149) Z .u Z Z J5 Z Z Z Z ?_)))
    refine GD (T.seq (Hp (.q 0 (.q 3 (.e 1 (.e 2 (.e 4 (.e 5 (.q 6 .nil))))))) [0,1] Z qM (NoP.seq (NoP.blk (NoP.seq (NoP.seq (NoP.blk (NoP.seq bA)))))) (by kernel_rfl) ?_))
    refine TD.run ai [0] Z Z (GM Z (GR (us:=xz x140 A144 A146 A148 c145 c147 c149) 0 Z Kx J5 Z Z Z) Z ?_)
    obtain⟨⟨x154,st161⟩,hx162,h⟩:=JO h
    try dsimp only at h
    refine TD.cg1 Z .u (.fn Tryz.call20 Z) (lR b132 st135 _ hx162) sT Z [3,4] ?_ ?_
    ·rintro _ _ _ ⟨A155,c156,A157,c158,A159,c160,rfl,rfl,rfl⟩
     rfl
    rintro _ _ _ ⟨A155,c156,A157,c158,A159,c160,rfl,rfl,rfl⟩
    refine Ic [0,0,0,0,0,0] Z ?_
    obtain⟨x163,hx170,h⟩:=JO h
    refine TD.csn 3 Z .u (.fn Tryz.call14 Z) (l6 x154 _ _ _ _ _ _ _ hx170) (fun w1 G1 hG=>(yC (Sep.has 0 Z hG (uu (fun w G h=>qv w G h))) (yC (Sep.has 1 Z hG (uu (fun w G h=>qv w G h))) (Sep.has 2 Z hG (uu (fun w G h=>qv w G h)))))) hSF Z [1,2] ?_ ?_
    ·rintro _ _ _ ⟨A164,c165,A166,c167,A168,c169,rfl,rfl,rfl⟩
     rfl
    rintro _ _ _ ⟨A164,c165,A166,c167,A168,c169,rfl,rfl,rfl⟩
    refine Ic [0,0,0,0] Z ?_
    obtain⟨x172,hx179,h⟩:=JO h
    refine TD.cso  Z .u (.fn Tryz.call14 Z) (l6 x140 _ _ _ _ _ _ _ hx179) ⟨z143s0,z143s1,z143s2⟩ hSF Z [4,5] ?_ ?_
    ·rintro _ _ _ ⟨A173,c174,A175,c176,A177,c178,rfl,rfl,rfl⟩
     rfl
    rintro _ _ _ ⟨A173,c174,A175,c176,A177,c178,rfl,rfl,rfl⟩
    refine Ic [0,0,0,0,0,0,0] Z ?_
    obtain⟨x180,hx181,h⟩:=JO h
    refine Iv Z .u (.fn Tryz.call17 Z) (tH x163 _ _ _ _ _ _ x172 _ _ _ _ _ _ _ hx181) (fun _ hs=>(Hn (Ik 3 hs Z (uv 0 Z) hSF) (Hn (Ik 3 hs Z (uv 1 Z) hSF) (Hn (Ik 3 hs Z (uv 2 Z) hSF) (Hn (Ik 0 hs Z oO hSF) (Hn (Ik 1 hs Z oO hSF) (Ik 2 hs Z oO hSF))))))) Z [4,5] (Z) (TD.run ai [6] Z Z ?_)
    rcases jF h with⟨c182,h⟩ | ⟨c182,h⟩
    ·refine HX (G7 Z (aZ c182) (T.skip (GX (X.seq (T.region Z (GE Z (Ex.add Z Z (by omega)) Z (GB ai 1 Z (TL.nil (X.ungrp 3 Z (HK [0,0,0,0,0,0,0,0,0] Z ?_))))))))))
     exact X.back (m':=m139) [7,7] (by omega) ⟨y133,k134+1,st161,by omega,Z,Z,h⟩ (by rfl) (by rfl)
    replace c182:=JW c182
    exact HX (GO rfl (bw c182) (nomatch h))
  | succ m13 =>
   obtain⟨x14,hxx14⟩: ∃ x,a0[k9]? = some x:=⟨_,List.getElem?_eq_getElem (by omega)⟩
   rw[bz hxx14,cH] at h
   have hk16lt:(k9:Int)<(a0.length:Int):=by omega
   refine GC Z (GK ai Z (T.seq (GO Z (JS hk16lt) ?_)))
   obtain⟨gz17,oz17,rfl,z17cs,z17cl,z17cc,z17nf,z17r⟩:=I1 (by decide) hS hSF hxx14
   obtain⟨A18,c19,A20,c21,A22,c23,rfl,z17s0,z17s1,z17s2⟩:=z17r
   have hX24:(RX.of (ao 2 ba) [.slice A18 x14.Jy.I5.length c19] x14.Jy.I5).reads w F:=⟨S,z17s0,hSF⟩
   have hX25:(RX.of (ao 5 aW) [.slice A20 x14.Jt.length c21] x14.Jt).reads w F:=⟨S,z17s1,hSF⟩
   have hX26:(RX.of (ao 2 aH) [.slice A22 x14.Jh.I5.length c23] x14.Jh.I5).reads w F:=⟨S,z17s2,hSF⟩
   refine GW (T.seq (T.block (GC Z ?_)))
   refine GE Z (GY (k:=k9) Z Z Z LT J5 (JV hxx14).1) Z ?_
   refine GE Z (HW (us:=xz x14 A18 A20 A22 c19 c21 c23) 0 Z Kx J5 z17nf z17cc Z Z Z) Z (TL.alloc Z .u Tryz.zeroValue38 Z (fun b27=>(GU (cs':=lg x14 A18 A20 A22 c19 c21 c23) Z .u Z Z J5 Z Z Z Z (GD (In ?_)))))
   obtain⟨y41,h,hk42⟩:=JO h
   refine HJ (fun e Rs=>e = [(0,.slice (some ⟨gz17,oz17,none⟩) a0.length c2),(2,.bool y7),(3,jS y8),(5,jP b27),(16,.slice (some ⟨gz17,oz17,none⟩) a0.length c2),(17,jI (a0.length:Int)),(18,jI (k9:Int)),(30,.bool y41)]∧Rs = [aT b27 38 (lg x14 A18 A20 A22 c19 c21 c23),aO]) ?_ ?_
   ·clear hk42
    refine T.region Z (GE Z (GR (us:=xz x14 A18 A20 A22 c19 c21 c23) 0 Z Kx J5 Z Z Z) Z ?_)
    obtain⟨x43,hx44,h⟩:=JO h
    refine GZ Z .u (.fn Tryz.call11 Z) (uJ x14 _ _ _ _ _ _ _ hx44) (fun _ hs=>(Hn (GS hs hX24) (Hn (GS hs hX25) (GS hs hX26)))) Z ?_
    rcases jF h with⟨c45,h⟩ | ⟨c45,h⟩
    ·refine GB ai 2 Z (GI 25 Z (JS c45) (GJ ai 5 Z ?_))
     cases h
     exact TL.nil (GP [0,0])
    refine GB ai 2 Z (GI 25 Z (JT c45) (TL.q Z (.g Z Z Z) (GR (us:=xz x14 A18 A20 A22 c19 c21 c23) 0 Z Kx J5 Z Z Z) Z ?_))
    obtain⟨x46,hx53,h⟩:=JO h
    refine TL.cso  Z (.g Z Z Z) (.fn Tryz.call14 Z) (l6 x14 _ _ _ _ _ _ _ hx53) ⟨z17s0,z17s1,z17s2⟩ hSF Z ?_
    rintro _ _ _ ⟨A47,c48,A49,c50,A51,c52,rfl,rfl,rfl⟩
    refine Hz [0,0,0,0,0] Z ?_
    obtain⟨x54,hx55,h⟩:=JO h
    refine GZ Z (.g Z Z Z) (.fn Tryz.call13 Z) (so x46 _ _ _ _ _ _ _ hx55) (fun _ hs=>(Hn (Ik 0 hs Z oO hSF) (Hn (Ik 1 hs Z oO hSF) (Ik 2 hs Z oO hSF)))) Z (GJ ai 2 Z ?_)
    rcases jF h with⟨c56,h⟩ | ⟨c56,h⟩
    ·cases h
     exact TL.nil (Hx (d:=30) (v':= .bool false) Z (congrArg Value.bool (aZ (JS c56))) (GP [3,3]))
    cases h
    exact TL.nil (Hx (d:=30) (v':= .bool true) Z (congrArg Value.bool (bw (JT c56))) (GP [3,3]))
   rintro _ _ ⟨rfl,rfl⟩
   clear h
   have h:=hk42
   clear hk42
   try dsimp only at h
   rcases jF h with⟨c57,h⟩ | ⟨c57,h⟩
   ·refine X.seq (GO Z c57 (GC Z (GB ai 1 Z ?_)))
    obtain rfl:=JP h
    obtain rfl:=JP hO12
    exact GD (T.ret (GH (GN (GH (GH (GN (GH (GL [1] Tryz.results4 (GF Z)))))))))
   replace c57:=JW c57
   refine X.seq (G7 Z c57 (Hb Z (GE Z (GR (us:=xz x14 A18 A20 A22 c19 c21 c23) 0 Z Kx J5 Z Z Z) Z ?_)))
   obtain⟨⟨x58,x59⟩,hx60,h⟩:=JO h
   try dsimp only at h
   refine GZ Z .u (.fn Tryz.call12 Z) (kK x14 _ _ _ _ _ _ _ hx60) (fun _ hs=>(Hn (GS hs hX24) (Hn (GS hs hX25) (GS hs hX26)))) Z (GK ai Z (T.seq (GC Z (GB ai 2 Z ?_))))
   rcases jF h with⟨c61,h⟩ | ⟨c61,h⟩
   ·refine He Z c61 (GW (T.region Z ?_))
    obtain⟨c62,h⟩:=ay h
    exact GB ai 2 Z (GE Z (Ex.sAdd Z Z c62) Z (GB ai 1 Z (TL.nil (GX (X.seq (T.region Z (GE Z (Ex.add Z Z (by omega)) Z (GB ai 1 Z (TL.nil (X.back (m':=m13) [1] (by omega) ⟨y7,(y8++x58),k9+1,by omega,Z,Z,h⟩ (by rfl) (by rfl)))))))))))
   exact Hc rfl c61 (nomatch h)
 replace c5:=JW c5
 exact GD (GO rfl (bw c5) (nomatch h))
abbrev Pr (α:Type):=List UInt8→Nat→Except Int (α×Nat)
namespace Pr
variable {α β:Type}
def ret (a:α):Pr α:=fun _ q=> .ok (a,q)
def err (e:Int):Pr α:=fun _ _=> .error e
def bind (p:Pr α) (f:α→Pr β):Pr β:=fun s q=>match p s q with | .error e=> .error e | .ok (a,r)=>f a s r
theorem bind_ok {p:Pr α} {f:α→Pr β} {s:List UInt8} {q:Nat} {x:β×Nat} (h:p.bind f s q= .ok x): ∃ a r,p s q= .ok (a,r)∧f a s r= .ok x:=by
 unfold bind at h
 cases hp:p s q with
 | error e=>rw[hp] at h; exact nomatch h
 | ok y=>rw[hp] at h; exact⟨_,_,rfl,h⟩
theorem bind_of {p:Pr α} {f:α→Pr β} {s:List UInt8} {q r:Nat} {a:α} (h:p s q= .ok (a,r)):p.bind f s q=f a s r:=by unfold bind; rw[h]
theorem bind_err {p:Pr α} {f:α→Pr β} {s:List UInt8} {q:Nat} {e:Int} (h:p s q= .error e):p.bind f s q= .error e:=by unfold bind; rw[h]
end Pr
structure CR {α:Type} (op:I→Option (α×I)) (p:Pr α) (z:α):Prop where
 dead: ∀ st:I,st.err≠0→op st=some (z,st)
 bad: ∀ (s:List UInt8) (q:Nat) (e:Int),q≤s.length→p s q= .error e→ ∃ st:I,op ⟨s.drop q,q,0⟩=some (z,st)∧st.err=e∧e≠0
 good: ∀ (s:List UInt8) (q:Nat) (a:α) (r:Nat),q≤s.length→p s q= .ok (a,r)→op ⟨s.drop q,q,0⟩=some (a,⟨s.drop r,r,0⟩)
structure Sp {α:Type} (p:Pr α) (enc:α→List UInt8) (ok:α→Prop):Prop where
 spell: ∀ (s:List UInt8) (q:Nat) (a:α) (r:Nat),q≤s.length→p s q= .ok (a,r)→q≤r∧r≤s.length∧r=q+(enc a).length∧s.take r=s.take q++enc a∧ok a
 back: ∀ (s t:List UInt8) (q:Nat) (a:α),q≤s.length→ok a→s.drop q=enc a++t→p s q= .ok (a,q+(enc a).length)
theorem bX {s x t:List UInt8} {q:Nat} (h:s.drop q=x++t):s.drop (q+x.length)=t:=by rw[← KQ,h,List.drop_left]
theorem oR (s:List UInt8) (q k:Nat):s.take (q+k)=s.take q++(s.drop q).take k:=List.take_add
theorem C7 (q:Int) (c:UInt8) (k:Nat):be (q*256+c.toNat) (k+1)=be q k ++ [c]:=by
 have hc:=c.toNat_lt
 unfold be
 rw[List.range_succ,List.map_append]
 congr 1
 ·apply List.map_congr_left
  intro i hi
  have hi:=List.mem_range.1 hi
  have e:k+1 - 1 - i=(k - 1 - i)+1:=by omega
  have e2:(q*256+(c.toNat:Int)) / 256=q:=by omega
  rw[e,show 8*(k - 1 - i+1)=8+8*(k - 1 - i) by omega,Int.pow_add,← Int.ediv_ediv_of_nonneg (by decide),show (2 ^ 8:Int)=256 from rfl,e2]
 ·simp only[List.map_cons,List.map_nil,Nat.add_sub_cancel,Nat.sub_self,Nat.mul_zero,Int.pow_zero,Int.ediv_one]
  congr 1
  apply UInt8.toNat_inj.1
  simp[UInt8.toNat_ofNat']
  omega
theorem C8 (cs:List UInt8): ∀ (q:Int) (k:Nat),be (cs.foldl (fun n d=>n*256+(d.toNat:Int)) q) (k+cs.length)=be q k++cs:=by
 induction cs with
 | nil=>intro q k; simp
 | cons c cs ih =>
  intro q k
  have h:=ih (q*256+c.toNat) (k+1)
  rw[C7] at h
  rw[List.foldl_cons,J0,show k+(cs.length+1)=k+1+cs.length by omega,h]
  simp
theorem Ee (c:UInt8):be (sgn c) 1 = [c]:=by
 have hc:=c.toNat_lt
 unfold be
 simp only[List.range_one,List.map_cons,List.map_nil,Nat.sub_self,Nat.mul_zero,Int.pow_zero,Int.ediv_one]
 congr 1
 apply UInt8.toNat_inj.1
 unfold sgn
 simp[UInt8.toNat_ofNat']
 split <;> omega
theorem AM (l:List UInt8) (h:l ≠ []):be (dS l) l.length=l:=by
 cases l with
 | nil=>exact absurd rfl h
 | cons c cs =>
  have h:=C8 cs (sgn c) 1
  rw[Ee] at h
  rw[J0,Nat.add_comm]
  exact h
def fd (k:Nat):Pr Int:=fun s q=>if s.length<q+k then .error 1 else .ok (dS ((s.drop q).take k),q+k)
theorem Eg (k:Nat) (h1:1≤k) (h8:k≤8) (kk:Int) (hk:kk=(k:Int)):CR (fun st=>dL st kk) (fd k) 0:=by
 subst hk
 refine⟨fun st h=> ?_,fun s q e hq h=> ?_,fun s q a r hq h=> ?_⟩
 ·rw[iZ,mj h]
 ·unfold fd at h
  split at h
  ·rename_i hl
   injection h with h
   subst h
   refine⟨⟨s.drop q,q,1⟩,?_,rfl,by decide⟩
   simp only[iZ]
   rw[pG _ _ _ (by omega) (by omega) (by rw[J7]; omega)]
  ·exact nomatch h
 ·unfold fd at h
  split at h
  ·exact nomatch h
  ·rename_i hl
   injection h with h
   obtain⟨rfl,rfl⟩:=Kj h
   simp only[iZ]
   rw[xu _ _ _ h1 h8 (by rw[J7]; omega),KQ]
theorem ej (k:Nat) (h1:1≤k) (h8:k≤8):Sp (fd k) (fun n=>be n k) (fun n=>bh n k=true):=by
 refine⟨fun s q a r hq h=> ?_,fun s t q a hq ha h=> ?_⟩
 ·unfold fd at h
  split at h
  ·exact nomatch h
  ·rename_i hl
   injection h with h
   obtain⟨rfl,rfl⟩:=Kj h
   have hn:((s.drop q).take k).length=k:=by rw[Ll,J7]; omega
   have hne:(s.drop q).take k ≠ []:=fun h0=>by rw[h0] at hn; simp at hn; omega
   have hb:be (dS ((s.drop q).take k)) k=(s.drop q).take k:=by
    have:=AM _ hne
    rwa [hn] at this
   refine⟨by omega,by omega,by rw[aF],by rw[hb,oR],?_⟩
   rw[← FK _ _ h1 h8,hb]
 ·have hl:=congrArg List.length h
  rw[J7,JU,aF] at hl
  unfold fd
  rw[if_neg (by omega),h,List.take_append_of_le_length (by rw[aF]; omega),List.take_of_length_le (by rw[aF]; omega),aF,yl _ _ h1 h8 ha]
def yL (n:Int):Pr Bl:=fun s q=>if n= -1 then .ok (⟨true,[]⟩,q) else if n<0 then .error 4 else if (s.length:Int)<q+n then .error 1 else .ok (⟨false,(s.drop q).take n.toNat⟩,q+n.toNat)
theorem pT (n:Int) (s:List UInt8) (q:Nat) (hq:q≤s.length) :
 (∃ e st,yL n s q= .error e∧kC ⟨s.drop q,q,0⟩ n=(⟨false,[]⟩,st)∧st.err=e∧e≠0)∨(∃ b r,yL n s q= .ok (b,r)∧kC ⟨s.drop q,q,0⟩ n=(b,⟨s.drop r,r,0⟩)∧q≤r∧r≤s.length∧eE b=n∧bi b=true∧s.take r=s.take q++b.data∧r=q+b.data.length):=by
 have hd:(s.drop q).length=s.length - q:=J7
 unfold yL kC
 rw[if_neg (show ¬ ((⟨s.drop q,q,0⟩:I).err≠0) by simp)]
 by_cases h1:n= -1
 ·rw[if_pos h1,if_pos h1]
  exact .inr ⟨_,_,rfl,rfl,Kn _,hq,h1.symm,rfl,by simp,rfl⟩
 rw[if_neg h1,if_neg h1]
 by_cases h2:n<0
 ·rw[if_pos h2,CH _ _ _ h2]
  exact .inl ⟨_,_,rfl,rfl,rfl,by decide⟩
 rw[if_neg h2]
 by_cases h3:(s.length:Int)<q+n
 ·rw[if_pos h3,sV _ _ _ (by omega)]
  exact .inl ⟨_,_,rfl,rfl,rfl,by decide⟩
 rw[if_neg h3]
 obtain⟨m,rfl⟩: ∃ m:Nat,n=(m:Int):=⟨n.toNat,by omega⟩
 rw[K5,yq _ _ _ (by omega),KQ]
 have hl:((s.drop q).take m).length=m:=by rw[Ll]; omega
 exact .inr ⟨_,_,rfl,rfl,by omega,by omega,by unfold eE; simp only[Bool.false_eq_true,if_false]; rw[hl],rfl,oR s q m,by rw[hl]⟩
def l7 (k:Nat):Pr Bl:=(fd k).bind yL
theorem Eh {lenop:I→Int×I} {p:Pr Int} (hl:CR (fun st=>some (lenop st)) p 0) (hs: ∀ s q a r,q≤s.length→p s q= .ok (a,r)→r≤s.length):CR (fun st=>some (kC (lenop st).2 (lenop st).1)) (p.bind yL) (⟨false,[]⟩:Bl):=by
 refine⟨fun st h=> ?_,fun s q e hq h=> ?_,fun s q a r hq h=> ?_⟩
 ·have h0:=JP (hl.dead st h)
  rw[h0,rq h]
 ·cases hp:p s q with
  | error e' =>
   rw[Pr.bind_err hp] at h
   injection h with h
   subst h
   obtain⟨st,h1,h2,h3⟩:=hl.bad s q e' hq hp
   have h0:=JP h1
   rw[h0,rq (by simp only[h2]; exact h3)]
   exact⟨st,rfl,h2,h3⟩
  | ok x =>
   obtain⟨n,m⟩:=x
   rw[Pr.bind_of hp] at h
   have h0:=JP (hl.good s q n m hq hp)
   rw[h0]
   rcases pT n s m (hs _ _ _ _ hq hp) with⟨e',st,g1,g2,g3,g4⟩ | ⟨b,r,g1,g2,_⟩
   ·rw[g1] at h
    injection h with h
    subst h
    exact⟨st,by rw[g2],g3,g4⟩
   ·rw[g1] at h
    exact nomatch h
 ·obtain⟨n,m,hp,h⟩:=Pr.bind_ok h
  have h0:=JP (hl.good s q n m hq hp)
  rw[h0]
  rcases pT n s m (hs _ _ _ _ hq hp) with⟨e',st,g1,g2,g3,g4⟩ | ⟨b,r',g1,g2,_⟩
  ·rw[g1] at h
   exact nomatch h
  ·rw[g1] at h
   injection h with h
   obtain⟨rfl,rfl⟩:=Kj h
   rw[g2]
theorem Ei {p:Pr Int} {enc:Int→List UInt8} {ok:Int→Prop} (hp:Sp p enc ok):Sp (p.bind yL) (fun b=>enc (eE b)++b.data) (fun b=>ok (eE b)∧bi b=true):=by
 refine⟨fun s q a r hq h=> ?_,fun s t q a hq ha h=> ?_⟩
 ·obtain⟨n,m,h1,h⟩:=Pr.bind_ok h
  obtain⟨a1,a2,a3,a4,a5⟩:=hp.spell _ _ _ _ hq h1
  rcases pT n s m a2 with⟨e',st,g1,g2,g3,g4⟩ | ⟨b,r',g1,g2,b1,b2,b3,b4,b5,b6⟩
  ·rw[g1] at h
   exact nomatch h
  ·rw[g1] at h
   injection h with h
   obtain⟨rfl,rfl⟩:=Kj h
   refine⟨by omega,b2,by rw[JU,b3]; omega,by rw[b5,a4,b3,JY],by rw[b3]; exact a5,b4⟩
 ·rw[JY] at h
  have h1:=hp.back s _ q _ hq ha.1 h
  rw[Pr.bind_of h1,JU,← Nat.add_assoc]
  have h2:=bX h
  have hl:=congrArg List.length h
  rw[J7,JU,JU] at hl
  generalize (enc (eE a)).length=m at h2 hl ⊢
  obtain⟨nu,d⟩:=a
  unfold yL eE
  cases nu with
  | true =>
   have:d = []:=by have:=ha.2; unfold bi at this; simpa using this
   subst this
   rw[if_pos rfl,if_pos rfl]
   rfl
  | false =>
   simp only[Bool.false_eq_true,if_false]
   simp only at h2 hl
   rw[if_neg (by omega),if_neg (by omega),h2,if_neg (by omega),K5,List.take_left]
theorem uK (k:Nat) (h1:1≤k) (h8:k≤8) (kk:Int) (hk:kk=(k:Int)):CR (fun st=>jK st kk) (l7 k) (⟨false,[]⟩:Bl) :=
 Eh (lenop:=fun st=>eM st kk) (Eg k h1 h8 kk hk) (fun s q a r hq h=>((ej k h1 h8).spell s q a r hq h).2.1)
theorem gC (k:Nat) (h1:1≤k) (h8:k≤8):Sp (l7 k) (fun b=>be (eE b) k++b.data) (fun b=>bh (eE b) k=true∧bi b=true):=Ei (ej k h1 h8)
theorem lS (bs:Int) (a:Nat): ∀ (l:List UInt8) (b acc i:Nat),vgo bs l (a+b) acc i=((vgo bs l b acc i).1,⟨(vgo bs l b acc i).2.rest,a+(vgo bs l b acc i).2.pos,(vgo bs l b acc i).2.err⟩)
 | [],b,acc,i=>rfl
 | c::l,b,acc,i=>by
  have ih:=lS bs a l (b+1) (acc+c.toNat % 128*2 ^ (7*i)) (i+1)
  unfold vgo
  split
  ·rfl
  ·split
   ·rw[Nat.add_assoc,ih]
   ·split
    ·rfl
    ·rfl
theorem uL (bs:Int): ∀ (l:List UInt8) (b acc i:Nat),(vgo bs l b acc i).2.err≠0→(vgo bs l b acc i).1=0
 | [],b,acc,i,h=>rfl
 | c::l,b,acc,i,h=>by
  have ih:=uL bs l (b+1) (acc+c.toNat % 128*2 ^ (7*i)) (i+1)
  revert h
  unfold vgo
  split
  ·exact fun _=>rfl
  ·split
   ·exact ih
   ·split
    ·exact fun _=>rfl
    ·exact fun h=>absurd rfl h
def qO (bs:Int):Pr Nat:=fun s q=>if (vgo bs (s.drop q) 0 0 0).2.err=0 then .ok ((vgo bs (s.drop q) 0 0 0).1,q+(vgo bs (s.drop q) 0 0 0).2.pos) else .error (vgo bs (s.drop q) 0 0 0).2.err
theorem wq {bs:Int} {s:List UInt8} {q n r:Nat} (hq:q≤s.length) (h:qO bs s q= .ok (n,r)):eJ bs ⟨s.drop q,q,0⟩=(n,⟨s.drop r,r,0⟩)∧q≤r∧r≤s.length∧r=q+(cU n).length∧s.take r=s.take q++cU n:=by
 have hd:(s.drop q).length=s.length - q:=J7
 unfold qO at h
 split at h
 ·rename_i he
  injection h with h
  obtain⟨h1,h2⟩:=Kj h
  obtain⟨k,v,g1,g2,g3,g4,_⟩:=vgo_ok bs (s.drop q) 0 0 0 _ _ (rfl: _=((vgo bs (s.drop q) 0 0 0).1,(vgo bs (s.drop q) 0 0 0).2)) he
  have g3':(vgo bs (s.drop q) 0 0 0).1=v:=by rw[g3]; simp
  rw[g3'] at h1
  subst h1
  rw[g1] at h2
  simp only[Nat.zero_add] at h2
  have hlk:(cU v).length=k:=by rw[g4,Ll]; omega
  refine⟨?_,by omega,by omega,by omega,?_⟩
  ·unfold eJ
   rw[if_neg (by simp)]
   have:=lS bs q (s.drop q) 0 0 0
   rw[Nat.add_zero] at this
   simp only
   rw[this,g3',g1,← h2,KQ]
   simp
  ·rw[← h2,oR,g4]
 ·exact nomatch h
theorem Ej {bs:Int} {s:List UInt8} {q:Nat} {e:Int} (h:qO bs s q= .error e): ∃ st,eJ bs ⟨s.drop q,q,0⟩=(0,st)∧st.err=e∧e≠0:=by
 unfold qO at h
 split at h
 ·exact nomatch h
 ·rename_i he
  injection h with h
  subst h
  have h0:=uL bs (s.drop q) 0 0 0 he
  refine⟨(eJ bs ⟨s.drop q,q,0⟩).2,?_,?_,he⟩
  ·unfold eJ
   rw[if_neg (by simp)]
   have:=lS bs q (s.drop q) 0 0 0
   rw[Nat.add_zero] at this
   simp only
   rw[this,h0]
  ·unfold eJ
   rw[if_neg (by simp)]
   have:=lS bs q (s.drop q) 0 0 0
   rw[Nat.add_zero] at this
   simp only
   rw[this]
theorem AN {bs:Int} {st:I} (h:st.err≠0):eJ bs st=(0,st):=if_pos h
theorem yM (bs:Int) (hb:bs=32∨bs=64): ∀ (l:List UInt8) (b acc i:Nat),acc<2 ^ (7*i)→(vgo bs l b acc i).2.err=0→(vgo bs l b acc i).1<2 ^ bs.toNat
 | [],b,acc,i,ha,h=>by simp[vgo] at h
 | c::l,b,acc,i,ha,h=>by
  have ih:=yM bs hb l (b+1) (acc+c.toNat % 128*2 ^ (7*i)) (i+1)
  revert h
  unfold vgo
  split
  ·exact fun h=>absurd h (by simp)
  ·rename_i hc
   obtain⟨h1,h2⟩:=qi bs hb acc (c.toNat % 128) i ha (by omega) (Nat.mod_lt _ (by decide)) (fun h=>hc (.inr h))
   split
   ·exact ih h1
   ·split
    ·exact fun h=>absurd h (by simp)
    ·exact fun _=>h2
theorem BN (bs:Int) (hb:bs=32∨bs=64):Sp (qO bs) cU (fun n=>n<2 ^ bs.toNat):=by
 refine⟨fun s q a r hq h=> ?_,fun s t q a hq ha h=> ?_⟩
 ·obtain⟨h1,h2,h3,h4,h5⟩:=wq hq h
  refine⟨h2,h3,h4,h5,?_⟩
  unfold qO at h
  split at h
  ·rename_i he
   injection h with h
   rw[← (Kj h).1]
   exact yM bs hb _ _ _ _ (by simp) he
  ·exact nomatch h
 ·unfold qO
  rw[h,FO bs (by omega) a 0 0 0 t (by simpa using ha) (by omega)]
  simp
def oh (bs:Int):Pr Int:=(qO bs).bind fun n=> .ret (mh n)
theorem xI (bs:Int) (hb:bs=32∨bs=64):CR (fun st=>some (fL (eJ bs st))) (oh bs) 0:=by
 refine⟨fun st h=> ?_,fun s q e hq h=> ?_,fun s q a r hq h=> ?_⟩
 ·rw[AN h]
  simp[fL,mh]
 ·cases hp:qO bs s q with
  | error e' =>
   rw[oh,Pr.bind_err hp] at h
   injection h with h
   subst h
   obtain⟨st,h1,h2,h3⟩:=Ej hp
   exact⟨st,by rw[h1]; simp[fL,mh],h2,h3⟩
  | ok x =>
   rw[oh,Pr.bind_of (a:=x.1) (r:=x.2) hp] at h
   exact nomatch h
 ·obtain⟨n,m,hp,h⟩:=Pr.bind_ok h
  injection h with h
  obtain⟨rfl,rfl⟩:=Kj h
  rw[(wq hq hp).1]
  rfl
theorem j6 (bs:Int) (hb:bs=32∨bs=64):Sp (oh bs) (fun n=>cU (bu n)) (fun n=>bu n<2 ^ bs.toNat):=by
 refine⟨fun s q a r hq h=> ?_,fun s t q a hq ha h=> ?_⟩
 ·obtain⟨n,m,hp,h⟩:=Pr.bind_ok h
  injection h with h
  obtain⟨rfl,rfl⟩:=Kj h
  have:=(BN bs hb).spell _ _ _ _ hq hp
  rwa [Af]
 ·rw[oh,Pr.bind_of ((BN bs hb).back s t q _ hq ha h)]
  simp only[Pr.ret,Ae]
def lT:Pr Bl:=(oh 32).bind yL
theorem ws:CR cG lT (⟨false,[]⟩:Bl) :=
 Eh (lenop:=fun st=>fL (eJ 32 st)) (xI 32 (.inl rfl)) (fun s q a r hq h=>((j6 32 (.inl rfl)).spell s q a r hq h).2.1)
theorem iW:Sp lT (fun b=>cU (bu (eE b))++b.data) (fun b=>bu (eE b)<2 ^ (32:Int).toNat∧bi b=true):=Ei (j6 32 (.inl rfl))
def ol (p:Pr Bl):Pr (List UInt8):=p.bind fun b=>if b.null then .err 4 else .ret b.data
theorem BO {op:I→Bl×I} {p:Pr Bl} (h:CR (fun st=>some (op st)) p (⟨false,[]⟩:Bl)) (hb: ∀ s q a r,q≤s.length→p s q= .ok (a,r)→bi a=true):CR (fun st=>some (t7 (op st))) (ol p) []:=by
 refine⟨fun st hs=> ?_,fun s q e hq he=> ?_,fun s q a r hq hg=> ?_⟩
 ·have h0:=JP (h.dead st hs)
  rw[h0]
  rfl
 ·cases hp:p s q with
  | error e' =>
   rw[ol,Pr.bind_err hp] at he
   injection he with he
   subst he
   obtain⟨st,h1,h2,h3⟩:=h.bad s q _ hq hp
   have h0:=JP h1
   rw[h0]
   exact⟨st,rfl,h2,h3⟩
  | ok x =>
   obtain⟨b,r⟩:=x
   rw[ol,Pr.bind_of hp] at he
   have h0:=JP (h.good s q b r hq hp)
   rw[h0]
   have hbr:=hb _ _ _ _ hq hp
   split at he
   ·rename_i hn
    injection he with he
    subst he
    have:b.data = []:=by unfold bi at hbr; rw[hn] at hbr; simpa using hbr
    refine⟨⟨s.drop r,r,4⟩,?_,rfl,by decide⟩
    unfold t7
    simp only[hn,if_true,this]
    rfl
   ·exact nomatch he
 ·obtain⟨b,m,hp,hg⟩:=Pr.bind_ok hg
  have h0:=JP (h.good s q b m hq hp)
  rw[h0]
  split at hg
  ·exact nomatch hg
  ·rename_i hn
   injection hg with hg
   obtain⟨rfl,rfl⟩:=Kj hg
   unfold t7
   simp only[hn,Bool.false_eq_true,if_false]
theorem xJ {p:Pr Bl} {enc:Bl→List UInt8} {ok:Bl→Prop} (hp:Sp p enc ok):Sp (ol p) (fun d=>enc ⟨false,d⟩) (fun d=>ok ⟨false,d⟩):=by
 refine⟨fun s q a r hq h=> ?_,fun s t q a hq ha h=> ?_⟩
 ·obtain⟨b,m,h1,h⟩:=Pr.bind_ok h
  have h2:=hp.spell _ _ _ _ hq h1
  split at h
  ·exact nomatch h
  ·rename_i hn
   injection h with h
   obtain⟨rfl,rfl⟩:=Kj h
   obtain⟨nu,d⟩:=b
   simp only[Bool.not_eq_true] at hn
   subst hn
   exact h2
 ·rw[ol,Pr.bind_of (hp.back s t q _ hq ha h)]
  rfl
def uM:Pr (List UInt8):=ol (l7 2)
def wt:Pr (List UInt8):=ol lT
theorem F1:CR qr uM []:=BO (op:=fun st=>io st 2) (uK 2 (by decide) (by decide) 2 rfl) (fun s q a r hq h=>((gC 2 (by decide) (by decide)).spell s q a r hq h).2.2.2.2.2)
theorem mX:Sp uM (fun d=>be (d.length:Int) 2++d) (fun d=>bh (d.length:Int) 2=true∧bi ⟨false,d⟩=true):=xJ (gC 2 (by decide) (by decide))
theorem F2:CR ui wt []:=BO (op:=gN) ws (fun s q a r hq h=>(iW.spell s q a r hq h).2.2.2.2.2)
theorem oT:Sp wt (fun d=>cU (bu (d.length:Int))++d) (fun d=>bu (d.length:Int)<2 ^ (32:Int).toNat∧bi ⟨false,d⟩=true):=xJ iW
theorem l8 (t l:List UInt8):gQ (t,0) l=(t++l,0):=rfl
theorem BP (t:List UInt8) (e:Int):j8 (t,0) e=(t,e):=rfl
theorem eI {n k:Int} (h:bh n k=true): -9223372036854775808≤n∧n≤9223372036854775807:=by
 unfold bh at h
 simp only[Bool.and_eq_true,decide_eq_true_eq] at h
 obtain⟨⟨⟨h1,h2⟩,h3⟩,h4⟩:=h
 have:(2:Nat) ^ (8*k.toNat - 1)≤2 ^ 63:=Nat.pow_le_pow_right (by decide) (by omega)
 have h5:((2:Int) ^ (8*k.toNat - 1))=((2 ^ (8*k.toNat - 1):Nat):Int):=by simp
 have h6:(2:Nat) ^ 63=9223372036854775808:=by decide
 omega
theorem dR {t:List UInt8} {n k:Int} (hf:bh n k=true) (ht:t.length≤140737488355320):dK (t,0) n k=some (t++be n k.toNat,0):=by
 rw[DR _ _ _ ⟨eI hf,by simp only; omega⟩]
 unfold vM
 rw[if_pos hf,l8]
theorem iX {t:List UInt8} {b:Bl} {k:Int} (hf:bh (eE b) k=true) (hb:bi b=true) (ht:t.length+b.data.length≤140737488355320):iM (t,0) b k=some (t++(be (eE b) k.toNat++b.data),0):=by
 have h8:1≤k∧k≤8:=by unfold bh at hf; simp only[Bool.and_eq_true,decide_eq_true_eq] at hf; exact⟨hf.1.1.1,hf.1.1.2⟩
 rw[mM _ _ _ ⟨by omega,by simp only; omega⟩]
 unfold mi mJ vM
 rw[if_pos hb,if_pos hf,l8,l8,JY]
theorem kS {t:List UInt8} {b:Bl} (hb:bi b=true) (hl:b.data.length≤2147483647) (ht:t.length+b.data.length≤140737488355310):iG (t,0) b=some (t++(cU (bu (eE b))++b.data),0):=by
 rw[pp _ _ (by simp only; omega)]
 unfold lc mJ ib
 rw[if_pos hb,if_pos (by unfold eE; split <;> omega),l8,l8,JY]
structure CQ {α:Type} (op:I→Option (α×I)) (p:Pr α) (z:α):Prop where
 dead: ∀ st:I,st.err≠0→op st=some (z,st)
 run: ∀ (s:List UInt8) (q:Nat),q≤s.length→(∃ (e:Int) (st:I),p s q= .error e∧op ⟨s.drop q,q,0⟩=some (z,st)∧st.err=e∧st.err≠0)∨(∃ (a:α) (r:Nat),p s q= .ok (a,r)∧op ⟨s.drop q,q,0⟩=some (a,⟨s.drop r,r,0⟩)∧q≤r∧r≤s.length)
theorem CR.cq {α:Type} {op:I→Option (α×I)} {p:Pr α} {z:α} {enc:α→List UInt8} {ok:α→Prop} (h:CR op p z) (hs:Sp p enc ok):CQ op p z:=by
 refine⟨h.dead,fun s q hq=> ?_⟩
 cases hp:p s q with
 | error e =>
  obtain⟨st,h1,h2,h3⟩:=h.bad s q e hq hp
  exact .inl ⟨e,st,rfl,h1,h2,by rw[h2]; exact h3⟩
 | ok x =>
  have:=hs.spell s q x.1 x.2 hq hp
  exact .inr ⟨x.1,x.2,rfl,h.good s q x.1 x.2 hq hp,this.1,this.2.1⟩
theorem yN (k:Nat) (h1:1≤k) (h8:k≤8) (kk:Int) (hk:kk=(k:Int)):CQ (fun st=>dL st kk) (fd k) 0:=(Eg k h1 h8 kk hk).cq (ej k h1 h8)
theorem Q1:CQ (fun st=>dL st 1) (fd 1) 0:=yN 1 (by decide) (by decide) 1 rfl
theorem Q2:CQ (fun st=>dL st 2) (fd 2) 0:=yN 2 (by decide) (by decide) 2 rfl
theorem Q4:CQ (fun st=>dL st 4) (fd 4) 0:=yN 4 (by decide) (by decide) 4 rfl
theorem Q8:CQ (fun st=>dL st 8) (fd 8) 0:=yN 8 (by decide) (by decide) 8 rfl
theorem ky {st:I} {k:Int} (h:st.err≠0):dL st k=some (0,st):=by rw[iZ,mj h]
theorem qP (l:List UInt8) (q:Nat) (e:Int):da ⟨l,q,0⟩ e=⟨l,q,e⟩:=rfl
theorem QF2:CQ (fun st=>jK st 2) (l7 2) (⟨false,[]⟩:Bl):=(uK 2 (by decide) (by decide) 2 rfl).cq (gC 2 (by decide) (by decide))
theorem QF4:CQ (fun st=>jK st 4) (l7 4) (⟨false,[]⟩:Bl):=(uK 4 (by decide) (by decide) 4 rfl).cq (gC 4 (by decide) (by decide))
theorem kn {st:I} {k:Int} (h:st.err≠0):jK st k=some (⟨false,[]⟩,st):=by rw[CJ,Am h]
theorem QV:CQ cG lT (⟨false,[]⟩:Bl):=ws.cq iW
theorem QT:CQ qr uM []:=F1.cq mX
theorem QN:CQ ui wt []:=F2.cq oT
theorem uN (t:List UInt8):otx (t,0)=(t,0):=by simp[otx]
theorem fm {n:Int} {k:Int} (h:k=2∨k=4∨k=8) (h1: -32768≤n) (h2:n≤32767):bh n k=true:=by
 have e2:(2:Int) ^ (8*(2:Int).toNat - 1)=32768:=by decide
 have e4:(2:Int) ^ (8*(4:Int).toNat - 1)=2147483648:=by decide
 have e8:(2:Int) ^ (8*(8:Int).toNat - 1)=9223372036854775808:=by decide
 unfold bh
 simp only[Bool.and_eq_true,decide_eq_true_eq]
 rcases h with rfl | rfl | rfl <;> omega
open Go.RowKit Go.Deep Go.ChangeShapes
set_option linter.unusedVariables false
def ge {α:Type} (E:Rd α) (W:α→Prop):Rd α:=⟨fun w S cs a=>E.P w S cs a∧W a,fun h k=>⟨E.mono h.1 k,h.2⟩,fun h k=>⟨E.move h.1 k,h.2⟩⟩
section
variable {H:Type} (enc:TypeId×Value→H) (P:Program) {α β:Type}
def ew (t:TypeId) (E:Rd α):Prop :=
 ∀ (w:World) (fuel:Nat) (cs:List Value) (x:DataW H×List MemPlace),DataW.trod enc P w 0 (fun _=>true) true fuel t cs=some x→(∀ m,m∈x.1.weights P t→m≤reachBytes)→ ∃ a,E.P w (fun k=>k<w.heap.size) cs a
def qQ (off:Nat) (fs:List Field) (n:Nat) (E:Rd α):Prop :=
 ∀ (w:World) (fuel:Nat) (cs:List Value) (xs:List (DataW H×List MemPlace)),cs.length=off+n→xs.length=fs.length →
  (∀ (i:Nat) (f:Field),fs[i]? = some f→DataW.trod enc P w 0 (fun _=>true) true fuel f.type ((cs.drop f.offset).take (P.cellsOf f.type))=xs[i]?) →
  (∀ m,m∈DataW.weightsEach P (fs.map (·.type)) (xs.map (·.1))→m≤reachBytes)→ ∃ a,E.P w (fun k=>k<w.heap.size) (cs.drop off) a
variable {enc P}
theorem dp {t:TypeId} {E:Rd α} {E':Rd β} (f:α→β) (h:ew enc P t E) (hf: ∀ w S cs a,E.P w S cs a→E'.P w S cs (f a)):ew enc P t E':=by
 intro w fuel cs x hx hw
 obtain⟨a,ha⟩:=h w fuel cs x hx hw
 exact⟨f a,hf _ _ _ _ ha⟩
theorem wu {t:TypeId} {E:Rd α} {E':Rd β} (f:α→β) (h:DI enc P t E) (hf: ∀ w S cs a,E.P w S cs a→E'.P w S cs (f a)):ew enc P t E':=by
 intro w fuel cs x hx hw
 obtain⟨a,ha⟩:=h w fuel cs x hx
 exact⟨f a,hf _ _ _ _ ha⟩
def wI (n:Int):Prop:= -9223372036854775808≤n∧n≤9223372036854775807
def wB (_:Bool):Prop:=True
def wS (l:List UInt8):Prop:=l.length≤140737488351232
def wL (W:α→Prop) (l:List α):Prop:=l.length≤140737488351232∧ ∀ x,x∈l→W x
def wLb (bytes:Nat) (W:α→Prop) (l:List α):Prop:=l.length*bytes≤140737488351232∧ ∀ x,x∈l→W x
theorem ey {t:TypeId} (ht:P.underlying t=some (.int .i64)):ew enc P t (ge jL wI):=wu id (Cz ht) (fun w S cs a h=>⟨h.1,Go.bounds_i64 h.2⟩)
theorem oU {t:TypeId} (ht:P.underlying t=some .bool):ew enc P t (ge boolE wB):=wu id (z8 ht) (fun w S cs a h=>⟨h,trivial⟩)
theorem sB {t:TypeId} (ht:P.underlying t=some .string):ew enc P t (ge rz wS):=by
 intro w fuel cs x h hw
 obtain⟨s,rfl,rfl,hs⟩:=DataW.trod_string ht h
 have:=hw s.data.toList.length (by simp[DataW.weights])
 exact⟨s.data.toList,by cases s; simp[rz,aY],this⟩
theorem wv {size:Nat} {E:Rd α} {W:α→Prop} {w:World} {S:Nat→Prop} {cs:List Value} {l:List α} (h:(ao size (ge E W)).P w S cs l):(ao size E).P w S cs l∧ ∀ x,x∈l→W x:=by
 rcases h with⟨h,rfl⟩ | ⟨a,cap,h1,h2,h3,h4,h5⟩
 ·exact⟨.inl ⟨h,rfl⟩,fun x hx=>by simp at hx⟩
 ·refine⟨.inr ⟨a,cap,h1,h2,h3,h4,fun i x hx=> ?_⟩,fun x hx=> ?_⟩
  ·obtain⟨cs,k1,k2,k3⟩:=h5 i x hx
   exact⟨cs,k1,k2,k3.1⟩
  ·obtain⟨i,hi⟩:=List.getElem?_of_mem hx
   obtain⟨cs,k1,k2,k3⟩:=h5 i x hi
   exact k3.2
theorem om {e:TypeId} {l:List (DataW H)} {d:DataW H} {m:Nat} (hd:d∈l) (hm:m∈d.weights P e):m∈DataW.weightsAll P e l:=by
 induction l with
 | nil=>simp at hd
 | cons x l ih =>
  simp only[DataW.weightsAll,List.mem_append]
  rcases List.mem_cons.1 hd with rfl | h
  ·exact .inl hm
  ·exact .inr (ih h)
theorem op_slice {t e:TypeId} {E:Rd α} {W:α→Prop} (size bytes:Nat) (ht:P.underlying t=some (.slice e)) (hc:P.cellsOf e=size) (hb:P.bytesOf e=bytes) (hp:0<size) (hpb:0<bytes) (he:ew enc P e (ge E W)):ew enc P t (ge (ao size E) (wL W)):=by
 intro w fuel cs x h hw
 rcases open_slice ht h with⟨rfl,_⟩ | ⟨a,len,cap,m,n,D,Pl,rfl,_,hl,hm,hmm,rfl,hx⟩
 ·exact⟨[],.inl ⟨rfl,rfl⟩,by simp,fun x hx=>by simp at hx⟩
 have hlm:len≤m:=by rw[hmm]; split <;> omega
 have hlen:len≤140737488351232:=by
  have h1:=hw ((((List.range len).map D).length+((List.range (m - len)).map fun j=>D (len+j)).length)*P.bytesOf e) (by simp only[DataW.weights,ht]; exact List.mem_cons_self)
  rw[hb] at h1
  simp only[Kl,List.length_range] at h1
  have h2:(len+(m - len))*1≤(len+(m - len))*bytes:=Nat.mul_le_mul_left _ hpb
  have h3:reachBytes=140737488351232:=rfl
  omega
 have hwe: ∀ i,i<len→ ∀ z,z∈(D i).weights P e→z≤reachBytes:=by
  intro i hi z hz
  apply hw
  simp only[DataW.weights,ht]
  exact List.mem_cons_of_mem _ (List.mem_append.2 (.inl (om (d:=D i) (List.mem_map.2 ⟨i,List.mem_range.2 hi,rfl⟩) hz)))
 rw[hc] at hx
 have each: ∀ i:Fin len,∃ y:α,∃ cs,cs.length=size∧(∀ j,j<size→w.cell? (a.add (i.val*size+j))=cs[j]?)∧(ge E W).P w (fun k=>k<w.heap.size) cs y:=by
  intro i
  obtain⟨cs',h1,h2⟩:=hx i.val (by have:=i.isLt; omega)
  obtain⟨_,h3,h4⟩:=World.cells?_some h1
  obtain⟨y,hy⟩:=he _ _ _ _ h2 (hwe i.val i.isLt)
  refine⟨y,cs',h3,fun j hj=> ?_,hy⟩
  rw[← h4 j hj,add_add]
 obtain⟨f,hf⟩:=Classical.axiomOfChoice each
 have hs:(ao size (ge E W)).P w (fun k=>k<w.heap.size) [.slice (some a) len cap] ((List.finRange len).map f):=by
  refine .inr ⟨a,cap,by simp,by simpa using hl,hm,fun hz=> ?_,?_⟩
  ·simp at hz
   obtain⟨cs',k1,k2,k3⟩:=hf ⟨0,by omega⟩
   have:=k2 0 hp
   rw[List.getElem?_eq_getElem (by omega)] at this
   simp only[World.cell?] at this
   rw[block_add] at this
   rcases Nat.lt_or_ge a.block w.heap.size with h | h
   ·exact h
   ·rw[Array.getElem?_eq_none h] at this
    simp at this
  ·intro i x hx
   rw[List.getElem?_map,Option.map_eq_some_iff] at hx
   obtain⟨j,hj,rfl⟩:=hx
   have e:j.val=i:=by
    obtain⟨h1,h2⟩:=JV hj
    rw[← h2]
    simp
   rw[← e]
   exact hf j
 obtain⟨k1,k2⟩:=wv hs
 exact⟨_,k1,by simpa using hlen,k2⟩
theorem ww {t e:TypeId} {E:Rd α} {W:α→Prop} (size bytes:Nat) (ht:P.underlying t=some (.slice e)) (hc:P.cellsOf e=size) (hb:P.bytesOf e=bytes) (hp:0<size) (hpb:0<bytes) (he:ew enc P e (ge E W)):ew enc P t (ge (ao size E) (wLb bytes W)):=by
 intro w fuel cs x h hw
 rcases open_slice ht h with⟨rfl,_⟩ | ⟨a,len,cap,m,n,D,Pl,rfl,_,hl,hm,hmm,rfl,hx⟩
 ·exact⟨[],.inl ⟨rfl,rfl⟩,by rw[K6,Nat.zero_mul]; exact Ko _,fun x hx=>by simp at hx⟩
 have hlm:len≤m:=by rw[hmm]; split <;> omega
 have hlen:len*bytes≤140737488351232:=by
  have h1:=hw ((((List.range len).map D).length+((List.range (m - len)).map fun j=>D (len+j)).length)*P.bytesOf e) (by simp only[DataW.weights,ht]; exact List.mem_cons_self)
  rw[hb] at h1
  simp only[Kl,List.length_range] at h1
  have h2:len*bytes≤(len+(m - len))*bytes:=Nat.mul_le_mul_right _ (by omega)
  have h3:reachBytes=140737488351232:=rfl
  omega
 have hwe: ∀ i,i<len→ ∀ z,z∈(D i).weights P e→z≤reachBytes:=by
  intro i hi z hz
  apply hw
  simp only[DataW.weights,ht]
  exact List.mem_cons_of_mem _ (List.mem_append.2 (.inl (om (d:=D i) (List.mem_map.2 ⟨i,List.mem_range.2 hi,rfl⟩) hz)))
 rw[hc] at hx
 have each: ∀ i:Fin len,∃ y:α,∃ cs,cs.length=size∧(∀ j,j<size→w.cell? (a.add (i.val*size+j))=cs[j]?)∧(ge E W).P w (fun k=>k<w.heap.size) cs y:=by
  intro i
  obtain⟨cs',h1,h2⟩:=hx i.val (by have:=i.isLt; omega)
  obtain⟨_,h3,h4⟩:=World.cells?_some h1
  obtain⟨y,hy⟩:=he _ _ _ _ h2 (hwe i.val i.isLt)
  refine⟨y,cs',h3,fun j hj=> ?_,hy⟩
  rw[← h4 j hj,add_add]
 obtain⟨f,hf⟩:=Classical.axiomOfChoice each
 have hs:(ao size (ge E W)).P w (fun k=>k<w.heap.size) [.slice (some a) len cap] ((List.finRange len).map f):=by
  refine .inr ⟨a,cap,by simp,by simpa using hl,hm,fun hz=> ?_,?_⟩
  ·simp at hz
   obtain⟨cs',k1,k2,k3⟩:=hf ⟨0,by omega⟩
   have:=k2 0 hp
   rw[List.getElem?_eq_getElem (by omega)] at this
   simp only[World.cell?] at this
   rw[block_add] at this
   rcases Nat.lt_or_ge a.block w.heap.size with h | h
   ·exact h
   ·rw[Array.getElem?_eq_none h] at this
    simp at this
  ·intro i x hx
   rw[List.getElem?_map,Option.map_eq_some_iff] at hx
   obtain⟨j,hj,rfl⟩:=hx
   have e:j.val=i:=by
    obtain⟨h1,h2⟩:=JV hj
    rw[← h2]
    simp
   rw[← e]
   exact hf j
 obtain⟨k1,k2⟩:=wv hs
 exact⟨_,k1,by simpa using hlen,k2⟩
theorem cR (off:Nat):qQ enc P off [] 0 unitRd:=by
 intro w fuel cs xs hl _ _ _
 exact⟨(),List.drop_of_length_le (by omega)⟩
theorem aI {off n:Nat} (m:Nat) {f:Field} {fs:List Field} {A:Rd α} {B:Rd β} (ho:f.offset=off) (hc:P.cellsOf f.type=m) (hA:ew enc P f.type A) (hB:qQ enc P (off+m) fs n B) :
 qQ enc P off (f::fs) (m+n) (pairRd A B):=by
 intro w fuel cs xs hl hx h hw
 cases xs with
 | nil=>simp at hx
 | cons x xs =>
  have h0:=h 0 f rfl
  rw[ho,hc] at h0
  simp only[List.map_cons,DataW.weightsEach,List.mem_append] at hw
  obtain⟨a,ha⟩:=hA _ _ _ _ h0 (fun m hm=>hw m (.inl hm))
  obtain⟨b,hb⟩:=hB w fuel cs xs (by omega) (by simpa using hx) (fun i f' hf=>by simpa using h (i+1) f' (by simpa using hf)) (fun m hm=>hw m (.inr hm))
  refine⟨(a,b),(cs.drop off).take m,cs.drop (off+m),?_,ha,hb⟩
  rw[← KQ,List.take_append_drop]
theorem cy {t:TypeId} {fs:Array Field} {n:Nat} {E:Rd α} (ht:P.underlying t=some (.struct fs)) (hc:P.cellsOf t=n) (h:qQ enc P 0 fs.toList n E):ew enc P t E:=by
 intro w fuel cs x hx hw
 obtain⟨xs,k,rfl,rfl,hl,hxl,hf⟩:=DataW.trod_struct ht hx
 simp only[DataW.weights,ht] at hw
 obtain⟨a,ha⟩:=h w k cs xs (by omega) (by simpa using hxl) (fun i f hi=>hf i f (by simpa using hi)) hw
 exact⟨a,by simpa using ha⟩
theorem weights_in: ∀ {ts:List TypeId} {ds:List (DataW H)} (j:Nat) {t:TypeId} {d:DataW H} {m:Nat},ts[j]? = some t→ds[j]? = some d→m∈d.weights P t→m∈DataW.weightsEach P ts ds
 | [],_,j,_,_,_,ht,_,_=>by simp at ht
 | _ :: _,[],j,_,_,_,_,hd,_=>by simp at hd
 | t::ts,d::ds,0,_,_,_,ht,hd,hm=>by
  obtain rfl:t= _:=by simpa using ht
  obtain rfl:d= _:=by simpa using hd
  simp only[DataW.weightsEach,List.mem_append]
  exact .inl hm
 | t::ts,d::ds,j+1,_,_,_,ht,hd,hm=>by
  simp only[DataW.weightsEach,List.mem_append]
  exact .inr (weights_in j (by simpa using ht) (by simpa using hd) hm)
theorem slice_cells {size:Nat} {E:Rd α} {w:World} {S:Nat→Prop} {cs:List Value} {l:List α} (h:(ao size E).P w S cs l): ∃ A c,cs = [.slice A l.length c]:=by
 rcases h with⟨h,rfl⟩ | ⟨a,cap,h,_⟩
 ·exact⟨none,0,h⟩
 ·exact⟨_,_,h⟩
theorem opens_arg1 {t e:TypeId} {E:Rd α} {r:Reach} {b0:Nat} {w:World} {v:Value} {d:DataW H} {p:List MemPlace} (ht:P.underlying t=some (.slice e)) (hval:Value.okWide P w r b0 t v) (h:ew enc P t E)
 (hv:DataW.Trod enc P w 0 (fun _=>true) true t v d p) (hw: ∀ m,m∈d.weights P t→m≤reachBytes): ∃ a,E.P w (fun k=>k<w.heap.size) [v] a:=by
 obtain⟨a0,len,cap,rfl⟩:=Go.WideShapes.okWide_slice ht hval
 obtain⟨fuel,hf⟩:=hv
 exact h _ _ _ _ hf hw
theorem RX.reads_all {E:Rd α} {w:World} {cs:List Value} {a:α} (h:E.P w (fun k=>k<w.heap.size) cs a):(RX.of E cs a).reads w (fun _=>False):=⟨_,h,fun k hk=>⟨fun h=>h,hk⟩⟩
end
open Go.RowKit
def uO (x:Bl):Prop:=wB x.null∧wS x.data
def Ek (x:Hd):Prop:=wS x.Jr∧uO x.Jj
def uP (x:Rec):Prop:=wI x.JA∧wI x.Jq∧uO x.Jr∧uO x.Jj∧(wL Ek) x.Jl
def BQ (x:eS):Prop:=wI x.Jk∧wI x.Jg∧wI x.Jo∧uO x.Je
def mY (x:Top):Prop:=wS x.Jd∧(wL wI) x.I7
def wf_Val (x:Val):Prop:=wI x.I6∧wI x.I8∧wI x.Jb∧wI x.JL∧(wL mY) x.I5∧wI x.JN∧wI x.JM
def l9 (x:Bat):Prop:=wI x.Jz∧wI x.Jv∧wB x.JG∧wB x.JE∧wB x.JB∧wI x.Jx∧wI x.Jm∧wI x.JF∧wI x.I6∧wI x.I8∧wI x.Jn∧(wL uP) x.Ja
def wx (x:bI):Prop:=wS x.Jc∧wI x.I6∧wI x.I8∧wB x.Js
def lU (x:aP):Prop:=wI x.I6∧wI x.I8∧wB x.Js∧(wL mY) x.I5∧wI x.Ji
def oo (x:aX):Prop:=uO x.Jc∧wI x.Jb∧wI x.I6∧wI x.I8
def lx (x:aR):Prop:=wI x.Jp∧(wL l9) x.Jf
def kz (x:aD):Prop:=wS x.Jd∧(wLb 32 lx) x.I7
def fJ (x:aw):Prop:=uO x.Jc∧wI x.Ju∧wI x.Jb∧(wLb 40 kz) x.I5
def wy (x:bJ):Prop:=wS x.Jc∧wI x.I6∧wI x.I8∧(wL mY) x.I5
def gI (x:aC):Prop:=BQ x.I9∧oo x.Jw∧wy x.Jy∧wx x.JC∧(wL lU) x.Jt∧fJ x.Jh
set_option linter.unusedSimpArgs false
theorem F3 (k v:Int):gY k v=some (fP k v):=by
 unfold gY fP f8
 by_cases h0:k=0
 ·subst h0
  by_cases h3:v=3
  ·simp[h3]
  ·by_cases h4:v=4
   ·simp[h4]
   ·simp[h3,h4]
    omega
 rw[if_neg h0,if_neg h0]
 by_cases h1:k=22
 ·subst h1
  by_cases h3:v=0
  ·simp[h3]
  ·by_cases h4:v=1
   ·simp[h4]
   ·simp[h3,h4]
    omega
 rw[if_neg h1,if_neg h1]
 by_cases h2:k=27
 ·subst h2
  by_cases h3:v=0
  ·simp[h3]
  ·by_cases h4:v=1
   ·simp[h4]
   ·simp[h3,h4]
    omega
 rw[if_neg h2]
 by_cases h5:k=24
 ·subst h5
  by_cases h3:v=0
  ·simp[h3]
  ·simp[h3]
   omega
 rw[if_neg h5,if_neg h5]
 by_cases h6:k=26
 ·subst h6
  by_cases h3:v=0
  ·simp[h3]
  ·simp[h3]
   omega
 rw[if_neg h6,if_neg h6,if_neg h2]
 simp
theorem oq {k v:Int} (h:fP k v=0):bh k 2=true∧bh v 2=true:=by
 unfold fP f8 at h
 have e:(2:Int) ^ (8*(2:Int).toNat - 1)=32768:=by decide
 have hv: ∀ n:Int,-100≤n→n≤100→bh n 2=true:=fun n h1 h2=>by
  unfold bh
  simp only[Bool.and_eq_true,decide_eq_true_eq]
  omega
 by_cases h0:k=0
 ·simp[h0] at h
  exact⟨hv _ (by omega) (by omega),hv _ (by omega) (by omega)⟩
 by_cases h1:k=22
 ·simp[h1] at h
  exact⟨hv _ (by omega) (by omega),hv _ (by omega) (by omega)⟩
 by_cases h2:k=24
 ·simp[h2] at h
  exact⟨hv _ (by omega) (by omega),hv _ (by omega) (by omega)⟩
 by_cases h3:k=26
 ·simp[h3] at h
  exact⟨hv _ (by omega) (by omega),hv _ (by omega) (by omega)⟩
 by_cases h4:k=27
 ·simp[h4] at h
  exact⟨hv _ (by omega) (by omega),hv _ (by omega) (by omega)⟩
 simp[h0,h1,h2,h3,h4] at h
def tM (h:eS):List UInt8:=be h.Jk 2++(be h.Jg 2++(be h.Jo 4++(be (eE h.Je) 2++h.Je.data)))
def okH (h:eS):Prop:=fP h.Jk h.Jg=0∧bh h.Jo 4=true∧bh (eE h.Je) 2=true∧bi h.Je=true
def yO:Pr eS:=(fd 2).bind fun k=>(fd 2).bind fun v=>if fP k v=0 then (fd 4).bind fun n=>(l7 2).bind fun c=> .ret ⟨k,v,n,c⟩ else .err (fP k v)
theorem F4:Sp yO tM okH:=by
 refine⟨fun s q a r hq h=> ?_,fun s t q a hq ha h=> ?_⟩
 ·obtain⟨k,q1,h1,h⟩:=Pr.bind_ok h
  obtain⟨v,q2,h2,h⟩:=Pr.bind_ok h
  split at h
  ·rename_i hv
   obtain⟨n,q3,h3,h⟩:=Pr.bind_ok h
   obtain⟨c,q4,h4,h⟩:=Pr.bind_ok h
   injection h with h
   obtain⟨rfl,rfl⟩:=Kj h
   obtain⟨a1,a2,a3,a4,a5⟩:=(ej 2 (by decide) (by decide)).spell _ _ _ _ hq h1
   obtain⟨b1,b2,b3,b4,b5⟩:=(ej 2 (by decide) (by decide)).spell _ _ _ _ a2 h2
   obtain⟨c1,c2,c3,c4,c5⟩:=(ej 4 (by decide) (by decide)).spell _ _ _ _ b2 h3
   obtain⟨d1,d2,d3,d4,d5⟩:=(gC 2 (by decide) (by decide)).spell _ _ _ _ c2 h4
   refine⟨by omega,d2,?_,?_,hv,c5,d5.1,d5.2⟩
   ·simp only[tM,JU] at *
    omega
   ·rw[d4,c4,b4,a4]
    simp only[tM,JY]
  ·exact nomatch h
 ·obtain⟨a1,a2,a3,a4⟩:=ha
  obtain⟨f1,f2⟩:=oq a1
  have hl:=congrArg List.length h
  simp only[tM,J7,JU,aF] at hl
  simp only[tM,JY] at h
  have g1:=(ej 2 (by decide) (by decide)).back _ _ _ _ hq f1 h
  have h:=bX h
  have g2:=(ej 2 (by decide) (by decide)).back _ _ _ _ (by rw[aF]; omega) f2 h
  have h:=bX h
  have g3:=(ej 4 (by decide) (by decide)).back _ _ _ _ (by simp only[aF]; omega) a2 h
  have h:=bX h
  rw[← JY] at h
  have g4:=(gC 2 (by decide) (by decide)).back _ _ _ _ (by simp only[aF]; omega) ⟨a3,a4⟩ h
  rw[yO,Pr.bind_of g1,Pr.bind_of g2,if_pos a1,Pr.bind_of g3,Pr.bind_of g4]
  simp only[Pr.ret,tM,JU,Nat.add_assoc]
def zHead:eS:=⟨0,0,0,⟨false,[]⟩⟩
theorem Q_head:CQ f9 yO zHead:=by
 refine⟨fun st h=> ?_,fun s q hq=> ?_⟩
 ·unfold f9
  simp only[ky h,kn h,bt,JR,if_neg h]
  rfl
 ·unfold f9 yO
  rcases Q2.run s q hq with⟨e,st,p1,g1,x1,y1⟩ | ⟨k,q1,p1,g1,n1,l1⟩
  ·refine .inl ⟨e,st,Pr.bind_err p1,?_,x1,y1⟩
   simp only[g1,ky y1,kn y1,bt,JR,if_neg y1]
   rfl
  simp only[g1,JR,Pr.bind_of p1]
  rcases Q2.run s q1 l1 with⟨e,st,p2,g2,x2,y2⟩ | ⟨v,q2,p2,g2,n2,l2⟩
  ·refine .inl ⟨e,st,Pr.bind_err p2,?_,x2,y2⟩
   simp only[g2,ky y2,kn y2,bt,JR,if_neg y2]
   rfl
  simp only[g2,JR,Pr.bind_of p2,bt,uI,if_true]
  by_cases hv:fP k v=0
  ·simp only[if_pos hv]
   rcases Q4.run s q2 l2 with⟨e,st,p3,g3,x3,y3⟩ | ⟨n,q3,p3,g3,n3,l3⟩
   ·refine .inl ⟨e,st,Pr.bind_err p3,?_,x3,y3⟩
    simp only[g3,ky y3,kn y3,bt,JR,if_neg y3]
    rfl
   simp only[g3,JR,Pr.bind_of p3]
   rcases QF2.run s q3 l3 with⟨e,st,p4,g4,x4,y4⟩ | ⟨c,q4,p4,g4,n4,l4⟩
   ·refine .inl ⟨e,st,Pr.bind_err p4,?_,x4,y4⟩
    simp only[g4,ky y4,kn y4,bt,JR,if_neg y4]
    rfl
   refine .inr ⟨⟨k,v,n,c⟩,q4,by rw[Pr.bind_of p4]; rfl,?_,by omega,l4⟩
   simp only[g4,JR,if_true]
  ·simp only[if_neg hv]
   have y:(⟨s.drop q2,q2,fP k v⟩:I).err≠0:=hv
   refine .inl ⟨fP k v,⟨s.drop q2,q2,fP k v⟩,rfl,?_,rfl,hv⟩
   simp only[dt,qP,JR,ky y,kn y,bt,if_neg hv]
   rfl
def mZ (h:eS):Int:=if fP h.Jk h.Jg=0 then (if bh h.Jo 4=true then (if bi h.Je=true then (if (h.Je.data.length:Int)>32767 then 4 else 0) else 4) else 11) else fP h.Jk h.Jg
theorem El (h:eS) (hn:wI h.Jo):gy h=some (mZ h):=by
 unfold gy mZ
 rw[uI,JR]
 by_cases h1:fP h.Jk h.Jg=0
 ·rw[if_pos h1,if_pos h1,fx _ _ hn,JR]
  by_cases h2:bh h.Jo 4=true
  ·rw[if_pos h2,if_pos h2,oN,JR]
   by_cases h3:bi h.Je=true
   ·rw[if_pos h3,if_pos h3]
    split <;> rfl
   ·rw[if_neg h3,if_neg h3]
  ·rw[if_neg h2,if_neg h2]
 ·rw[if_neg h1,if_neg h1]
theorem C9 (h:jd):kf h=some (mZ ⟨h.Jk,h.Jg,h.Jo,h.Je⟩):=by
 unfold kf mZ
 rw[F3,JR]
 simp only[eo,decide_eq_true_eq]
 by_cases h1:fP h.Jk h.Jg=0
 ·rw[if_pos h1,if_pos h1]
  by_cases h2: -2147483648≤h.Jo∧h.Jo≤2147483647
  ·rw[if_pos h2,if_neg (by omega),if_neg (by omega)]
   obtain⟨k,v,n,nu,d⟩:=h
   simp only
   unfold bi
   cases nu
   ·simp
    split <;> rfl
   ·by_cases hd:d = []
    ·subst hd
     simp
    ·simp[hd]
  ·rw[if_neg h2]
   by_cases h3:h.Jo < -2147483648
   ·rw[if_pos h3]
   ·rw[if_neg h3,if_pos (by omega)]
 ·rw[if_neg h1,if_neg h1]
theorem AO {h:eS} (hc:mZ h=0):okH h:=by
 unfold mZ at hc
 split at hc
 ·rename_i h1
  split at hc
  ·rename_i h2
   split at hc
   ·rename_i h3
    split at hc
    ·exact absurd hc (by decide)
    ·exact⟨h1,h2,fm (.inl rfl) (by unfold eE; split <;> omega) (by unfold eE; split <;> omega),h3⟩
   ·exact absurd hc (by decide)
  ·exact absurd hc (by decide)
 ·rename_i h1
  exact absurd hc h1
theorem AP (h:eS) (t:List UInt8) (ht:t.length≤140737488000000) (hn:wI h.Jo) (hl:h.Je.data.length≤40000):gz (t,0) h=some (if mZ h=0 then (t++tM h,0) else (t,mZ h)):=by
 unfold gz
 rw[El h hn,JR]
 by_cases hc:mZ h=0
 ·rw[if_pos hc,if_pos hc]
  obtain⟨o1,o2,o3,o4⟩:=AO hc
  rw[dR (oq o1).1 (by omega),JR,dR (oq o1).2 (by simp only[JU,aF]; omega),JR]
  rw[dR o2 (by simp only[JU,aF]; omega),JR,iX o3 o4 (by simp only[JU,aF]; omega),JR]
  simp only[tM,JY]
  rfl
 ·rw[if_neg hc,if_neg hc,rr,BP]
  rfl
def qR (each:Nat) (n:Int):Pr Int:=fun s q=>if n<0 then .error 4 else if 0<each∧((s.length - q:Nat):Int) / each<n then .error 1 else .ok (n,q)
def ot (k each:Nat):Pr Int:=(fd k).bind (qR each)
theorem lb {k each:Nat} (h1:1≤k) (h8:k≤8) {s:List UInt8} {q r:Nat} {n:Int} (hq:q≤s.length) (h:ot k each s q= .ok (n,r)):0≤n∧(0<each→n*each≤((s.length - r:Nat):Int))∧r=q+k∧r≤s.length∧s.take r=s.take q++be n k∧bh n k=true:=by
 obtain⟨m,r',h2,h⟩:=Pr.bind_ok h
 obtain⟨a1,a2,a3,a4,a5⟩:=(ej k h1 h8).spell _ _ _ _ hq h2
 unfold qR at h
 split at h
 ·exact nomatch h
 ·rename_i hn
  split at h
  ·exact nomatch h
  ·rename_i he
   injection h with h
   obtain⟨rfl,rfl⟩:=Kj h
   rw[aF] at a3
   refine⟨by omega,fun hz=> ?_,a3,a2,a4,a5⟩
   have:m≤((s.length - r':Nat):Int) / each:=by
    rcases Int.lt_or_le (((s.length - r':Nat):Int) / each) m with g | g
    ·exact absurd ⟨hz,g⟩ he
    ·exact g
   exact (Int.le_ediv_iff_mul_le (by omega)).1 this
theorem Da {k each:Nat} (h1:1≤k) (h8:k≤8) {s t:List UInt8} {q:Nat} {n:Int} (hq:q≤s.length) (hf:bh n k=true) (hn:0≤n) (h:s.drop q=be n k++t) (hl:0<each→n*each≤t.length):ot k each s q= .ok (n,q+k):=by
 have g:=(ej k h1 h8).back s t q n hq hf h
 rw[aF] at g
 rw[ot,Pr.bind_of g]
 unfold qR
 have hlen:=congrArg List.length h
 rw[J7,JU,aF] at hlen
 rw[if_neg (by omega),if_neg]
 rintro⟨hz,hc⟩
 have:=(Int.le_ediv_iff_mul_le (show (0:Int)<each by omega)).2 (hl hz)
 rw[show s.length - (q+k)=t.length by omega] at hc
 omega
theorem qS (k each:Nat) (h1:1≤k) (h8:k≤8) (kk ee:Int) (hk:kk=(k:Int)) (he:ee=(each:Int)) (h9:ee≤1000):CQ (fun st=>ip st kk ee) (ot k each) 0:=by
 subst hk
 refine⟨fun st h=> ?_,fun s q hq=> ?_⟩
 ·show ip st k ee= _
  rw[rv _ _ _ ⟨by omega,by omega⟩]
  unfold kq
  rw[mj h]
  simp only
  rw[if_pos h]
 ·show (∃ e st,ot k each s q= .error e∧ip ⟨s.drop q,q,0⟩ k ee=some (0,st)∧ _∧ _)∨(∃ a r,ot k each s q= .ok (a,r)∧ip ⟨s.drop q,q,0⟩ k ee=some (a,⟨s.drop r,r,0⟩)∧q≤r∧r≤s.length)
  rw[rv _ _ _ ⟨by omega,by omega⟩]
  unfold kq
  rcases (yN k h1 h8 k rfl).run s q hq with⟨e,st,p1,g1,x1,y1⟩ | ⟨n,r,p1,g1,n1,l1⟩
  ·rw[iZ] at g1
   have g1:=JP g1
   obtain⟨u1,u2⟩:=Kj g1
   rw[u2]
   exact .inl ⟨e,st,Pr.bind_err p1,by rw[if_pos y1],x1,y1⟩
  ·rw[iZ] at g1
   have g1:=JP g1
   have u3:eM ⟨s.drop q,q,0⟩ k=(n,⟨s.drop r,r,0⟩):=g1
   rw[u3,ot,Pr.bind_of p1]
   simp only
   rw[if_neg (by simp)]
   unfold qR
   by_cases hn:n<0
   ·rw[if_pos hn,if_pos hn]
    exact .inl ⟨4,_,rfl,rfl,rfl,by simp[da]⟩
   ·rw[if_neg hn,if_neg hn,J7,he]
    by_cases hc:0<each∧((s.length - r:Nat):Int) / each<n
    ·rw[if_pos hc,if_pos ⟨by omega,hc.2⟩]
     exact .inl ⟨1,_,rfl,rfl,rfl,by simp[da]⟩
    ·rw[if_neg hc,if_neg (fun h=>hc ⟨by omega,h.2⟩)]
     exact .inr ⟨n,r,rfl,rfl,n1,l1⟩
theorem ly {st:I} {k e:Int} (h:st.err≠0) (hk:0≤k∧k≤1000) (he:0≤e∧e≤1000):ip st k e=some (0,st):=by
 rw[rv _ _ _ ⟨by omega,by omega⟩]
 unfold kq
 rw[mj h]
 simp only
 rw[if_pos h]
def iv {α:Type} (p:Pr α):Nat→Pr (List α)
 | 0=> .ret []
 | n+1=>p.bind fun a=>(iv p n).bind fun l=> .ret (a::l)
def bl {α:Type} (enc:α→List UInt8):List α→List UInt8
 | [] => []
 | a::l=>enc a++bl enc l
theorem uQ {α:Type} {p:Pr α} {enc:α→List UInt8} {ok:α→Prop} (hp:Sp p enc ok): ∀ n:Nat,Sp (iv p n) (bl enc) (fun l=>l.length=n∧ ∀ x,x∈l→ok x)
 | 0=>by
  refine⟨fun s q a r hq h=> ?_,fun s t q a hq ha h=> ?_⟩
  ·injection h with h
   obtain⟨rfl,rfl⟩:=Kj h
   exact⟨Kn _,hq,rfl,by simp[bl],rfl,fun x h=>nomatch h⟩
  ·obtain rfl:=List.length_eq_zero_iff.1 ha.1
   rfl
 | n+1=>by
  have ih:=uQ hp n
  refine⟨fun s q a r hq h=> ?_,fun s t q a hq ha h=> ?_⟩
  ·obtain⟨x,q1,h1,h⟩:=Pr.bind_ok h
   obtain⟨l,q2,h2,h⟩:=Pr.bind_ok h
   injection h with h
   obtain⟨rfl,rfl⟩:=Kj h
   obtain⟨a1,a2,a3,a4,a5⟩:=hp.spell _ _ _ _ hq h1
   obtain⟨b1,b2,b3,b4,b5,b6⟩:=ih.spell _ _ _ _ a2 h2
   refine⟨by omega,b2,by rw[bl,JU]; omega,by rw[b4,a4,bl,JY],by rw[J0,b5],fun y hy=> ?_⟩
   rcases List.mem_cons.1 hy with rfl | hy
   ·exact a5
   ·exact b6 y hy
  ·obtain⟨ha1,ha2⟩:=ha
   cases a with
   | nil=>exact absurd ha1 (by simp)
   | cons x l =>
    rw[bl,JY] at h
    have hl:=congrArg List.length h
    rw[J7,JU] at hl
    have g1:=hp.back _ _ _ _ hq (ha2 x (.head _)) h
    have g2:=ih.back _ _ _ _ (by omega) ⟨by simpa using ha1,fun y hy=>ha2 y (.tail _ hy)⟩ (bX h)
    rw[iv,Pr.bind_of g1,Pr.bind_of g2]
    simp only[Pr.ret,bl,JU,Nat.add_assoc]
theorem na {α:Type} {enc:α→List UInt8} {ok:α→Prop} {each:Nat} (he: ∀ x,ok x→each≤(enc x).length): ∀ l:List α,(∀ x,x∈l→ok x)→l.length*each≤(bl enc l).length
 | [],h=>by simp
 | x::l,h=>by
  have:=na he l (fun y hy=>h y (.tail _ hy))
  have:=he x (h x (.head _))
  rw[bl,JU,J0,Nat.add_mul]
  omega
def kA {α:Type} (k each:Nat) (p:Pr α):Pr (List α):=(ot k each).bind fun n=>iv p n.toNat
theorem uR {α:Type} {p:Pr α} {enc:α→List UInt8} {ok:α→Prop} (k each:Nat) (h1:1≤k) (h8:k≤8) (hp:Sp p enc ok) (he: ∀ x,ok x→each≤(enc x).length):Sp (kA k each p) (fun l=>be (l.length:Int) k++bl enc l) (fun l=>bh (l.length:Int) k=true∧ ∀ x,x∈l→ok x):=by
 refine⟨fun s q a r hq h=> ?_,fun s t q a hq ha h=> ?_⟩
 ·obtain⟨n,q1,g1,h⟩:=Pr.bind_ok h
  obtain⟨a1,a2,a3,a4,a5,a6⟩:=lb h1 h8 hq g1
  obtain⟨b1,b2,b3,b4,b5,b6⟩:=(uQ hp n.toNat).spell _ _ _ _ a4 h
  have hn:(a.length:Int)=n:=by omega
  refine⟨by omega,b2,by rw[JU,aF]; omega,by rw[b4,a5,hn,JY],by rw[hn]; exact a6,b6⟩
 ·rw[JY] at h
  have hl:=congrArg List.length h
  rw[J7,JU,JU,aF] at hl
  have g1:=Da (each:=each) h1 h8 hq ha.1 (by omega) h (fun _=>by
   have:=na he a ha.2
   rw[JU,Int.natCast_add,← Int.natCast_mul]
   omega)
  have h2:=bX h
  rw[aF] at h2
  have g2:=(uQ hp a.length).back _ _ _ _ (by omega) ⟨rfl,ha.2⟩ h2
  rw[kA,Pr.bind_of g1,K5,g2,JU,aF]
  simp only[Nat.add_assoc]
structure CB {α:Type} (op:I→Option (α×I)) (p:Pr α) (z:α):Prop where
 dead: ∀ st:I,st.err≠0→op st=some (z,st)
 run: ∀ (s:List UInt8) (q:Nat),s.length≤1000000→q≤s.length→(∃ (e:Int) (st:I),p s q= .error e∧op ⟨s.drop q,q,0⟩=some (z,st)∧st.err=e∧st.err≠0)∨(∃ (a:α) (r:Nat),p s q= .ok (a,r)∧op ⟨s.drop q,q,0⟩=some (a,⟨s.drop r,r,0⟩)∧q≤r∧r≤s.length)
theorem CQ.cb {α:Type} {op:I→Option (α×I)} {p:Pr α} {z:α} (h:CQ op p z):CB op p z:=⟨h.dead,fun s q _ hq=>h.run s q hq⟩
theorem Sp.congr {α:Type} {p:Pr α} {enc enc':α→List UInt8} {ok ok':α→Prop} (h:Sp p enc ok) (hok: ∀ a,ok a↔ok' a) (he: ∀ a,ok a→enc a=enc' a):Sp p enc' ok':=by
 refine⟨fun s q a r hq hp=> ?_,fun s t q a hq ha hd=> ?_⟩
 ·obtain⟨h1,h2,h3,h4,h5⟩:=h.spell s q a r hq hp
  rw[← he a h5]
  exact⟨h1,h2,h3,h4,(hok a).1 h5⟩
 ·have ha':=(hok a).2 ha
  rw[← he a ha'] at hd ⊢
  exact h.back s t q a hq ha' hd
theorem Sp.seq {α β:Type} {p:Pr α} {f:α→Pr β} {π:β→α} {enc1:α→List UInt8} {enc2:β→List UInt8} {ok1:α→Prop} {ok2:β→Prop} (hp:Sp p enc1 ok1) (hf: ∀ a,Sp (f a) enc2 (fun x=>ok2 x∧π x=a)) :
 Sp (p.bind f) (fun x=>enc1 (π x)++enc2 x) (fun x=>ok1 (π x)∧ok2 x):=by
 refine⟨fun s q x r hq h=> ?_,fun s t q x hq hx hd=> ?_⟩
 ·obtain⟨a,m,h1,h2⟩:=Pr.bind_ok h
  obtain⟨a1,a2,a3,a4,a5⟩:=hp.spell s q a m hq h1
  obtain⟨b1,b2,b3,b4,b5,b6⟩:=(hf a).spell s m x r a2 h2
  subst b6
  exact⟨by omega,b2,by rw[JU]; omega,by rw[b4,a4,JY],a5,b5⟩
 ·rw[JY] at hd
  have h1:=hp.back s _ q (π x) hq hx.1 hd
  have hl:=congrArg List.length hd
  rw[J7,JU] at hl
  have h2:=(hf (π x)).back s t _ x (by omega) ⟨hx.2,rfl⟩ (bX hd)
  rw[Pr.bind_of h1,h2,JU,Nat.add_assoc]
theorem uS {β:Type} (x0:β) (c:Prop) [Decidable c] (e:Int):Sp (if c then Pr.ret x0 else Pr.err e) (fun _ => []) (fun x=>c∧x=x0):=by
 refine⟨fun s q x r hq h=> ?_,fun s t q x hq hx hd=> ?_⟩
 ·by_cases hc:c
  ·rw[if_pos hc] at h
   injection h with h
   obtain⟨rfl,rfl⟩:=Kj h
   exact⟨Kn _,hq,rfl,by simp,hc,rfl⟩
  ·rw[if_neg hc] at h
   exact nomatch h
 ·rw[if_pos hx.1,hx.2]
  rfl
theorem Em {β:Type} (x0:β):Sp (Pr.ret x0) (fun _ => []) (fun x=>x=x0):=by
 refine⟨fun s q x r hq h=> ?_,fun s t q x hq hx hd=> ?_⟩
 ·injection h with h
  obtain⟨rfl,rfl⟩:=Kj h
  exact⟨Kn _,hq,rfl,by simp,rfl⟩
 ·rw[hx]
  rfl
theorem CB.bind {α β:Type} {op1:I→Option (α×I)} {p:Pr α} {z1:α} {op2:α→I→Option (β×I)} {f:α→Pr β} {z:β} (W:α→Prop) (h:CB op1 p z1)
 (hs: ∀ s q a r,s.length≤1000000→q≤s.length→p s q= .ok (a,r)→W a) (hz:W z1) (hf: ∀ a,W a→CB (op2 a) (f a) z):CB (fun st=>(op1 st).bind fun (a,st1)=>op2 a st1) (p.bind f) z:=by
 refine⟨fun st hd=> ?_,fun s q hl hq=> ?_⟩
 ·show (op1 st).bind _= _
  rw[h.dead st hd,JR]
  exact (hf z1 hz).dead st hd
 ·rcases h.run s q hl hq with⟨e,st,p1,g1,x1,y1⟩ | ⟨a,r,p1,g1,n1,l1⟩
  ·refine .inl ⟨e,st,Pr.bind_err p1,?_,x1,y1⟩
   show (op1 _).bind _= _
   rw[g1,JR]
   exact (hf z1 hz).dead st y1
  ·have g2:((op1 ⟨s.drop q,q,0⟩).bind fun (a,st1)=>op2 a st1)=op2 a ⟨s.drop r,r,0⟩:=by rw[g1,JR]
   show (∃ e st,p.bind f s q= _∧((op1 ⟨s.drop q,q,0⟩).bind fun (a,st1)=>op2 a st1)= _∧ _∧ _)∨(∃ x m,p.bind f s q= _∧((op1 ⟨s.drop q,q,0⟩).bind fun (a,st1)=>op2 a st1)= _∧ _∧ _)
   rw[g2,Pr.bind_of p1]
   rcases (hf a (hs s q a r hl hq p1)).run s r hl l1 with⟨e,st,p2,k2,x2,y2⟩ | ⟨b,m,p2,k2,n2,l2⟩
   ·exact .inl ⟨e,st,p2,k2,x2,y2⟩
   ·exact .inr ⟨b,m,p2,k2,by omega,l2⟩
theorem CB.congr {α:Type} {op op':I→Option (α×I)} {p:Pr α} {z:α} (h:CB op p z) (he: ∀ st,op' st=op st):CB op' p z:=⟨fun st hd=>(he st).trans (h.dead st hd),fun s q hl hq=>by rw[he]; exact h.run s q hl hq⟩
theorem CB.pr {α:Type} {op:I→Option (α×I)} {p p':Pr α} {z:α} (h:CB op p z) (he:p=p'):CB op p' z:=he ▸ h
theorem ow {k:Nat} (h1:1≤k) (h8:k≤8): ∀ (s:List UInt8) (q:Nat) (a:Int) (r:Nat),s.length≤1000000→q≤s.length→fd k s q= .ok (a,r)→ -9223372036854775808≤a∧a≤9223372036854775807 :=
 fun s q a r _ hq h=>eI ((ej k h1 h8).spell s q a r hq h).2.2.2.2
def qT:Pr Bool:=(fd 1).bind fun n=>if n=0 then .ret false else if n=1 then .ret true else .err 11
def j7 (b:Bool):List UInt8:=be (if b=true then 1 else 0) 1
theorem BR:Sp qT j7 (fun _=>True):=by
 refine⟨fun s q x r hq h=> ?_,fun s t q x hq hx hd=> ?_⟩
 ·obtain⟨n,m,h1,h⟩:=Pr.bind_ok h
  obtain⟨a1,a2,a3,a4,a5⟩:=(ej 1 (by decide) (by decide)).spell s q n m hq h1
  by_cases h0:n=0
  ·rw[if_pos h0] at h
   injection h with h
   obtain⟨rfl,rfl⟩:=Kj h
   subst h0
   exact⟨a1,a2,a3,a4,trivial⟩
  ·rw[if_neg h0] at h
   by_cases h1:n=1
   ·rw[if_pos h1] at h
    injection h with h
    obtain⟨rfl,rfl⟩:=Kj h
    subst h1
    exact⟨a1,a2,a3,a4,trivial⟩
   ·rw[if_neg h1] at h
    exact nomatch h
 ·cases x with
  | true =>
   have:=(ej 1 (by decide) (by decide)).back s t q 1 hq (by decide) hd
   rw[qT,Pr.bind_of this]
   rfl
  | false =>
   have:=(ej 1 (by decide) (by decide)).back s t q 0 hq (by decide) hd
   rw[qT,Pr.bind_of this]
   rfl
theorem xK {α:Type} {op:I→Option (α×I)} {x0 z:α} {e:Int} (h: ∀ st:I,st.err≠0→op st=some (z,st)) (h0: ∀ st:I,st.err=0→op st=some (if e=0 then (x0,st) else (z,da st e))):CB op (if e=0 then .ret x0 else .err e) z:=by
 refine⟨h,fun s q hl hq=> ?_⟩
 by_cases he:e=0
 ·rw[if_pos he,h0 _ rfl,if_pos he]
  exact .inr ⟨x0,q,rfl,rfl,Kn _,hq⟩
 ·rw[if_neg he,h0 _ rfl,if_neg he]
  exact .inl ⟨e,_,rfl,rfl,rfl,he⟩
def lz:Pr Top:=uM.bind fun nm=>(kA 4 4 (fd 4)).bind fun ps=> .ret ⟨nm,ps⟩
def nE (t:Top):List UInt8:=(be (t.Jd.length:Int) 2++t.Jd)++(be (t.I7.length:Int) 4++bl (fun n=>be n 4) t.I7)
def okT (t:Top):Prop:=bh (t.Jd.length:Int) 2=true∧bh (t.I7.length:Int) 4=true∧ ∀ n,n∈t.I7→bh n 4=true
theorem yP:Sp (kA 4 4 (fd 4)) (fun l=>be (l.length:Int) 4++bl (fun n=>be n 4) l) (fun l=>bh (l.length:Int) 4=true∧ ∀ n,n∈l→bh n 4=true):=uR 4 4 (by decide) (by decide) (ej 4 (by decide) (by decide)) (fun x _=>by rw[aF]; decide)
theorem En:Sp lz nE okT:=by
 refine⟨fun s q a r hq h=> ?_,fun s t q a hq ha h=> ?_⟩
 ·obtain⟨k,q1,h1,h⟩:=Pr.bind_ok h
  obtain⟨v,q2,h2,h⟩:=Pr.bind_ok h
  injection h with h
  obtain⟨rfl,rfl⟩:=Kj h
  obtain⟨a1,a2,a3,a4,a5⟩:=mX.spell _ _ _ _ hq h1
  obtain⟨b1,b2,b3,b4,b5⟩:=yP.spell _ _ _ _ a2 h2
  exact⟨by omega,b2,by simp only[nE,JU] at *; omega,by rw[b4,a4]; simp only[nE,JY],a5.1,b5⟩
 ·obtain⟨a1,a2,a3⟩:=ha
  have hl:=congrArg List.length h
  rw[nE,JY] at h
  have g1:=mX.back _ _ _ _ hq ⟨a1,rfl⟩ h
  have h:=bX h
  have g2:=yP.back _ _ _ _ (by simp only[nE,J7,JU,aF] at *; omega) ⟨a2,a3⟩ h
  rw[lz,Pr.bind_of g1,Pr.bind_of g2]
  simp only[Pr.ret,nE,JU,Nat.add_assoc]
theorem BS (t:Top) (h:okT t):6≤(nE t).length:=by simp only[nE,JU,aF]; omega
theorem sC:Sp (kA 4 6 lz) (fun l=>be (l.length:Int) 4++bl nE l) (fun l=>bh (l.length:Int) 4=true∧ ∀ t,t∈l→okT t):=uR 4 6 (by decide) (by decide) En BS
theorem wz (n:Int) (s:List UInt8) (hn:n≤1000000): ∀ (m fuel k:Nat) (acc:List Int) (q:Nat),((k+m:Nat):Int)=n→m<fuel→q+4*m≤s.length→acc.length=k →
 ∃ l,iv (fd 4) m s q= .ok (l,q+4*m)∧cw n fuel k acc ⟨s.drop q,q,0⟩=some (k+m,acc++l,⟨s.drop (q+4*m),q+4*m,0⟩)
 | 0,fuel+1,k,acc,q,h1,h2,h3,h4=>⟨[],rfl,by rw[cw,if_neg (by omega),Kg]; rfl⟩
 | m+1,fuel+1,k,acc,q,h1,h2,h3,h4=>by
  rw[cw,if_pos (by omega)]
  rcases Q4.run s q (by omega) with⟨e,st,p1,g1,x1,y1⟩ | ⟨a,r,p1,g1,n1,l1⟩
  ·unfold fd at p1
   rw[if_neg (by omega)] at p1
   exact nomatch p1
  ·have hr:r=q+4:=by
    unfold fd at p1
    rw[if_neg (by omega)] at p1
    injection p1 with p1
    exact (Kj p1).2.symm
   subst hr
   rw[g1]
   simp only[JR]
   rw[if_pos (by omega),if_pos (by omega)]
   obtain⟨l,e1,e2⟩:=wz n s hn m fuel (k+1) (acc ++ [a]) (q+4) (by omega) (by omega) (by omega) (by rw[JU,h4]; rfl)
   have eq:q+4+4*m=q+4*(m+1):=by omega
   rw[eq] at e1 e2
   refine⟨a::l,?_,?_⟩
   ·rw[iv,Pr.bind_of p1,Pr.bind_of e1]
    rfl
   ·rw[e2,JY]
    rw[show k+1+m=k+(m+1) by omega]
    rfl
theorem wA (n:Int) (s:List UInt8) (hs:s.length≤1000000) (hn:n≤1000000): ∀ (m fuel k:Nat) (acc:List Top) (q:Nat),((k+m:Nat):Int)=n→m<fuel→q≤s.length→acc.length=k →
 (∃ (e:Int) (st:I),iv lz m s q= .error e∧bR n fuel [] acc k ⟨s.drop q,q,0⟩=some (.ret ([],st))∧st.err=e∧st.err≠0) ∨
 (∃ l r,iv lz m s q= .ok (l,r)∧bR n fuel [] acc k ⟨s.drop q,q,0⟩=some (.go ([],acc++l,k+m,⟨s.drop r,r,0⟩))∧q≤r∧r≤s.length)
 | 0,fuel+1,k,acc,q,h1,h2,h3,h4=> .inr ⟨[],q,rfl,by rw[bR,if_neg (by omega),Kg]; rfl,Kn _,h3⟩
 | m+1,fuel+1,k,acc,q,h1,h2,h3,h4=>by
  rw[bR,if_pos (by omega)]
  have died: ∀ (st:I) (t:List UInt8),st.err≠0→((ip st 4 4).bind fun (x24,st25)=>(cw x24 ((x24).toNat+1) 0 [] st25).bind fun (k57,y58,st61)=>if (acc.length+1)*40≤140737488355328 then ((gJ st61).bind fun (x66,st67)=>if x66=0 then (if -9223372036854775808≤((k:Int)+1)∧((k:Int)+1)≤9223372036854775807 then (bR n fuel [] (acc ++ [(⟨t,y58⟩:Top)]) (k+1) st67) else none) else (some (Lp.ret ([],st67)))) else none)=some (Lp.ret ([],st)):=by
   intro st t h
   rw[ly h (by decide) (by decide)]
   simp only[JR]
   rw[show (0:Int).toNat+1=1 from rfl,cw,if_neg (by decide)]
   simp only[JR,bt]
   rw[if_pos (by omega),if_neg h]
  rcases QT.run s q h3 with⟨e,st,p1,g1,x1,y1⟩ | ⟨nm,q1,p1,g1,n1,l1⟩
  ·left
   refine⟨e,st,by rw[iv,Pr.bind_err (show lz s q= .error e from Pr.bind_err p1)],?_,x1,y1⟩
   rw[g1]
   simp only[JR]
   exact died st [] y1
  rw[g1]
  simp only[JR]
  rcases (qS 4 4 (by decide) (by decide) 4 4 rfl rfl (by decide)).run s q1 l1 with⟨e,st,p2,g2,x2,y2⟩ | ⟨c,q2,p2,g2,n2,l2⟩
  ·left
   refine⟨e,st,by rw[iv,Pr.bind_err]; rw[lz,Pr.bind_of p1,Pr.bind_err]; rw[kA,Pr.bind_err p2],?_,x2,y2⟩
   have:=died st nm y2
   rw[ly y2 (by decide) (by decide)] at this
   rw[g2]
   exact this
  obtain⟨c1,c2,c3,c4,c5,c6⟩:=lb (by decide) (by decide) l1 p2
  have c2:=c2 (by decide)
  rw[g2]
  simp only[JR]
  obtain⟨ps,e1,e2⟩:=wz c s (by omega) c.toNat (c.toNat+1) 0 [] q2 (by omega) (by omega) (by omega) rfl
  rw[e2]
  simp only[JR,bt,if_true]
  rw[if_pos (by omega),if_pos (by omega),Kc]
  have ht:lz s q= .ok (⟨nm,ps⟩,q2+4*c.toNat):=by
   rw[lz,Pr.bind_of p1,Pr.bind_of (a:=ps) (r:=q2+4*c.toNat) (by rw[kA,Pr.bind_of p2,e1])]
   rfl
  rw[iv,Pr.bind_of ht]
  rcases wA n s hs hn m fuel (k+1) (acc ++ [⟨nm,ps⟩]) (q2+4*c.toNat) (by omega) (by omega) (by omega) (by rw[JU,h4]; rfl) with⟨e,st,r1,r2,r3,r4⟩ | ⟨l,r,r1,r2,r3,r4⟩
  ·exact .inl ⟨e,st,by rw[Pr.bind_err r1],r2,r3,r4⟩
  ·refine .inr ⟨⟨nm,ps⟩::l,r,by rw[Pr.bind_of r1]; rfl,?_,by omega,r4⟩
   rw[r2,JY,show k+1+m=k+(m+1) by omega]
   rfl
theorem yQ:CB dA (kA 4 6 lz) []:=by
 refine⟨fun st h=> ?_,fun s q hs hq=> ?_⟩
 ·unfold dA
  rw[ly h (by decide) (by decide)]
  simp only[JR]
  rw[show (0:Int).toNat+1=1 from rfl,bR,if_neg (by decide)]
  rfl
 ·unfold dA
  rcases (qS 4 6 (by decide) (by decide) 4 6 rfl rfl (by decide)).run s q hq with⟨e,st,p1,g1,x1,y1⟩ | ⟨c,q1,p1,g1,n1,l1⟩
  ·refine .inl ⟨e,st,Pr.bind_err p1,?_,x1,y1⟩
   rw[g1]
   simp only[JR]
   rw[show (0:Int).toNat+1=1 from rfl,bR,if_neg (by decide)]
   rfl
  ·obtain⟨c1,c2,c3,c4,c5,c6⟩:=lb (by decide) (by decide) hq p1
   have c2:=c2 (by decide)
   rw[g1,kA,Pr.bind_of p1]
   simp only[JR]
   rcases wA c s hs (by omega) c.toNat (c.toNat+1) 0 [] q1 (by omega) (by omega) l1 rfl with⟨e,st,r1,r2,r3,r4⟩ | ⟨l,r,r1,r2,r3,r4⟩
   ·exact .inl ⟨e,st,r1,by rw[r2]; rfl,r3,r4⟩
   ·refine .inr ⟨l,r,r1,?_,by omega,r4⟩
    rw[r2,Kc]
    rfl
end Go.Proofs.YtheikonlgjdopaaGreat.Sl
