/- splitRows_holds: part 9. -/
import Derived.Test.YtheikonlgjdopaaGreatK8
set_option maxRecDepth 100000
set_option maxHeartbeats 4000000
set_option linter.defProp false
namespace Go.Proofs.YtheikonlgjdopaaGreat.Sl
open Go.RowKit
set_option linter.unusedVariables false
set_option linter.unusedSimpArgs false
def NS := @Tryz.sizeOf38
def N9 := @Prod.mk.inj
def Og := @Tryz.isAgg38
def Ot := @Tryz.sizeOf53
def Oy := @Tryz.runUnderlying38
def Pc := @Tryz.isAgg53
def Pd := @Tryz.results69
def P0 := @Tryz.results14
def QJ := @Tryz.runUnderlying67
def H9:eO := [(25,0,0),(25,1,1),(38,0,0),(38,1,5),(38,2,10),(38,3,14),(38,4,18),(38,5,19)]
theorem aD:(H9).OK Tryz.prog:=⟨FOK.mk OV rfl NG rfl,FOK.mk OV rfl NG rfl,FOK.mk Oy rfl OA rfl,FOK.mk Oy rfl O9 rfl,FOK.mk Oy rfl Pa rfl,FOK.mk Oy rfl Pb rfl,FOK.mk Oy rfl Tryz.sizeOf33 rfl,FOK.mk Oy rfl OG rfl,trivial⟩
def Ia:List Nat := [3,33]
theorem g9:NOK Tryz.prog Ia:=⟨NH,Tryz.isAgg33,trivial⟩
theorem eT:BOK Tryz.prog 38 #[.int .i64 0,.int .i64 0,.int .i64 0,.bool false,.string ⟨#[]⟩,.bool false,.string ⟨#[]⟩,.int .i64 0,.int .i64 0,.int .i64 0,.string ⟨#[]⟩,.int .i64 0,.int .i64 0,.slice none 0 0,.string ⟨#[]⟩,.int .i64 0,.int .i64 0,.bool false,.slice none 0 0,.bool false,.string ⟨#[]⟩,.int .i64 0,.int .i64 0,.slice none 0 0] [(0,5),(5,5),(10,4),(14,4),(18,1),(19,5)]:=BOK.mk Tryz.zeroValue38 Oy (by intro w; simp)
def kK (st:List UInt8×Int) (a0:ay):Option (List UInt8×Int):=(if a0.MQ.M1=22 then ((lh st a0.Nh a0.MQ.MY).bind fun st86=>some st86) else ((if a0.MQ.M1=24 then ((nk st a0.Nj).bind fun st126=>some st126) else ((if a0.MQ.M1=26 then ((np st a0.Np).bind fun st146=>some st146) else ((if a0.MQ.M1=27 then ((pt st a0.Nb a0.MQ.MY).bind fun st156=>some st156) else ((im st a0.MZ a0.MQ.MY).bind fun st158=>some st158)).bind fun st153=>some st153)).bind fun st143=>some st143)).bind fun st123=>some st123)).bind fun st83=>some st83
theorem pv (g:Nat) (st:List UInt8×Int) (a0:ay) (A1:Option Addr) (c2:Nat) (A3:Option Addr) (c4:Nat) (A5:Option Addr) (c6:Nat) (r:List UInt8×Int) (h:kK st a0=some r):aG Tryz.prog 49 #[.agg (oh a0 A1 A3 A5 c2 c4 c6),jP g] (RX.and (RX.of (aq 2 bh) [.slice A1 a0.Nj.MN.length c2] a0.Nj.MN) (RX.and (RX.of (aq 5 bf) [.slice A3 a0.Nb.length c4] a0.Nb) (RX.of (aq 2 aP) [.slice A5 a0.MZ.MN.length c6] a0.MZ.MN))) (bC g st) (fun v A' N=>v= .tuple #[]/\A'=bC g r/\N = []):=by
 refine aU Tryz.func49 Z Tryz.ntmps49 Z ?_;intro F w hX;unfold kK at h;refine KN Z (TL.box Z .u Z Z (fun b7=>(Ld Z (L6 aD g9 0 Z Z Z (T.block (KN Z (KX aD Z ?_)))))));obtain⟨st83,h,hk84⟩:=Ny h;refine LE (fun e Rs=>e = []/\Rs = [aV b7 38 (oh a0 A1 A3 A5 c2 c4 c6),bC g st83]) ?_ ?_
 ·clear hk84;rcases jF h with⟨c85,h⟩ | ⟨c85,h⟩
  ·refine L2 Z c85 (T.region Z (KM aD 1 Z (KO Z (K9 (us := [.bool a0.Nh.MU.null,jS a0.Nh.MU.data,jI a0.Nh.MT,jI a0.Nh.MO,jI a0.Nh.MR]) 0 Z Qk O9 Z Z Z) Z ?_)));obtain⟨st86,hx87,h⟩:=Ny h;refine KR aD g9 0 Z 4 Z Z (KZ 1 Z Z .u (.fn Tryz.call96 Z) (pW g st a0.Nh a0.MQ.MY _ hx87) sT Z Z ?_);cases h;exact TL.nil (K0 [0,0])
  refine L3 Z c85 (KN Z (KX aD Z ?_));obtain⟨st123,h,hk124⟩:=Ny h;refine LE (fun e Rs=>e = []/\Rs = [aV b7 38 (oh a0 A1 A3 A5 c2 c4 c6),bC g st123]) ?_ ?_
  ·clear hk124;rcases jF h with⟨c125,h⟩ | ⟨c125,h⟩
   ·refine L2 Z c125 (T.region Z (KM aD 1 Z (KO Z (K9 (us:=wL12 a0.Nj A1 c2) 0 Z Ql Pa Z Z Z) Z ?_)));obtain⟨st126,hx127,h⟩:=Ny h;refine KM aD 1 Z (KZ 1 Z Z .u (.fn Tryz.call97 Z) (rG g st a0.Nj _ _ _ hx127) (fun _ hs=>(Mk hs (Lx hX))) Z Z ?_);cases h;exact TL.nil (K0 [0,0])
   refine L3 Z c125 (KN Z (KX aD Z ?_));obtain⟨st143,h,hk144⟩:=Ny h;refine LE (fun e Rs=>e = []/\Rs = [aV b7 38 (oh a0 A1 A3 A5 c2 c4 c6),bC g st143]) ?_ ?_
   ·clear hk144;rcases jF h with⟨c145,h⟩ | ⟨c145,h⟩
    ·refine L2 Z c145 (T.region Z (KM aD 1 Z (KO Z (K9 (us:=wL14 a0.Np) 0 Z Qm Pb Z Z Z) Z ?_)));obtain⟨st146,hx147,h⟩:=Ny h;refine KM aD 1 Z (KZ 1 Z Z .u (.fn Tryz.call98 Z) (rH g st a0.Np _ hx147) sT Z Z ?_);cases h;exact TL.nil (K0 [0,0])
    refine L3 Z c145 (KN Z (KX aD Z ?_));obtain⟨st153,h,hk154⟩:=Ny h;refine LE (fun e Rs=>e = []/\Rs = [aV b7 38 (oh a0 A1 A3 A5 c2 c4 c6),bC g st153]) ?_ ?_
    ·clear hk154;rcases jF h with⟨c155,h⟩ | ⟨c155,h⟩
     ·refine L2 Z c155 (T.region Z ?_);obtain⟨st156,hx157,h⟩:=Ny h;refine KR aD g9 0 Z 6 Z Z (KZ 1 Z Z .u (.fn Tryz.call99 Z) (tz g st a0.Nb _ _ a0.MQ.MY _ hx157) (fun _ hs=>(Mk hs (Lx (Lf hX)))) Z Z ?_);cases h;exact TL.nil (K0 [0,0])
     refine L3 Z c155 (T.region Z (KM aD 1 Z (KO Z (K9 (us := [.bool a0.MZ.MU.null,jS a0.MZ.MU.data,jI a0.MZ.Nc,jI a0.MZ.MT,.slice A5 a0.MZ.MN.length c6]) 0 Z Pq OG Z Z Z) Z ?_)));obtain⟨st158,hx159,h⟩:=Ny h;refine KR aD g9 0 Z 4 Z Z (KZ 1 Z Z .u (.fn Tryz.call100 Z) (mE g st a0.MZ _ _ a0.MQ.MY _ hx159) (fun _ hs=>(Mk hs (Lf (Lf hX)))) Z Z ?_);cases h;exact TL.nil (K0 [0,0])
    rintro _ _ ⟨rfl,rfl⟩;clear h;have h:=hk154;clear hk154;try dsimp only at h
    cases h;exact K0 [0,0]
   rintro _ _ ⟨rfl,rfl⟩;clear h;have h:=hk144;clear hk144;try dsimp only at h
   cases h;exact K0 [0,0]
  rintro _ _ ⟨rfl,rfl⟩;clear h;have h:=hk124;clear hk124;try dsimp only at h
  cases h;exact K0 [0,0]
 rintro _ _ ⟨rfl,rfl⟩;clear h;have h:=hk84;clear hk84;obtain rfl:=Nz h;exact La (LQ [1] Tryz.results49 ⟨Z,Z,Z⟩ QW (.inr Z))
def nB (a0:ay):Option (List UInt8×Int):=(mf ([],0) a0.MQ).bind fun st10=>(Hn st10).bind fun (x12,st13)=>(if x12=0 then ((kK st13 a0).bind fun st21=>some st21) else some st13).bind fun st18=>(og st18).bind fun (x23,x24,st25)=>if x24=0 then ((ed ([],0) (x23.length:Int) 4).bind fun st28=>(EN st28 x23).bind fun st30=>(og st30).bind fun (x32,x33,st34)=>some (x32,x33)) else some ([],x24)
theorem rS (a0:ay) (A1:Option Addr) (c2:Nat) (A3:Option Addr) (c4:Nat) (A5:Option Addr) (c6:Nat) (r:List UInt8×Int) (h:nB a0=some r):aG Tryz.prog 12 #[.agg (oh a0 A1 A3 A5 c2 c4 c6)] (RX.and (RX.of (aq 2 bh) [.slice A1 a0.Nj.MN.length c2] a0.Nj.MN) (RX.and (RX.of (aq 5 bf) [.slice A3 a0.Nb.length c4] a0.Nb) (RX.of (aq 2 aP) [.slice A5 a0.MZ.MN.length c6] a0.MZ.MN))) (aL) (fun v A' N=>v= .tuple #[jS r.1,jI r.2]/\A'=aL/\N = []):=by
 refine aU Tryz.func12 Z Tryz.ntmps12 Z ?_;intro F w hX;unfold nB at h;refine KN Z (TL.box Z .u Z Z (fun b7=>(Le aD Z Z (Mv Z .u Tryz.zeroValue112 Z (fun b8=>(Mv Z .u Tryz.zeroValue112 Z (fun b9=>(Ld Z (KM aD 1 Z ?_)))))))));refine KO Z (K9 (us := [jI a0.MQ.M1,jI a0.MQ.MY,jI a0.MQ.M6,.bool a0.MQ.MX.null,jS a0.MQ.MX.data]) 2 Z Pg OA Z Z Z) Z ?_;obtain⟨st10,hx11,h⟩:=Ny h;refine KZ 1 Z Z .u (.fn Tryz.call47 Z) (qF b8 ([],0) a0.MQ _ hx11) sT Z Z ?_;obtain⟨⟨x12,st13⟩,hx14,h⟩:=Ny h;refine KP (T.seq (KN Z (KZ 1 Z Z .u (.fn Tryz.call48 Z) (DF b8 st10 _ hx14) sT Z Z (KX aD Z ?_))));obtain⟨st18,h,hk19⟩:=Ny h;refine LE (fun e Rs=>e = [(2,.string ⟨#[]⟩),(3,jI 0),(4,jP b8),(5,jP b9)]/\Rs = [bC b9 ([],0),bC b8 st18,aV b7 38 (oh a0 A1 A3 A5 c2 c4 c6),aL]) ?_ ?_
 ·clear hk19;rcases jF h with⟨c20,h⟩ | ⟨c20,h⟩
  ·refine L2 Z c20 (T.region Z (KO Z (K9 (us:=wd a0 A1 A3 A5 c2 c4 c6) 2 Z Og NS Z Z Z) Z ?_));obtain⟨st21,hx22,h⟩:=Ny h;refine KZ 1 Z Z .u (.fn Tryz.call49 Z) (pv b8 st13 a0 _ _ _ _ _ _ _ hx22) (fun _ hs=>(Src.and (Mk hs (Lx hX)) (Src.and (Mk hs (Lx (Lf hX))) (Mk hs (Lf (Lf hX)))))) Z Z ?_;cases h;exact TL.nil (K0 [0,0,0,0])
  refine L3 Z c20 ?_;cases h;exact T.skip (K0 [0,0,0,0])
 rintro _ _ ⟨rfl,rfl⟩;clear h;have h:=hk19;clear hk19;obtain⟨⟨x23,x24,st25⟩,hx26,h⟩:=Ny h;refine X.seq (KN Z (KZ 1 Z Z .u (.fn Tryz.call50 Z) (iP b8 st18 _ hx26) sT Z Z (KX aD Z (T.seq (KN Z (KM aD 2 Z ?_))))));rcases jF h with⟨c27,h⟩ | ⟨c27,h⟩
 ·refine Lr Z c27 (Lk Z (KM aD 1 Z (KO Z (LD Z NK) Z ?_)));obtain⟨st28,hx29,h⟩:=Ny h;refine KZ 0 Z Z .u (.fn Tryz.call51 Z) (bu b9 ([],0) (x23.length:Int) 4 _ hx29) sT Z Z (Ld Z ?_);obtain⟨st30,hx31,h⟩:=Ny h;refine KM aD 1 Z (KZ 0 Z Z .u (.fn Tryz.call52 Z) (xd b9 st28 x23 _ hx31) sT Z Z ?_);obtain⟨⟨x32,x33,st34⟩,hx35,h⟩:=Ny h;refine Ld Z (KZ 0 Z Z .u (.fn Tryz.call50 Z) (iP b9 st30 _ hx35) sT Z Z (KM aD 4 Z ?_));obtain rfl:=Nz h;exact KP (T.ret (Lu [3] Tryz.results12 (KQ Z) (KQ Z) ⟨Z,Z,Z⟩ QW (.inl Z)))
 refine Lq Z c27 (KN Z (KM aD 3 Z ?_));obtain rfl:=Nz h;exact KP (T.ret (KT (Lu [3] Tryz.results12 (KQ Z) (KQ Z) ⟨Z,Z,Z⟩ QW (.inl Z))))
def kL (a0:List UInt8):Option (ay×Int):=(wc a0).bind fun st2=>(gW st2).bind fun (x5,st6)=>(iF st6).bind fun (x9,st10)=>if x9=0 then (if x5.M1=22 then ((eG st10 x5.MY).bind fun (x14,st15)=>(eh st15).bind fun (x17,st18)=>if x17=0 then (some ((⟨x5,x14,(⟨[],0,0,[]⟩:bZ),(⟨[],0,0,false⟩:bY),[],(⟨(⟨false,[]⟩:Bl),0,0,[]⟩:aA)⟩:ay),0)) else (some ((⟨(⟨0,0,0,(⟨false,[]⟩:Bl)⟩:fO),(⟨(⟨false,[]⟩:Bl),0,0,0⟩:bd),(⟨[],0,0,[]⟩:bZ),(⟨[],0,0,false⟩:bY),[],(⟨(⟨false,[]⟩:Bl),0,0,[]⟩:aA)⟩:ay),x17))) else (if x5.M1=24 then ((lz st10).bind fun (x22,st25)=>(eh st25).bind fun (x27,st28)=>if x27=0 then (some ((⟨x5,(⟨(⟨false,[]⟩:Bl),0,0,0⟩:bd),x22,(⟨[],0,0,false⟩:bY),[],(⟨(⟨false,[]⟩:Bl),0,0,[]⟩:aA)⟩:ay),0)) else (some ((⟨(⟨0,0,0,(⟨false,[]⟩:Bl)⟩:fO),(⟨(⟨false,[]⟩:Bl),0,0,0⟩:bd),(⟨[],0,0,[]⟩:bZ),(⟨[],0,0,false⟩:bY),[],(⟨(⟨false,[]⟩:Bl),0,0,[]⟩:aA)⟩:ay),x27))) else (if x5.M1=26 then ((lA st10).bind fun (x32,st33)=>(eh st33).bind fun (x35,st36)=>if x35=0 then (some ((⟨x5,(⟨(⟨false,[]⟩:Bl),0,0,0⟩:bd),(⟨[],0,0,[]⟩:bZ),x32,[],(⟨(⟨false,[]⟩:Bl),0,0,[]⟩:aA)⟩:ay),0)) else (some ((⟨(⟨0,0,0,(⟨false,[]⟩:Bl)⟩:fO),(⟨(⟨false,[]⟩:Bl),0,0,0⟩:bd),(⟨[],0,0,[]⟩:bZ),(⟨[],0,0,false⟩:bY),[],(⟨(⟨false,[]⟩:Bl),0,0,[]⟩:aA)⟩:ay),x35))) else (if x5.M1=27 then ((gk st10 x5.MY).bind fun (x40,st43)=>(eh st43).bind fun (x45,st46)=>if x45=0 then (some ((⟨x5,(⟨(⟨false,[]⟩:Bl),0,0,0⟩:bd),(⟨[],0,0,[]⟩:bZ),(⟨[],0,0,false⟩:bY),x40,(⟨(⟨false,[]⟩:Bl),0,0,[]⟩:aA)⟩:ay),0)) else (some ((⟨(⟨0,0,0,(⟨false,[]⟩:Bl)⟩:fO),(⟨(⟨false,[]⟩:Bl),0,0,0⟩:bd),(⟨[],0,0,[]⟩:bZ),(⟨[],0,0,false⟩:bY),[],(⟨(⟨false,[]⟩:Bl),0,0,[]⟩:aA)⟩:ay),x45))) else ((eB st10 x5.MY).bind fun (x49,st52)=>(eh st52).bind fun (x54,st55)=>if x54=0 then (some ((⟨x5,(⟨(⟨false,[]⟩:Bl),0,0,0⟩:bd),(⟨[],0,0,[]⟩:bZ),(⟨[],0,0,false⟩:bY),[],x49⟩:ay),0)) else (some ((⟨(⟨0,0,0,(⟨false,[]⟩:Bl)⟩:fO),(⟨(⟨false,[]⟩:Bl),0,0,0⟩:bd),(⟨[],0,0,[]⟩:bZ),(⟨[],0,0,false⟩:bY),[],(⟨(⟨false,[]⟩:Bl),0,0,[]⟩:aA)⟩:ay),x54))))))) else (some ((⟨(⟨0,0,0,(⟨false,[]⟩:Bl)⟩:fO),(⟨(⟨false,[]⟩:Bl),0,0,0⟩:bd),(⟨[],0,0,[]⟩:bZ),(⟨[],0,0,false⟩:bY),[],(⟨(⟨false,[]⟩:Bl),0,0,[]⟩:aA)⟩:ay),x9))
theorem tD (a0:List UInt8) (r:ay×Int) (h:kL a0=some r):aG Tryz.prog 69 #[jS a0] .triv (aL) (fun v A' N=> ∃ (A58:Option Addr) (c59:Nat) (A60:Option Addr) (c61:Nat) (A62:Option Addr) (c63:Nat),v= .tuple #[.agg #[jI r.1.MQ.M1,jI r.1.MQ.MY,jI r.1.MQ.M6,.bool r.1.MQ.MX.null,jS r.1.MQ.MX.data,.bool r.1.Nh.MU.null,jS r.1.Nh.MU.data,jI r.1.Nh.MT,jI r.1.Nh.MO,jI r.1.Nh.MR,jS r.1.Nj.MU,jI r.1.Nj.MO,jI r.1.Nj.MR,.slice A58 r.1.Nj.MN.length c59,jS r.1.Np.MU,jI r.1.Np.MO,jI r.1.Np.MR,.bool r.1.Np.M7,.slice A60 r.1.Nb.length c61,.bool r.1.MZ.MU.null,jS r.1.MZ.MU.data,jI r.1.MZ.Nc,jI r.1.MZ.MT,.slice A62 r.1.MZ.MN.length c63],jI r.2]/\A'=aL/\N = [RdR (aq 2 bh) [.slice A58 r.1.Nj.MN.length c59] r.1.Nj.MN,RdR (aq 5 bf) [.slice A60 r.1.Nb.length c61] r.1.Nb,RdR (aq 2 aP) [.slice A62 r.1.MZ.MN.length c63] r.1.MZ.MN]):=by
 refine aU Tryz.func69 Z Tryz.ntmps69 Z ?_;intro F w hX;unfold kL at h;refine KN Z (TL.alloc Z .u Tryz.zeroValue38 Z (fun b1=>(Le aD Z Z ?_)));obtain⟨st2,hx3,h⟩:=Ny h;refine KM aD 1 Z (Mb Z .u (.fn Tryz.call19 Z) (j8 a0 _ hx3) rT Z ?_);rintro _ _ _ ⟨b4,rfl,rfl,rfl⟩;refine Lt [0,0,0] Z (Le aD Z Z ?_);obtain⟨⟨x5,st6⟩,hx7,h⟩:=Ny h;refine KM aD 1 Z (KZ 0 Z Z .u (.fn Tryz.call115 Z) (rR b4 st2 _ hx7) sT Z Z ?_);refine KO Z (Lo (cells:= #[jI x5.M1,jI x5.MY,jI x5.M6,.bool x5.MX.null,jS x5.MX.data,.bool false,.string ⟨#[]⟩,jI 0,jI 0,jI 0,.string ⟨#[]⟩,jI 0,jI 0,.slice none 0 0,.string ⟨#[]⟩,jI 0,jI 0,.bool false,.slice none 0 0,.bool false,.string ⟨#[]⟩,jI 0,jI 0,.slice none 0 0]) eT Z QU) Z ?_;refine TL.alloc Z .u Tryz.zeroValue38 Z (fun b8=>(K3 0 Z (cs':= #[jI x5.M1,jI x5.MY,jI x5.M6,.bool x5.MX.null,jS x5.MX.data,.bool false,.string ⟨#[]⟩,jI 0,jI 0,jI 0,.string ⟨#[]⟩,jI 0,jI 0,.slice none 0 0,.string ⟨#[]⟩,jI 0,jI 0,.bool false,.slice none 0 0,.bool false,.string ⟨#[]⟩,jI 0,jI 0,.slice none 0 0]) Z .u Z Z NS Z Z Z Z Z (KP (T.seq (KN Z ?_)))));obtain⟨⟨x9,st10⟩,hx11,h⟩:=Ny h;refine KM aD 1 Z (KZ 1 Z Z .u (.fn Tryz.call23 Z) (cy b4 st6 _ hx11) sT Z Z (Le aD Z Z (KM aD 2 Z ?_)));rcases jF h with⟨c12,h⟩ | ⟨c12,h⟩
 ·refine Lr Z c12 (K8 (T.seq (KN Z (L6 aD g9 0 Z Z Z (T.block (KN Z (KM aD 2 Z ?_)))))));rcases jF h with⟨c13,h⟩ | ⟨c13,h⟩
  ·refine Lh Z c13 (T.region Z ?_);obtain⟨⟨x14,st15⟩,hx16,h⟩:=Ny h;refine KR aD g9 0 Z 4 Z Z (KZ 1 Z Z .u (.fn Tryz.call116 Z) (qA b4 st10 x5.MY _ hx16) sT Z Z (KM aD 1 Z (K3 0 Z (cs':= #[jI x5.M1,jI x5.MY,jI x5.M6,.bool x5.MX.null,jS x5.MX.data,.bool x14.MU.null,jS x14.MU.data,jI x14.MT,jI x14.MO,jI x14.MR,.string ⟨#[]⟩,jI 0,jI 0,.slice none 0 0,.string ⟨#[]⟩,jI 0,jI 0,.bool false,.slice none 0 0,.bool false,.string ⟨#[]⟩,jI 0,jI 0,.slice none 0 0]) Z .u Z Z O9 Z Z Z Z Z (TL.nil (La (X.seq (T.seq (KN Z ?_))))))));obtain⟨⟨x17,st18⟩,hx19,h⟩:=Ny h;refine KM aD 1 Z (KZ 1 Z Z .u (.fn Tryz.call21 Z) (dq b4 st15 _ hx19) sT Z Z (Le aD Z Z (KM aD 2 Z ?_)));rcases jF h with⟨c20,h⟩ | ⟨c20,h⟩
   ·refine Lr Z c20 (Lk Z (KO Z (K9 (us := [jI x5.M1,jI x5.MY,jI x5.M6,.bool x5.MX.null,jS x5.MX.data,.bool x14.MU.null,jS x14.MU.data,jI x14.MT,jI x14.MO,jI x14.MR,.string ⟨#[]⟩,jI 0,jI 0,.slice none 0 0,.string ⟨#[]⟩,jI 0,jI 0,.bool false,.slice none 0 0,.bool false,.string ⟨#[]⟩,jI 0,jI 0,.slice none 0 0]) 0 Z Og NS Z Z Z) Z (K3 2 Z (cs':= #[jI x5.M1,jI x5.MY,jI x5.M6,.bool x5.MX.null,jS x5.MX.data,.bool x14.MU.null,jS x14.MU.data,jI x14.MT,jI x14.MO,jI x14.MR,.string ⟨#[]⟩,jI 0,jI 0,.slice none 0 0,.string ⟨#[]⟩,jI 0,jI 0,.bool false,.slice none 0 0,.bool false,.string ⟨#[]⟩,jI 0,jI 0,.slice none 0 0]) Z .u Z Z NS Z Z Z Z Z (KM aD 1 Z ?_))));obtain rfl:=Nz h;exact KP (T.ret (Lj 2 bh (Lj 5 bf (Lj 2 aP (Lu [6,2,1,0] Pd (LI (us:= #[jI x5.M1,jI x5.MY,jI x5.M6,.bool x5.MX.null,jS x5.MX.data,.bool x14.MU.null,jS x14.MU.data,jI x14.MT,jI x14.MO,jI x14.MR,.string ⟨#[]⟩,jI 0,jI 0,.slice none 0 0,.string ⟨#[]⟩,jI 0,jI 0,.bool false,.slice none 0 0,.bool false,.string ⟨#[]⟩,jI 0,jI 0,.slice none 0 0]) 5 Z Og NS Z Z) (KQ Z) ⟨_,_,_,_,_,_,Z,Z,Z⟩ QW (.inl Z))))))
   refine Lq Z c20 (KN Z ?_);refine KO Z (Lo (cells:=kY) eT Z QU) Z ?_;refine KM aD 1 Z (K3 2 Z (cs':=kY) Z .u Z Z NS Z Z Z Z Z (KM aD 1 Z ?_));obtain rfl:=Nz h;exact KP (T.ret (KT (Lj 2 bh (Lj 5 bf (Lj 2 aP (Lu [6,2,1,0] Pd (LI (us:=kY) 5 Z Og NS Z Z) (KQ Z) ⟨_,_,_,_,_,_,Z,Z,Z⟩ QW (.inl Z)))))))
  refine Lg Z c13 (KN Z (KM aD 2 Z ?_));rcases jF h with⟨c21,h⟩ | ⟨c21,h⟩
  ·refine Lh Z c21 (T.region Z ?_);obtain⟨⟨x22,st25⟩,hx26,h⟩:=Ny h;refine KM aD 1 Z (My Z .u (.fn Tryz.call117 Z) (sC b4 st10 _ hx26) sT Z ?_);rintro _ _ _ ⟨A23,c24,rfl,rfl,rfl⟩;refine Lt [0,0,0,0,0] Z (KM aD 1 Z (K3 1 Z (cs':= #[jI x5.M1,jI x5.MY,jI x5.M6,.bool x5.MX.null,jS x5.MX.data,.bool false,.string ⟨#[]⟩,jI 0,jI 0,jI 0,jS x22.MU,jI x22.MO,jI x22.MR,.slice A23 x22.MN.length c24,.string ⟨#[]⟩,jI 0,jI 0,.bool false,.slice none 0 0,.bool false,.string ⟨#[]⟩,jI 0,jI 0,.slice none 0 0]) Z .u Z Z Pa Z Z Z Z Z (TL.nil (La (X.seq (T.seq (KN Z ?_)))))));obtain⟨⟨x27,st28⟩,hx29,h⟩:=Ny h;refine KM aD 1 Z (KZ 2 Z Z .u (.fn Tryz.call21 Z) (dq b4 st25 _ hx29) sT Z Z (Le aD Z Z (KM aD 2 Z ?_)));rcases jF h with⟨c30,h⟩ | ⟨c30,h⟩
   ·refine Lr Z c30 (Lk Z (KO Z (K9 (us := [jI x5.M1,jI x5.MY,jI x5.M6,.bool x5.MX.null,jS x5.MX.data,.bool false,.string ⟨#[]⟩,jI 0,jI 0,jI 0,jS x22.MU,jI x22.MO,jI x22.MR,.slice A23 x22.MN.length c24,.string ⟨#[]⟩,jI 0,jI 0,.bool false,.slice none 0 0,.bool false,.string ⟨#[]⟩,jI 0,jI 0,.slice none 0 0]) 1 Z Og NS Z Z Z) Z (K3 3 Z (cs':= #[jI x5.M1,jI x5.MY,jI x5.M6,.bool x5.MX.null,jS x5.MX.data,.bool false,.string ⟨#[]⟩,jI 0,jI 0,jI 0,jS x22.MU,jI x22.MO,jI x22.MR,.slice A23 x22.MN.length c24,.string ⟨#[]⟩,jI 0,jI 0,.bool false,.slice none 0 0,.bool false,.string ⟨#[]⟩,jI 0,jI 0,.slice none 0 0]) Z .u Z Z NS Z Z Z Z Z (KM aD 1 Z ?_))));obtain rfl:=Nz h;exact KP (T.ret (Lj 5 bf (Lj 2 aP (Lu [6,2,1,0] Pd (LI (us:= #[jI x5.M1,jI x5.MY,jI x5.M6,.bool x5.MX.null,jS x5.MX.data,.bool false,.string ⟨#[]⟩,jI 0,jI 0,jI 0,jS x22.MU,jI x22.MO,jI x22.MR,.slice A23 x22.MN.length c24,.string ⟨#[]⟩,jI 0,jI 0,.bool false,.slice none 0 0,.bool false,.string ⟨#[]⟩,jI 0,jI 0,.slice none 0 0]) 5 Z Og NS Z Z) (KQ Z) ⟨_,_,_,_,_,_,Z,Z,Z⟩ QW (.inl Z)))))
   refine Lq Z c30 (KN Z ?_);refine KO Z (Lo (cells:=kY) eT Z QU) Z ?_;refine KM aD 1 Z (K3 3 Z (cs':=kY) Z .u Z Z NS Z Z Z Z Z (KM aD 1 Z ?_));obtain rfl:=Nz h;exact KP (T.ret (KT (Lj 2 bh (Lj 5 bf (Lj 2 aP (Lu [7,2,1,0] Pd (LI (us:=kY) 6 Z Og NS Z Z) (KQ Z) ⟨_,_,_,_,_,_,Z,Z,Z⟩ QW (.inl Z)))))))
  refine Lg Z c21 (KN Z (KM aD 2 Z ?_));rcases jF h with⟨c31,h⟩ | ⟨c31,h⟩
  ·refine Lh Z c31 (T.region Z ?_);obtain⟨⟨x32,st33⟩,hx34,h⟩:=Ny h;refine KM aD 1 Z (KZ 1 Z Z .u (.fn Tryz.call118 Z) (sD b4 st10 _ hx34) sT Z Z (KM aD 1 Z (K3 0 Z (cs':= #[jI x5.M1,jI x5.MY,jI x5.M6,.bool x5.MX.null,jS x5.MX.data,.bool false,.string ⟨#[]⟩,jI 0,jI 0,jI 0,.string ⟨#[]⟩,jI 0,jI 0,.slice none 0 0,jS x32.MU,jI x32.MO,jI x32.MR,.bool x32.M7,.slice none 0 0,.bool false,.string ⟨#[]⟩,jI 0,jI 0,.slice none 0 0]) Z .u Z Z Pb Z Z Z Z Z (TL.nil (La (X.seq (T.seq (KN Z ?_))))))));obtain⟨⟨x35,st36⟩,hx37,h⟩:=Ny h;refine KM aD 1 Z (KZ 1 Z Z .u (.fn Tryz.call21 Z) (dq b4 st33 _ hx37) sT Z Z (Le aD Z Z (KM aD 2 Z ?_)));rcases jF h with⟨c38,h⟩ | ⟨c38,h⟩
   ·refine Lr Z c38 (Lk Z (KO Z (K9 (us := [jI x5.M1,jI x5.MY,jI x5.M6,.bool x5.MX.null,jS x5.MX.data,.bool false,.string ⟨#[]⟩,jI 0,jI 0,jI 0,.string ⟨#[]⟩,jI 0,jI 0,.slice none 0 0,jS x32.MU,jI x32.MO,jI x32.MR,.bool x32.M7,.slice none 0 0,.bool false,.string ⟨#[]⟩,jI 0,jI 0,.slice none 0 0]) 0 Z Og NS Z Z Z) Z (K3 2 Z (cs':= #[jI x5.M1,jI x5.MY,jI x5.M6,.bool x5.MX.null,jS x5.MX.data,.bool false,.string ⟨#[]⟩,jI 0,jI 0,jI 0,.string ⟨#[]⟩,jI 0,jI 0,.slice none 0 0,jS x32.MU,jI x32.MO,jI x32.MR,.bool x32.M7,.slice none 0 0,.bool false,.string ⟨#[]⟩,jI 0,jI 0,.slice none 0 0]) Z .u Z Z NS Z Z Z Z Z (KM aD 1 Z ?_))));obtain rfl:=Nz h;exact KP (T.ret (Lj 2 bh (Lj 5 bf (Lj 2 aP (Lu [6,2,1,0] Pd (LI (us:= #[jI x5.M1,jI x5.MY,jI x5.M6,.bool x5.MX.null,jS x5.MX.data,.bool false,.string ⟨#[]⟩,jI 0,jI 0,jI 0,.string ⟨#[]⟩,jI 0,jI 0,.slice none 0 0,jS x32.MU,jI x32.MO,jI x32.MR,.bool x32.M7,.slice none 0 0,.bool false,.string ⟨#[]⟩,jI 0,jI 0,.slice none 0 0]) 5 Z Og NS Z Z) (KQ Z) ⟨_,_,_,_,_,_,Z,Z,Z⟩ QW (.inl Z))))))
   refine Lq Z c38 (KN Z ?_);refine KO Z (Lo (cells:=kY) eT Z QU) Z ?_;refine KM aD 1 Z (K3 2 Z (cs':=kY) Z .u Z Z NS Z Z Z Z Z (KM aD 1 Z ?_));obtain rfl:=Nz h;exact KP (T.ret (KT (Lj 2 bh (Lj 5 bf (Lj 2 aP (Lu [6,2,1,0] Pd (LI (us:=kY) 5 Z Og NS Z Z) (KQ Z) ⟨_,_,_,_,_,_,Z,Z,Z⟩ QW (.inl Z)))))))
  refine Lg Z c31 (KN Z (KM aD 2 Z ?_));rcases jF h with⟨c39,h⟩ | ⟨c39,h⟩
  ·refine Lh Z c39 (T.region Z ?_);obtain⟨⟨x40,st43⟩,hx44,h⟩:=Ny h;refine KR aD g9 0 Z 4 Z Z (My Z .u (.fn Tryz.call119 Z) (vk b4 st10 x5.MY _ hx44) sT Z ?_);rintro _ _ _ ⟨A41,c42,rfl,rfl,rfl⟩;refine Lt [0,0,0,0,0] Z (KM aD 1 Z (K3 1 Z (cs':= #[jI x5.M1,jI x5.MY,jI x5.M6,.bool x5.MX.null,jS x5.MX.data,.bool false,.string ⟨#[]⟩,jI 0,jI 0,jI 0,.string ⟨#[]⟩,jI 0,jI 0,.slice none 0 0,.string ⟨#[]⟩,jI 0,jI 0,.bool false,.slice A41 x40.length c42,.bool false,.string ⟨#[]⟩,jI 0,jI 0,.slice none 0 0]) Z .u Z Z Tryz.sizeOf33 Z Z Z Z Z (TL.nil (La (X.seq (T.seq (KN Z ?_)))))));obtain⟨⟨x45,st46⟩,hx47,h⟩:=Ny h;refine KM aD 1 Z (KZ 2 Z Z .u (.fn Tryz.call21 Z) (dq b4 st43 _ hx47) sT Z Z (Le aD Z Z (KM aD 2 Z ?_)));rcases jF h with⟨c48,h⟩ | ⟨c48,h⟩
   ·refine Lr Z c48 (Lk Z (KO Z (K9 (us := [jI x5.M1,jI x5.MY,jI x5.M6,.bool x5.MX.null,jS x5.MX.data,.bool false,.string ⟨#[]⟩,jI 0,jI 0,jI 0,.string ⟨#[]⟩,jI 0,jI 0,.slice none 0 0,.string ⟨#[]⟩,jI 0,jI 0,.bool false,.slice A41 x40.length c42,.bool false,.string ⟨#[]⟩,jI 0,jI 0,.slice none 0 0]) 1 Z Og NS Z Z Z) Z (K3 3 Z (cs':= #[jI x5.M1,jI x5.MY,jI x5.M6,.bool x5.MX.null,jS x5.MX.data,.bool false,.string ⟨#[]⟩,jI 0,jI 0,jI 0,.string ⟨#[]⟩,jI 0,jI 0,.slice none 0 0,.string ⟨#[]⟩,jI 0,jI 0,.bool false,.slice A41 x40.length c42,.bool false,.string ⟨#[]⟩,jI 0,jI 0,.slice none 0 0]) Z .u Z Z NS Z Z Z Z Z (KM aD 1 Z ?_))));obtain rfl:=Nz h;exact KP (T.ret (Lj 2 bh (Lj 2 aP (Lu [6,1,1,0] Pd (LI (us:= #[jI x5.M1,jI x5.MY,jI x5.M6,.bool x5.MX.null,jS x5.MX.data,.bool false,.string ⟨#[]⟩,jI 0,jI 0,jI 0,.string ⟨#[]⟩,jI 0,jI 0,.slice none 0 0,.string ⟨#[]⟩,jI 0,jI 0,.bool false,.slice A41 x40.length c42,.bool false,.string ⟨#[]⟩,jI 0,jI 0,.slice none 0 0]) 5 Z Og NS Z Z) (KQ Z) ⟨_,_,_,_,_,_,Z,Z,Z⟩ QW (.inl Z)))))
   refine Lq Z c48 (KN Z ?_);refine KO Z (Lo (cells:=kY) eT Z QU) Z ?_;refine KM aD 1 Z (K3 3 Z (cs':=kY) Z .u Z Z NS Z Z Z Z Z (KM aD 1 Z ?_));obtain rfl:=Nz h;exact KP (T.ret (KT (Lj 2 bh (Lj 5 bf (Lj 2 aP (Lu [7,2,1,0] Pd (LI (us:=kY) 6 Z Og NS Z Z) (KQ Z) ⟨_,_,_,_,_,_,Z,Z,Z⟩ QW (.inl Z)))))))
  refine Lg Z c39 (T.region Z ?_);obtain⟨⟨x49,st52⟩,hx53,h⟩:=Ny h;refine KR aD g9 0 Z 4 Z Z (My Z .u (.fn Tryz.call120 Z) (rQ b4 st10 x5.MY _ hx53) sT Z ?_);rintro _ _ _ ⟨A50,c51,rfl,rfl,rfl⟩;refine Lt [0,0,0,0,0] Z (KM aD 1 Z (K3 1 Z (cs':= #[jI x5.M1,jI x5.MY,jI x5.M6,.bool x5.MX.null,jS x5.MX.data,.bool false,.string ⟨#[]⟩,jI 0,jI 0,jI 0,.string ⟨#[]⟩,jI 0,jI 0,.slice none 0 0,.string ⟨#[]⟩,jI 0,jI 0,.bool false,.slice none 0 0,.bool x49.MU.null,jS x49.MU.data,jI x49.Nc,jI x49.MT,.slice A50 x49.MN.length c51]) Z .u Z Z OG Z Z Z Z Z (TL.nil (La (X.seq (T.seq (KN Z ?_)))))));obtain⟨⟨x54,st55⟩,hx56,h⟩:=Ny h;refine KM aD 1 Z (KZ 2 Z Z .u (.fn Tryz.call21 Z) (dq b4 st52 _ hx56) sT Z Z (Le aD Z Z (KM aD 2 Z ?_)));rcases jF h with⟨c57,h⟩ | ⟨c57,h⟩
  ·refine Lr Z c57 (Lk Z (KO Z (K9 (us := [jI x5.M1,jI x5.MY,jI x5.M6,.bool x5.MX.null,jS x5.MX.data,.bool false,.string ⟨#[]⟩,jI 0,jI 0,jI 0,.string ⟨#[]⟩,jI 0,jI 0,.slice none 0 0,.string ⟨#[]⟩,jI 0,jI 0,.bool false,.slice none 0 0,.bool x49.MU.null,jS x49.MU.data,jI x49.Nc,jI x49.MT,.slice A50 x49.MN.length c51]) 1 Z Og NS Z Z Z) Z (K3 3 Z (cs':= #[jI x5.M1,jI x5.MY,jI x5.M6,.bool x5.MX.null,jS x5.MX.data,.bool false,.string ⟨#[]⟩,jI 0,jI 0,jI 0,.string ⟨#[]⟩,jI 0,jI 0,.slice none 0 0,.string ⟨#[]⟩,jI 0,jI 0,.bool false,.slice none 0 0,.bool x49.MU.null,jS x49.MU.data,jI x49.Nc,jI x49.MT,.slice A50 x49.MN.length c51]) Z .u Z Z NS Z Z Z Z Z (KM aD 1 Z ?_))));obtain rfl:=Nz h;exact KP (T.ret (Lj 2 bh (Lj 5 bf (Lu [6,1,0,0] Pd (LI (us:= #[jI x5.M1,jI x5.MY,jI x5.M6,.bool x5.MX.null,jS x5.MX.data,.bool false,.string ⟨#[]⟩,jI 0,jI 0,jI 0,.string ⟨#[]⟩,jI 0,jI 0,.slice none 0 0,.string ⟨#[]⟩,jI 0,jI 0,.bool false,.slice none 0 0,.bool x49.MU.null,jS x49.MU.data,jI x49.Nc,jI x49.MT,.slice A50 x49.MN.length c51]) 5 Z Og NS Z Z) (KQ Z) ⟨_,_,_,_,_,_,Z,Z,Z⟩ QW (.inl Z)))))
  refine Lq Z c57 (KN Z ?_);refine KO Z (Lo (cells:=kY) eT Z QU) Z ?_;refine KM aD 1 Z (K3 3 Z (cs':=kY) Z .u Z Z NS Z Z Z Z Z (KM aD 1 Z ?_));obtain rfl:=Nz h;exact KP (T.ret (KT (Lj 2 bh (Lj 5 bf (Lj 2 aP (Lu [7,2,1,0] Pd (LI (us:=kY) 6 Z Og NS Z Z) (KQ Z) ⟨_,_,_,_,_,_,Z,Z,Z⟩ QW (.inl Z)))))))
 refine Lq Z c12 (KN Z ?_);refine KO Z (Lo (cells:=kY) eT Z QU) Z ?_;refine KM aD 1 Z (K3 2 Z (cs':=kY) Z .u Z Z NS Z Z Z Z Z (KM aD 1 Z ?_));obtain rfl:=Nz h;exact KP (T.ret (KT (Lj 2 bh (Lj 5 bf (Lj 2 aP (Lu [6,2,1,0] Pd (LI (us:=kY) 5 Z Og NS Z Z) (KQ Z) ⟨_,_,_,_,_,_,Z,Z,Z⟩ QW (.inl Z)))))))
def ju (st:I)  : Option (ay×I):=(d9 st 4).bind fun (x2,st3)=>(BX st3 x2).bind fun (x5,st6)=>(iF st6).bind fun (x8,st9)=>if x8=0 then ((kL x5).bind fun (x12,x19)=>if x19=0 then some (x12,st9) else ((ck st9 x19).bind fun st23=>some ((⟨(⟨0,0,0,(⟨false,[]⟩:Bl)⟩:fO),(⟨(⟨false,[]⟩:Bl),0,0,0⟩:bd),(⟨[],0,0,[]⟩:bZ),(⟨[],0,0,false⟩:bY),[],(⟨(⟨false,[]⟩:Bl),0,0,[]⟩:aA)⟩:ay),st23))) else (some ((⟨(⟨0,0,0,(⟨false,[]⟩:Bl)⟩:fO),(⟨(⟨false,[]⟩:Bl),0,0,0⟩:bd),(⟨[],0,0,[]⟩:bZ),(⟨[],0,0,false⟩:bY),[],(⟨(⟨false,[]⟩:Bl),0,0,[]⟩:aA)⟩:ay),st9))
theorem tE (g:Nat) (st:I)  (r:ay×I) (h:ju st  = some r):aG Tryz.prog 20 #[jP g] .triv (InR g st) (fun v A' N=> ∃ (A25:Option Addr) (c26:Nat) (A27:Option Addr) (c28:Nat) (A29:Option Addr) (c30:Nat),v= .agg #[jI r.1.MQ.M1,jI r.1.MQ.MY,jI r.1.MQ.M6,.bool r.1.MQ.MX.null,jS r.1.MQ.MX.data,.bool r.1.Nh.MU.null,jS r.1.Nh.MU.data,jI r.1.Nh.MT,jI r.1.Nh.MO,jI r.1.Nh.MR,jS r.1.Nj.MU,jI r.1.Nj.MO,jI r.1.Nj.MR,.slice A25 r.1.Nj.MN.length c26,jS r.1.Np.MU,jI r.1.Np.MO,jI r.1.Np.MR,.bool r.1.Np.M7,.slice A27 r.1.Nb.length c28,.bool r.1.MZ.MU.null,jS r.1.MZ.MU.data,jI r.1.MZ.Nc,jI r.1.MZ.MT,.slice A29 r.1.MZ.MN.length c30]/\A'=InR g r.2/\N = [RdR (aq 2 bh) [.slice A25 r.1.Nj.MN.length c26] r.1.Nj.MN,RdR (aq 5 bf) [.slice A27 r.1.Nb.length c28] r.1.Nb,RdR (aq 2 aP) [.slice A29 r.1.MZ.MN.length c30] r.1.MZ.MN]):=by
 refine aU Tryz.func20 Z Tryz.ntmps20 Z ?_;intro F w hX;unfold ju at h;refine KN Z (TL.alloc Z .u Tryz.zeroValue38 Z (fun b1=>(Ld Z ?_)));obtain⟨⟨x2,st3⟩,hx4,h⟩:=Ny h;refine KM aD 2 Z (KZ 1 Z Z .u (.fn Tryz.call68 Z) (bz g st 4 _ hx4) sT Z Z ?_);obtain⟨⟨x5,st6⟩,hx7,h⟩:=Ny h;refine KZ 1 Z Z .u (.fn Tryz.call67 Z) (xg g st3 x2 _ hx7) sT Z Z (KX aD Z (T.seq (KN Z ?_)));obtain⟨⟨x8,st9⟩,hx10,h⟩:=Ny h;refine KM aD 1 Z (KZ 1 Z Z .u (.fn Tryz.call23 Z) (cy g st6 _ hx10) sT Z Z (KM aD 1 Z ?_));rcases jF h with⟨c11,h⟩ | ⟨c11,h⟩
 ·refine Lr Z c11 (Lk Z ?_);obtain⟨⟨x12,x19⟩,hx20,h⟩:=Ny h;refine KM aD 1 Z (Mb Z .u (.fn Tryz.call69 Z) (tD x5 _ hx20) rT Z ?_);rintro _ _ _ ⟨A13,c14,A15,c16,A17,c18,rfl,rfl,rfl⟩;refine Lt [0,0,0,0,0] Z (KM aD 3 Z (TL.alloc Z .u Tryz.zeroValue38 Z (fun b21=>(K3 0 Z (cs':=oh x12 A13 A15 A17 c14 c16 c18) Z .u Z Z NS Z Z Z Z Z (KX aD Z (T.seq (KN Z (KM aD 2 Z ?_))))))));rcases jF h with⟨c22,h⟩ | ⟨c22,h⟩
  ·refine Lr Z c22 (Lk Z (KO Z (K9 (us:=wd x12 A13 A15 A17 c14 c16 c18) 0 Z Og NS Z Z Z) Z (K3 4 Z (cs':=oh x12 A13 A15 A17 c14 c16 c18) Z .u Z Z NS Z Z Z Z Z ?_)));obtain rfl:=Nz h;exact KP (T.ret (Ll [5,1,1,1] Tryz.results20 (LI (us:=oh x12 A13 A15 A17 c14 c16 c18) 4 Z Og NS Z Z) ⟨_,_,_,_,_,_,Z,Z,Z⟩ QW (.inl Z)))
  refine Lq Z c22 (KN Z ?_);obtain⟨st23,hx24,h⟩:=Ny h;refine KM aD 2 Z (KZ 5 Z Z .u (.fn Tryz.call70 Z) (bK g st9 x19 _ hx24) sT Z Z (Ld Z ?_));refine KO Z (Lo (cells:=kY) eT Z QU) Z ?_;refine K3 4 Z (cs':=kY) Z .u Z Z NS Z Z Z Z Z ?_;obtain rfl:=Nz h;exact KP (T.ret (KT (Lj 2 bh (Lj 5 bf (Lj 2 aP (Ll [8,2,1,0] Tryz.results20 (LI (us:=kY) 7 Z Og NS Z Z) ⟨_,_,_,_,_,_,Z,Z,Z⟩ QW (.inl Z)))))))
 refine Lq Z c11 (KN Z ?_);refine KO Z (Lo (cells:=kY) eT Z QU) Z ?_;refine K3 0 Z (cs':=kY) Z .u Z Z NS Z Z Z Z Z ?_;obtain rfl:=Nz h;exact KP (T.ret (KT (Lj 2 bh (Lj 5 bf (Lj 2 aP (Ll [4,2,1,0] Tryz.results20 (LI (us:=kY) 3 Z Og NS Z Z) ⟨_,_,_,_,_,_,Z,Z,Z⟩ QW (.inl Z)))))))
def jf (a0:List UInt8):Option (ay×Int):=(wc a0).bind fun st2=>(ju st2).bind fun (x5,st12)=>(eh st12).bind fun (x15,st16)=>if x15=0 then some (x5,0) else (some ((⟨(⟨0,0,0,(⟨false,[]⟩:Bl)⟩:fO),(⟨(⟨false,[]⟩:Bl),0,0,0⟩:bd),(⟨[],0,0,[]⟩:bZ),(⟨[],0,0,false⟩:bY),[],(⟨(⟨false,[]⟩:Bl),0,0,[]⟩:aA)⟩:ay),x15))
theorem rU (a0:List UInt8) (r:ay×Int) (h:jf a0=some r):aG Tryz.prog 15 #[jS a0] .triv (aL) (fun v A' N=> ∃ (A19:Option Addr) (c20:Nat) (A21:Option Addr) (c22:Nat) (A23:Option Addr) (c24:Nat),v= .tuple #[.agg #[jI r.1.MQ.M1,jI r.1.MQ.MY,jI r.1.MQ.M6,.bool r.1.MQ.MX.null,jS r.1.MQ.MX.data,.bool r.1.Nh.MU.null,jS r.1.Nh.MU.data,jI r.1.Nh.MT,jI r.1.Nh.MO,jI r.1.Nh.MR,jS r.1.Nj.MU,jI r.1.Nj.MO,jI r.1.Nj.MR,.slice A19 r.1.Nj.MN.length c20,jS r.1.Np.MU,jI r.1.Np.MO,jI r.1.Np.MR,.bool r.1.Np.M7,.slice A21 r.1.Nb.length c22,.bool r.1.MZ.MU.null,jS r.1.MZ.MU.data,jI r.1.MZ.Nc,jI r.1.MZ.MT,.slice A23 r.1.MZ.MN.length c24],jI r.2]/\A'=aL/\N = [RdR (aq 2 bh) [.slice A19 r.1.Nj.MN.length c20] r.1.Nj.MN,RdR (aq 5 bf) [.slice A21 r.1.Nb.length c22] r.1.Nb,RdR (aq 2 aP) [.slice A23 r.1.MZ.MN.length c24] r.1.MZ.MN]):=by
 refine aU Tryz.func15 Z Tryz.ntmps15 Z ?_;intro F w hX;unfold jf at h;refine KN Z (TL.alloc Z .u Tryz.zeroValue38 Z (fun b1=>(Le aD Z Z ?_)));obtain⟨st2,hx3,h⟩:=Ny h;refine KM aD 1 Z (Mb Z .u (.fn Tryz.call19 Z) (j8 a0 _ hx3) rT Z ?_);rintro _ _ _ ⟨b4,rfl,rfl,rfl⟩;refine Lt [0,0,0] Z (Le aD Z Z ?_);obtain⟨⟨x5,st12⟩,hx13,h⟩:=Ny h;refine KM aD 1 Z (TL.cg0 Z .u (.fn Tryz.call20 Z) (tE b4 st2 _ hx13) sT Z ?_);rintro _ _ _ ⟨A6,c7,A8,c9,A10,c11,rfl,rfl,rfl⟩;refine Lt [0,0,0,0,0,0] Z (TL.alloc Z .u Tryz.zeroValue38 Z (fun b14=>(K3 0 Z (cs':=oh x5 A6 A8 A10 c7 c9 c11) Z .u Z Z NS Z Z Z Z Z (KP (T.seq (KN Z ?_))))));obtain⟨⟨x15,st16⟩,hx17,h⟩:=Ny h;refine KM aD 1 Z (KZ 4 Z Z .u (.fn Tryz.call21 Z) (dq b4 st12 _ hx17) sT Z Z (Le aD Z Z (KM aD 2 Z ?_)));rcases jF h with⟨c18,h⟩ | ⟨c18,h⟩
 ·refine Lr Z c18 (Lk Z (KO Z (K9 (us:=wd x5 A6 A8 A10 c7 c9 c11) 0 Z Og NS Z Z Z) Z (K3 5 Z (cs':=oh x5 A6 A8 A10 c7 c9 c11) Z .u Z Z NS Z Z Z Z Z (KM aD 1 Z ?_))));obtain rfl:=Nz h;exact KP (T.ret (Lu [6,1,1,1] Tryz.results15 (LI (us:=oh x5 A6 A8 A10 c7 c9 c11) 5 Z Og NS Z Z) (KQ Z) ⟨_,_,_,_,_,_,Z,Z,Z⟩ QW (.inl Z)))
 refine Lq Z c18 (KN Z ?_);refine KO Z (Lo (cells:=kY) eT Z QU) Z ?_;refine KM aD 1 Z (K3 5 Z (cs':=kY) Z .u Z Z NS Z Z Z Z Z (KM aD 1 Z ?_));obtain rfl:=Nz h;exact KP (T.ret (KT (Lj 2 bh (Lj 5 bf (Lj 2 aP (Lu [9,2,1,0] Tryz.results15 (LI (us:=kY) 8 Z Og NS Z Z) (KQ Z) ⟨_,_,_,_,_,_,Z,Z,Z⟩ QW (.inl Z)))))))
def vp:eO := [(23,1,1),(25,0,0),(25,3,3),(27,0,0),(27,1,2),(27,2,3),(27,3,4),(30,0,0),(30,1,1),(30,2,2),(30,3,3),(32,0,0),(32,1,1),(32,2,2),(32,3,3),(38,0,0),(38,1,5),(38,2,10),(38,3,14),(38,4,18),(38,5,19),(53,1,5),(53,2,12),(53,3,13),(67,0,0),(67,1,18),(67,2,19)]
theorem aF:(vp).OK Tryz.prog:=⟨FOK.mk N2 rfl N6 rfl,FOK.mk OV rfl NG rfl,FOK.mk OV rfl NM rfl,FOK.mk OY rfl NM rfl,FOK.mk OY rfl NG rfl,FOK.mk OY rfl NG rfl,FOK.mk OY rfl NG rfl,FOK.mk OP rfl N6 rfl,FOK.mk OP rfl NG rfl,FOK.mk OP rfl NG rfl,FOK.mk OP rfl Py rfl,FOK.mk OI rfl N6 rfl,FOK.mk OI rfl NG rfl,FOK.mk OI rfl NG rfl,FOK.mk OI rfl Oe rfl,FOK.mk Oy rfl OA rfl,FOK.mk Oy rfl O9 rfl,FOK.mk Oy rfl Pa rfl,FOK.mk Oy rfl Pb rfl,FOK.mk Oy rfl Tryz.sizeOf33 rfl,FOK.mk Oy rfl OG rfl,FOK.mk O6 rfl O8 rfl,FOK.mk O6 rfl Tryz.sizeOf48 rfl,FOK.mk O6 rfl Pj rfl,FOK.mk QJ rfl Ot rfl,FOK.mk QJ rfl NG rfl,FOK.mk QJ rfl NG rfl,trivial⟩
def vq:List Nat := [3,4,9,28,33]
theorem bP:NOK Tryz.prog vq:=⟨NH,Oz,Oc,O7,Tryz.isAgg33,trivial⟩
theorem lS:BOK Tryz.prog 23 #[.bool false,.string ⟨#[]⟩] [(0,1),(1,1)]:=BOK.mk Tryz.zeroValue23 N2 (by intro w; simp)
theorem jg:BOK Tryz.prog 47 #[.bool false,.string ⟨#[]⟩,.int .i64 0,.int .i64 0,.int .i64 0,.slice none 0 0,.bool false] [(0,2),(2,1),(3,1),(4,1),(5,1),(6,1)]:=BOK.mk Tryz.zeroValue47 Pm (by intro w; simp)
theorem qG:BOK Tryz.prog 53 #[.int .i64 0,.int .i64 0,.int .i64 0,.bool false,.string ⟨#[]⟩,.bool false,.string ⟨#[]⟩,.int .i64 0,.int .i64 0,.int .i64 0,.slice none 0 0,.bool false,.slice none 0 0,.bool false,.string ⟨#[]⟩,.int .i64 0,.int .i64 0,.slice none 0 0] [(0,5),(5,7),(12,1),(13,5)]:=BOK.mk Tryz.zeroValue53 O6 (by intro w; simp)
def mQ (a0:ay):Option (Int):=(if (a0.MQ.MX.data.length:Int)>1000 then some true else (if (a0.Nh.MU.data.length:Int)>1000 then some true else (if (a0.Nj.MU.length:Int)>1000 then some true else (if (a0.Np.MU.length:Int)>1000 then some true else ((kZ a0.Nj.MN).bind fun x26=>if x26=0 then some true else ((mL a0.Nb).bind fun x29=>if x29=0 then some true else ((mM a0.MZ).bind fun x32=>if x32=0 then some true else some false))))))).bind fun y20=>if y20=true then some 0 else some 1
theorem xK (a0:ay) (A1:Option Addr) (c2:Nat) (A3:Option Addr) (c4:Nat) (A5:Option Addr) (c6:Nat) (r:Int) (h:mQ a0=some r):aG Tryz.prog 11 #[.agg (oh a0 A1 A3 A5 c2 c4 c6)] (RX.and (RX.of (aq 2 bh) [.slice A1 a0.Nj.MN.length c2] a0.Nj.MN) (RX.and (RX.of (aq 5 bf) [.slice A3 a0.Nb.length c4] a0.Nb) (RX.of (aq 2 aP) [.slice A5 a0.MZ.MN.length c6] a0.MZ.MN))) (aL) (fun v A' N=>v=jI r/\A'=aL/\N = []):=by
 refine aU Tryz.func11 Z Tryz.ntmps11 Z ?_;intro F w hX;unfold mQ at h;refine KN Z (TL.box Z .u Z Z (fun b7=>(KX aF Z (L0 ?_))));obtain⟨y20,h,hk21⟩:=Ny h;refine LE (fun e Rs=>e = [(2,jI 0),(49,.bool y20)]/\Rs = [aV b7 38 (oh a0 A1 A3 A5 c2 c4 c6),aL]) ?_ ?_
 ·clear hk21;refine T.region Z (KR aF bP 0 Z 4 Z Z (KO Z (LD Z NK) Z ?_));rcases jF h with⟨c22,h⟩ | ⟨c22,h⟩
  ·refine KM aF 2 Z (KV 9 Z (NB c22) (KW aF 40 Z ?_));cases h;exact TL.nil (K0 [0,0])
  refine KM aF 2 Z (KV 9 Z (NC c22) (KR aF bP 0 Z 4 Z Z (TL.q Z (.g Z Z Z) (LD Z NK) Z ?_)));rcases jF h with⟨c23,h⟩ | ⟨c23,h⟩
  ·refine KW aF 3 Z (KV 17 Z (NB c23) (KW aF 32 Z ?_));cases h;exact TL.nil (K0 [0,0])
  refine KW aF 3 Z (KV 17 Z (NC c23) (KR aF bP 0 Z 3 Z Z (TL.q Z (.g Z Z Z) (LD Z NK) Z ?_)));rcases jF h with⟨c24,h⟩ | ⟨c24,h⟩
  ·refine KW aF 3 Z (KV 24 Z (NB c24) (KW aF 25 Z ?_));cases h;exact TL.nil (K0 [0,0])
  refine KW aF 3 Z (KV 24 Z (NC c24) (KR aF bP 0 Z 3 Z Z (TL.q Z (.g Z Z Z) (LD Z NK) Z ?_)));rcases jF h with⟨c25,h⟩ | ⟨c25,h⟩
  ·refine KW aF 3 Z (KV 31 Z (NB c25) (KW aF 18 Z ?_));cases h;exact TL.nil (K0 [0,0])
  refine KW aF 3 Z (KV 31 Z (NC c25) ?_);obtain⟨x26,hx27,h⟩:=Ny h;refine KR aF bP 0 Z 3 Z Z (Lb Z (.g Z Z Z) (.fn Tryz.call44 Z) (qq a0.Nj.MN _ _ _ hx27) (fun _ hs=>(K7 hs (Lx hX))) Z ?_);rcases jF h with⟨c28,h⟩ | ⟨c28,h⟩
  ·refine KW aF 3 Z (KV 38 Z (NB c28) (KW aF 11 Z ?_));cases h;exact TL.nil (K0 [0,0])
  refine KW aF 3 Z (KV 38 Z (NC c28) ?_);obtain⟨x29,hx30,h⟩:=Ny h;refine KR aF bP 0 Z 2 Z Z (Lb Z (.g Z Z Z) (.fn Tryz.call45 Z) (xw a0.Nb _ _ _ hx30) (fun _ hs=>(K7 hs (Lx (Lf hX)))) Z ?_);rcases jF h with⟨c31,h⟩ | ⟨c31,h⟩
  ·refine KW aF 3 Z (KV 44 Z (NB c31) (KW aF 5 Z ?_));cases h;exact TL.nil (K0 [0,0])
  refine KW aF 3 Z (KV 44 Z (NC c31) (KW aF 1 Z (TL.q Z (.g Z Z Z) (K9 (us := [.bool a0.MZ.MU.null,jS a0.MZ.MU.data,jI a0.MZ.Nc,jI a0.MZ.MT,.slice A5 a0.MZ.MN.length c6]) 0 Z Pq OG Z Z Z) Z ?_)));obtain⟨x32,hx33,h⟩:=Ny h;refine Lb Z (.g Z Z Z) (.fn Tryz.call46 Z) (xx a0.MZ _ _ _ hx33) (fun _ hs=>(K7 hs (Lf (Lf hX)))) Z (KW aF 2 Z ?_);rcases jF h with⟨c34,h⟩ | ⟨c34,h⟩
  ·cases h;exact TL.nil (LH (d:=49) (v':= .bool true) Z (congrArg Value.bool (NB c34)) (K0 [0,0]))
  cases h;exact TL.nil (LH (d:=49) (v':= .bool false) Z (congrArg Value.bool (NC c34)) (K0 [0,0]))
 rintro _ _ ⟨rfl,rfl⟩;clear h;have h:=hk21;clear hk21;try dsimp only at h
 rcases jF h with⟨c35,h⟩ | ⟨c35,h⟩
 ·refine X.seq (K1 Z c35 (KN Z (KM aF 1 Z ?_)));obtain rfl:=Nz h;exact KP (T.ret (KT (KY [1] Tryz.results11 (KQ Z))))
 replace c35:=NF c35;refine X.seq (Li Z c35 (Lk Z (KM aF 1 Z ?_)));obtain rfl:=Nz h;exact KP (T.ret (KY [1] Tryz.results11 (KQ Z)))
def jO (a0:ay):Option (cI):=if a0.MQ.M1=0 then ((mY a0.MZ).bind fun x11=>some (⟨(⟨a0.MQ.M1,a0.MQ.MY,a0.MQ.M6,a0.MQ.MX⟩:iL),(⟨(⟨false,[]⟩:Bl),0,0,0,[],false⟩:bJ),[],x11⟩:cI)) else (if a0.MQ.M1=22 then (some (⟨(⟨a0.MQ.M1,a0.MQ.MY,a0.MQ.M6,a0.MQ.MX⟩:iL),(⟨a0.Nh.MU,a0.Nh.MT,a0.Nh.MO,a0.Nh.MR,[],false⟩:bJ),[],(⟨(⟨false,[]⟩:Bl),0,0,[]⟩:bM)⟩:cI)) else (if a0.MQ.M1=24 then (some (⟨(⟨a0.MQ.M1,a0.MQ.MY,a0.MQ.M6,a0.MQ.MX⟩:iL),(⟨(⟨false,a0.Nj.MU⟩:Bl),0,a0.Nj.MO,a0.Nj.MR,a0.Nj.MN,false⟩:bJ),[],(⟨(⟨false,[]⟩:Bl),0,0,[]⟩:bM)⟩:cI)) else (if a0.MQ.M1=26 then (some (⟨(⟨a0.MQ.M1,a0.MQ.MY,a0.MQ.M6,a0.MQ.MX⟩:iL),(⟨(⟨false,a0.Np.MU⟩:Bl),0,a0.Np.MO,a0.Np.MR,[],a0.Np.M7⟩:bJ),[],(⟨(⟨false,[]⟩:Bl),0,0,[]⟩:bM)⟩:cI)) else (if a0.MQ.M1=27 then ((qr a0.Nb).bind fun x19=>some (⟨(⟨a0.MQ.M1,a0.MQ.MY,a0.MQ.M6,a0.MQ.MX⟩:iL),(⟨(⟨false,[]⟩:Bl),0,0,0,[],false⟩:bJ),x19,(⟨(⟨false,[]⟩:Bl),0,0,[]⟩:bM)⟩:cI)) else (some (⟨(⟨a0.MQ.M1,a0.MQ.MY,a0.MQ.M6,a0.MQ.MX⟩:iL),(⟨(⟨false,[]⟩:Bl),0,0,0,[],false⟩:bJ),[],(⟨(⟨false,[]⟩:Bl),0,0,[]⟩:bM)⟩:cI))))))
theorem lC (a0:ay) (A1:Option Addr) (c2:Nat) (A3:Option Addr) (c4:Nat) (A5:Option Addr) (c6:Nat) (r:cI) (h:jO a0=some r):xt Tryz.prog 14 #[.agg (oh a0 A1 A3 A5 c2 c4 c6)] (RX.and (RX.of (aq 2 bh) [.slice A1 a0.Nj.MN.length c2] a0.Nj.MN) (RX.and (RX.of (aq 5 bf) [.slice A3 a0.Nb.length c4] a0.Nb) (RX.of (aq 2 aP) [.slice A5 a0.MZ.MN.length c6] a0.MZ.MN))) aL (fun v A' L=> ∃ (A23:Option Addr) (c24:Nat) (A25:Option Addr) (c26:Nat) (A27:Option Addr) (c28:Nat),v= .agg (zb r A23 A25 A27 c24 c26 c28)/\A'=aL/\L = [(⟨_,aq 2 bh,[.slice A23 r.Ni.MN.length c24],r.Ni.MN⟩:RO),(⟨_,aq 5 co,[.slice A25 r.Nb.length c26],r.Nb⟩:RO),(⟨_,aq 2 bR,[.slice A27 r.MZ.MN.length c28],r.MZ.MN⟩:RO)]):=by
 refine DL Tryz.func14 Z Tryz.ntmps14 Z ?_;intro F w S hS hSF;have hX:(RX.and (RX.of (aq 2 bh) [.slice A1 a0.Nj.MN.length c2] a0.Nj.MN) (RX.and (RX.of (aq 5 bf) [.slice A3 a0.Nb.length c4] a0.Nb) (RX.of (aq 2 aP) [.slice A5 a0.MZ.MN.length c6] a0.MZ.MN))).reads w F:=⟨S,hS,hSF⟩;unfold jO at h;refine KN Z (TL.box Z .u Z Z (fun b7=>(TL.alloc Z .u Tryz.zeroValue53 Z (fun b8=>(Ld Z (KM aF 1 Z (KO Z (K9 (us := [jI a0.MQ.M1,jI a0.MQ.MY,jI a0.MQ.M6,.bool a0.MQ.MX.null,jS a0.MQ.MX.data]) 1 Z Pg OA Z Z Z) Z ?_)))))));refine KO Z (Lo (cells:= #[jI a0.MQ.M1,jI a0.MQ.MY,jI a0.MQ.M6,.bool a0.MQ.MX.null,jS a0.MQ.MX.data,.bool false,.string ⟨#[]⟩,jI 0,jI 0,jI 0,.slice none 0 0,.bool false,.slice none 0 0,.bool false,.string ⟨#[]⟩,jI 0,jI 0,.slice none 0 0]) qG Z QU) Z ?_;refine TL.alloc Z .u Tryz.zeroValue53 Z (fun b9=>(K3 0 Z (cs':= #[jI a0.MQ.M1,jI a0.MQ.MY,jI a0.MQ.M6,.bool a0.MQ.MX.null,jS a0.MQ.MX.data,.bool false,.string ⟨#[]⟩,jI 0,jI 0,jI 0,.slice none 0 0,.bool false,.slice none 0 0,.bool false,.string ⟨#[]⟩,jI 0,jI 0,.slice none 0 0]) Z .u Z Z Ot Z Z Z Z Z (KP (T.seq (KN Z (L6 aF bP 2 Z Z Z (T.block (KN Z (KM aF 2 Z ?_)))))))));rcases jF h with⟨c10,h⟩ | ⟨c10,h⟩
 ·refine Lh Z c10 (T.region Z (KM aF 1 Z (KO Z (K9 (us := [.bool a0.MZ.MU.null,jS a0.MZ.MU.data,jI a0.MZ.Nc,jI a0.MZ.MT,.slice A5 a0.MZ.MN.length c6]) 2 Z Pq OG Z Z Z) Z ?_)));obtain⟨x11,hx14,h⟩:=Ny h;refine TL.cso  Z .u (.fn Tryz.call57 Z) (zd a0.MZ _ _ _ hx14) hS.2.2 hSF Z ?_;rintro _ _ _ ⟨A12,c13,rfl,rfl,rfl⟩;refine Lt [0,0,0,0,0] Z (KM aF 1 Z (K3 1 Z (cs':= #[jI a0.MQ.M1,jI a0.MQ.MY,jI a0.MQ.M6,.bool a0.MQ.MX.null,jS a0.MQ.MX.data,.bool false,.string ⟨#[]⟩,jI 0,jI 0,jI 0,.slice none 0 0,.bool false,.slice none 0 0,.bool x11.MU.null,jS x11.MU.data,jI x11.Nc,jI x11.MT,.slice A12 x11.MN.length c13]) Z .u Z Z Pj Z Z Z Z Z (TL.nil (La (X.seq (KN Z (KO Z (K9 (us := [jI a0.MQ.M1,jI a0.MQ.MY,jI a0.MQ.M6,.bool a0.MQ.MX.null,jS a0.MQ.MX.data,.bool false,.string ⟨#[]⟩,jI 0,jI 0,jI 0,.slice none 0 0,.bool false,.slice none 0 0,.bool x11.MU.null,jS x11.MU.data,jI x11.Nc,jI x11.MT,.slice A12 x11.MN.length c13]) 1 Z Pc Ot Z Z Z) Z (K3 2 Z (cs':= #[jI a0.MQ.M1,jI a0.MQ.MY,jI a0.MQ.M6,.bool a0.MQ.MX.null,jS a0.MQ.MX.data,.bool false,.string ⟨#[]⟩,jI 0,jI 0,jI 0,.slice none 0 0,.bool false,.slice none 0 0,.bool x11.MU.null,jS x11.MU.data,jI x11.Nc,jI x11.MT,.slice A12 x11.MN.length c13]) Z .u Z Z Ot Z Z Z Z Z ?_))))))));obtain rfl:=Nz h;exact KP (T.ret (Lj 2 bh (Ma (S:=S) 0 Z (LJ [0,0,0,0,0,0] Z (Lj 5 co (Ma (S:=S) 0 Z (LJ [0,0,0,0,0,0,0] Z (Ll [6,1,0,0] P0 (LI (us:= #[jI a0.MQ.M1,jI a0.MQ.MY,jI a0.MQ.M6,.bool a0.MQ.MX.null,jS a0.MQ.MX.data,.bool false,.string ⟨#[]⟩,jI 0,jI 0,jI 0,.slice none 0 0,.bool false,.slice none 0 0,.bool x11.MU.null,jS x11.MU.data,jI x11.Nc,jI x11.MT,.slice A12 x11.MN.length c13]) 4 Z Pc Ot Z Z) ⟨_,⟨_,_,_,_,_,_,Z,Z,Z⟩,Z⟩ QW (.inl Z)))))))))
 refine Lg Z c10 (KN Z (KM aF 2 Z ?_));rcases jF h with⟨c15,h⟩ | ⟨c15,h⟩
 ·refine Lh Z c15 (T.region Z (KM aF 2 Z (KO Z (K9 (us:=wL6 a0.Nh.MU) 2 Z Oa NM Z Z Z) Z (KR aF bP 2 Z 9 Z Z ?_))));refine KO Z (Lo (cells:= #[.bool a0.Nh.MU.null,jS a0.Nh.MU.data,jI a0.Nh.MT,jI a0.Nh.MO,jI a0.Nh.MR,.slice none 0 0,.bool false]) jg Z QU) Z ?_;refine KM aF 1 Z (K3 0 Z (cs':=wA19 a0) Z .u Z Z O8 Z Z Z Z Z (TL.nil (La (X.seq (KN Z (KO Z (K9 (us := [jI a0.MQ.M1,jI a0.MQ.MY,jI a0.MQ.M6,.bool a0.MQ.MX.null,jS a0.MQ.MX.data,.bool a0.Nh.MU.null,jS a0.Nh.MU.data,jI a0.Nh.MT,jI a0.Nh.MO,jI a0.Nh.MR,.slice none 0 0,.bool false,.slice none 0 0,.bool false,.string ⟨#[]⟩,jI 0,jI 0,.slice none 0 0]) 0 Z Pc Ot Z Z Z) Z (K3 1 Z (cs':=wA19 a0) Z .u Z Z Ot Z Z Z Z Z ?_)))))));obtain rfl:=Nz h;refine KP (T.ret (Lj 2 bh (Ma (S:=S) 0 Z (LJ [0,0,0,0,0] Z (Lj 5 co (Ma (S:=S) 0 Z (LJ [0,0,0,0,0,0] Z (Lj 2 bR ?_))))))));exact Ma (S:=S) 0 Z (LJ [0,0,0,0,0,0,0] Z (Ll [6,2,1,0] P0 (LI (us:=wA19 a0) 4 Z Pc Ot Z Z) ⟨_,⟨_,_,_,_,_,_,Z,Z,Z⟩,Z⟩ QW (.inl Z)))
 refine Lg Z c15 (KN Z (KM aF 2 Z ?_));rcases jF h with⟨c16,h⟩ | ⟨c16,h⟩
 ·refine Lh Z c16 (T.region Z (KR aF bP 2 Z 3 Z Z ?_));refine KO Z (Lo (cells:= #[.bool false,jS a0.Nj.MU]) lS Z QU) Z ?_;refine KR aF bP 2 Z 9 Z Z ?_;refine KO Z (Lo (cells:= #[.bool false,jS a0.Nj.MU,jI 0,jI a0.Nj.MO,jI a0.Nj.MR,.slice A1 a0.Nj.MN.length c2,.bool false]) jg Z QU) Z ?_;refine KM aF 1 Z (K3 0 Z (cs':=wA20 a0 A1 c2) Z .u Z Z O8 Z Z Z Z Z (TL.nil (La (X.seq (KN Z (KO Z (K9 (us := [jI a0.MQ.M1,jI a0.MQ.MY,jI a0.MQ.M6,.bool a0.MQ.MX.null,jS a0.MQ.MX.data,.bool false,jS a0.Nj.MU,jI 0,jI a0.Nj.MO,jI a0.Nj.MR,.slice A1 a0.Nj.MN.length c2,.bool false,.slice none 0 0,.bool false,.string ⟨#[]⟩,jI 0,jI 0,.slice none 0 0]) 0 Z Pc Ot Z Z Z) Z (K3 1 Z (cs':=wA20 a0 A1 c2) Z .u Z Z Ot Z Z Z Z Z ?_)))))));obtain rfl:=Nz h;refine KP (T.ret (X.oldrd (E:=aq 2 bh) (cs := [.slice A1 a0.Nj.MN.length c2]) (x:=a0.Nj.MN) hS.1 (Lj 5 co (Ma (S:=S) 0 Z (LJ [0,0,0,0,0,0] Z (Lj 2 bR (Ma (S:=S) 0 Z (LJ [0,0,0,0,0,0,0] Z ?_))))))));exact Ll [6,2,1,0] P0 (LI (us:=wA20 a0 A1 c2) 4 Z Pc Ot Z Z) ⟨_,⟨_,_,_,_,_,_,Z,Z,Z⟩,Z⟩ QW (.inl Z)
 refine Lg Z c16 (KN Z (KM aF 2 Z ?_));rcases jF h with⟨c17,h⟩ | ⟨c17,h⟩
 ·refine Lh Z c17 (T.region Z (KR aF bP 2 Z 3 Z Z ?_));refine KO Z (Lo (cells:= #[.bool false,jS a0.Np.MU]) lS Z QU) Z ?_;refine KR aF bP 2 Z 9 Z Z ?_;refine KO Z (Lo (cells:= #[.bool false,jS a0.Np.MU,jI 0,jI a0.Np.MO,jI a0.Np.MR,.slice none 0 0,.bool a0.Np.M7]) jg Z QU) Z ?_;refine KM aF 1 Z (K3 0 Z (cs':=wA21 a0) Z .u Z Z O8 Z Z Z Z Z (TL.nil (La (X.seq (KN Z (KO Z (K9 (us := [jI a0.MQ.M1,jI a0.MQ.MY,jI a0.MQ.M6,.bool a0.MQ.MX.null,jS a0.MQ.MX.data,.bool false,jS a0.Np.MU,jI 0,jI a0.Np.MO,jI a0.Np.MR,.slice none 0 0,.bool a0.Np.M7,.slice none 0 0,.bool false,.string ⟨#[]⟩,jI 0,jI 0,.slice none 0 0]) 0 Z Pc Ot Z Z Z) Z (K3 1 Z (cs':=wA21 a0) Z .u Z Z Ot Z Z Z Z Z ?_)))))));obtain rfl:=Nz h;refine KP (T.ret (Lj 2 bh (Ma (S:=S) 0 Z (LJ [0,0,0,0,0] Z (Lj 5 co (Ma (S:=S) 0 Z (LJ [0,0,0,0,0,0] Z (Lj 2 bR ?_))))))));exact Ma (S:=S) 0 Z (LJ [0,0,0,0,0,0,0] Z (Ll [6,2,1,0] P0 (LI (us:=wA21 a0) 4 Z Pc Ot Z Z) ⟨_,⟨_,_,_,_,_,_,Z,Z,Z⟩,Z⟩ QW (.inl Z)))
 refine Lg Z c17 (KN Z (KM aF 2 Z ?_));rcases jF h with⟨c18,h⟩ | ⟨c18,h⟩
 ·refine Lh Z c18 (T.region Z ?_);obtain⟨x19,hx22,h⟩:=Ny h;refine KR aF bP 2 Z 2 Z Z (TL.cso  Z .u (.fn Tryz.call58 Z) (zc a0.Nb _ _ _ hx22) hS.2.1 hSF Z ?_);rintro _ _ _ ⟨A20,c21,rfl,rfl,rfl⟩;refine Lt [0,0,0,0,0] Z (KM aF 1 Z (K3 1 Z (cs':= #[jI a0.MQ.M1,jI a0.MQ.MY,jI a0.MQ.M6,.bool a0.MQ.MX.null,jS a0.MQ.MX.data,.bool false,.string ⟨#[]⟩,jI 0,jI 0,jI 0,.slice none 0 0,.bool false,.slice A20 x19.length c21,.bool false,.string ⟨#[]⟩,jI 0,jI 0,.slice none 0 0]) Z .u Z Z Tryz.sizeOf48 Z Z Z Z Z (TL.nil (La (X.seq (KN Z (KO Z (K9 (us := [jI a0.MQ.M1,jI a0.MQ.MY,jI a0.MQ.M6,.bool a0.MQ.MX.null,jS a0.MQ.MX.data,.bool false,.string ⟨#[]⟩,jI 0,jI 0,jI 0,.slice none 0 0,.bool false,.slice A20 x19.length c21,.bool false,.string ⟨#[]⟩,jI 0,jI 0,.slice none 0 0]) 1 Z Pc Ot Z Z Z) Z (K3 2 Z (cs':= #[jI a0.MQ.M1,jI a0.MQ.MY,jI a0.MQ.M6,.bool a0.MQ.MX.null,jS a0.MQ.MX.data,.bool false,.string ⟨#[]⟩,jI 0,jI 0,jI 0,.slice none 0 0,.bool false,.slice A20 x19.length c21,.bool false,.string ⟨#[]⟩,jI 0,jI 0,.slice none 0 0]) Z .u Z Z Ot Z Z Z Z Z ?_))))))));obtain rfl:=Nz h;exact KP (T.ret (Lj 2 bh (Ma (S:=S) 0 Z (LJ [0,0,0,0,0,0] Z (Lj 2 bR (Ma (S:=S) 0 Z (LJ [0,0,0,0,0,0,0] Z (Ll [6,1,1,0] P0 (LI (us:= #[jI a0.MQ.M1,jI a0.MQ.MY,jI a0.MQ.M6,.bool a0.MQ.MX.null,jS a0.MQ.MX.data,.bool false,.string ⟨#[]⟩,jI 0,jI 0,jI 0,.slice none 0 0,.bool false,.slice A20 x19.length c21,.bool false,.string ⟨#[]⟩,jI 0,jI 0,.slice none 0 0]) 4 Z Pc Ot Z Z) ⟨_,⟨_,_,_,_,_,_,Z,Z,Z⟩,Z⟩ QW (.inl Z)))))))))
 refine Lg Z c18 (T.skip (La (X.seq (KN Z (KO Z (K9 (us := [jI a0.MQ.M1,jI a0.MQ.MY,jI a0.MQ.M6,.bool a0.MQ.MX.null,jS a0.MQ.MX.data,.bool false,.string ⟨#[]⟩,jI 0,jI 0,jI 0,.slice none 0 0,.bool false,.slice none 0 0,.bool false,.string ⟨#[]⟩,jI 0,jI 0,.slice none 0 0]) 0 Z Pc Ot Z Z Z) Z (K3 1 Z (cs':= #[jI a0.MQ.M1,jI a0.MQ.MY,jI a0.MQ.M6,.bool a0.MQ.MX.null,jS a0.MQ.MX.data,.bool false,.string ⟨#[]⟩,jI 0,jI 0,jI 0,.slice none 0 0,.bool false,.slice none 0 0,.bool false,.string ⟨#[]⟩,jI 0,jI 0,.slice none 0 0]) Z .u Z Z Ot Z Z Z Z Z ?_))))));obtain rfl:=Nz h;refine KP (T.ret (Lj 2 bh (Ma (S:=S) 0 Z (LJ [0,0,0,0,0] Z (Lj 5 co (Ma (S:=S) 0 Z (LJ [0,0,0,0,0,0] Z (Lj 2 bR ?_))))))));exact Ma (S:=S) 0 Z (LJ [0,0,0,0,0,0,0] Z (Ll [6,2,1,0] P0 (LI (us:= #[jI a0.MQ.M1,jI a0.MQ.MY,jI a0.MQ.M6,.bool a0.MQ.MX.null,jS a0.MQ.MX.data,.bool false,.string ⟨#[]⟩,jI 0,jI 0,jI 0,.slice none 0 0,.bool false,.slice none 0 0,.bool false,.string ⟨#[]⟩,jI 0,jI 0,.slice none 0 0]) 4 Z Pc Ot Z Z) ⟨_,⟨_,_,_,_,_,_,Z,Z,Z⟩,Z⟩ QW (.inl Z)))
abbrev Pr (α:Type):=List UInt8->Nat->Except Int (α×Nat)
namespace Pr
variable {α β:Type}
def ret (a:α):Pr α:=fun _ q=> .ok (a,q)
def err (e:Int):Pr α:=fun _ _=> .error e
def bind (p:Pr α) (f:α->Pr β):Pr β:=fun s q=>match p s q with | .error e=> .error e | .ok (a,r)=>f a s r
theorem bind_ok {p:Pr α} {f:α->Pr β} {s:List UInt8} {q:Nat} {x:β×Nat} (h:p.bind f s q= .ok x): ∃ a r,p s q= .ok (a,r)/\f a s r= .ok x:=by
 unfold bind at h
 cases hp:p s q with
 | error e=>rw[hp] at h; exact nomatch h
 | ok y=>rw[hp] at h; exact⟨_,_,rfl,h⟩
theorem bind_of {p:Pr α} {f:α->Pr β} {s:List UInt8} {q r:Nat} {a:α} (h:p s q= .ok (a,r)):p.bind f s q=f a s r:=by unfold bind; rw[h]
theorem bind_err {p:Pr α} {f:α->Pr β} {s:List UInt8} {q:Nat} {e:Int} (h:p s q= .error e):p.bind f s q= .error e:=by unfold bind; rw[h]
end Pr
structure CR {α:Type} (op:I->Option (α×I)) (p:Pr α) (z:α):Prop where
 dead: ∀ st:I,st.err≠0->op st=some (z,st)
 bad: ∀ (s:List UInt8) (q:Nat) (e:Int),q<=s.length->p s q= .error e-> ∃ st:I,op ⟨s.drop q,q,0⟩=some (z,st)/\st.err=e/\e≠0
 good: ∀ (s:List UInt8) (q:Nat) (a:α) (r:Nat),q<=s.length->p s q= .ok (a,r)->op ⟨s.drop q,q,0⟩=some (a,⟨s.drop r,r,0⟩)
structure Sp {α:Type} (p:Pr α) (enc:α->List UInt8) (ok:α->Prop):Prop where
 spell: ∀ (s:List UInt8) (q:Nat) (a:α) (r:Nat),q<=s.length->p s q= .ok (a,r)->q<=r/\r<=s.length/\r=q+(enc a).length/\s.take r=s.take q++enc a/\ok a
 back: ∀ (s t:List UInt8) (q:Nat) (a:α),q<=s.length->ok a->s.drop q=enc a++t->p s q= .ok (a,q+(enc a).length)
theorem cz {s x t:List UInt8} {q:Nat} (h:s.drop q=x++t):s.drop (q+x.length)=t:=by rw[<- Om,h,List.drop_left]
theorem ro (s:List UInt8) (q k:Nat):s.take (q+k)=s.take q++(s.drop q).take k:=List.take_add
theorem Gt (q:Int) (c:UInt8) (k:Nat):be (q*256+c.toNat) (k+1)=be q k ++ [c]:=by
 have hc:=c.toNat_lt;unfold be;rw[List.range_succ,List.map_append];congr 1
 ·apply List.map_congr_left;intro i hi;have hi:=List.mem_range.1 hi;have e:k+1 - 1 - i=(k - 1 - i)+1:=by omega
  have e2:(q*256+(c.toNat:Int)) / 256=q:=by omega
  rw[e,show 8*(k - 1 - i+1)=8+8*(k - 1 - i) by omega,Int.pow_add,<- Int.ediv_ediv_of_nonneg QS,show (2 ^ 8:Int)=256 from rfl,e2]
 ·simp only[List.map_cons,List.map_nil,Nat.add_sub_cancel,Nat.sub_self,Nat.mul_zero,Int.pow_zero,Int.ediv_one];congr 1;apply UInt8.toNat_inj.1;simp[UInt8.toNat_ofNat'];omega
theorem Gu (cs:List UInt8): ∀ (q:Int) (k:Nat),be (cs.foldl (fun n d=>n*256+(d.toNat:Int)) q) (k+cs.length)=be q k++cs:=by
 induction cs with
 | nil=>intro q k; simp
 | cons c cs ih =>
  intro q k;have h:=ih (q*256+c.toNat) (k+1);rw[Gt] at h;rw[List.foldl_cons,NJ,show k+(cs.length+1)=k+1+cs.length by omega,h];simp
theorem Ib (c:UInt8):be (sgn c) 1 = [c]:=by
 have hc:=c.toNat_lt;unfold be;simp only[List.range_one,List.map_cons,List.map_nil,Nat.sub_self,Nat.mul_zero,Int.pow_zero,Int.ediv_one];congr 1;apply UInt8.toNat_inj.1;unfold sgn;simp[UInt8.toNat_ofNat'];split <;> omega
theorem D3 (l:List UInt8) (h:l ≠ []):be (ek l) l.length=l:=by
 cases l with
 | nil=>exact absurd rfl h
 | cons c cs =>
  have h:=Gu cs (sgn c) 1;rw[Ib] at h;rw[NJ,Nat.add_comm];exact h
def fy (k:Nat):Pr Int:=fun s q=>if s.length<q+k then .error 1 else .ok (ek ((s.drop q).take k),q+k)
theorem Ic (k:Nat) (h1:1<=k) (h8:k<=8) (kk:Int) (hk:kk=(k:Int)):CR (fun st=>d9 st kk) (fy k) 0:=by
 subst hk;refine⟨fun st h=> ?_,fun s q e hq h=> ?_,fun s q a r hq h=> ?_⟩
 ·rw[kq,oE h]
 ·unfold fy at h;split at h
  ·rename_i hl;injection h with h;subst h;refine⟨⟨s.drop q,q,1⟩,?_,rfl,by decide⟩;simp only[kq];rw[so _ _ _ QR QR (by rw[NO]; omega)]
  ·exact nomatch h
 ·unfold fy at h;split at h
  ·exact nomatch h
  ·rename_i hl;injection h with h;obtain⟨rfl,rfl⟩:=N9 h;simp only[kq];rw[AM _ _ _ h1 h8 (by rw[NO]; omega),Om]
theorem ei (k:Nat) (h1:1<=k) (h8:k<=8):Sp (fy k) (fun n=>be n k) (fun n=>bn n k=true):=by
 refine⟨fun s q a r hq h=> ?_,fun s t q a hq ha h=> ?_⟩
 ·unfold fy at h;split at h
  ·exact nomatch h
  ·rename_i hl;injection h with h;obtain⟨rfl,rfl⟩:=N9 h;have hn:((s.drop q).take k).length=k:=by rw[On,NO]; omega
   have hne:(s.drop q).take k ≠ []:=fun h0=>by rw[h0] at hn; simp at hn; omega
   have hb:be (ek ((s.drop q).take k)) k=(s.drop q).take k:=by
    have:=D3 _ hne
    rwa [hn] at this
   refine⟨by omega,by omega,by rw[aE],by rw[hb,ro],?_⟩;rw[<- EI _ _ h1 h8,hb]
 ·have hl:=congrArg List.length h;rw[NO,NE,aE] at hl;unfold fy;rw[QY QR,h,List.take_append_of_le_length (by rw[aE]; omega),List.take_of_length_le (by rw[aE]; omega),aE,BO _ _ h1 h8 ha]
def Ch (n:Int):Pr Bl:=fun s q=>if n= -1 then .ok (⟨true,[]⟩,q) else if n<0 then .error 4 else if (s.length:Int)<q+n then .error 1 else .ok (⟨false,(s.drop q).take n.toNat⟩,q+n.toNat)
theorem sI (n:Int) (s:List UInt8) (q:Nat) (hq:q<=s.length) :
 (∃ e st,Ch n s q= .error e/\mn ⟨s.drop q,q,0⟩ n=(⟨false,[]⟩,st)/\st.err=e/\e≠0)\/(∃ b r,Ch n s q= .ok (b,r)/\mn ⟨s.drop q,q,0⟩ n=(b,⟨s.drop r,r,0⟩)/\q<=r/\r<=s.length/\blen b=n/\bL b=true/\s.take r=s.take q++b.data/\r=q+b.data.length):=by
 have hd:(s.drop q).length=s.length - q:=NO;unfold Ch mn;rw[QY (show ¬ ((⟨s.drop q,q,0⟩:I).err≠0) by simp)];by_cases h1:n= -1
 ·rw[QX h1,QX h1];exact .inr ⟨_,_,rfl,rfl,N0 _,hq,h1.symm,rfl,by simp,rfl⟩
 rw[QY h1,QY h1];by_cases h2:n<0
 ·rw[QX h2,F1 _ _ _ h2];exact .inl ⟨_,_,rfl,rfl,rfl,by decide⟩
 rw[QY h2];by_cases h3:(s.length:Int)<q+n
 ·rw[QX h3,vN _ _ _ QR];exact .inl ⟨_,_,rfl,rfl,rfl,by decide⟩
 rw[QY h3];obtain⟨m,rfl⟩: ∃ m:Nat,n=(m:Int):=⟨n.toNat,by omega⟩;rw[OB,BU _ _ _ QR,Om];have hl:((s.drop q).take m).length=m:=by rw[On]; omega
 exact .inr ⟨_,_,rfl,rfl,by omega,by omega,by unfold blen; simp only[Bool.false_eq_true,if_false]; rw[hl],rfl,ro s q m,by rw[hl]⟩
def oq (k:Nat):Pr Bl:=(fy k).bind Ch
theorem Id {lenop:I->Int×I} {p:Pr Int} (hl:CR (fun st=>some (lenop st)) p 0) (hs: ∀ s q a r,q<=s.length->p s q= .ok (a,r)->r<=s.length):CR (fun st=>some (mn (lenop st).2 (lenop st).1)) (p.bind Ch) (⟨false,[]⟩:Bl):=by
 refine⟨fun st h=> ?_,fun s q e hq h=> ?_,fun s q a r hq h=> ?_⟩
 ·have h0:=Nz (hl.dead st h);rw[h0,ug h]
 ·cases hp:p s q with
  | error e' =>
   rw[Pr.bind_err hp] at h;injection h with h;subst h;obtain⟨st,h1,h2,h3⟩:=hl.bad s q e' hq hp;have h0:=Nz h1;rw[h0,ug (by simp only[h2]; exact h3)];exact⟨st,rfl,h2,h3⟩
  | ok x =>
   obtain⟨n,m⟩:=x;rw[Pr.bind_of hp] at h;have h0:=Nz (hl.good s q n m hq hp);rw[h0];rcases sI n s m (hs _ _ _ _ hq hp) with⟨e',st,g1,g2,g3,g4⟩ | ⟨b,r,g1,g2,_⟩
   ·rw[g1] at h;injection h with h;subst h;exact⟨st,by rw[g2],g3,g4⟩
   ·rw[g1] at h;exact nomatch h
 ·obtain⟨n,m,hp,h⟩:=Pr.bind_ok h;have h0:=Nz (hl.good s q n m hq hp);rw[h0];rcases sI n s m (hs _ _ _ _ hq hp) with⟨e',st,g1,g2,g3,g4⟩ | ⟨b,r',g1,g2,_⟩
  ·rw[g1] at h;exact nomatch h
  ·rw[g1] at h;injection h with h;obtain⟨rfl,rfl⟩:=N9 h;rw[g2]
theorem Ie {p:Pr Int} {enc:Int->List UInt8} {ok:Int->Prop} (hp:Sp p enc ok):Sp (p.bind Ch) (fun b=>enc (blen b)++b.data) (fun b=>ok (blen b)/\bL b=true):=by
 refine⟨fun s q a r hq h=> ?_,fun s t q a hq ha h=> ?_⟩
 ·obtain⟨n,m,h1,h⟩:=Pr.bind_ok h;obtain⟨a1,a2,a3,a4,a5⟩:=hp.spell _ _ _ _ hq h1;rcases sI n s m a2 with⟨e',st,g1,g2,g3,g4⟩ | ⟨b,r',g1,g2,b1,b2,b3,b4,b5,b6⟩
  ·rw[g1] at h;exact nomatch h
  ·rw[g1] at h;injection h with h;obtain⟨rfl,rfl⟩:=N9 h;refine⟨by omega,b2,by rw[NE,b3]; omega,by rw[b5,a4,b3,NI],by rw[b3]; exact a5,b4⟩
 ·rw[NI] at h;have h1:=hp.back s _ q _ hq ha.1 h;rw[Pr.bind_of h1,NE,<- Nat.add_assoc];have h2:=cz h;have hl:=congrArg List.length h;rw[NO,NE,NE] at hl;generalize (enc (blen a)).length=m at h2 hl ⊢;obtain⟨nu,d⟩:=a;unfold Ch blen
  cases nu with
  | true =>
   have:d = []:=by have:=ha.2; unfold bL at this; simpa using this
   subst this;rw[QX rfl,QX rfl];rfl
  | false =>
   simp only[Bool.false_eq_true,if_false];simp only at h2 hl;rw[QY QR,QY QR,h2,QY QR,OB,List.take_left]
theorem xL (k:Nat) (h1:1<=k) (h8:k<=8) (kk:Int) (hk:kk=(k:Int)):CR (fun st=>kW st kk) (oq k) (⟨false,[]⟩:Bl) :=
 Id (lenop:=fun st=>fk st kk) (Ic k h1 h8 kk hk) (fun s q a r hq h=>((ei k h1 h8).spell s q a r hq h).2.1)
theorem iz (k:Nat) (h1:1<=k) (h8:k<=8):Sp (oq k) (fun b=>be (blen b) k++b.data) (fun b=>bn (blen b) k=true/\bL b=true):=Ie (ei k h1 h8)
theorem n8 (bs:Int) (a:Nat): ∀ (l:List UInt8) (b acc i:Nat),vgo bs l (a+b) acc i=((vgo bs l b acc i).1,⟨(vgo bs l b acc i).2.rest,a+(vgo bs l b acc i).2.pos,(vgo bs l b acc i).2.err⟩)
 | [],b,acc,i=>rfl
 | c::l,b,acc,i=>by
  have ih:=n8 bs a l (b+1) (acc+c.toNat % 128*2 ^ (7*i)) (i+1);unfold vgo;split
  ·rfl
  ·split
   ·rw[Nat.add_assoc,ih]
   ·split
    ·rfl
    ·rfl
theorem xM (bs:Int): ∀ (l:List UInt8) (b acc i:Nat),(vgo bs l b acc i).2.err≠0->(vgo bs l b acc i).1=0
 | [],b,acc,i,h=>rfl
 | c::l,b,acc,i,h=>by
  have ih:=xM bs l (b+1) (acc+c.toNat % 128*2 ^ (7*i)) (i+1)
  revert h
  unfold vgo;split
  ·exact fun _=>rfl
  ·split
   ·exact ih
   ·split
    ·exact fun _=>rfl
    ·exact fun h=>absurd rfl h
def tF (bs:Int):Pr Nat:=fun s q=>if (vgo bs (s.drop q) 0 0 0).2.err=0 then .ok ((vgo bs (s.drop q) 0 0 0).1,q+(vgo bs (s.drop q) 0 0 0).2.pos) else .error (vgo bs (s.drop q) 0 0 0).2.err
theorem zK {bs:Int} {s:List UInt8} {q n r:Nat} (hq:q<=s.length) (h:tF bs s q= .ok (n,r)):fh bs ⟨s.drop q,q,0⟩=(n,⟨s.drop r,r,0⟩)/\q<=r/\r<=s.length/\r=q+(cO n).length/\s.take r=s.take q++cO n:=by
 have hd:(s.drop q).length=s.length - q:=NO;unfold tF at h;split at h
 ·rename_i he;injection h with h;obtain⟨h1,h2⟩:=N9 h;obtain⟨k,v,g1,g2,g3,g4,_⟩:=vgo_ok bs (s.drop q) 0 0 0 _ _ (rfl: _=((vgo bs (s.drop q) 0 0 0).1,(vgo bs (s.drop q) 0 0 0).2)) he;have g3':(vgo bs (s.drop q) 0 0 0).1=v:=by rw[g3]; simp
  rw[g3'] at h1;subst h1;rw[g1] at h2;simp only[Nat.zero_add] at h2;have hlk:(cO v).length=k:=by rw[g4,On]; omega
  refine⟨?_,by omega,by omega,by omega,?_⟩
  ·unfold fh;rw[QY (by simp)];have:=n8 bs q (s.drop q) 0 0 0;rw[Nat.add_zero] at this;simp only;rw[this,g3',g1,<- h2,Om];simp
  ·rw[<- h2,ro,g4]
 ·exact nomatch h
theorem Ig {bs:Int} {s:List UInt8} {q:Nat} {e:Int} (h:tF bs s q= .error e): ∃ st,fh bs ⟨s.drop q,q,0⟩=(0,st)/\st.err=e/\e≠0:=by
 unfold tF at h;split at h
 ·exact nomatch h
 ·rename_i he;injection h with h;subst h;have h0:=xM bs (s.drop q) 0 0 0 he;refine⟨(fh bs ⟨s.drop q,q,0⟩).2,?_,?_,he⟩
  ·unfold fh;rw[QY (by simp)];have:=n8 bs q (s.drop q) 0 0 0;rw[Nat.add_zero] at this;simp only;rw[this,h0]
  ·unfold fh;rw[QY (by simp)];have:=n8 bs q (s.drop q) 0 0 0;rw[Nat.add_zero] at this;simp only;rw[this]
theorem D4 {bs:Int} {st:I} (h:st.err≠0):fh bs st=(0,st):=QX h
theorem Ci (bs:Int) (hb:bs=32\/bs=64): ∀ (l:List UInt8) (b acc i:Nat),acc<2 ^ (7*i)->(vgo bs l b acc i).2.err=0->(vgo bs l b acc i).1<2 ^ bs.toNat
 | [],b,acc,i,ha,h=>by simp[vgo] at h
 | c::l,b,acc,i,ha,h=>by
  have ih:=Ci bs hb l (b+1) (acc+c.toNat % 128*2 ^ (7*i)) (i+1)
  revert h
  unfold vgo;split
  ·exact fun h=>absurd h (by simp)
  ·rename_i hc;obtain⟨h1,h2⟩:=sY bs hb acc (c.toNat % 128) i ha QR (Nat.mod_lt _ QS) (fun h=>hc (.inr h));split
   ·exact ih h1
   ·split
    ·exact fun h=>absurd h (by simp)
    ·exact fun _=>h2
theorem EU (bs:Int) (hb:bs=32\/bs=64):Sp (tF bs) cO (fun n=>n<2 ^ bs.toNat):=by
 refine⟨fun s q a r hq h=> ?_,fun s t q a hq ha h=> ?_⟩
 ·obtain⟨h1,h2,h3,h4,h5⟩:=zK hq h;refine⟨h2,h3,h4,h5,?_⟩;unfold tF at h;split at h
  ·rename_i he;injection h with h;rw[<- (N9 h).1];exact Ci bs hb _ _ _ _ (by simp) he
  ·exact nomatch h
 ·unfold tF;rw[h,JT bs QR a 0 0 0 t (by simpa using ha) QR];simp
def qH (bs:Int):Pr Int:=(tF bs).bind fun n=> .ret (oD n)
theorem Bh (bs:Int) (hb:bs=32\/bs=64):CR (fun st=>some (gx (fh bs st))) (qH bs) 0:=by
 refine⟨fun st h=> ?_,fun s q e hq h=> ?_,fun s q a r hq h=> ?_⟩
 ·rw[D4 h];simp[gx,oD]
 ·cases hp:tF bs s q with
  | error e' =>
   rw[qH,Pr.bind_err hp] at h;injection h with h;subst h;obtain⟨st,h1,h2,h3⟩:=Ig hp;exact⟨st,by rw[h1]; simp[gx,oD],h2,h3⟩
  | ok x =>
   rw[qH,Pr.bind_of (a:=x.1) (r:=x.2) hp] at h;exact nomatch h
 ·obtain⟨n,m,hp,h⟩:=Pr.bind_ok h;injection h with h;obtain⟨rfl,rfl⟩:=N9 h;rw[(zK hq hp).1];rfl
theorem lD (bs:Int) (hb:bs=32\/bs=64):Sp (qH bs) (fun n=>cO (bw n)) (fun n=>bw n<2 ^ bs.toNat):=by
 refine⟨fun s q a r hq h=> ?_,fun s t q a hq ha h=> ?_⟩
 ·obtain⟨n,m,hp,h⟩:=Pr.bind_ok h;injection h with h;obtain⟨rfl,rfl⟩:=N9 h;have:=(EU bs hb).spell _ _ _ _ hq hp
  rwa [Dr]
 ·rw[qH,Pr.bind_of ((EU bs hb).back s t q _ hq ha h)];simp only[Pr.ret,Dq]
def n9:Pr Bl:=(qH 32).bind Ch
theorem zL:CR cY n9 (⟨false,[]⟩:Bl) :=
 Id (lenop:=fun st=>gx (fh 32 st)) (Bh 32 (.inl rfl)) (fun s q a r hq h=>((lD 32 (.inl rfl)).spell s q a r hq h).2.1)
theorem kn:Sp n9 (fun b=>cO (bw (blen b))++b.data) (fun b=>bw (blen b)<2 ^ (32:Int).toNat/\bL b=true):=Ie (lD 32 (.inl rfl))
def qI (p:Pr Bl):Pr (List UInt8):=p.bind fun b=>if b.null then .err 4 else .ret b.data
theorem EV {op:I->Bl×I} {p:Pr Bl} (h:CR (fun st=>some (op st)) p (⟨false,[]⟩:Bl)) (hb: ∀ s q a r,q<=s.length->p s q= .ok (a,r)->bL a=true):CR (fun st=>some (wY (op st))) (qI p) []:=by
 refine⟨fun st hs=> ?_,fun s q e hq he=> ?_,fun s q a r hq hg=> ?_⟩
 ·have h0:=Nz (h.dead st hs);rw[h0];rfl
 ·cases hp:p s q with
  | error e' =>
   rw[qI,Pr.bind_err hp] at he;injection he with he;subst he;obtain⟨st,h1,h2,h3⟩:=h.bad s q _ hq hp;have h0:=Nz h1;rw[h0];exact⟨st,rfl,h2,h3⟩
  | ok x =>
   obtain⟨b,r⟩:=x;rw[qI,Pr.bind_of hp] at he;have h0:=Nz (h.good s q b r hq hp);rw[h0];have hbr:=hb _ _ _ _ hq hp;split at he
   ·rename_i hn;injection he with he;subst he;have:b.data = []:=by unfold bL at hbr; rw[hn] at hbr; simpa using hbr
    refine⟨⟨s.drop r,r,4⟩,?_,rfl,by decide⟩;unfold wY;simp only[hn,if_true,this];rfl
   ·exact nomatch he
 ·obtain⟨b,m,hp,hg⟩:=Pr.bind_ok hg;have h0:=Nz (h.good s q b m hq hp);rw[h0];split at hg
  ·exact nomatch hg
  ·rename_i hn;injection hg with hg;obtain⟨rfl,rfl⟩:=N9 hg;unfold wY;simp only[hn,Bool.false_eq_true,if_false]
theorem Bi {p:Pr Bl} {enc:Bl->List UInt8} {ok:Bl->Prop} (hp:Sp p enc ok):Sp (qI p) (fun d=>enc ⟨false,d⟩) (fun d=>ok ⟨false,d⟩):=by
 refine⟨fun s q a r hq h=> ?_,fun s t q a hq ha h=> ?_⟩
 ·obtain⟨b,m,h1,h⟩:=Pr.bind_ok h;have h2:=hp.spell _ _ _ _ hq h1;split at h
  ·exact nomatch h
  ·rename_i hn;injection h with h;obtain⟨rfl,rfl⟩:=N9 h;obtain⟨nu,d⟩:=b;simp only[Bool.not_eq_true] at hn;subst hn;exact h2
 ·rw[qI,Pr.bind_of (hp.back s t q _ hq ha h)];rfl
def xN:Pr (List UInt8):=qI (oq 2)
def zM:Pr (List UInt8):=qI n9
theorem J4:CR tc xN []:=EV (op:=fun st=>jA st 2) (xL 2 QS QS 2 rfl) (fun s q a r hq h=>((iz 2 QS QS).spell s q a r hq h).2.2.2.2.2)
theorem pw:Sp xN (fun d=>be (d.length:Int) 2++d) (fun d=>bn (d.length:Int) 2=true/\bL ⟨false,d⟩=true):=Bi (iz 2 QS QS)
theorem J5:CR xk zM []:=EV (op:=iK) zL (fun s q a r hq h=>(kn.spell s q a r hq h).2.2.2.2.2)
theorem rp:Sp zM (fun d=>cO (bw (d.length:Int))++d) (fun d=>bw (d.length:Int)<2 ^ (32:Int).toNat/\bL ⟨false,d⟩=true):=Bi kn
theorem oput_z (t l:List UInt8):jJ (t,0) l=(t++l,0):=rfl
theorem iA {n k:Int} (h:bn n k=true): -9223372036854775808<=n/\n<=9223372036854775807:=by
 unfold bn at h;simp only[Bool.and_eq_true,decide_eq_true_eq] at h;obtain⟨⟨⟨h1,h2⟩,h3⟩,h4⟩:=h;have:(2:Nat) ^ (8*k.toNat - 1)<=2 ^ 63:=Nat.pow_le_pow_right QS QR;have h5:((2:Int) ^ (8*k.toNat - 1))=((2 ^ (8*k.toNat - 1):Nat):Int):=by simp
 have h6:(2:Nat) ^ 63=9223372036854775808:=by decide
 omega
theorem J6 {t:List UInt8} {n k:Int} (hf:bn n k=true) (ht:t.length<=140737488355320):ed (t,0) n k=some (t++be n k.toNat,0):=by
 rw[Ho _ _ _ ⟨iA hf,by simp only; omega⟩];unfold AJ;rw[QX hf,oput_z]
structure CQ {α:Type} (op:I->Option (α×I)) (p:Pr α) (z:α):Prop where
 dead: ∀ st:I,st.err≠0->op st=some (z,st)
 run: ∀ (s:List UInt8) (q:Nat),q<=s.length->(∃ (e:Int) (st:I),p s q= .error e/\op ⟨s.drop q,q,0⟩=some (z,st)/\st.err=e/\st.err≠0)\/(∃ (a:α) (r:Nat),p s q= .ok (a,r)/\op ⟨s.drop q,q,0⟩=some (a,⟨s.drop r,r,0⟩)/\q<=r/\r<=s.length)
theorem CR.cq {α:Type} {op:I->Option (α×I)} {p:Pr α} {z:α} {enc:α->List UInt8} {ok:α->Prop} (h:CR op p z) (hs:Sp p enc ok):CQ op p z:=by
 refine⟨h.dead,fun s q hq=> ?_⟩
 cases hp:p s q with
 | error e =>
  obtain⟨st,h1,h2,h3⟩:=h.bad s q e hq hp;exact .inl ⟨e,st,rfl,h1,h2,by rw[h2]; exact h3⟩
 | ok x =>
  have:=hs.spell s q x.1 x.2 hq hp;exact .inr ⟨x.1,x.2,rfl,h.good s q x.1 x.2 hq hp,this.1,this.2.1⟩
theorem Cj (k:Nat) (h1:1<=k) (h8:k<=8) (kk:Int) (hk:kk=(k:Int)):CQ (fun st=>d9 st kk) (fy k) 0:=(Ic k h1 h8 kk hk).cq (ei k h1 h8)
theorem Q1:CQ (fun st=>d9 st 1) (fy 1) 0:=Cj 1 QS QS 1 rfl
theorem Q2:CQ (fun st=>d9 st 2) (fy 2) 0:=Cj 2 QS QS 2 rfl
theorem Q4:CQ (fun st=>d9 st 4) (fy 4) 0:=Cj 4 QS QS 4 rfl
theorem Q8:CQ (fun st=>d9 st 8) (fy 8) 0:=Cj 8 QS QS 8 rfl
theorem ll {st:I} {k:Int} (h:st.err≠0):d9 st k=some (0,st):=by rw[kq,oE h]
theorem tG (l:List UInt8) (q:Nat) (e:Int):dz ⟨l,q,0⟩ e=⟨l,q,e⟩:=rfl
theorem QF2:CQ (fun st=>kW st 2) (oq 2) (⟨false,[]⟩:Bl):=(xL 2 QS QS 2 rfl).cq (iz 2 QS QS)
theorem QF4:CQ (fun st=>kW st 4) (oq 4) (⟨false,[]⟩:Bl):=(xL 4 QS QS 4 rfl).cq (iz 4 QS QS)
theorem lT {st:I} {k:Int} (h:st.err≠0):kW st k=some (⟨false,[]⟩,st):=by rw[F6,Dy h]
theorem QV:CQ cY n9 (⟨false,[]⟩:Bl):=zL.cq kn
theorem QT:CQ tc xN []:=J4.cq pw
theorem QN:CQ xk zM []:=J5.cq rp
theorem otx_z (t:List UInt8):otx (t,0)=(t,0):=by simp[otx]
theorem jh {n:Int} {k:Int} (h:k=2\/k=4\/k=8) (h1: -32768<=n) (h2:n<=32767):bn n k=true:=by
 have e2:(2:Int) ^ (8*(2:Int).toNat - 1)=32768:=by decide
 have e4:(2:Int) ^ (8*(4:Int).toNat - 1)=2147483648:=by decide
 have e8:(2:Int) ^ (8*(8:Int).toNat - 1)=9223372036854775808:=by decide
 unfold bn;simp only[Bool.and_eq_true,decide_eq_true_eq];rcases h with rfl | rfl | rfl <;> omega
open Go.RowKit Go.Deep Go.ChangeShapes
set_option linter.unusedVariables false
def gX {α:Type} (E:Rd α) (W:α->Prop):Rd α:=⟨fun w S cs a=>E.P w S cs a/\W a,fun h k=>⟨E.mono h.1 k,h.2⟩,fun h k=>⟨E.move h.1 k,h.2⟩⟩
section
variable {H:Type} (enc:TypeId×Value->H) (P:Program) {α β:Type}
def eI (t:TypeId) (E:Rd α):Prop :=
 ∀ (w:World) (fuel:Nat) (cs:List Value) (x:DataW H×List MemPlace),DataW.trod enc P w 0 (fun _=>true) true fuel t cs=some x->(∀ m,m∈x.1.weights P t->m<=reachBytes)-> ∃ a,E.P w (fun k=>k<w.heap.size) cs a
def tH (off:Nat) (fs:List Field) (n:Nat) (E:Rd α):Prop :=
 ∀ (w:World) (fuel:Nat) (cs:List Value) (xs:List (DataW H×List MemPlace)),cs.length=off+n->xs.length=fs.length ->
  (∀ (i:Nat) (f:Field),fs[i]? = some f->DataW.trod enc P w 0 (fun _=>true) true fuel f.type ((cs.drop f.offset).take (P.cellsOf f.type))=xs[i]?) ->
  (∀ m,m∈DataW.weightsEach P (fs.map (·.type)) (xs.map (·.1))->m<=reachBytes)-> ∃ a,E.P w (fun k=>k<w.heap.size) (cs.drop off) a
variable {enc P}
theorem dP {t:TypeId} {E:Rd α} {E':Rd β} (f:α->β) (h:eI enc P t E) (hf: ∀ w S cs a,E.P w S cs a->E'.P w S cs (f a)):eI enc P t E':=by
 intro w fuel cs x hx hw;obtain⟨a,ha⟩:=h w fuel cs x hx hw;exact⟨f a,hf _ _ _ _ ha⟩
theorem vr {t:TypeId} {E:Rd α} {E':Rd β} (f:α->β) (h:Hf enc P t E) (hf: ∀ w S cs a,E.P w S cs a->E'.P w S cs (f a)):eI enc P t E':=by
 intro w fuel cs x hx hw;obtain⟨a,ha⟩:=h w fuel cs x hx;exact⟨f a,hf _ _ _ _ ha⟩
def wI (n:Int):Prop:= -9223372036854775808<=n/\n<=9223372036854775807
def wB (_:Bool):Prop:=True
def wS (l:List UInt8):Prop:=l.length<=140737488351232
def wU8 (n:Int):Prop:=0<=n/\n<=255
def wL (W:α->Prop) (l:List α):Prop:=l.length<=140737488351232/\ ∀ x,x∈l->W x
def wLb (bytes:Nat) (W:α->Prop) (l:List α):Prop:=l.length*bytes<=140737488351232/\ ∀ x,x∈l->W x
theorem eN {t:TypeId} (ht:P.underlying t=some (.int .i64)):eI enc P t (gX ea wI):=vr id (zl ht) (fun w S cs a h=>⟨h.1,Go.bounds_i64 h.2⟩)
theorem op_u8 {t:TypeId} (ht:P.underlying t=some (.int .u8)):eI enc P t (gX u8E wU8):=vr id (zl ht) (fun w S cs a h=>⟨h.1,Go.bounds_u8 h.2⟩)
theorem rq {t:TypeId} (ht:P.underlying t=some .bool):eI enc P t (gX boolE wB):=vr id (Dj ht) (fun w S cs a h=>⟨h,trivial⟩)
theorem vt {t:TypeId} (ht:P.underlying t=some .string):eI enc P t (gX mW wS):=by
 intro w fuel cs x h hw;obtain⟨s,rfl,rfl,hs⟩:=DataW.trod_string ht h;have:=hw s.data.toList.length (by simp[DataW.weights]);exact⟨s.data.toList,by cases s; simp[mW,ba],this⟩
theorem zN {size:Nat} {E:Rd α} {W:α->Prop} {w:World} {S:Nat->Prop} {cs:List Value} {l:List α} (h:(aq size (gX E W)).P w S cs l):(aq size E).P w S cs l/\ ∀ x,x∈l->W x:=by
 rcases h with⟨h,rfl⟩ | ⟨a,cap,h1,h2,h3,h4,h5⟩
 ·exact⟨.inl ⟨h,rfl⟩,fun x hx=>by simp at hx⟩
 ·refine⟨.inr ⟨a,cap,h1,h2,h3,h4,fun i x hx=> ?_⟩,fun x hx=> ?_⟩
  ·obtain⟨cs,k1,k2,k3⟩:=h5 i x hx;exact⟨cs,k1,k2,k3.1⟩
  ·obtain⟨i,hi⟩:=List.getElem?_of_mem hx;obtain⟨cs,k1,k2,k3⟩:=h5 i x hi;exact k3.2
theorem qJ {e:TypeId} {l:List (DataW H)} {d:DataW H} {m:Nat} (hd:d∈l) (hm:m∈d.weights P e):m∈DataW.weightsAll P e l:=by
 induction l with
 | nil=>simp at hd
 | cons x l ih =>
  simp only[DataW.weightsAll,List.mem_append];rcases List.mem_cons.1 hd with rfl | h
  ·exact .inl hm
  ·exact .inr (ih h)
theorem op_slice {t e:TypeId} {E:Rd α} {W:α->Prop} (size bytes:Nat) (ht:P.underlying t=some (.slice e)) (hc:P.cellsOf e=size) (hb:P.bytesOf e=bytes) (hp:0<size) (hpb:0<bytes) (he:eI enc P e (gX E W)):eI enc P t (gX (aq size E) (wL W)):=by
 intro w fuel cs x h hw;rcases open_slice ht h with⟨rfl,_⟩ | ⟨a,len,cap,m,n,D,Pl,rfl,_,hl,hm,hmm,rfl,hx⟩
 ·exact⟨[],.inl ⟨rfl,rfl⟩,by simp,fun x hx=>by simp at hx⟩
 have hlm:len<=m:=by rw[hmm]; split <;> omega
 have hlen:len<=140737488351232:=by
  have h1:=hw ((((List.range len).map D).length+((List.range (m - len)).map fun j=>D (len+j)).length)*P.bytesOf e) (by simp only[DataW.weights,ht]; exact List.mem_cons_self);rw[hb] at h1;simp only[NU,List.length_range] at h1;have h2:(len+(m - len))*1<=(len+(m - len))*bytes:=Nat.mul_le_mul_left _ hpb;have h3:reachBytes=140737488351232:=rfl;omega
 have hwe: ∀ i,i<len-> ∀ z,z∈(D i).weights P e->z<=reachBytes:=by
  intro i hi z hz;apply hw;simp only[DataW.weights,ht];exact List.mem_cons_of_mem _ (List.mem_append.2 (.inl (qJ (d:=D i) (List.mem_map.2 ⟨i,List.mem_range.2 hi,rfl⟩) hz)))
 rw[hc] at hx;have each: ∀ i:Fin len,∃ y:α,∃ cs,cs.length=size/\(∀ j,j<size->w.cell? (a.add (i.val*size+j))=cs[j]?)/\(gX E W).P w (fun k=>k<w.heap.size) cs y:=by
  intro i;obtain⟨cs',h1,h2⟩:=hx i.val (by have:=i.isLt; omega);obtain⟨_,h3,h4⟩:=World.cells?_some h1;obtain⟨y,hy⟩:=he _ _ _ _ h2 (hwe i.val i.isLt);refine⟨y,cs',h3,fun j hj=> ?_,hy⟩;rw[<- h4 j hj,add_add]
 obtain⟨f,hf⟩:=Classical.axiomOfChoice each;have hs:(aq size (gX E W)).P w (fun k=>k<w.heap.size) [.slice (some a) len cap] ((List.finRange len).map f):=by
  refine .inr ⟨a,cap,by simp,by simpa using hl,hm,fun hz=> ?_,?_⟩
  ·simp at hz;obtain⟨cs',k1,k2,k3⟩:=hf ⟨0,by omega⟩;have:=k2 0 hp;rw[List.getElem?_eq_getElem QR] at this;simp only[World.cell?] at this;rw[block_add] at this;rcases Nat.lt_or_ge a.block w.heap.size with h | h
   ·exact h
   ·rw[Array.getElem?_eq_none h] at this;simp at this
  ·intro i x hx;rw[List.getElem?_map,Option.map_eq_some_iff] at hx;obtain⟨j,hj,rfl⟩:=hx;have e:j.val=i:=by
    obtain⟨h1,h2⟩:=ND hj;rw[<- h2];simp
   rw[<- e];exact hf j
 obtain⟨k1,k2⟩:=zN hs;exact⟨_,k1,by simpa using hlen,k2⟩
theorem zO {t e:TypeId} {E:Rd α} {W:α->Prop} (size bytes:Nat) (ht:P.underlying t=some (.slice e)) (hc:P.cellsOf e=size) (hb:P.bytesOf e=bytes) (hp:0<size) (hpb:0<bytes) (he:eI enc P e (gX E W)):eI enc P t (gX (aq size E) (wLb bytes W)):=by
 intro w fuel cs x h hw;rcases open_slice ht h with⟨rfl,_⟩ | ⟨a,len,cap,m,n,D,Pl,rfl,_,hl,hm,hmm,rfl,hx⟩
 ·exact⟨[],.inl ⟨rfl,rfl⟩,by rw[Of,Nat.zero_mul]; exact NY _,fun x hx=>by simp at hx⟩
 have hlm:len<=m:=by rw[hmm]; split <;> omega
 have hlen:len*bytes<=140737488351232:=by
  have h1:=hw ((((List.range len).map D).length+((List.range (m - len)).map fun j=>D (len+j)).length)*P.bytesOf e) (by simp only[DataW.weights,ht]; exact List.mem_cons_self);rw[hb] at h1;simp only[NU,List.length_range] at h1;have h2:len*bytes<=(len+(m - len))*bytes:=Nat.mul_le_mul_right _ QR;have h3:reachBytes=140737488351232:=rfl;omega
 have hwe: ∀ i,i<len-> ∀ z,z∈(D i).weights P e->z<=reachBytes:=by
  intro i hi z hz;apply hw;simp only[DataW.weights,ht];exact List.mem_cons_of_mem _ (List.mem_append.2 (.inl (qJ (d:=D i) (List.mem_map.2 ⟨i,List.mem_range.2 hi,rfl⟩) hz)))
 rw[hc] at hx;have each: ∀ i:Fin len,∃ y:α,∃ cs,cs.length=size/\(∀ j,j<size->w.cell? (a.add (i.val*size+j))=cs[j]?)/\(gX E W).P w (fun k=>k<w.heap.size) cs y:=by
  intro i;obtain⟨cs',h1,h2⟩:=hx i.val (by have:=i.isLt; omega);obtain⟨_,h3,h4⟩:=World.cells?_some h1;obtain⟨y,hy⟩:=he _ _ _ _ h2 (hwe i.val i.isLt);refine⟨y,cs',h3,fun j hj=> ?_,hy⟩;rw[<- h4 j hj,add_add]
 obtain⟨f,hf⟩:=Classical.axiomOfChoice each;have hs:(aq size (gX E W)).P w (fun k=>k<w.heap.size) [.slice (some a) len cap] ((List.finRange len).map f):=by
  refine .inr ⟨a,cap,by simp,by simpa using hl,hm,fun hz=> ?_,?_⟩
  ·simp at hz;obtain⟨cs',k1,k2,k3⟩:=hf ⟨0,by omega⟩;have:=k2 0 hp;rw[List.getElem?_eq_getElem QR] at this;simp only[World.cell?] at this;rw[block_add] at this;rcases Nat.lt_or_ge a.block w.heap.size with h | h
   ·exact h
   ·rw[Array.getElem?_eq_none h] at this;simp at this
  ·intro i x hx;rw[List.getElem?_map,Option.map_eq_some_iff] at hx;obtain⟨j,hj,rfl⟩:=hx;have e:j.val=i:=by
    obtain⟨h1,h2⟩:=ND hj;rw[<- h2];simp
   rw[<- e];exact hf j
 obtain⟨k1,k2⟩:=zN hs;exact⟨_,k1,by simpa using hlen,k2⟩
theorem dl (off:Nat):tH enc P off [] 0 unitRd:=by
 intro w fuel cs xs hl _ _ _;exact⟨(),List.drop_of_length_le QR⟩
theorem aN {off n:Nat} (m:Nat) {f:Field} {fs:List Field} {A:Rd α} {B:Rd β} (ho:f.offset=off) (hc:P.cellsOf f.type=m) (hA:eI enc P f.type A) (hB:tH enc P (off+m) fs n B) :
 tH enc P off (f::fs) (m+n) (pairRd A B):=by
 intro w fuel cs xs hl hx h hw
 cases xs with
 | nil=>simp at hx
 | cons x xs =>
  have h0:=h 0 f rfl;rw[ho,hc] at h0;simp only[List.map_cons,DataW.weightsEach,List.mem_append] at hw;obtain⟨a,ha⟩:=hA _ _ _ _ h0 (fun m hm=>hw m (.inl hm));obtain⟨b,hb⟩:=hB w fuel cs xs QR (by simpa using hx) (fun i f' hf=>by simpa using h (i+1) f' (by simpa using hf)) (fun m hm=>hw m (.inr hm));refine⟨(a,b),(cs.drop off).take m,cs.drop (off+m),?_,ha,hb⟩;rw[<- Om,List.take_append_drop]
theorem cU {t:TypeId} {fs:Array Field} {n:Nat} {E:Rd α} (ht:P.underlying t=some (.struct fs)) (hc:P.cellsOf t=n) (h:tH enc P 0 fs.toList n E):eI enc P t E:=by
 intro w fuel cs x hx hw;obtain⟨xs,k,rfl,rfl,hl,hxl,hf⟩:=DataW.trod_struct ht hx;simp only[DataW.weights,ht] at hw;obtain⟨a,ha⟩:=h w k cs xs QR (by simpa using hxl) (fun i f hi=>hf i f (by simpa using hi)) hw;exact⟨a,by simpa using ha⟩
theorem weights_in: ∀ {ts:List TypeId} {ds:List (DataW H)} (j:Nat) {t:TypeId} {d:DataW H} {m:Nat},ts[j]? = some t->ds[j]? = some d->m∈d.weights P t->m∈DataW.weightsEach P ts ds
 | [],_,j,_,_,_,ht,_,_=>by simp at ht
 | _ :: _,[],j,_,_,_,_,hd,_=>by simp at hd
 | t::ts,d::ds,0,_,_,_,ht,hd,hm=>by
  obtain rfl:t= _:=by simpa using ht
  obtain rfl:d= _:=by simpa using hd
  simp only[DataW.weightsEach,List.mem_append];exact .inl hm
 | t::ts,d::ds,j+1,_,_,_,ht,hd,hm=>by
  simp only[DataW.weightsEach,List.mem_append];exact .inr (weights_in j (by simpa using ht) (by simpa using hd) hm)
theorem slice_cells {size:Nat} {E:Rd α} {w:World} {S:Nat->Prop} {cs:List Value} {l:List α} (h:(aq size E).P w S cs l): ∃ A c,cs = [.slice A l.length c]:=by
 rcases h with⟨h,rfl⟩ | ⟨a,cap,h,_⟩
 ·exact⟨none,0,h⟩
 ·exact⟨_,_,h⟩
theorem opens_arg1 {t e:TypeId} {E:Rd α} {r:Reach} {b0:Nat} {w:World} {v:Value} {d:DataW H} {p:List MemPlace} (ht:P.underlying t=some (.slice e)) (hval:Value.okWide P w r b0 t v) (h:eI enc P t E)
 (hv:DataW.Trod enc P w 0 (fun _=>true) true t v d p) (hw: ∀ m,m∈d.weights P t->m<=reachBytes): ∃ a,E.P w (fun k=>k<w.heap.size) [v] a:=by
 obtain⟨a0,len,cap,rfl⟩:=Go.WideShapes.okWide_slice ht hval;obtain⟨fuel,hf⟩:=hv;exact h _ _ _ _ hf hw
theorem RX.reads_all {E:Rd α} {w:World} {cs:List Value} {a:α} (h:E.P w (fun k=>k<w.heap.size) cs a):(RX.of E cs a).reads w (fun _=>False):=⟨_,h,fun k hk=>⟨fun h=>h,hk⟩⟩
end
open Go.RowKit
def xO (x:Bl):Prop:=wB x.null/\wS x.data
def Ih (x:Hd):Prop:=wS x.Nd/\xO x.M3
def xP (x:Rec):Prop:=wI x.Nk/\wI x.Na/\xO x.Nd/\xO x.M3/\(wL Ih) x.M2
def EW (x:fO):Prop:=wI x.M1/\wI x.MY/\wI x.M6/\xO x.MX
def kM (x:Top):Prop:=wS x.MV/\(wL wI) x.MP
def wf_Val (x:Val):Prop:=wI x.MO/\wI x.MR/\wI x.MT/\wI x.Nv/\(wL kM) x.MN/\wI x.Nx/\wI x.Nw
def ot (x:Bat):Prop:=wI x.Ng/\wI x.M9/\wB x.Nq/\wB x.Ni/\wB x.Nl/\wI x.Nf/\wI x.M4/\wI x.Nn/\wI x.MO/\wI x.MR/\wI x.M5/\(wL xP) x.MS
def zS (x:bY):Prop:=wS x.MU/\wI x.MO/\wI x.MR/\wB x.M7
def oa (x:aR):Prop:=wI x.MO/\wI x.MR/\wB x.M7/\(wL kM) x.MN/\wI x.M0
def qK (x:bd):Prop:=xO x.MU/\wI x.MT/\wI x.MO/\wI x.MR
def nC (x:aY):Prop:=wI x.M8/\(wL ot) x.MW
def mh (x:aJ):Prop:=wS x.MV/\(wLb 32 nC) x.MP
def gt (x:aA):Prop:=xO x.MU/\wI x.Nc/\wI x.MT/\(wLb 40 mh) x.MN
def zT (x:bZ):Prop:=wS x.MU/\wI x.MO/\wI x.MR/\(wL kM) x.MN
def iE (x:ay):Prop:=EW x.MQ/\qK x.Nh/\zT x.Nj/\zS x.Np/\(wL oa) x.Nb/\gt x.MZ
set_option linter.unusedSimpArgs false
theorem J7 (k v:Int):iY k v=some (gV k v):=by
 unfold iY gV gU;by_cases h0:k=0
 ·subst h0;by_cases h3:v=3
  ·simp[h3]
  ·by_cases h4:v=4
   ·simp[h4]
   ·simp[h3,h4];omega
 rw[QY h0,QY h0];by_cases h1:k=22
 ·subst h1;by_cases h3:v=0
  ·simp[h3]
  ·by_cases h4:v=1
   ·simp[h4]
   ·simp[h3,h4];omega
 rw[QY h1,QY h1];by_cases h2:k=27
 ·subst h2;by_cases h3:v=0
  ·simp[h3]
  ·by_cases h4:v=1
   ·simp[h4]
   ·simp[h3,h4];omega
 rw[QY h2];by_cases h5:k=24
 ·subst h5;by_cases h3:v=0
  ·simp[h3]
  ·simp[h3];omega
 rw[QY h5,QY h5];by_cases h6:k=26
 ·subst h6;by_cases h3:v=0
  ·simp[h3]
  ·simp[h3];omega
 rw[QY h6,QY h6,QY h2];simp
theorem Ck {k v:Int} (h:gV k v=0):bn k 2=true/\bn v 2=true:=by
 unfold gV gU at h;have e:(2:Int) ^ (8*(2:Int).toNat - 1)=32768:=by decide
 have hv: ∀ n:Int,-100<=n->n<=100->bn n 2=true:=fun n h1 h2=>by
  unfold bn;simp only[Bool.and_eq_true,decide_eq_true_eq];omega
 by_cases h0:k=0
 ·simp[h0] at h;exact⟨hv _ QR QR,hv _ QR QR⟩
 by_cases h1:k=22
 ·simp[h1] at h;exact⟨hv _ QR QR,hv _ QR QR⟩
 by_cases h2:k=24
 ·simp[h2] at h;exact⟨hv _ QR QR,hv _ QR QR⟩
 by_cases h3:k=26
 ·simp[h3] at h;exact⟨hv _ QR QR,hv _ QR QR⟩
 by_cases h4:k=27
 ·simp[h4] at h;exact⟨hv _ QR QR,hv _ QR QR⟩
 simp[h0,h1,h2,h3,h4] at h
def px (h:fO):List UInt8:=be h.M1 2++(be h.MY 2++(be h.M6 4++(be (blen h.MX) 2++h.MX.data)))
def okH (h:fO):Prop:=gV h.M1 h.MY=0/\bn h.M6 4=true/\bn (blen h.MX) 2=true/\bL h.MX=true
def Cl:Pr fO:=(fy 2).bind fun k=>(fy 2).bind fun v=>if gV k v=0 then (fy 4).bind fun n=>(oq 2).bind fun c=> .ret ⟨k,v,n,c⟩ else .err (gV k v)
theorem J8:Sp Cl px okH:=by
 refine⟨fun s q a r hq h=> ?_,fun s t q a hq ha h=> ?_⟩
 ·obtain⟨k,q1,h1,h⟩:=Pr.bind_ok h;obtain⟨v,q2,h2,h⟩:=Pr.bind_ok h;split at h
  ·rename_i hv;obtain⟨n,q3,h3,h⟩:=Pr.bind_ok h;obtain⟨c,q4,h4,h⟩:=Pr.bind_ok h;injection h with h;obtain⟨rfl,rfl⟩:=N9 h;obtain⟨a1,a2,a3,a4,a5⟩:=(ei 2 QS QS).spell _ _ _ _ hq h1;obtain⟨b1,b2,b3,b4,b5⟩:=(ei 2 QS QS).spell _ _ _ _ a2 h2;obtain⟨c1,c2,c3,c4,c5⟩:=(ei 4 QS QS).spell _ _ _ _ b2 h3;obtain⟨d1,d2,d3,d4,d5⟩:=(iz 2 QS QS).spell _ _ _ _ c2 h4;refine⟨by omega,d2,?_,?_,hv,c5,d5.1,d5.2⟩
   ·simp only[px,NE] at *;omega
   ·rw[d4,c4,b4,a4];simp only[px,NI]
  ·exact nomatch h
 ·obtain⟨a1,a2,a3,a4⟩:=ha;obtain⟨f1,f2⟩:=Ck a1;have hl:=congrArg List.length h;simp only[px,NO,NE,aE] at hl;simp only[px,NI] at h;have g1:=(ei 2 QS QS).back _ _ _ _ hq f1 h;have h:=cz h;have g2:=(ei 2 QS QS).back _ _ _ _ (by rw[aE]; omega) f2 h;have h:=cz h;have g3:=(ei 4 QS QS).back _ _ _ _ (by simp only[aE]; omega) a2 h;have h:=cz h;rw[<- NI] at h;have g4:=(iz 2 QS QS).back _ _ _ _ (by simp only[aE]; omega) ⟨a3,a4⟩ h;rw[Cl,Pr.bind_of g1,Pr.bind_of g2,QX a1,Pr.bind_of g3,Pr.bind_of g4];simp only[Pr.ret,px,NE,Nat.add_assoc]
def zHead:fO:=⟨0,0,0,⟨false,[]⟩⟩
theorem Q_head:CQ gW Cl zHead:=by
 refine⟨fun st h=> ?_,fun s q hq=> ?_⟩
 ·unfold gW;simp only[ll h,lT h,bA,NA,QY h];rfl
 ·unfold gW Cl;rcases Q2.run s q hq with⟨e,st,p1,g1,x1,y1⟩ | ⟨k,q1,p1,g1,n1,l1⟩
  ·refine .inl ⟨e,st,Pr.bind_err p1,?_,x1,y1⟩;simp only[g1,ll y1,lT y1,bA,NA,QY y1];rfl
  simp only[g1,NA,Pr.bind_of p1];rcases Q2.run s q1 l1 with⟨e,st,p2,g2,x2,y2⟩ | ⟨v,q2,p2,g2,n2,l2⟩
  ·refine .inl ⟨e,st,Pr.bind_err p2,?_,x2,y2⟩;simp only[g2,ll y2,lT y2,bA,NA,QY y2];rfl
  simp only[g2,NA,Pr.bind_of p2,bA,D0,if_true];by_cases hv:gV k v=0
  ·simp only[QX hv];rcases Q4.run s q2 l2 with⟨e,st,p3,g3,x3,y3⟩ | ⟨n,q3,p3,g3,n3,l3⟩
   ·refine .inl ⟨e,st,Pr.bind_err p3,?_,x3,y3⟩;simp only[g3,ll y3,lT y3,bA,NA,QY y3];rfl
   simp only[g3,NA,Pr.bind_of p3];rcases QF2.run s q3 l3 with⟨e,st,p4,g4,x4,y4⟩ | ⟨c,q4,p4,g4,n4,l4⟩
   ·refine .inl ⟨e,st,Pr.bind_err p4,?_,x4,y4⟩;simp only[g4,ll y4,lT y4,bA,NA,QY y4];rfl
   refine .inr ⟨⟨k,v,n,c⟩,q4,by rw[Pr.bind_of p4]; rfl,?_,by omega,l4⟩;simp only[g4,NA,if_true]
  ·simp only[QY hv];have y:(⟨s.drop q2,q2,gV k v⟩:I).err≠0:=hv;refine .inl ⟨gV k v,⟨s.drop q2,q2,gV k v⟩,rfl,?_,rfl,hv⟩;simp only[dB,tG,NA,ll y,lT y,bA,QY hv];rfl
theorem Gv (h:iL) (hk: -9223372036854775808<=h.M1/\h.M1<=9223372036854775807) (hv: -9223372036854775808<=h.MY/\h.MY<=9223372036854775807) (hn: -9223372036854775808<=h.M6/\h.M6<=9223372036854775807) (hc:h.MX.data.length<=140737488355328):lN h=some (px ⟨h.M1,h.MY,h.M6,h.MX⟩):=by
 unfold lN;rw[bT _ _ ⟨hk,by decide,by decide⟩,bT _ _ ⟨hv,by decide,by decide⟩];simp only[NA];rw[QX (by simp only[aE]; omega),bT _ _ ⟨hn,by decide,by decide⟩];simp only[NA];rw[QX (by simp only[aE,NE]; omega),ka _ _ ⟨by decide,by decide,hc⟩];simp only[NA];rw[QX (by simp only[aE,NE]; omega)];simp only[px,NI];rfl
def tI (h:fO):Int:=if gV h.M1 h.MY=0 then (if bn h.M6 4=true then (if bL h.MX=true then (if (h.MX.data.length:Int)>32767 then 4 else 0) else 4) else 11) else gV h.M1 h.MY
theorem Gw (h:iL):lM h=some (tI ⟨h.M1,h.MY,h.M6,h.MX⟩):=by
 unfold lM tI;rw[J7,NA];simp only[eU,decide_eq_true_eq];by_cases h1:gV h.M1 h.MY=0
 ·rw[QX h1,QX h1];by_cases h2: -2147483648<=h.M6/\h.M6<=2147483647
  ·rw[QX h2,QY QR,QY QR];obtain⟨k,v,n,nu,d⟩:=h;simp only;unfold bL;cases nu
   ·simp;split <;> rfl
   ·by_cases hd:d = []
    ·subst hd;simp
    ·simp[hd]
  ·rw[QY h2];by_cases h3:h.M6 < -2147483648
   ·rw[QX h3]
   ·rw[QY h3,QX QR]
 ·rw[QY h1,QY h1]
theorem Ii {h:fO} (hc:tI h=0):okH h:=by
 unfold tI at hc;split at hc
 ·rename_i h1;split at hc
  ·rename_i h2;split at hc
   ·rename_i h3;split at hc
    ·exact absurd hc QS
    ·exact⟨h1,h2,jh (.inl rfl) (by unfold blen; split <;> omega) (by unfold blen; split <;> omega),h3⟩
   ·exact absurd hc QS
  ·exact absurd hc QS
 ·rename_i h1;exact absurd hc h1
def tJ (each:Nat) (n:Int):Pr Int:=fun s q=>if n<0 then .error 4 else if 0<each/\((s.length - q:Nat):Int) / each<n then .error 1 else .ok (n,q)
def qL (k each:Nat):Pr Int:=(fy k).bind (tJ each)
theorem mR {k each:Nat} (h1:1<=k) (h8:k<=8) {s:List UInt8} {q r:Nat} {n:Int} (hq:q<=s.length) (h:qL k each s q= .ok (n,r)):0<=n/\(0<each->n*each<=((s.length - r:Nat):Int))/\r=q+k/\r<=s.length/\s.take r=s.take q++be n k/\bn n k=true:=by
 obtain⟨m,r',h2,h⟩:=Pr.bind_ok h;obtain⟨a1,a2,a3,a4,a5⟩:=(ei k h1 h8).spell _ _ _ _ hq h2;unfold tJ at h;split at h
 ·exact nomatch h
 ·rename_i hn;split at h
  ·exact nomatch h
  ·rename_i he;injection h with h;obtain⟨rfl,rfl⟩:=N9 h;rw[aE] at a3;refine⟨by omega,fun hz=> ?_,a3,a2,a4,a5⟩;have:m<=((s.length - r':Nat):Int) / each:=by
    rcases Int.lt_or_le (((s.length - r':Nat):Int) / each) m with g | g
    ·exact absurd ⟨hz,g⟩ he
    ·exact g
   exact (Int.le_ediv_iff_mul_le QR).1 this
theorem Gx {k each:Nat} (h1:1<=k) (h8:k<=8) {s t:List UInt8} {q:Nat} {n:Int} (hq:q<=s.length) (hf:bn n k=true) (hn:0<=n) (h:s.drop q=be n k++t) (hl:0<each->n*each<=t.length):qL k each s q= .ok (n,q+k):=by
 have g:=(ei k h1 h8).back s t q n hq hf h;rw[aE] at g;rw[qL,Pr.bind_of g];unfold tJ;have hlen:=congrArg List.length h;rw[NO,NE,aE] at hlen;rw[QY QR,QY];rintro⟨hz,hc⟩;have:=(Int.le_ediv_iff_mul_le (show (0:Int)<each by omega)).2 (hl hz);rw[show s.length - (q+k)=t.length by omega] at hc;omega
theorem tK (k each:Nat) (h1:1<=k) (h8:k<=8) (kk ee:Int) (hk:kk=(k:Int)) (he:ee=(each:Int)) (h9:ee<=1000):CQ (fun st=>jB st kk ee) (qL k each) 0:=by
 subst hk;refine⟨fun st h=> ?_,fun s q hq=> ?_⟩
 ·show jB st k ee= _;rw[uh _ _ _ ⟨by omega,by omega⟩];unfold l6;rw[oE h];simp only;rw[QX h]
 ·show (∃ e st,qL k each s q= .error e/\jB ⟨s.drop q,q,0⟩ k ee=some (0,st)/\ _/\ _)\/(∃ a r,qL k each s q= .ok (a,r)/\jB ⟨s.drop q,q,0⟩ k ee=some (a,⟨s.drop r,r,0⟩)/\q<=r/\r<=s.length);rw[uh _ _ _ ⟨by omega,by omega⟩];unfold l6;rcases (Cj k h1 h8 k rfl).run s q hq with⟨e,st,p1,g1,x1,y1⟩ | ⟨n,r,p1,g1,n1,l1⟩
  ·rw[kq] at g1;have g1:=Nz g1;obtain⟨u1,u2⟩:=N9 g1;rw[u2];exact .inl ⟨e,st,Pr.bind_err p1,by rw[QX y1],x1,y1⟩
  ·rw[kq] at g1;have g1:=Nz g1;have u3:fk ⟨s.drop q,q,0⟩ k=(n,⟨s.drop r,r,0⟩):=g1;rw[u3,qL,Pr.bind_of p1];simp only;rw[QY (by simp)];unfold tJ;by_cases hn:n<0
   ·rw[QX hn,QX hn];exact .inl ⟨4,_,rfl,rfl,rfl,by simp[dz]⟩
   ·rw[QY hn,QY hn,NO,he];by_cases hc:0<each/\((s.length - r:Nat):Int) / each<n
    ·rw[QX hc,QX ⟨by omega,hc.2⟩];exact .inl ⟨1,_,rfl,rfl,rfl,by simp[dz]⟩
    ·rw[QY hc,QY (fun h=>hc ⟨by omega,h.2⟩)];exact .inr ⟨n,r,rfl,rfl,n1,l1⟩
theorem nD {st:I} {k e:Int} (h:st.err≠0) (hk:0<=k/\k<=1000) (he:0<=e/\e<=1000):jB st k e=some (0,st):=by
 rw[uh _ _ _ ⟨by omega,by omega⟩];unfold l6;rw[oE h];simp only;rw[QX h]
def jG {α:Type} (p:Pr α):Nat->Pr (List α)
 | 0=> .ret []
 | n+1=>p.bind fun a=>(jG p n).bind fun l=> .ret (a::l)
def bb {α:Type} (enc:α->List UInt8):List α->List UInt8
 | [] => []
 | a::l=>enc a++bb enc l
theorem xQ {α:Type} {p:Pr α} {enc:α->List UInt8} {ok:α->Prop} (hp:Sp p enc ok): ∀ n:Nat,Sp (jG p n) (bb enc) (fun l=>l.length=n/\ ∀ x,x∈l->ok x)
 | 0=>by
  refine⟨fun s q a r hq h=> ?_,fun s t q a hq ha h=> ?_⟩
  ·injection h with h;obtain⟨rfl,rfl⟩:=N9 h;exact⟨N0 _,hq,rfl,by simp[bb],rfl,fun x h=>nomatch h⟩
  ·obtain rfl:=List.length_eq_zero_iff.1 ha.1;rfl
 | n+1=>by
  have ih:=xQ hp n;refine⟨fun s q a r hq h=> ?_,fun s t q a hq ha h=> ?_⟩
  ·obtain⟨x,q1,h1,h⟩:=Pr.bind_ok h;obtain⟨l,q2,h2,h⟩:=Pr.bind_ok h;injection h with h;obtain⟨rfl,rfl⟩:=N9 h;obtain⟨a1,a2,a3,a4,a5⟩:=hp.spell _ _ _ _ hq h1;obtain⟨b1,b2,b3,b4,b5,b6⟩:=ih.spell _ _ _ _ a2 h2;refine⟨by omega,b2,by rw[bb,NE]; omega,by rw[b4,a4,bb,NI],by rw[NJ,b5],fun y hy=> ?_⟩;rcases List.mem_cons.1 hy with rfl | hy
   ·exact a5
   ·exact b6 y hy
  ·obtain⟨ha1,ha2⟩:=ha
   cases a with
   | nil=>exact absurd ha1 (by simp)
   | cons x l =>
    rw[bb,NI] at h;have hl:=congrArg List.length h;rw[NO,NE] at hl;have g1:=hp.back _ _ _ _ hq (ha2 x (.head _)) h;have g2:=ih.back _ _ _ _ QR ⟨by simpa using ha1,fun y hy=>ha2 y (.tail _ hy)⟩ (cz h);rw[jG,Pr.bind_of g1,Pr.bind_of g2];simp only[Pr.ret,bb,NE,Nat.add_assoc]
theorem ob {α:Type} {enc:α->List UInt8} {ok:α->Prop} {each:Nat} (he: ∀ x,ok x->each<=(enc x).length): ∀ l:List α,(∀ x,x∈l->ok x)->l.length*each<=(bb enc l).length
 | [],h=>by simp
 | x::l,h=>by
  have:=ob he l (fun y hy=>h y (.tail _ hy));have:=he x (h x (.head _));rw[bb,NE,NJ,Nat.add_mul];omega
def mi {α:Type} (k each:Nat) (p:Pr α):Pr (List α):=(qL k each).bind fun n=>jG p n.toNat
theorem xR {α:Type} {p:Pr α} {enc:α->List UInt8} {ok:α->Prop} (k each:Nat) (h1:1<=k) (h8:k<=8) (hp:Sp p enc ok) (he: ∀ x,ok x->each<=(enc x).length):Sp (mi k each p) (fun l=>be (l.length:Int) k++bb enc l) (fun l=>bn (l.length:Int) k=true/\ ∀ x,x∈l->ok x):=by
 refine⟨fun s q a r hq h=> ?_,fun s t q a hq ha h=> ?_⟩
 ·obtain⟨n,q1,g1,h⟩:=Pr.bind_ok h;obtain⟨a1,a2,a3,a4,a5,a6⟩:=mR h1 h8 hq g1;obtain⟨b1,b2,b3,b4,b5,b6⟩:=(xQ hp n.toNat).spell _ _ _ _ a4 h;have hn:(a.length:Int)=n:=by omega
  refine⟨by omega,b2,by rw[NE,aE]; omega,by rw[b4,a5,hn,NI],by rw[hn]; exact a6,b6⟩
 ·rw[NI] at h;have hl:=congrArg List.length h;rw[NO,NE,NE,aE] at hl;have g1:=Gx (each:=each) h1 h8 hq ha.1 QR h (fun _=>by
   have:=ob he a ha.2;rw[NE,Int.natCast_add,<- Int.natCast_mul];omega)
  have h2:=cz h;rw[aE] at h2;have g2:=(xQ hp a.length).back _ _ _ _ QR ⟨rfl,ha.2⟩ h2;rw[mi,Pr.bind_of g1,OB,g2,NE,aE];simp only[Nat.add_assoc]
structure CB {α:Type} (op:I->Option (α×I)) (p:Pr α) (z:α):Prop where
 dead: ∀ st:I,st.err≠0->op st=some (z,st)
 run: ∀ (s:List UInt8) (q:Nat),s.length<=1000000->q<=s.length->(∃ (e:Int) (st:I),p s q= .error e/\op ⟨s.drop q,q,0⟩=some (z,st)/\st.err=e/\st.err≠0)\/(∃ (a:α) (r:Nat),p s q= .ok (a,r)/\op ⟨s.drop q,q,0⟩=some (a,⟨s.drop r,r,0⟩)/\q<=r/\r<=s.length)
theorem CQ.cb {α:Type} {op:I->Option (α×I)} {p:Pr α} {z:α} (h:CQ op p z):CB op p z:=⟨h.dead,fun s q _ hq=>h.run s q hq⟩
theorem Sp.congr {α:Type} {p:Pr α} {enc enc':α->List UInt8} {ok ok':α->Prop} (h:Sp p enc ok) (hok: ∀ a,ok a↔ok' a) (he: ∀ a,ok a->enc a=enc' a):Sp p enc' ok':=by
 refine⟨fun s q a r hq hp=> ?_,fun s t q a hq ha hd=> ?_⟩
 ·obtain⟨h1,h2,h3,h4,h5⟩:=h.spell s q a r hq hp;rw[<- he a h5];exact⟨h1,h2,h3,h4,(hok a).1 h5⟩
 ·have ha':=(hok a).2 ha;rw[<- he a ha'] at hd ⊢;exact h.back s t q a hq ha' hd
theorem Sp.seq {α β:Type} {p:Pr α} {f:α->Pr β} {π:β->α} {enc1:α->List UInt8} {enc2:β->List UInt8} {ok1:α->Prop} {ok2:β->Prop} (hp:Sp p enc1 ok1) (hf: ∀ a,Sp (f a) enc2 (fun x=>ok2 x/\π x=a)) :
 Sp (p.bind f) (fun x=>enc1 (π x)++enc2 x) (fun x=>ok1 (π x)/\ok2 x):=by
 refine⟨fun s q x r hq h=> ?_,fun s t q x hq hx hd=> ?_⟩
 ·obtain⟨a,m,h1,h2⟩:=Pr.bind_ok h;obtain⟨a1,a2,a3,a4,a5⟩:=hp.spell s q a m hq h1;obtain⟨b1,b2,b3,b4,b5,b6⟩:=(hf a).spell s m x r a2 h2;subst b6;exact⟨by omega,b2,by rw[NE]; omega,by rw[b4,a4,NI],a5,b5⟩
 ·rw[NI] at hd;have h1:=hp.back s _ q (π x) hq hx.1 hd;have hl:=congrArg List.length hd;rw[NO,NE] at hl;have h2:=(hf (π x)).back s t _ x QR ⟨hx.2,rfl⟩ (cz hd);rw[Pr.bind_of h1,h2,NE,Nat.add_assoc]
theorem xS {β:Type} (x0:β) (c:Prop) [Decidable c] (e:Int):Sp (if c then Pr.ret x0 else Pr.err e) (fun _ => []) (fun x=>c/\x=x0):=by
 refine⟨fun s q x r hq h=> ?_,fun s t q x hq hx hd=> ?_⟩
 ·by_cases hc:c
  ·rw[QX hc] at h;injection h with h;obtain⟨rfl,rfl⟩:=N9 h;exact⟨N0 _,hq,rfl,by simp,hc,rfl⟩
  ·rw[QY hc] at h;exact nomatch h
 ·rw[QX hx.1,hx.2];rfl
theorem Ij {β:Type} (x0:β):Sp (Pr.ret x0) (fun _ => []) (fun x=>x=x0):=by
 refine⟨fun s q x r hq h=> ?_,fun s t q x hq hx hd=> ?_⟩
 ·injection h with h;obtain⟨rfl,rfl⟩:=N9 h;exact⟨N0 _,hq,rfl,by simp,rfl⟩
 ·rw[hx];rfl
theorem CB.bind {α β:Type} {op1:I->Option (α×I)} {p:Pr α} {z1:α} {op2:α->I->Option (β×I)} {f:α->Pr β} {z:β} (W:α->Prop) (h:CB op1 p z1)
 (hs: ∀ s q a r,s.length<=1000000->q<=s.length->p s q= .ok (a,r)->W a) (hz:W z1) (hf: ∀ a,W a->CB (op2 a) (f a) z):CB (fun st=>(op1 st).bind fun (a,st1)=>op2 a st1) (p.bind f) z:=by
 refine⟨fun st hd=> ?_,fun s q hl hq=> ?_⟩
 ·show (op1 st).bind _= _;rw[h.dead st hd,NA];exact (hf z1 hz).dead st hd
 ·rcases h.run s q hl hq with⟨e,st,p1,g1,x1,y1⟩ | ⟨a,r,p1,g1,n1,l1⟩
  ·refine .inl ⟨e,st,Pr.bind_err p1,?_,x1,y1⟩;show (op1 _).bind _= _;rw[g1,NA];exact (hf z1 hz).dead st y1
  ·have g2:((op1 ⟨s.drop q,q,0⟩).bind fun (a,st1)=>op2 a st1)=op2 a ⟨s.drop r,r,0⟩:=by rw[g1,NA]
   show (∃ e st,p.bind f s q= _/\((op1 ⟨s.drop q,q,0⟩).bind fun (a,st1)=>op2 a st1)= _/\ _/\ _)\/(∃ x m,p.bind f s q= _/\((op1 ⟨s.drop q,q,0⟩).bind fun (a,st1)=>op2 a st1)= _/\ _/\ _);rw[g2,Pr.bind_of p1];rcases (hf a (hs s q a r hl hq p1)).run s r hl l1 with⟨e,st,p2,k2,x2,y2⟩ | ⟨b,m,p2,k2,n2,l2⟩
   ·exact .inl ⟨e,st,p2,k2,x2,y2⟩
   ·exact .inr ⟨b,m,p2,k2,by omega,l2⟩
theorem CB.congr {α:Type} {op op':I->Option (α×I)} {p:Pr α} {z:α} (h:CB op p z) (he: ∀ st,op' st=op st):CB op' p z:=⟨fun st hd=>(he st).trans (h.dead st hd),fun s q hl hq=>by rw[he]; exact h.run s q hl hq⟩
theorem CB.pr {α:Type} {op:I->Option (α×I)} {p p':Pr α} {z:α} (h:CB op p z) (he:p=p'):CB op p' z:=he ▸ h
theorem qM {k:Nat} (h1:1<=k) (h8:k<=8): ∀ (s:List UInt8) (q:Nat) (a:Int) (r:Nat),s.length<=1000000->q<=s.length->fy k s q= .ok (a,r)-> -9223372036854775808<=a/\a<=9223372036854775807 :=
 fun s q a r _ hq h=>iA ((ei k h1 h8).spell s q a r hq h).2.2.2.2
def tL:Pr Bool:=(fy 1).bind fun n=>if n=0 then .ret false else if n=1 then .ret true else .err 11
def jv (b:Bool):List UInt8:=be (if b=true then 1 else 0) 1
theorem EX:Sp tL jv (fun _=>True):=by
 refine⟨fun s q x r hq h=> ?_,fun s t q x hq hx hd=> ?_⟩
 ·obtain⟨n,m,h1,h⟩:=Pr.bind_ok h;obtain⟨a1,a2,a3,a4,a5⟩:=(ei 1 QS QS).spell s q n m hq h1;by_cases h0:n=0
  ·rw[QX h0] at h;injection h with h;obtain⟨rfl,rfl⟩:=N9 h;subst h0;exact⟨a1,a2,a3,a4,trivial⟩
  ·rw[QY h0] at h;by_cases h1:n=1
   ·rw[QX h1] at h;injection h with h;obtain⟨rfl,rfl⟩:=N9 h;subst h1;exact⟨a1,a2,a3,a4,trivial⟩
   ·rw[QY h1] at h;exact nomatch h
 ·cases x with
  | true =>
   have:=(ei 1 QS QS).back s t q 1 hq QS hd;rw[tL,Pr.bind_of this];rfl
  | false =>
   have:=(ei 1 QS QS).back s t q 0 hq QS hd;rw[tL,Pr.bind_of this];rfl
theorem Bj {α:Type} {op:I->Option (α×I)} {x0 z:α} {e:Int} (h: ∀ st:I,st.err≠0->op st=some (z,st)) (h0: ∀ st:I,st.err=0->op st=some (if e=0 then (x0,st) else (z,dz st e))):CB op (if e=0 then .ret x0 else .err e) z:=by
 refine⟨h,fun s q hl hq=> ?_⟩;by_cases he:e=0
 ·rw[QX he,h0 _ rfl,QX he];exact .inr ⟨x0,q,rfl,rfl,N0 _,hq⟩
 ·rw[QY he,h0 _ rfl,QY he];exact .inl ⟨e,_,rfl,rfl,rfl,he⟩
def nE:Pr Top:=xN.bind fun nm=>(mi 4 4 (fy 4)).bind fun ps=> .ret ⟨nm,ps⟩
def lU (t:Top):List UInt8:=(be (t.MV.length:Int) 2++t.MV)++(be (t.MP.length:Int) 4++bb (fun n=>be n 4) t.MP)
def okT (t:Top):Prop:=bn (t.MV.length:Int) 2=true/\bn (t.MP.length:Int) 4=true/\ ∀ n,n∈t.MP->bn n 4=true
theorem Cm:Sp (mi 4 4 (fy 4)) (fun l=>be (l.length:Int) 4++bb (fun n=>be n 4) l) (fun l=>bn (l.length:Int) 4=true/\ ∀ n,n∈l->bn n 4=true):=xR 4 4 QS QS (ei 4 QS QS) (fun x _=>by rw[aE]; decide)
theorem Ik:Sp nE lU okT:=by
 refine⟨fun s q a r hq h=> ?_,fun s t q a hq ha h=> ?_⟩
 ·obtain⟨k,q1,h1,h⟩:=Pr.bind_ok h;obtain⟨v,q2,h2,h⟩:=Pr.bind_ok h;injection h with h;obtain⟨rfl,rfl⟩:=N9 h;obtain⟨a1,a2,a3,a4,a5⟩:=pw.spell _ _ _ _ hq h1;obtain⟨b1,b2,b3,b4,b5⟩:=Cm.spell _ _ _ _ a2 h2;exact⟨by omega,b2,by simp only[lU,NE] at *; omega,by rw[b4,a4]; simp only[lU,NI],a5.1,b5⟩
 ·obtain⟨a1,a2,a3⟩:=ha;have hl:=congrArg List.length h;rw[lU,NI] at h;have g1:=pw.back _ _ _ _ hq ⟨a1,rfl⟩ h;have h:=cz h;have g2:=Cm.back _ _ _ _ (by simp only[lU,NO,NE,aE] at *; omega) ⟨a2,a3⟩ h;rw[nE,Pr.bind_of g1,Pr.bind_of g2];simp only[Pr.ret,lU,NE,Nat.add_assoc]
theorem EY (t:Top) (h:okT t):6<=(lU t).length:=by simp only[lU,NE,aE]; omega
theorem vu:Sp (mi 4 6 nE) (fun l=>be (l.length:Int) 4++bb lU l) (fun l=>bn (l.length:Int) 4=true/\ ∀ t,t∈l->okT t):=xR 4 6 QS QS Ik EY
theorem zU (n:Int) (s:List UInt8) (hn:n<=1000000): ∀ (m fuel k:Nat) (acc:List Int) (q:Nat),((k+m:Nat):Int)=n->m<fuel->q+4*m<=s.length->acc.length=k ->
 ∃ l,jG (fy 4) m s q= .ok (l,q+4*m)/\cR n fuel k acc ⟨s.drop q,q,0⟩=some (k+m,acc++l,⟨s.drop (q+4*m),q+4*m,0⟩)
 | 0,fuel+1,k,acc,q,h1,h2,h3,h4=>⟨[],rfl,by rw[cR,QY QR,NW]; rfl⟩
 | m+1,fuel+1,k,acc,q,h1,h2,h3,h4=>by
  rw[cR,QX QR];rcases Q4.run s q QR with⟨e,st,p1,g1,x1,y1⟩ | ⟨a,r,p1,g1,n1,l1⟩
  ·unfold fy at p1;rw[QY QR] at p1;exact nomatch p1
  ·have hr:r=q+4:=by
    unfold fy at p1;rw[QY QR] at p1;injection p1 with p1;exact (N9 p1).2.symm
   subst hr;rw[g1];simp only[NA];rw[QX QR,QX QR];obtain⟨l,e1,e2⟩:=zU n s hn m fuel (k+1) (acc ++ [a]) (q+4) QR QR QR (by rw[NE,h4]; rfl);have eq:q+4+4*m=q+4*(m+1):=by omega
   rw[eq] at e1 e2;refine⟨a::l,?_,?_⟩
   ·rw[jG,Pr.bind_of p1,Pr.bind_of e1];rfl
   ·rw[e2,NI];rw[show k+1+m=k+(m+1) by omega];rfl
theorem zV (n:Int) (s:List UInt8) (hs:s.length<=1000000) (hn:n<=1000000): ∀ (m fuel k:Nat) (acc:List Top) (q:Nat),((k+m:Nat):Int)=n->m<fuel->q<=s.length->acc.length=k ->
 (∃ (e:Int) (st:I),jG nE m s q= .error e/\ci n fuel [] acc k ⟨s.drop q,q,0⟩=some (.ret ([],st))/\st.err=e/\st.err≠0) \/
 (∃ l r,jG nE m s q= .ok (l,r)/\ci n fuel [] acc k ⟨s.drop q,q,0⟩=some (.go ([],acc++l,k+m,⟨s.drop r,r,0⟩))/\q<=r/\r<=s.length)
 | 0,fuel+1,k,acc,q,h1,h2,h3,h4=> .inr ⟨[],q,rfl,by rw[ci,QY QR,NW]; rfl,N0 _,h3⟩
 | m+1,fuel+1,k,acc,q,h1,h2,h3,h4=>by
  rw[ci,QX QR];have died: ∀ (st:I) (t:List UInt8),st.err≠0->((jB st 4 4).bind fun (x24,st25)=>(cR x24 ((x24).toNat+1) 0 [] st25).bind fun (k57,y58,st61)=>if (acc.length+1)*40<=140737488355328 then ((iF st61).bind fun (x66,st67)=>if x66=0 then (if -9223372036854775808<=((k:Int)+1)/\((k:Int)+1)<=9223372036854775807 then (ci n fuel [] (acc ++ [(⟨t,y58⟩:Top)]) (k+1) st67) else none) else (some (Lp.ret ([],st67)))) else none)=some (Lp.ret ([],st)):=by
   intro st t h;rw[nD h QS QS];simp only[NA];rw[show (0:Int).toNat+1=1 from rfl,cR,QY QS];simp only[NA,bA];rw[QX QR,QY h]
  rcases QT.run s q h3 with⟨e,st,p1,g1,x1,y1⟩ | ⟨nm,q1,p1,g1,n1,l1⟩
  ·left;refine⟨e,st,by rw[jG,Pr.bind_err (show nE s q= .error e from Pr.bind_err p1)],?_,x1,y1⟩;rw[g1];simp only[NA];exact died st [] y1
  rw[g1];simp only[NA];rcases (tK 4 4 QS QS 4 4 rfl rfl QS).run s q1 l1 with⟨e,st,p2,g2,x2,y2⟩ | ⟨c,q2,p2,g2,n2,l2⟩
  ·left;refine⟨e,st,by rw[jG,Pr.bind_err]; rw[nE,Pr.bind_of p1,Pr.bind_err]; rw[mi,Pr.bind_err p2],?_,x2,y2⟩;have:=died st nm y2;rw[nD y2 QS QS] at this;rw[g2];exact this
  obtain⟨c1,c2,c3,c4,c5,c6⟩:=mR QS QS l1 p2;have c2:=c2 QS;rw[g2];simp only[NA];obtain⟨ps,e1,e2⟩:=zU c s QR c.toNat (c.toNat+1) 0 [] q2 QR QR QR rfl;rw[e2];simp only[NA,bA,if_true];rw[QX QR,QX QR,NV];have ht:nE s q= .ok (⟨nm,ps⟩,q2+4*c.toNat):=by
   rw[nE,Pr.bind_of p1,Pr.bind_of (a:=ps) (r:=q2+4*c.toNat) (by rw[mi,Pr.bind_of p2,e1])];rfl
  rw[jG,Pr.bind_of ht];rcases zV n s hs hn m fuel (k+1) (acc ++ [⟨nm,ps⟩]) (q2+4*c.toNat) QR QR QR (by rw[NE,h4]; rfl) with⟨e,st,r1,r2,r3,r4⟩ | ⟨l,r,r1,r2,r3,r4⟩
  ·exact .inl ⟨e,st,by rw[Pr.bind_err r1],r2,r3,r4⟩
  ·refine .inr ⟨⟨nm,ps⟩::l,r,by rw[Pr.bind_of r1]; rfl,?_,by omega,r4⟩;rw[r2,NI,show k+1+m=k+(m+1) by omega];rfl
theorem Cn:CB dW (mi 4 6 nE) []:=by
 refine⟨fun st h=> ?_,fun s q hs hq=> ?_⟩
 ·unfold dW;rw[nD h QS QS];simp only[NA];rw[show (0:Int).toNat+1=1 from rfl,ci,QY QS];rfl
 ·unfold dW;rcases (tK 4 6 QS QS 4 6 rfl rfl QS).run s q hq with⟨e,st,p1,g1,x1,y1⟩ | ⟨c,q1,p1,g1,n1,l1⟩
  ·refine .inl ⟨e,st,Pr.bind_err p1,?_,x1,y1⟩;rw[g1];simp only[NA];rw[show (0:Int).toNat+1=1 from rfl,ci,QY QS];rfl
  ·obtain⟨c1,c2,c3,c4,c5,c6⟩:=mR QS QS hq p1;have c2:=c2 QS;rw[g1,mi,Pr.bind_of p1];simp only[NA];rcases zV c s hs QR c.toNat (c.toNat+1) 0 [] q1 QR QR l1 rfl with⟨e,st,r1,r2,r3,r4⟩ | ⟨l,r,r1,r2,r3,r4⟩
   ·exact .inl ⟨e,st,r1,by rw[r2]; rfl,r3,r4⟩
   ·refine .inr ⟨l,r,r1,?_,by omega,r4⟩;rw[r2,NV];rfl
theorem dp {α:Type} {l:List α} {k:Nat} {x:α} {t:List α} (h:l.drop k=x::t):l[k]? = some x/\l.drop (k+1)=t/\l.length=k+1+t.length:=by
 have hl:=congrArg List.length h;rw[NO,NJ] at hl;refine⟨?_,?_,by omega⟩
 ·have:=congrArg (fun z=>z[0]?) h;simpa using this
 ·rw[<- Om,h];rfl
theorem fg {α:Type} {l:List α} {k:Nat} (h:l.drop k = []):l.length<=k:=List.drop_eq_nil_iff.1 h
def up {α:Type} (lt:α->α->Bool):Option α->List α->Bool
 | _,[]=>true
 | none,x::t=>up lt (some x) t
 | some p,x::t=>lt p x && up lt (some x) t
def ltI (a b:Int):Bool:=decide (a<b)
theorem zW (a0:List Int) (hb:a0.length<=140737488355328): ∀ (t:List Int) (p:Int) (k fuel:Nat) (y:Bool),a0.drop k=p::t->t.length<fuel-> ∃ z,cV a0 fuel y ((k:Int)+1)=some (if up ltI (some p) t=true then .go (y,z) else .ret false)
 | [],p,k,fuel+1,y,h,hf=>by
  obtain⟨h1,h2,h3⟩:=dp h;refine⟨(k:Int)+1,?_⟩;rw[cV,QY (by simp only[Of] at h3; omega)];rfl
 | x::t,p,k,fuel+1,y,h,hf=>by
  obtain⟨h1,h2,h3⟩:=dp h;obtain⟨g1,g2,g3⟩:=dp h2;rw[NJ] at hf h3;obtain⟨z,hz⟩:=zW a0 hb t x (k+1) fuel y h2 QR;rw[cV,QX QR,QX QR,QX QR,show ((k:Int)+1 - 1).toNat=k by omega,h1];rw[NA];rw[QX QR,show ((k:Int)+1).toNat=k+1 by omega,g1];rw[NA];by_cases hc:p<x
  ·rw[QY QR,QX QR];refine⟨z,?_⟩;rw[show ((k:Int)+1+1)=((k+1:Nat):Int)+1 by omega,hz];simp only[up,ltI,hc,decide_true,Bool.true_and]
  ·rw[QX QR];refine⟨0,?_⟩;simp only[up,ltI,hc,decide_false,Bool.false_and,Bool.false_eq_true,if_false]
theorem J9 (a0:List Int) (hb:a0.length<=140737488355328):gj a0=some (up ltI none a0):=by
 unfold gj
 cases a0 with
 | nil=>rfl
 | cons x t =>
  obtain⟨z,hz⟩:=zW (x::t) hb t x 0 ((((x::t).length:Int) - 1).toNat+1) false rfl (by simp only[NJ]; omega);rw[show (((0:Nat):Int)+1)=1 from rfl] at hz;rw[hz];simp only[up];cases up ltI (some x) t <;> rfl
theorem zX (a0:List (List UInt8)) (hb:a0.length<=140737488355328): ∀ (t:List (List UInt8)) (p:List UInt8) (k fuel:Nat) (y:Bool),a0.drop k=p::t->t.length<fuel-> ∃ z,cn a0 fuel y ((k:Int)+1)=some (if up Op.bytesLess (some p) t=true then .go (y,z) else .ret false)
 | [],p,k,fuel+1,y,h,hf=>by
  obtain⟨h1,h2,h3⟩:=dp h;refine⟨(k:Int)+1,?_⟩;rw[cn,QY (by simp only[Of] at h3; omega)];rfl
 | x::t,p,k,fuel+1,y,h,hf=>by
  obtain⟨h1,h2,h3⟩:=dp h;obtain⟨g1,g2,g3⟩:=dp h2;rw[NJ] at hf h3;obtain⟨z,hz⟩:=zX a0 hb t x (k+1) fuel y h2 QR;rw[cn,QX QR,QX QR,QX QR,show ((k:Int)+1 - 1).toNat=k by omega,h1];simp only[NA];rw[QX QR,show ((k:Int)+1).toNat=k+1 by omega,g1];simp only[NA];by_cases hc:Op.bytesLess p x=true
  ·rw[QX hc,QX QR];refine⟨z,?_⟩;rw[show ((k:Int)+1+1)=((k+1:Nat):Int)+1 by omega,hz];simp only[up,hc,Bool.true_and]
  ·rw[QY hc];refine⟨0,?_⟩;simp only[up,hc,Bool.false_and,Bool.false_eq_true,if_false]
theorem Ka (a0:List (List UInt8)) (hb:a0.length<=140737488355328):fd a0=some (up Op.bytesLess none a0):=by
 unfold fd
 cases a0 with
 | nil=>rfl
 | cons x t =>
  obtain⟨z,hz⟩:=zX (x::t) hb t x 0 ((((x::t).length:Int) - 1).toNat+1) false rfl (by simp only[NJ]; omega);rw[show (((0:Nat):Int)+1)=1 from rfl] at hz;rw[hz];simp only[up];cases up Op.bytesLess (some x) t <;> rfl
def okn (n:Int):Bool:=decide (0<=n) && decide (n<=2147483647)
def xT (l:List Int):Bool:=l.all okn && up ltI none l && !l.isEmpty
def lV (t:Top):Bool:= !t.MV.isEmpty && decide (t.MV.length<=32767) && xT t.MP
def pz (l:List Top):Bool:=l.all lV && up Op.bytesLess none (l.map (·.MV))
theorem xU (y:Bool): ∀ l:List Int,(∀ n,n∈l->wI n)->eK l y=some (if l.all okn=true then .go y else .ret false)
 | [],h=>rfl
 | n::l,h=>by
  have hn:=h n (.head _);rw[eK,gL _ _ hn,eU,List.all_cons];by_cases h1:n<0
  ·have:okn n=false:=by unfold okn; simp; omega
   rw[QX h1,this];rfl
  ·rw[QY h1,NA];by_cases h2:n<=2147483647
   ·have:okn n=true:=by unfold okn; simp; omega
    rw[QX (by simp; omega),xU y l (fun m hm=>h m (.tail _ hm)),this,Bool.true_and]
   ·have:okn n=false:=by unfold okn; simp; omega
    rw[QY (by simp; omega),this];rfl
theorem Il (l:List Int) (hw:wL wI l):jM l=some (xT l):=by
 unfold jM xT;rw[xU false l hw.2]
 cases hall:l.all okn with
 | false=>rfl
 | true =>
  simp only[if_true,NA,Bool.true_and]
  cases l with
  | nil=>rfl
  | cons x t =>
   rw[QX (by simp only[NJ]; omega),J9 _ (by have:=hw.1; omega)];simp
theorem tM (y:Bool): ∀ (l:List Top) (acc:List (List UInt8)),(∀ t,t∈l->kM t)->acc.length+l.length<=1000000->dL l y acc=some (if l.all lV=true then .go (y,acc++l.map (·.MV)) else .ret false)
 | [],acc,h,hl=>by simp[dL]
 | t::l,acc,h,hl=>by
  have ht:=h t (.head _);rw[NJ] at hl;rw[dL,Il _ ht.2,List.all_cons];by_cases h1:t.MV = []
  ·have:lV t=false:=by simp[lV,h1]
   rw[QX h1,this];rfl
  ·rw[QY h1];by_cases h2:(t.MV.length:Int)>32767
   ·have:lV t=false:=by simp[lV,show ¬ t.MV.length<=32767 by omega]
    rw[QX h2,this];rfl
   ·rw[QY h2,NA];have hne:t.MV.isEmpty=false:=by cases hh:t.MV with | nil=>exact absurd hh h1 | cons c u=>rfl
    have ho:lV t=xT t.MP:=by simp[lV,hne,show t.MV.length<=32767 by omega]
    rw[ho]
    cases hp:xT t.MP with
    | false=>rfl
    | true =>
     rw[QX rfl,QX QR,tM y l _ (fun u hu=>h u (.tail _ hu)) (by rw[NE]; simp only[NJ,Of]; omega),Bool.true_and,List.map_cons,NI];rfl
theorem D5 (l:List Top) (hw: ∀ t,t∈l->kM t) (hl:l.length<=1000000):fe l=some (pz l):=by
 unfold fe pz;rw[tM false l [] hw (by simpa using hl)]
 cases hall:l.all lV with
 | false=>rfl
 | true =>
  simp only[if_true,NA,Bool.true_and,NV];rw[Ka _ (by rw[NU]; omega)];rfl
theorem zY (a b:List UInt8) (ha:a.length<=1000000) (y:Bool): ∀ (u v:List UInt8) (k fuel:Nat),a.drop k=u->b.drop k=v->v.length<fuel->k<=a.length->k<=b.length->(∃ r,cF a b fuel y k=some (.ret r)/\r=Op.bytesLess u v)\/(∃ z,cF a b fuel y k=some (.go z)/\Op.bytesLess u v=decide (a.length<b.length))
 | [],v,k,fuel+1,hu,hv,hf,h1,h2=>by
  have:=fg hu;right;refine⟨(y,k),by rw[cF,QY QR],?_⟩
  cases v with
  | nil =>
   have:=fg hv;simp[Op.bytesLess];omega
  | cons c v =>
   have:=(dp hv).2.2;simp[Op.bytesLess];omega
 | c::u,[],k,fuel+1,hu,hv,hf,h1,h2=>by
  have g1:=fg hv;have g2:=(dp hu).2.2;right;refine⟨(y,k),by rw[cF,QX QR,QY QR],?_⟩;simp[Op.bytesLess];omega
 | c::u,d::v,k,fuel+1,hu,hv,hf,h1,h2=>by
  obtain⟨u1,u2,u3⟩:=dp hu;obtain⟨v1,v2,v3⟩:=dp hv;rw[NJ] at hf;rw[cF,QX QR,QX QR,u1,v1];simp only[NA];by_cases hc:(c.toNat:Int)=(d.toNat:Int)
  ·have hcd:c=d:=UInt8.toNat_inj.1 QR;rw[QX hc,QX QR];have:=zY a b ha y u v (k+1) fuel u2 v2 QR QR QR;have hb:Op.bytesLess (c::u) (d::v)=Op.bytesLess u v:=by
    rw[hcd];simp[Op.bytesLess]
   rw[hb];exact this
  ·rw[QY hc];left;have hcd:c≠d:=fun h=>hc (by rw[h]);by_cases hl:(c.toNat:Int)<(d.toNat:Int)
   ·refine⟨true,by rw[QX hl],?_⟩;have:c<d:=UInt8.lt_iff_toNat_lt.2 QR;simp[Op.bytesLess,this]
   ·refine⟨false,by rw[QY hl],?_⟩;have: ¬ c<d:=fun h=>hl (by have:=UInt8.lt_iff_toNat_lt.1 h; omega);simp[Op.bytesLess,this,hcd]
theorem Kb (a b:List UInt8) (ha:a.length<=1000000):iV a b=some (Op.bytesLess a b):=by
 unfold iV;rcases zY a b ha false a b 0 (((b.length:Int)).toNat+1) rfl rfl QR (NY _) (NY _) with⟨r,h1,h2⟩ | ⟨z,h1,h2⟩
 ·rw[show ((0:Nat))=0 from rfl] at h1;rw[h1,h2];rfl
 ·rw[h1,h2];simp only[NA];by_cases h:a.length<b.length
  ·rw[QX QR];simp[h]
  ·rw[QY QR];simp[h]
theorem Bk (x:Top): ∀ (fuel:Nat) (y:Bool) (k:Nat),eQ x fuel y k=cG x fuel y k
 | 0,y,k=>rfl
 | fuel+1,y,k=>by
  rw[eQ,cG];simp only[Bk x fuel]
theorem EZ (x:Top) (hb:x.MP.length<=1000000) (y:Bool): ∀ (t:List Int) (p:Option Int) (k fuel:Nat),x.MP.drop k=t->t.length<fuel->(k=0->p=none)->(0<k->x.MP[k - 1]? = p/\p≠none)-> ∃ z,cG x fuel y k=some (if (t.all okn && up ltI p t)=true then .go (y,z) else .ret false)
 | [],p,k,fuel+1,h,hf,h0,h1=>by
  have:=fg h;refine⟨k,?_⟩;rw[cG,QY QR];cases p <;> rfl
 | n::t,p,k,fuel+1,h,hf,h0,h1=>by
  obtain⟨g1,g2,g3⟩:=dp h;rw[NJ] at hf;obtain⟨z,hz⟩:=EZ x hb y t (some n) (k+1) fuel g2 QR (fun h=>absurd h QR) (fun _=>⟨g1,by simp⟩);rw[cG,QX QR,g1];simp only[NA];rw[List.all_cons];by_cases c1:n<0
  ·refine⟨0,?_⟩;rw[QX c1,QY];simp only[okn,Bool.and_eq_true,decide_eq_true_eq];omega
  by_cases c2:n>2147483647
  ·refine⟨0,?_⟩;rw[QY c1,QX c2,QY];simp only[okn,Bool.and_eq_true,decide_eq_true_eq];omega
  rw[QY c1,QY c2];have ho:okn n=true:=by simp only[okn,Bool.and_eq_true,decide_eq_true_eq]; omega
  rcases Nat.eq_zero_or_pos k with hk | hk
  ·obtain rfl:=h0 hk;refine⟨z,?_⟩;rw[QY QR,QX QR,hz,ho,Bool.true_and,show up ltI none (n::t)=up ltI (some n) t from rfl]
  ·obtain⟨e1,e2⟩:=h1 hk;rw[QX QR,QX QR,QX QR,show ((k:Int) - 1).toNat=k - 1 by omega,e1]
   cases p with
   | none=>exact absurd rfl e2
   | some q =>
    simp only[NA];by_cases hc:q<n
    ·refine⟨z,?_⟩;rw[QY QR,QX QR,hz,ho,Bool.true_and];simp only[up,ltI,hc,decide_true,Bool.true_and]
    ·refine⟨0,?_⟩;rw[QX QR,QY];simp only[up,ltI,hc,decide_false,Bool.false_and,Bool.and_false,Bool.false_eq_true,not_false_eq_true]
theorem E0 (a0:List Top) (hb:a0.length<=1000000) (hw: ∀ t,t∈a0->t.MP.length<=1000000/\t.MV.length<=1000000) (y:Bool): ∀ (t:List Top) (p:Option Top) (k fuel:Nat),a0.drop k=t->t.length<fuel->(k=0->p=none)->(0<k->a0[k - 1]? = p/\p≠none)-> ∃ z,cQ a0 fuel y k=some (if (t.all lV && up Op.bytesLess (p.map (·.MV)) (t.map (·.MV)))=true then .go (y,z) else .ret false)
 | [],p,k,fuel+1,h,hf,h0,h1=>by
  have:=fg h;refine⟨k,?_⟩;rw[cQ,QY QR];cases p <;> rfl
 | x::t,p,k,fuel+1,h,hf,h0,h1=>by
  obtain⟨g1,g2,g3⟩:=dp h;have hx:=hw x (List.mem_of_getElem? g1);rw[NJ] at hf;obtain⟨z,hz⟩:=E0 a0 hb hw y t (some x) (k+1) fuel g2 QR (fun h=>absurd h QR) (fun _=>⟨g1,by simp⟩);rw[cQ,QX QR,g1,NA];rw[List.all_cons,List.map_cons];by_cases c1:(x.MV.length:Int)<1
  ·refine⟨0,?_⟩;have:x.MV = []:=List.length_eq_zero_iff.1 QR;rw[QX c1,QY];simp[lV,this]
  by_cases c2:(x.MV.length:Int)>32767
  ·refine⟨0,?_⟩;rw[QY c1,QX c2,QY];simp[lV,show ¬ x.MV.length<=32767 by omega]
  by_cases c3:(x.MP.length:Int)<1
  ·refine⟨0,?_⟩;have:x.MP = []:=List.length_eq_zero_iff.1 QR;rw[QY c1,QY c2,QX c3,QY];simp[lV,xT,this]
  rw[QY c1,QY c2,QY c3];have hne:x.MV.isEmpty=false:=by cases hh:x.MV with | nil=>rw[hh] at c1; simp at c1 | cons c u=>rfl
  have hnp:x.MP.isEmpty=false:=by cases hh:x.MP with | nil=>rw[hh] at c3; simp at c3 | cons c u=>rfl
  have ho:lV x=(x.MP.all okn && up ltI none x.MP):=by
   simp[lV,xT,hne,hnp,show x.MV.length<=32767 by omega]
  obtain⟨z2,hz2⟩:=EZ x hx.1 y x.MP none 0 (((x.MP.length:Int)).toNat+1) rfl QR (fun _=>rfl) (fun h=>absurd h QR);rw[ho];rcases Nat.eq_zero_or_pos k with hk | hk
  ·obtain rfl:=h0 hk;rw[QY QR,Bk,hz2]
   cases hq:(x.MP.all okn && up ltI none x.MP) with
   | false=>exact⟨0,by simp⟩
   | true =>
    refine⟨z,?_⟩;rw[QX rfl,NA,Bool.true_and];simp only;rw[QX QR,hz,show (none:Option Top).map (·.MV)=none from rfl,show up Op.bytesLess none (x.MV::t.map (·.MV))=up Op.bytesLess (some x.MV) (t.map (·.MV)) from rfl];rfl
  ·obtain⟨e1,e2⟩:=h1 hk;rw[QX QR,QX QR,QX QR,show ((k:Int) - 1).toNat=k - 1 by omega,e1]
   cases p with
   | none=>exact absurd rfl e2
   | some q =>
    rw[NA];rw[Kb _ _ (hw q (List.mem_of_getElem? e1)).2];rw[NA,show (some q).map (·.MV)=some q.MV from rfl,show up Op.bytesLess (some q.MV) (x.MV::t.map (·.MV))=(Op.bytesLess q.MV x.MV && up Op.bytesLess (some x.MV) (t.map (·.MV))) from rfl]
    cases hc:Op.bytesLess q.MV x.MV with
    | false=>exact⟨0,by simp⟩
    | true =>
     rw[QX rfl,hz2]
     cases hq:(x.MP.all okn && up ltI none x.MP) with
     | false=>exact⟨0,by simp⟩
     | true =>
      refine⟨z,?_⟩;rw[QX rfl,NA,Bool.true_and];simp only;rw[QX QR,hz];rfl
theorem Fa (a0:List Top) (hb:a0.length<=1000000) (hw: ∀ t,t∈a0->t.MP.length<=1000000/\t.MV.length<=1000000):ig a0=some (pz a0):=by
 unfold ig pz;obtain⟨z,hz⟩:=E0 a0 hb hw false a0 none 0 (((a0.length:Int)).toNat+1) rfl QR (fun _=>rfl) (fun h=>absurd h QR);rw[show (none:Option Top).map (·.MV)=none from rfl] at hz;rw[hz];cases (a0.all lV && up Op.bytesLess none (a0.map (·.MV))) <;> rfl
theorem zZ (a b:List Int) (ha:a.length<=140737488355328) (y:Bool): ∀ (t u:List Int) (k fuel:Nat),a.drop k=t->b.drop k=u->t.length=u.length->t.length<fuel-> ∃ z,fD a b fuel y k=some (if t=u then .go (y,z) else .ret false)
 | [],[],k,fuel+1,ht,hu,hl,hf=>by
  have:=fg ht;exact⟨k,by rw[fD,QY QR,QX rfl]⟩
 | [],d::u,k,fuel,ht,hu,hl,hf=>by simp at hl
 | c::t,[],k,fuel,ht,hu,hl,hf=>by simp at hl
 | c::t,d::u,k,fuel+1,ht,hu,hl,hf=>by
  obtain⟨t1,t2,t3⟩:=dp ht;obtain⟨u1,u2,u3⟩:=dp hu;simp only[NJ] at hl hf;obtain⟨z,hz⟩:=zZ a b ha y t u (k+1) fuel t2 u2 QR QR;rw[fD,QX QR,t1,NA,u1,NA];by_cases hc:c=d
  ·rw[QX hc,QX QR,hz];subst hc;refine⟨z,?_⟩;by_cases h:t=u
   ·rw[QX h,QX (by rw[h])]
   ·rw[QY h,QY (by simpa using h)]
  ·rw[QY hc];exact⟨0,by rw[QY (fun h=>hc (List.cons.inj h).1)]⟩
theorem Kc (a b:List Int) (ha:a.length<=140737488355328):nc a b=some (decide (a=b)):=by
 unfold nc;by_cases hl:(a.length:Int)=(b.length:Int)
 ·rw[QX hl];obtain⟨z,hz⟩:=zZ a b ha false a b 0 (((a.length:Int)).toNat+1) rfl rfl QR QR;rw[hz];by_cases h:a=b
  ·rw[QX h,NB h];rfl
  ·rw[QY h,NC h];rfl
 ·rw[QY hl,NC (fun h=>hl (by rw[h]))]
def Co (a b:Top):Bool:=decide (a.MV=b.MV) && decide (a.MP=b.MP)
def j0:List Top->List Top->Bool
 | [],[]=>true
 | a::l,b::m=>Co a b && j0 l m
 | _,_=>false
theorem D6 (a:Top):Co a a=true:=by simp[Co]
theorem vT: ∀ l:List Top,j0 l l=true
 | []=>rfl
 | a::l=>by rw[j0,D6,vT l]; rfl
theorem xV: ∀ (l m:List Top),j0 l m=true->l.length=m.length
 | [],[],h=>rfl
 | [],b::m,h=>nomatch h
 | a::l,[],h=>nomatch h
 | a::l,b::m,h=>by
  rw[j0,Bool.and_eq_true] at h;rw[NJ,NJ,xV l m h.2]
theorem xW (a0 a1:List Top) (h0:a0.length<=1000000) (y:Bool): ∀ (l u:List Top) (k fuel:Nat),(∀ t,t∈l->t.MP.length<=140737488355328)->a0.drop k=l->a1.drop k=u->l.length=u.length->l.length<fuel-> ∃ z,de a0 a1 fuel y k=some (if j0 l u=true then .go (y,z) else .ret false)
 | [],[],k,fuel+1,hw,ht,hu,hl,hf=>by
  have:=fg ht;exact⟨k,by rw[de,QY QR]; rfl⟩
 | [],d::u,k,fuel,hw,ht,hu,hl,hf=>by simp at hl
 | c::l,[],k,fuel,hw,ht,hu,hl,hf=>by simp at hl
 | c::l,d::u,k,fuel+1,hw,ht,hu,hl,hf=>by
  obtain⟨t1,t2,t3⟩:=dp ht;obtain⟨u1,u2,u3⟩:=dp hu;simp only[NJ] at hl hf;obtain⟨z,hz⟩:=xW a0 a1 h0 y l u (k+1) fuel (fun t ht=>hw t (.tail _ ht)) t2 u2 QR QR;rw[de,QX QR,t1,NA,u1,NA,j0,Co,Kc _ _ (hw c (.head _))];by_cases hc:c.MV=d.MV
  ·rw[QX hc,NB hc,NA,Bool.true_and]
   cases decide (c.MP=d.MP) with
   | false=>exact⟨0,rfl⟩
   | true =>
    rw[QX rfl,QX QR,Bool.true_and];exact⟨z,hz⟩
  ·rw[QY hc,NC hc];exact⟨0,rfl⟩
theorem Cp (a b:List Top) (h0:a.length<=1000000) (ha: ∀ t,t∈a->t.MP.length<=140737488355328):da a b=some (j0 a b):=by
 unfold da;by_cases hl:(a.length:Int)=(b.length:Int)
 ·obtain⟨z,hz⟩:=xW a b h0 false a b 0 (((a.length:Int)).toNat+1) ha rfl rfl QR QR;rw[QX hl,hz];cases j0 a b <;> rfl
 ·rw[QY hl];have:j0 a b=false:=by
   cases h:j0 a b with
   | false=>rfl
   | true=>exact absurd (congrArg Int.ofNat (xV a b h)) hl
  rw[this]
def wT (t:Top):Nat:=t.MV.length+4*t.MP.length+6
def wTs:List Top->Nat
 | []=>0
 | t::l=>wT t+wTs l
theorem Cq (y:Int): ∀ (l:List Top) (acc:Int),(∀ t,t∈l->kM t)->0<=acc->acc<=1000->(fY l y acc=some (.ret 0))\/(∃ z,fY l y acc=some (.go z)/\acc+wTs l<=1000)
 | [],acc,hw,h0,h1=> .inr ⟨_,rfl,by simp[wTs]; omega⟩
 | t::l,acc,hw,h0,h1=>by
  have ht:=hw t (.head _);have ht1:t.MV.length<=140737488351232:=ht.1;have ht2:t.MP.length<=140737488351232:=ht.2.1;rw[fY,QX QR,QX QR,QX QR,QX QR];by_cases hc:(acc+(((t.MV.length:Int)+(4*(t.MP.length:Int)))+6))>1000
  ·rw[QX hc];exact .inl rfl
  ·rw[QY hc];rcases Cq y l _ (fun u hu=>hw u (.tail _ hu)) QR (show acc+(((t.MV.length:Int)+(4*(t.MP.length:Int)))+6)<=1000 by omega) with h | ⟨z,h,h2⟩
   ·exact .inl h
   ·exact .inr ⟨z,h,by simp only[wTs,wT]; omega⟩
theorem Im (l:List Top) (hw: ∀ t,t∈l->kM t):(kZ l=some 0)\/(kZ l=some 1/\wTs l<=1000):=by
 unfold kZ;rcases Cq 0 l 0 hw QS QS with h | ⟨z,h,h2⟩
 ·exact .inl (by rw[h]; rfl)
 ·exact .inr ⟨by rw[h]; rfl,by omega⟩
theorem mF: ∀ l:List Top,l.length*6<=wTs l
 | []=>by simp[wTs]
 | t::l=>by have:=mF l; simp only[wTs,wT,NJ]; omega
theorem tN: ∀ (l:List Top) (t:Top),t∈l->wT t<=wTs l
 | u::l,t,h=>by
  rcases List.mem_cons.1 h with rfl | h
  ·simp only[wTs]; omega
  ·have:=tN l t h; simp only[wTs]; omega
theorem z0: ∀ l:List Int,(bb (fun n=>be n 4) l).length=4*l.length
 | []=>rfl
 | n::l=>by rw[bb,NE,aE,z0 l,NJ]; omega
theorem xX (t:Top):(lU t).length=wT t:=by
 simp only[lU,NE,aE,z0,wT];omega
theorem lm: ∀ l:List Top,(bb lU l).length=wTs l
 | []=>rfl
 | t::l=>by rw[bb,NE,xX,lm l,wTs]
theorem Fb (x:Top) (hb:x.MP.length<=1000000) (hx: ∀ n,n∈x.MP->wI n): ∀ (l:List Int) (t:List UInt8) (k fuel:Nat),x.MP.drop k=l->l.length<fuel->t.length+4*l.length<=1000000000-> ∃ z,eE x fuel t k=some (t++bb (fun n=>be n 4) l,z)
 | [],t,k,fuel+1,h,hf,hl=>by
  have:=fg h;exact⟨k,by rw[eE,QY QR,bb,NW]⟩
 | n::l,t,k,fuel+1,h,hf,hl=>by
  obtain⟨g1,g2,g3⟩:=dp h;rw[NJ] at hf hl;obtain⟨z,hz⟩:=Fb x hb hx l (t++be n 4) (k+1) fuel g2 QR (by rw[NE,aE]; omega);rw[eE,QX QR,g1,NA,bT _ _ ⟨hx n (List.mem_of_getElem? g1),by decide,by decide⟩,NA,QX (by rw[aE]; show t.length+(4:Int).toNat<= _; omega),QX QR];refine⟨z,?_⟩;rw[bb,<- NI];exact hz
theorem Fc (a0:List Top) (hb:a0.length<=1000000) (hx: ∀ x,x∈a0->kM x): ∀ (l:List Top) (t:List UInt8) (k fuel:Nat),a0.drop k=l->l.length<fuel->t.length+wTs l<=1000000-> ∃ z,eF a0 fuel t k=some (t++bb lU l,z)
 | [],t,k,fuel+1,h,hf,hl=>by
  have:=fg h;exact⟨k,by rw[eF,QY QR,bb,NW]⟩
 | x::l,t,k,fuel+1,h,hf,hl=>by
  obtain⟨g1,g2,g3⟩:=dp h;have hw:=hx x (List.mem_of_getElem? g1);rw[NJ] at hf;simp only[wTs,wT] at hl;obtain⟨z2,hz2⟩:=Fb x QR hw.2.2 x.MP ((t++(be (blen ⟨false,x.MV⟩) (2:Int).toNat++x.MV))++be (x.MP.length:Int) (4:Int).toNat) 0 (((x.MP.length:Int)).toNat+1) rfl QR (by simp only[NE,aE]; show _+(((2:Int).toNat + _)+(4:Int).toNat) + _<= _; omega);obtain⟨z,hz⟩:=Fc a0 hb hx l (t++lU x) (k+1) fuel g2 QR (by rw[NE,xX,wT]; omega);rw[eF,QX QR,g1,NA,ka _ _ ⟨by decide,by decide,by simp only; omega⟩,NA,QX (by simp only[NE,aE]; show _+((2:Int).toNat + _)<= _; omega),bT _ _ ⟨by omega,by decide,by decide⟩,NA,QX (by simp only[NE,aE]; show _+((2:Int).toNat + _)+(4:Int).toNat<= _; omega),hz2,NA];simp only;rw[QX QR];refine⟨z,?_⟩;have e:t++lU x=((t++(be (blen ⟨false,x.MV⟩) (2:Int).toNat++x.MV))++be (x.MP.length:Int) (4:Int).toNat)++bb (fun n=>be n 4) x.MP:=by
   simp only[lU,NI];rfl
  rw[bb,(NI t (lU x) (bb lU l)).symm,e];rw[e] at hz;exact hz
theorem Fd (l:List Top) (hx: ∀ x,x∈l->kM x) (hw:wTs l<=2000):jo l=some (be (l.length:Int) 4++bb lU l):=by
 have:=mF l;unfold jo;rw[bT _ _ ⟨by omega,by decide,by decide⟩,NA];obtain⟨z,hz⟩:=Fc l QR hx l (be (l.length:Int) (4:Int).toNat) 0 (((l.length:Int)).toNat+1) rfl QR (by rw[aE]; show (4:Int).toNat + _<= _; omega);rw[hz];rfl
theorem xY (n:Int):bn n 2=decide (-32768<=n/\n<=32767):=by
 rw[Bool.eq_iff_iff];unfold bn;simp only[Bool.and_eq_true,decide_eq_true_eq];have:(2:Int) ^ (8*(2:Int).toNat - 1)=32768:=by decide
 omega
theorem fits_8 (n:Int):bn n 8=decide (-9223372036854775808<=n/\n<=9223372036854775807):=by
 rw[Bool.eq_iff_iff];unfold bn;simp only[Bool.and_eq_true,decide_eq_true_eq];have:(2:Int) ^ (8*(8:Int).toNat - 1)=9223372036854775808:=by decide
 omega
def badR (v:Val):Prop:=v.MO<0\/v.MR<0\/v.MR>32767\/v.MT<0\/v.MT>2147483647\/v.Nx<0\/v.Nw < -1
def badC (v:Val):Prop:= ¬ ((1<=v.Nv/\v.Nv<=3)↔0<(v.MN.length:Int))\/ ¬ (v.Nv=0↔v.Nw= -1)
open Classical in
noncomputable def chkV (v:Val):Int:=if badR v then 11 else if v.Nv<0\/v.Nv>6 then 12 else if badC v then 10 else if pz v.MN=true then 0 else 13
theorem Gy (v:Val) (hw:wf_Val v) (hl:v.MN.length<=1000000):jN v=some (chkV v):=by
 unfold jN chkV;rw[D5 _ hw.2.2.2.2.1.2 hl,gL _ _ hw.2.1,gL _ _ hw.2.2.1,xY,eU];generalize pz v.MN=b;by_cases hr:badR v
 ·rw[QX hr];unfold badR at hr;by_cases c1:v.MO<0
  ·rw[QX c1]
  rw[QY c1];by_cases c2:v.MR<0
  ·rw[QX c2]
  rw[QY c2,NA];by_cases c3: -32768<=v.MR/\v.MR<=32767
  ·rw[QX (NB c3)];by_cases c4:v.MT<0
   ·rw[QX c4]
   rw[QY c4,NA];by_cases c5: -2147483648<=v.MT/\v.MT<=2147483647
   ·rw[QX (NB c5)];by_cases c6:v.Nx<0
    ·rw[QX c6]
    rw[QY c6,QX QR]
   ·rw[QY (by simp only[decide_eq_true_eq]; exact c5)]
  ·rw[QY (by simp only[decide_eq_true_eq]; exact c3)]
 rw[QY hr];unfold badR at hr;rw[QY QR,QY QR,NA,QX (NB QR),QY QR,NA,QX (NB QR),QY QR,QY QR];unfold mD;by_cases hs:v.Nv<0\/v.Nv>6
 ·rw[QX hs];by_cases c1:v.Nv<0
  ·rw[QX c1]
  ·rw[QY c1,QX QR]
 rw[QY hs,QY QR,QY QR];by_cases hc:badC v
 ·rw[QX hc];unfold badC at hc;by_cases c0:v.Nv=0
  ·rw[QX c0,NA,QX rfl];by_cases c1:(v.MN.length:Int)=0
   ·rw[QX c1,QX c0,QY QR]
   ·rw[QY c1]
  ·rw[QY c0];by_cases c4:v.Nv>=4
   ·rw[QX c4,NA,QX rfl];by_cases c1:(v.MN.length:Int)=0
    ·rw[QX c1,QY c0,QX QR]
    ·rw[QY c1]
   ·rw[QY c4,NA,QY QS];by_cases c1:(v.MN.length:Int)=0
    ·rw[QX c1]
    ·rw[QY c1,QY c0,QX QR]
 rw[QY hc];unfold badC at hc;by_cases c0:v.Nv=0
 ·rw[QX c0,NA,QX rfl,QX QR,QX c0,QX QR];cases b <;> rfl
 ·rw[QY c0];by_cases c4:v.Nv>=4
  ·rw[QX c4,NA,QX rfl,QX QR,QY c0,QY QR];cases b <;> rfl
  ·rw[QY c4,NA,QY QS,QY QR,QY c0,QY QR];cases b <;> rfl
theorem Fe {l:List Top} (h:pz l=true) (hw:wTs l<=2000): ∀ t,t∈l->okT t:=by
 intro t ht;unfold pz at h;rw[Bool.and_eq_true] at h;have h1:=List.all_eq_true.1 h.1 t ht;unfold lV xT at h1;simp only[Bool.and_eq_true,decide_eq_true_eq,List.all_eq_true] at h1;have h2:=tN l t ht;unfold wT at h2;refine⟨jh (.inl rfl) QR QR,jh (.inr (.inl rfl)) QR QR,fun n hn=> ?_⟩;have h3:=h1.2.1.1 n hn;unfold okn at h3;simp only[Bool.and_eq_true,decide_eq_true_eq] at h3;rw[eU];exact NB QR
end Go.Proofs.YtheikonlgjdopaaGreat.Sl
