/- frameEncodes_holds: part 9. -/
import Derived.Test.YtheikonlgjdopaaGreatK8
set_option maxRecDepth 100000
set_option maxHeartbeats 4000000
set_option linter.defProp false
namespace Go.Proofs.YtheikonlgjdopaaGreat.Sl
open Go.RowKit
set_option linter.unusedVariables false
set_option linter.unusedSimpArgs false
def NL := @Tryz.sizeOf38
def N2 := @Prod.mk.inj
def N7 := @Tryz.isAgg38
def Ob := @Tryz.eqGuardType32
def Oo := @Tryz.runUnderlying38
def Ou := @Tryz.sizeOf53
def O2 := @Tryz.results69
def O8 := @Tryz.isAgg53
def Pv := @Tryz.eqGuardType27
def PV := @Tryz.results14
def QA := @Tryz.runUnderlying67
def Ia:fg := [(25,0,0),(25,1,1),(38,0,0),(38,1,5),(38,2,10),(38,3,14),(38,4,18),(38,5,19)]
theorem aD:(Ia).OK Tryz.prog:=⟨FOK.mk ON rfl Ny rfl,FOK.mk ON rfl Ny rfl,FOK.mk Oo rfl Oq rfl,FOK.mk Oo rfl OR rfl,FOK.mk Oo rfl O1 rfl,FOK.mk Oo rfl OC rfl,FOK.mk Oo rfl Tryz.sizeOf33 rfl,FOK.mk Oo rfl Oh rfl,trivial⟩
def Ib:List Nat := [3,33]
theorem ig:NOK Tryz.prog Ib:=⟨Nz,Tryz.isAgg33,trivial⟩
theorem eW:BOK Tryz.prog 38 #[.int .i64 0,.int .i64 0,.int .i64 0,.bool false,.string ⟨#[]⟩,.bool false,.string ⟨#[]⟩,.int .i64 0,.int .i64 0,.int .i64 0,.string ⟨#[]⟩,.int .i64 0,.int .i64 0,.slice none 0 0,.string ⟨#[]⟩,.int .i64 0,.int .i64 0,.bool false,.slice none 0 0,.bool false,.string ⟨#[]⟩,.int .i64 0,.int .i64 0,.slice none 0 0] [(0,5),(5,5),(10,4),(14,4),(18,1),(19,5)]:=BOK.mk Tryz.zeroValue38 Oo (by intro w; simp)
def bN (st:List UInt8×Int) (a0:aE):Option (List UInt8×Int):=(if a0.MI.MS=22 then ((gY st a0.M6 a0.MI.MR).bind fun st86=>some st86) else ((if a0.MI.MS=24 then ((jm st a0.M9).bind fun st126=>some st126) else ((if a0.MI.MS=26 then ((jo st a0.M8).bind fun st146=>some st146) else ((if a0.MI.MS=27 then ((jD st a0.M0 a0.MI.MR).bind fun st156=>some st156) else ((dC st a0.MN a0.MI.MR).bind fun st158=>some st158)).bind fun st153=>some st153)).bind fun st143=>some st143)).bind fun st123=>some st123)).bind fun st83=>some st83
theorem pz (g:Nat) (st:List UInt8×Int) (a0:aE) (A1:Option Addr) (c2:Nat) (A3:Option Addr) (c4:Nat) (A5:Option Addr) (c6:Nat) (r:List UInt8×Int) (h:bN st a0=some r):aH Tryz.prog 49 #[.agg (lQ a0 A1 A3 A5 c2 c4 c6),jP g] (RX.and (RX.of (aq 2 bc) [.slice A1 a0.M9.MF.length c2] a0.M9.MF) (RX.and (RX.of (aq 5 aY) [.slice A3 a0.M0.length c4] a0.M0) (RX.of (aq 2 aM) [.slice A5 a0.MN.MF.length c6] a0.MN.MF))) (bB g st) (fun v A' N=>v= .tuple #[]∧A'=bB g r∧N = []):=by
 refine aU Tryz.func49 Z Tryz.ntmps49 Z ?_
 intro F w hX
 unfold bN at h
 refine KG Z (TL.box Z .u Z Z (fun b7=>(K7 Z (LT aD ig 0 Z Z Z (T.block (KG Z (KP aD Z ?_)))))))
 obtain⟨st83,h,hk84⟩:=Np h
 refine Lz (fun e Rs=>e = []∧Rs = [aW b7 38 (lQ a0 A1 A3 A5 c2 c4 c6),bB g st83]) ?_ ?_
 ·clear hk84
  rcases jF h with⟨c85,h⟩ | ⟨c85,h⟩
  ·refine LU Z c85 (T.region Z (KF aD 1 Z (KH Z (KY (us:=B0 a0) 0 Z PE OR Z Z Z) Z ?_)))
   obtain⟨st86,hx87,h⟩:=Np h
   refine KK aD ig 0 Z 4 Z Z (KT 1 Z Z .u (.fn Tryz.call96 Z) (pW g st a0.M6 a0.MI.MR _ hx87) sT Z Z ?_)
   cases h
   exact TL.nil (KR [0,0])
  refine LX Z c85 (KG Z (KP aD Z ?_))
  obtain⟨st123,h,hk124⟩:=Np h
  refine Lz (fun e Rs=>e = []∧Rs = [aW b7 38 (lQ a0 A1 A3 A5 c2 c4 c6),bB g st123]) ?_ ?_
  ·clear hk124
   rcases jF h with⟨c125,h⟩ | ⟨c125,h⟩
   ·refine LU Z c125 (T.region Z (KF aD 1 Z (KH Z (KY (us:=wL12 a0.M9 A1 c2) 0 Z Qd O1 Z Z Z) Z ?_)))
    obtain⟨st126,hx127,h⟩:=Np h
    refine KF aD 1 Z (KT 1 Z Z .u (.fn Tryz.call97 Z) (rq g st a0.M9 _ _ _ hx127) (fun _ hs=>(Mb hs (Ll hX))) Z Z ?_)
    cases h
    exact TL.nil (KR [0,0])
   refine LX Z c125 (KG Z (KP aD Z ?_))
   obtain⟨st143,h,hk144⟩:=Np h
   refine Lz (fun e Rs=>e = []∧Rs = [aW b7 38 (lQ a0 A1 A3 A5 c2 c4 c6),bB g st143]) ?_ ?_
   ·clear hk144
    rcases jF h with⟨c145,h⟩ | ⟨c145,h⟩
    ·refine LU Z c145 (T.region Z (KF aD 1 Z (KH Z (KY (us:=lP a0.M8) 0 Z O6 OC Z Z Z) Z ?_)))
     obtain⟨st146,hx147,h⟩:=Np h
     refine KF aD 1 Z (KT 1 Z Z .u (.fn Tryz.call98 Z) (rr g st a0.M8 _ hx147) sT Z Z ?_)
     cases h
     exact TL.nil (KR [0,0])
    refine LX Z c145 (KG Z (KP aD Z ?_))
    obtain⟨st153,h,hk154⟩:=Np h
    refine Lz (fun e Rs=>e = []∧Rs = [aW b7 38 (lQ a0 A1 A3 A5 c2 c4 c6),bB g st153]) ?_ ?_
    ·clear hk154
     rcases jF h with⟨c155,h⟩ | ⟨c155,h⟩
     ·refine LU Z c155 (T.region Z ?_)
      obtain⟨st156,hx157,h⟩:=Np h
      refine KK aD ig 0 Z 6 Z Z (KT 1 Z Z .u (.fn Tryz.call99 Z) (tc g st a0.M0 _ _ a0.MI.MR _ hx157) (fun _ hs=>(Mb hs (Ll (K6 hX)))) Z Z ?_)
      cases h
      exact TL.nil (KR [0,0])
     refine LX Z c155 (T.region Z (KF aD 1 Z (KH Z (KY (us := [.bool a0.MN.MM.null,jS a0.MN.MM.data,jI a0.MN.M5,jI a0.MN.ML,.slice A5 a0.MN.MF.length c6]) 0 Z OO Oh Z Z Z) Z ?_)))
     obtain⟨st158,hx159,h⟩:=Np h
     refine KK aD ig 0 Z 4 Z Z (KT 1 Z Z .u (.fn Tryz.call100 Z) (mH g st a0.MN _ _ a0.MI.MR _ hx159) (fun _ hs=>(Mb hs (K6 (K6 hX)))) Z Z ?_)
     cases h
     exact TL.nil (KR [0,0])
    rintro _ _ ⟨rfl,rfl⟩
    clear h
    have h:=hk154
    clear hk154
    try dsimp only at h
    cases h
    exact KR [0,0]
   rintro _ _ ⟨rfl,rfl⟩
   clear h
   have h:=hk144
   clear hk144
   try dsimp only at h
   cases h
   exact KR [0,0]
  rintro _ _ ⟨rfl,rfl⟩
  clear h
  have h:=hk124
  clear hk124
  try dsimp only at h
  cases h
  exact KR [0,0]
 rintro _ _ ⟨rfl,rfl⟩
 clear h
 have h:=hk84
 clear hk84
 obtain rfl:=Nq h
 exact K4 (LQ [1] Tryz.results49 ⟨Z,Z,Z⟩ QJ (.inr Z))
def db (a0:aE):Option (List UInt8×Int):=(iJ ([],0) a0.MI).bind fun st10=>(ED st10).bind fun (x12,st13)=>(if x12=0 then ((bN st13 a0).bind fun st21=>some st21) else some st13).bind fun st18=>(mW st18).bind fun (x23,x24,st25)=>if x24=0 then ((d8 ([],0) (x23.length:Int) 4).bind fun st28=>(zj st28 x23).bind fun st30=>(mW st30).bind fun (x32,x33,st34)=>some (x32,x33)) else some ([],x24)
theorem mC (a0:aE) (A1:Option Addr) (c2:Nat) (A3:Option Addr) (c4:Nat) (A5:Option Addr) (c6:Nat) (r:List UInt8×Int) (h:db a0=some r):aH Tryz.prog 12 #[.agg (lQ a0 A1 A3 A5 c2 c4 c6)] (RX.and (RX.of (aq 2 bc) [.slice A1 a0.M9.MF.length c2] a0.M9.MF) (RX.and (RX.of (aq 5 aY) [.slice A3 a0.M0.length c4] a0.M0) (RX.of (aq 2 aM) [.slice A5 a0.MN.MF.length c6] a0.MN.MF))) (aK) (fun v A' N=>v= .tuple #[jS r.1,jI r.2]∧A'=aK∧N = []):=by
 refine aU Tryz.func12 Z Tryz.ntmps12 Z ?_
 intro F w hX
 unfold db at h
 refine KG Z (TL.box Z .u Z Z (fun b7=>(K8 aD Z Z (Mj Z .u Tryz.zeroValue112 Z (fun b8=>(Mj Z .u Tryz.zeroValue112 Z (fun b9=>(K7 Z (KF aD 1 Z ?_)))))))))
 refine KH Z (KY (us := [jI a0.MI.MS,jI a0.MI.MR,jI a0.MI.MY,.bool a0.MI.MQ.null,jS a0.MI.MQ.data]) 2 Z O7 Oq Z Z Z) Z ?_
 obtain⟨st10,hx11,h⟩:=Np h
 refine KT 1 Z Z .u (.fn Tryz.call47 Z) (qB b8 ([],0) a0.MI _ hx11) sT Z Z ?_
 obtain⟨⟨x12,st13⟩,hx14,h⟩:=Np h
 refine KI (T.seq (KG Z (KT 1 Z Z .u (.fn Tryz.call48 Z) (Dx b8 st10 _ hx14) sT Z Z (KP aD Z ?_))))
 obtain⟨st18,h,hk19⟩:=Np h
 refine Lz (fun e Rs=>e = [(2,.string ⟨#[]⟩),(3,jI 0),(4,jP b8),(5,jP b9)]∧Rs = [bB b9 ([],0),bB b8 st18,aW b7 38 (lQ a0 A1 A3 A5 c2 c4 c6),aK]) ?_ ?_
 ·clear hk19
  rcases jF h with⟨c20,h⟩ | ⟨c20,h⟩
  ·refine LU Z c20 (T.region Z (KH Z (KY (us:=yP a0 A1 A3 A5 c2 c4 c6) 2 Z N7 NL Z Z Z) Z ?_))
   obtain⟨st21,hx22,h⟩:=Np h
   refine KT 1 Z Z .u (.fn Tryz.call49 Z) (pz b8 st13 a0 _ _ _ _ _ _ _ hx22) (fun _ hs=>(Src.and (Mb hs (Ll hX)) (Src.and (Mb hs (Ll (K6 hX))) (Mb hs (K6 (K6 hX)))))) Z Z ?_
   cases h
   exact TL.nil (KR [0,0,0,0])
  refine LX Z c20 ?_
  cases h
  exact T.skip (KR [0,0,0,0])
 rintro _ _ ⟨rfl,rfl⟩
 clear h
 have h:=hk19
 clear hk19
 obtain⟨⟨x23,x24,st25⟩,hx26,h⟩:=Np h
 refine X.seq (KG Z (KT 1 Z Z .u (.fn Tryz.call50 Z) (iZ b8 st18 _ hx26) sT Z Z (KP aD Z (T.seq (KG Z (KF aD 2 Z ?_))))))
 rcases jF h with⟨c27,h⟩ | ⟨c27,h⟩
 ·refine Lj Z c27 (Lg Z (KF aD 1 Z (KH Z (Lx Z NE) Z ?_)))
  obtain⟨st28,hx29,h⟩:=Np h
  refine KT 0 Z Z .u (.fn Tryz.call51 Z) (bt b9 ([],0) (x23.length:Int) 4 _ hx29) sT Z Z (K7 Z ?_)
  obtain⟨st30,hx31,h⟩:=Np h
  refine KF aD 1 Z (KT 0 Z Z .u (.fn Tryz.call52 Z) (wD b9 st28 x23 _ hx31) sT Z Z ?_)
  obtain⟨⟨x32,x33,st34⟩,hx35,h⟩:=Np h
  refine K7 Z (KT 0 Z Z .u (.fn Tryz.call50 Z) (iZ b9 st30 _ hx35) sT Z Z (KF aD 4 Z ?_))
  obtain rfl:=Nq h
  exact KI (T.ret (Lo [3] Tryz.results12 (KJ Z) (KJ Z) ⟨Z,Z,Z⟩ QJ (.inl Z)))
 refine Li Z c27 (KG Z (KF aD 3 Z ?_))
 obtain rfl:=Nq h
 exact KI (T.ret (KL (Lo [3] Tryz.results12 (KJ Z) (KJ Z) ⟨Z,Z,Z⟩ QJ (.inl Z))))
def kT (a0:List UInt8):Option (aE×Int):=(wF a0).bind fun st2=>(hM st2).bind fun (x5,st6)=>(iQ st6).bind fun (x9,st10)=>if x9=0 then (if x5.MS=22 then ((eH st10 x5.MR).bind fun (x14,st15)=>(eg st15).bind fun (x17,st18)=>if x17=0 then (some ((⟨x5,x14,(⟨[],0,0,[]⟩:bT),(⟨[],0,0,false⟩:bR),[],(⟨(⟨false,[]⟩:Bl),0,0,[]⟩:aA)⟩:aE),0)) else (some ((⟨(⟨0,0,0,(⟨false,[]⟩:Bl)⟩:fx),(⟨(⟨false,[]⟩:Bl),0,0,0⟩:bb),(⟨[],0,0,[]⟩:bT),(⟨[],0,0,false⟩:bR),[],(⟨(⟨false,[]⟩:Bl),0,0,[]⟩:aA)⟩:aE),x17))) else (if x5.MS=24 then ((lH st10).bind fun (x22,st25)=>(eg st25).bind fun (x27,st28)=>if x27=0 then (some ((⟨x5,(⟨(⟨false,[]⟩:Bl),0,0,0⟩:bb),x22,(⟨[],0,0,false⟩:bR),[],(⟨(⟨false,[]⟩:Bl),0,0,[]⟩:aA)⟩:aE),0)) else (some ((⟨(⟨0,0,0,(⟨false,[]⟩:Bl)⟩:fx),(⟨(⟨false,[]⟩:Bl),0,0,0⟩:bb),(⟨[],0,0,[]⟩:bT),(⟨[],0,0,false⟩:bR),[],(⟨(⟨false,[]⟩:Bl),0,0,[]⟩:aA)⟩:aE),x27))) else (if x5.MS=26 then ((lI st10).bind fun (x32,st33)=>(eg st33).bind fun (x35,st36)=>if x35=0 then (some ((⟨x5,(⟨(⟨false,[]⟩:Bl),0,0,0⟩:bb),(⟨[],0,0,[]⟩:bT),x32,[],(⟨(⟨false,[]⟩:Bl),0,0,[]⟩:aA)⟩:aE),0)) else (some ((⟨(⟨0,0,0,(⟨false,[]⟩:Bl)⟩:fx),(⟨(⟨false,[]⟩:Bl),0,0,0⟩:bb),(⟨[],0,0,[]⟩:bT),(⟨[],0,0,false⟩:bR),[],(⟨(⟨false,[]⟩:Bl),0,0,[]⟩:aA)⟩:aE),x35))) else (if x5.MS=27 then ((gy st10 x5.MR).bind fun (x40,st43)=>(eg st43).bind fun (x45,st46)=>if x45=0 then (some ((⟨x5,(⟨(⟨false,[]⟩:Bl),0,0,0⟩:bb),(⟨[],0,0,[]⟩:bT),(⟨[],0,0,false⟩:bR),x40,(⟨(⟨false,[]⟩:Bl),0,0,[]⟩:aA)⟩:aE),0)) else (some ((⟨(⟨0,0,0,(⟨false,[]⟩:Bl)⟩:fx),(⟨(⟨false,[]⟩:Bl),0,0,0⟩:bb),(⟨[],0,0,[]⟩:bT),(⟨[],0,0,false⟩:bR),[],(⟨(⟨false,[]⟩:Bl),0,0,[]⟩:aA)⟩:aE),x45))) else ((ez st10 x5.MR).bind fun (x49,st52)=>(eg st52).bind fun (x54,st55)=>if x54=0 then (some ((⟨x5,(⟨(⟨false,[]⟩:Bl),0,0,0⟩:bb),(⟨[],0,0,[]⟩:bT),(⟨[],0,0,false⟩:bR),[],x49⟩:aE),0)) else (some ((⟨(⟨0,0,0,(⟨false,[]⟩:Bl)⟩:fx),(⟨(⟨false,[]⟩:Bl),0,0,0⟩:bb),(⟨[],0,0,[]⟩:bT),(⟨[],0,0,false⟩:bR),[],(⟨(⟨false,[]⟩:Bl),0,0,[]⟩:aA)⟩:aE),x54))))))) else (some ((⟨(⟨0,0,0,(⟨false,[]⟩:Bl)⟩:fx),(⟨(⟨false,[]⟩:Bl),0,0,0⟩:bb),(⟨[],0,0,[]⟩:bT),(⟨[],0,0,false⟩:bR),[],(⟨(⟨false,[]⟩:Bl),0,0,[]⟩:aA)⟩:aE),x9))
theorem tg (a0:List UInt8) (r:aE×Int) (h:kT a0=some r):aH Tryz.prog 69 #[jS a0] .triv (aK) (fun v A' N=> ∃ (A58:Option Addr) (c59:Nat) (A60:Option Addr) (c61:Nat) (A62:Option Addr) (c63:Nat),v= .tuple #[.agg #[jI r.1.MI.MS,jI r.1.MI.MR,jI r.1.MI.MY,.bool r.1.MI.MQ.null,jS r.1.MI.MQ.data,.bool r.1.M6.MM.null,jS r.1.M6.MM.data,jI r.1.M6.ML,jI r.1.M6.MG,jI r.1.M6.MJ,jS r.1.M9.MM,jI r.1.M9.MG,jI r.1.M9.MJ,.slice A58 r.1.M9.MF.length c59,jS r.1.M8.MM,jI r.1.M8.MG,jI r.1.M8.MJ,.bool r.1.M8.MZ,.slice A60 r.1.M0.length c61,.bool r.1.MN.MM.null,jS r.1.MN.MM.data,jI r.1.MN.M5,jI r.1.MN.ML,.slice A62 r.1.MN.MF.length c63],jI r.2]∧A'=aK∧N = [RdR (aq 2 bc) [.slice A58 r.1.M9.MF.length c59] r.1.M9.MF,RdR (aq 5 aY) [.slice A60 r.1.M0.length c61] r.1.M0,RdR (aq 2 aM) [.slice A62 r.1.MN.MF.length c63] r.1.MN.MF]):=by
 refine aU Tryz.func69 Z Tryz.ntmps69 Z ?_
 intro F w hX
 unfold kT at h
 refine KG Z (TL.alloc Z .u Tryz.zeroValue38 Z (fun b1=>(K8 aD Z Z ?_)))
 obtain⟨st2,hx3,h⟩:=Np h
 refine KF aD 1 Z (L8 Z .u (.fn Tryz.call19 Z) (lj a0 _ hx3) rT Z ?_)
 rintro _ _ _ ⟨b4,rfl,rfl,rfl⟩
 refine Lt [0,0,0] Z (K8 aD Z Z ?_)
 obtain⟨⟨x5,st6⟩,hx7,h⟩:=Np h
 refine KF aD 1 Z (KT 0 Z Z .u (.fn Tryz.call115 Z) (rE b4 st2 _ hx7) sT Z Z ?_)
 refine KH Z (Ld (cells:= #[jI x5.MS,jI x5.MR,jI x5.MY,.bool x5.MQ.null,jS x5.MQ.data,.bool false,.string ⟨#[]⟩,jI 0,jI 0,jI 0,.string ⟨#[]⟩,jI 0,jI 0,.slice none 0 0,.string ⟨#[]⟩,jI 0,jI 0,.bool false,.slice none 0 0,.bool false,.string ⟨#[]⟩,jI 0,jI 0,.slice none 0 0]) eW Z QI) Z ?_
 refine TL.alloc Z .u Tryz.zeroValue38 Z (fun b8=>(KW 0 Z (cs':= #[jI x5.MS,jI x5.MR,jI x5.MY,.bool x5.MQ.null,jS x5.MQ.data,.bool false,.string ⟨#[]⟩,jI 0,jI 0,jI 0,.string ⟨#[]⟩,jI 0,jI 0,.slice none 0 0,.string ⟨#[]⟩,jI 0,jI 0,.bool false,.slice none 0 0,.bool false,.string ⟨#[]⟩,jI 0,jI 0,.slice none 0 0]) Z .u Z Z NL Z Z Z Z Z (KI (T.seq (KG Z ?_)))))
 obtain⟨⟨x9,st10⟩,hx11,h⟩:=Np h
 refine KF aD 1 Z (KT 1 Z Z .u (.fn Tryz.call23 Z) (cy b4 st6 _ hx11) sT Z Z (K8 aD Z Z (KF aD 2 Z ?_)))
 rcases jF h with⟨c12,h⟩ | ⟨c12,h⟩
 ·refine Lj Z c12 (K3 (T.seq (KG Z (LT aD ig 0 Z Z Z (T.block (KG Z (KF aD 2 Z ?_)))))))
  rcases jF h with⟨c13,h⟩ | ⟨c13,h⟩
  ·refine La Z c13 (T.region Z ?_)
   obtain⟨⟨x14,st15⟩,hx16,h⟩:=Np h
   refine KK aD ig 0 Z 4 Z Z (KT 1 Z Z .u (.fn Tryz.call116 Z) (qx b4 st10 x5.MR _ hx16) sT Z Z (KF aD 1 Z (KW 0 Z (cs':= #[jI x5.MS,jI x5.MR,jI x5.MY,.bool x5.MQ.null,jS x5.MQ.data,.bool x14.MM.null,jS x14.MM.data,jI x14.ML,jI x14.MG,jI x14.MJ,.string ⟨#[]⟩,jI 0,jI 0,.slice none 0 0,.string ⟨#[]⟩,jI 0,jI 0,.bool false,.slice none 0 0,.bool false,.string ⟨#[]⟩,jI 0,jI 0,.slice none 0 0]) Z .u Z Z OR Z Z Z Z Z (TL.nil (K4 (X.seq (T.seq (KG Z ?_))))))))
   obtain⟨⟨x17,st18⟩,hx19,h⟩:=Np h
   refine KF aD 1 Z (KT 1 Z Z .u (.fn Tryz.call21 Z) (dt b4 st15 _ hx19) sT Z Z (K8 aD Z Z (KF aD 2 Z ?_)))
   rcases jF h with⟨c20,h⟩ | ⟨c20,h⟩
   ·refine Lj Z c20 (Lg Z (KH Z (KY (us := [jI x5.MS,jI x5.MR,jI x5.MY,.bool x5.MQ.null,jS x5.MQ.data,.bool x14.MM.null,jS x14.MM.data,jI x14.ML,jI x14.MG,jI x14.MJ,.string ⟨#[]⟩,jI 0,jI 0,.slice none 0 0,.string ⟨#[]⟩,jI 0,jI 0,.bool false,.slice none 0 0,.bool false,.string ⟨#[]⟩,jI 0,jI 0,.slice none 0 0]) 0 Z N7 NL Z Z Z) Z (KW 2 Z (cs':= #[jI x5.MS,jI x5.MR,jI x5.MY,.bool x5.MQ.null,jS x5.MQ.data,.bool x14.MM.null,jS x14.MM.data,jI x14.ML,jI x14.MG,jI x14.MJ,.string ⟨#[]⟩,jI 0,jI 0,.slice none 0 0,.string ⟨#[]⟩,jI 0,jI 0,.bool false,.slice none 0 0,.bool false,.string ⟨#[]⟩,jI 0,jI 0,.slice none 0 0]) Z .u Z Z NL Z Z Z Z Z (KF aD 1 Z ?_))))
    obtain rfl:=Nq h
    exact KI (T.ret (Lc 2 bc (Lc 5 aY (Lc 2 aM (Lo [6,2,1,0] O2 (Ly (us:= #[jI x5.MS,jI x5.MR,jI x5.MY,.bool x5.MQ.null,jS x5.MQ.data,.bool x14.MM.null,jS x14.MM.data,jI x14.ML,jI x14.MG,jI x14.MJ,.string ⟨#[]⟩,jI 0,jI 0,.slice none 0 0,.string ⟨#[]⟩,jI 0,jI 0,.bool false,.slice none 0 0,.bool false,.string ⟨#[]⟩,jI 0,jI 0,.slice none 0 0]) 5 Z N7 NL Z Z) (KJ Z) ⟨_,_,_,_,_,_,Z,Z,Z⟩ QJ (.inl Z))))))
   refine Li Z c20 (KG Z ?_)
   refine KH Z (Ld (cells:=lm) eW Z QI) Z ?_
   refine KF aD 1 Z (KW 2 Z (cs':=lm) Z .u Z Z NL Z Z Z Z Z (KF aD 1 Z ?_))
   obtain rfl:=Nq h
   exact KI (T.ret (KL (Lc 2 bc (Lc 5 aY (Lc 2 aM (Lo [6,2,1,0] O2 (Ly (us:=lm) 5 Z N7 NL Z Z) (KJ Z) ⟨_,_,_,_,_,_,Z,Z,Z⟩ QJ (.inl Z)))))))
  refine K9 Z c13 (KG Z (KF aD 2 Z ?_))
  rcases jF h with⟨c21,h⟩ | ⟨c21,h⟩
  ·refine La Z c21 (T.region Z ?_)
   obtain⟨⟨x22,st25⟩,hx26,h⟩:=Np h
   refine KF aD 1 Z (Mp Z .u (.fn Tryz.call117 Z) (sa b4 st10 _ hx26) sT Z ?_)
   rintro _ _ _ ⟨A23,c24,rfl,rfl,rfl⟩
   refine Lt [0,0,0,0,0] Z (KF aD 1 Z (KW 1 Z (cs':= #[jI x5.MS,jI x5.MR,jI x5.MY,.bool x5.MQ.null,jS x5.MQ.data,.bool false,.string ⟨#[]⟩,jI 0,jI 0,jI 0,jS x22.MM,jI x22.MG,jI x22.MJ,.slice A23 x22.MF.length c24,.string ⟨#[]⟩,jI 0,jI 0,.bool false,.slice none 0 0,.bool false,.string ⟨#[]⟩,jI 0,jI 0,.slice none 0 0]) Z .u Z Z O1 Z Z Z Z Z (TL.nil (K4 (X.seq (T.seq (KG Z ?_)))))))
   obtain⟨⟨x27,st28⟩,hx29,h⟩:=Np h
   refine KF aD 1 Z (KT 2 Z Z .u (.fn Tryz.call21 Z) (dt b4 st25 _ hx29) sT Z Z (K8 aD Z Z (KF aD 2 Z ?_)))
   rcases jF h with⟨c30,h⟩ | ⟨c30,h⟩
   ·refine Lj Z c30 (Lg Z (KH Z (KY (us := [jI x5.MS,jI x5.MR,jI x5.MY,.bool x5.MQ.null,jS x5.MQ.data,.bool false,.string ⟨#[]⟩,jI 0,jI 0,jI 0,jS x22.MM,jI x22.MG,jI x22.MJ,.slice A23 x22.MF.length c24,.string ⟨#[]⟩,jI 0,jI 0,.bool false,.slice none 0 0,.bool false,.string ⟨#[]⟩,jI 0,jI 0,.slice none 0 0]) 1 Z N7 NL Z Z Z) Z (KW 3 Z (cs':= #[jI x5.MS,jI x5.MR,jI x5.MY,.bool x5.MQ.null,jS x5.MQ.data,.bool false,.string ⟨#[]⟩,jI 0,jI 0,jI 0,jS x22.MM,jI x22.MG,jI x22.MJ,.slice A23 x22.MF.length c24,.string ⟨#[]⟩,jI 0,jI 0,.bool false,.slice none 0 0,.bool false,.string ⟨#[]⟩,jI 0,jI 0,.slice none 0 0]) Z .u Z Z NL Z Z Z Z Z (KF aD 1 Z ?_))))
    obtain rfl:=Nq h
    exact KI (T.ret (Lc 5 aY (Lc 2 aM (Lo [6,2,1,0] O2 (Ly (us:= #[jI x5.MS,jI x5.MR,jI x5.MY,.bool x5.MQ.null,jS x5.MQ.data,.bool false,.string ⟨#[]⟩,jI 0,jI 0,jI 0,jS x22.MM,jI x22.MG,jI x22.MJ,.slice A23 x22.MF.length c24,.string ⟨#[]⟩,jI 0,jI 0,.bool false,.slice none 0 0,.bool false,.string ⟨#[]⟩,jI 0,jI 0,.slice none 0 0]) 5 Z N7 NL Z Z) (KJ Z) ⟨_,_,_,_,_,_,Z,Z,Z⟩ QJ (.inl Z)))))
   refine Li Z c30 (KG Z ?_)
   refine KH Z (Ld (cells:=lm) eW Z QI) Z ?_
   refine KF aD 1 Z (KW 3 Z (cs':=lm) Z .u Z Z NL Z Z Z Z Z (KF aD 1 Z ?_))
   obtain rfl:=Nq h
   exact KI (T.ret (KL (Lc 2 bc (Lc 5 aY (Lc 2 aM (Lo [7,2,1,0] O2 (Ly (us:=lm) 6 Z N7 NL Z Z) (KJ Z) ⟨_,_,_,_,_,_,Z,Z,Z⟩ QJ (.inl Z)))))))
  refine K9 Z c21 (KG Z (KF aD 2 Z ?_))
  rcases jF h with⟨c31,h⟩ | ⟨c31,h⟩
  ·refine La Z c31 (T.region Z ?_)
   obtain⟨⟨x32,st33⟩,hx34,h⟩:=Np h
   refine KF aD 1 Z (KT 1 Z Z .u (.fn Tryz.call118 Z) (sb b4 st10 _ hx34) sT Z Z (KF aD 1 Z (KW 0 Z (cs':= #[jI x5.MS,jI x5.MR,jI x5.MY,.bool x5.MQ.null,jS x5.MQ.data,.bool false,.string ⟨#[]⟩,jI 0,jI 0,jI 0,.string ⟨#[]⟩,jI 0,jI 0,.slice none 0 0,jS x32.MM,jI x32.MG,jI x32.MJ,.bool x32.MZ,.slice none 0 0,.bool false,.string ⟨#[]⟩,jI 0,jI 0,.slice none 0 0]) Z .u Z Z OC Z Z Z Z Z (TL.nil (K4 (X.seq (T.seq (KG Z ?_))))))))
   obtain⟨⟨x35,st36⟩,hx37,h⟩:=Np h
   refine KF aD 1 Z (KT 1 Z Z .u (.fn Tryz.call21 Z) (dt b4 st33 _ hx37) sT Z Z (K8 aD Z Z (KF aD 2 Z ?_)))
   rcases jF h with⟨c38,h⟩ | ⟨c38,h⟩
   ·refine Lj Z c38 (Lg Z (KH Z (KY (us := [jI x5.MS,jI x5.MR,jI x5.MY,.bool x5.MQ.null,jS x5.MQ.data,.bool false,.string ⟨#[]⟩,jI 0,jI 0,jI 0,.string ⟨#[]⟩,jI 0,jI 0,.slice none 0 0,jS x32.MM,jI x32.MG,jI x32.MJ,.bool x32.MZ,.slice none 0 0,.bool false,.string ⟨#[]⟩,jI 0,jI 0,.slice none 0 0]) 0 Z N7 NL Z Z Z) Z (KW 2 Z (cs':= #[jI x5.MS,jI x5.MR,jI x5.MY,.bool x5.MQ.null,jS x5.MQ.data,.bool false,.string ⟨#[]⟩,jI 0,jI 0,jI 0,.string ⟨#[]⟩,jI 0,jI 0,.slice none 0 0,jS x32.MM,jI x32.MG,jI x32.MJ,.bool x32.MZ,.slice none 0 0,.bool false,.string ⟨#[]⟩,jI 0,jI 0,.slice none 0 0]) Z .u Z Z NL Z Z Z Z Z (KF aD 1 Z ?_))))
    obtain rfl:=Nq h
    exact KI (T.ret (Lc 2 bc (Lc 5 aY (Lc 2 aM (Lo [6,2,1,0] O2 (Ly (us:= #[jI x5.MS,jI x5.MR,jI x5.MY,.bool x5.MQ.null,jS x5.MQ.data,.bool false,.string ⟨#[]⟩,jI 0,jI 0,jI 0,.string ⟨#[]⟩,jI 0,jI 0,.slice none 0 0,jS x32.MM,jI x32.MG,jI x32.MJ,.bool x32.MZ,.slice none 0 0,.bool false,.string ⟨#[]⟩,jI 0,jI 0,.slice none 0 0]) 5 Z N7 NL Z Z) (KJ Z) ⟨_,_,_,_,_,_,Z,Z,Z⟩ QJ (.inl Z))))))
   refine Li Z c38 (KG Z ?_)
   refine KH Z (Ld (cells:=lm) eW Z QI) Z ?_
   refine KF aD 1 Z (KW 2 Z (cs':=lm) Z .u Z Z NL Z Z Z Z Z (KF aD 1 Z ?_))
   obtain rfl:=Nq h
   exact KI (T.ret (KL (Lc 2 bc (Lc 5 aY (Lc 2 aM (Lo [6,2,1,0] O2 (Ly (us:=lm) 5 Z N7 NL Z Z) (KJ Z) ⟨_,_,_,_,_,_,Z,Z,Z⟩ QJ (.inl Z)))))))
  refine K9 Z c31 (KG Z (KF aD 2 Z ?_))
  rcases jF h with⟨c39,h⟩ | ⟨c39,h⟩
  ·refine La Z c39 (T.region Z ?_)
   obtain⟨⟨x40,st43⟩,hx44,h⟩:=Np h
   refine KK aD ig 0 Z 4 Z Z (Mp Z .u (.fn Tryz.call119 Z) (uU b4 st10 x5.MR _ hx44) sT Z ?_)
   rintro _ _ _ ⟨A41,c42,rfl,rfl,rfl⟩
   refine Lt [0,0,0,0,0] Z (KF aD 1 Z (KW 1 Z (cs':= #[jI x5.MS,jI x5.MR,jI x5.MY,.bool x5.MQ.null,jS x5.MQ.data,.bool false,.string ⟨#[]⟩,jI 0,jI 0,jI 0,.string ⟨#[]⟩,jI 0,jI 0,.slice none 0 0,.string ⟨#[]⟩,jI 0,jI 0,.bool false,.slice A41 x40.length c42,.bool false,.string ⟨#[]⟩,jI 0,jI 0,.slice none 0 0]) Z .u Z Z Tryz.sizeOf33 Z Z Z Z Z (TL.nil (K4 (X.seq (T.seq (KG Z ?_)))))))
   obtain⟨⟨x45,st46⟩,hx47,h⟩:=Np h
   refine KF aD 1 Z (KT 2 Z Z .u (.fn Tryz.call21 Z) (dt b4 st43 _ hx47) sT Z Z (K8 aD Z Z (KF aD 2 Z ?_)))
   rcases jF h with⟨c48,h⟩ | ⟨c48,h⟩
   ·refine Lj Z c48 (Lg Z (KH Z (KY (us := [jI x5.MS,jI x5.MR,jI x5.MY,.bool x5.MQ.null,jS x5.MQ.data,.bool false,.string ⟨#[]⟩,jI 0,jI 0,jI 0,.string ⟨#[]⟩,jI 0,jI 0,.slice none 0 0,.string ⟨#[]⟩,jI 0,jI 0,.bool false,.slice A41 x40.length c42,.bool false,.string ⟨#[]⟩,jI 0,jI 0,.slice none 0 0]) 1 Z N7 NL Z Z Z) Z (KW 3 Z (cs':= #[jI x5.MS,jI x5.MR,jI x5.MY,.bool x5.MQ.null,jS x5.MQ.data,.bool false,.string ⟨#[]⟩,jI 0,jI 0,jI 0,.string ⟨#[]⟩,jI 0,jI 0,.slice none 0 0,.string ⟨#[]⟩,jI 0,jI 0,.bool false,.slice A41 x40.length c42,.bool false,.string ⟨#[]⟩,jI 0,jI 0,.slice none 0 0]) Z .u Z Z NL Z Z Z Z Z (KF aD 1 Z ?_))))
    obtain rfl:=Nq h
    exact KI (T.ret (Lc 2 bc (Lc 2 aM (Lo [6,1,1,0] O2 (Ly (us:= #[jI x5.MS,jI x5.MR,jI x5.MY,.bool x5.MQ.null,jS x5.MQ.data,.bool false,.string ⟨#[]⟩,jI 0,jI 0,jI 0,.string ⟨#[]⟩,jI 0,jI 0,.slice none 0 0,.string ⟨#[]⟩,jI 0,jI 0,.bool false,.slice A41 x40.length c42,.bool false,.string ⟨#[]⟩,jI 0,jI 0,.slice none 0 0]) 5 Z N7 NL Z Z) (KJ Z) ⟨_,_,_,_,_,_,Z,Z,Z⟩ QJ (.inl Z)))))
   refine Li Z c48 (KG Z ?_)
   refine KH Z (Ld (cells:=lm) eW Z QI) Z ?_
   refine KF aD 1 Z (KW 3 Z (cs':=lm) Z .u Z Z NL Z Z Z Z Z (KF aD 1 Z ?_))
   obtain rfl:=Nq h
   exact KI (T.ret (KL (Lc 2 bc (Lc 5 aY (Lc 2 aM (Lo [7,2,1,0] O2 (Ly (us:=lm) 6 Z N7 NL Z Z) (KJ Z) ⟨_,_,_,_,_,_,Z,Z,Z⟩ QJ (.inl Z)))))))
  refine K9 Z c39 (T.region Z ?_)
  obtain⟨⟨x49,st52⟩,hx53,h⟩:=Np h
  refine KK aD ig 0 Z 4 Z Z (Mp Z .u (.fn Tryz.call120 Z) (rD b4 st10 x5.MR _ hx53) sT Z ?_)
  rintro _ _ _ ⟨A50,c51,rfl,rfl,rfl⟩
  refine Lt [0,0,0,0,0] Z (KF aD 1 Z (KW 1 Z (cs':= #[jI x5.MS,jI x5.MR,jI x5.MY,.bool x5.MQ.null,jS x5.MQ.data,.bool false,.string ⟨#[]⟩,jI 0,jI 0,jI 0,.string ⟨#[]⟩,jI 0,jI 0,.slice none 0 0,.string ⟨#[]⟩,jI 0,jI 0,.bool false,.slice none 0 0,.bool x49.MM.null,jS x49.MM.data,jI x49.M5,jI x49.ML,.slice A50 x49.MF.length c51]) Z .u Z Z Oh Z Z Z Z Z (TL.nil (K4 (X.seq (T.seq (KG Z ?_)))))))
  obtain⟨⟨x54,st55⟩,hx56,h⟩:=Np h
  refine KF aD 1 Z (KT 2 Z Z .u (.fn Tryz.call21 Z) (dt b4 st52 _ hx56) sT Z Z (K8 aD Z Z (KF aD 2 Z ?_)))
  rcases jF h with⟨c57,h⟩ | ⟨c57,h⟩
  ·refine Lj Z c57 (Lg Z (KH Z (KY (us := [jI x5.MS,jI x5.MR,jI x5.MY,.bool x5.MQ.null,jS x5.MQ.data,.bool false,.string ⟨#[]⟩,jI 0,jI 0,jI 0,.string ⟨#[]⟩,jI 0,jI 0,.slice none 0 0,.string ⟨#[]⟩,jI 0,jI 0,.bool false,.slice none 0 0,.bool x49.MM.null,jS x49.MM.data,jI x49.M5,jI x49.ML,.slice A50 x49.MF.length c51]) 1 Z N7 NL Z Z Z) Z (KW 3 Z (cs':= #[jI x5.MS,jI x5.MR,jI x5.MY,.bool x5.MQ.null,jS x5.MQ.data,.bool false,.string ⟨#[]⟩,jI 0,jI 0,jI 0,.string ⟨#[]⟩,jI 0,jI 0,.slice none 0 0,.string ⟨#[]⟩,jI 0,jI 0,.bool false,.slice none 0 0,.bool x49.MM.null,jS x49.MM.data,jI x49.M5,jI x49.ML,.slice A50 x49.MF.length c51]) Z .u Z Z NL Z Z Z Z Z (KF aD 1 Z ?_))))
   obtain rfl:=Nq h
   exact KI (T.ret (Lc 2 bc (Lc 5 aY (Lo [6,1,0,0] O2 (Ly (us:= #[jI x5.MS,jI x5.MR,jI x5.MY,.bool x5.MQ.null,jS x5.MQ.data,.bool false,.string ⟨#[]⟩,jI 0,jI 0,jI 0,.string ⟨#[]⟩,jI 0,jI 0,.slice none 0 0,.string ⟨#[]⟩,jI 0,jI 0,.bool false,.slice none 0 0,.bool x49.MM.null,jS x49.MM.data,jI x49.M5,jI x49.ML,.slice A50 x49.MF.length c51]) 5 Z N7 NL Z Z) (KJ Z) ⟨_,_,_,_,_,_,Z,Z,Z⟩ QJ (.inl Z)))))
  refine Li Z c57 (KG Z ?_)
  refine KH Z (Ld (cells:=lm) eW Z QI) Z ?_
  refine KF aD 1 Z (KW 3 Z (cs':=lm) Z .u Z Z NL Z Z Z Z Z (KF aD 1 Z ?_))
  obtain rfl:=Nq h
  exact KI (T.ret (KL (Lc 2 bc (Lc 5 aY (Lc 2 aM (Lo [7,2,1,0] O2 (Ly (us:=lm) 6 Z N7 NL Z Z) (KJ Z) ⟨_,_,_,_,_,_,Z,Z,Z⟩ QJ (.inl Z)))))))
 refine Li Z c12 (KG Z ?_)
 refine KH Z (Ld (cells:=lm) eW Z QI) Z ?_
 refine KF aD 1 Z (KW 2 Z (cs':=lm) Z .u Z Z NL Z Z Z Z Z (KF aD 1 Z ?_))
 obtain rfl:=Nq h
 exact KI (T.ret (KL (Lc 2 bc (Lc 5 aY (Lc 2 aM (Lo [6,2,1,0] O2 (Ly (us:=lm) 5 Z N7 NL Z Z) (KJ Z) ⟨_,_,_,_,_,_,Z,Z,Z⟩ QJ (.inl Z)))))))
def jH (st:I)  : Option (aE×I):=(ed st 4).bind fun (x2,st3)=>(BN st3 x2).bind fun (x5,st6)=>(iQ st6).bind fun (x8,st9)=>if x8=0 then ((kT x5).bind fun (x12,x19)=>if x19=0 then some (x12,st9) else ((cj st9 x19).bind fun st23=>some ((⟨(⟨0,0,0,(⟨false,[]⟩:Bl)⟩:fx),(⟨(⟨false,[]⟩:Bl),0,0,0⟩:bb),(⟨[],0,0,[]⟩:bT),(⟨[],0,0,false⟩:bR),[],(⟨(⟨false,[]⟩:Bl),0,0,[]⟩:aA)⟩:aE),st23))) else (some ((⟨(⟨0,0,0,(⟨false,[]⟩:Bl)⟩:fx),(⟨(⟨false,[]⟩:Bl),0,0,0⟩:bb),(⟨[],0,0,[]⟩:bT),(⟨[],0,0,false⟩:bR),[],(⟨(⟨false,[]⟩:Bl),0,0,[]⟩:aA)⟩:aE),st9))
theorem th (g:Nat) (st:I)  (r:aE×I) (h:jH st  = some r):aH Tryz.prog 20 #[jP g] .triv (InR g st) (fun v A' N=> ∃ (A25:Option Addr) (c26:Nat) (A27:Option Addr) (c28:Nat) (A29:Option Addr) (c30:Nat),v= .agg #[jI r.1.MI.MS,jI r.1.MI.MR,jI r.1.MI.MY,.bool r.1.MI.MQ.null,jS r.1.MI.MQ.data,.bool r.1.M6.MM.null,jS r.1.M6.MM.data,jI r.1.M6.ML,jI r.1.M6.MG,jI r.1.M6.MJ,jS r.1.M9.MM,jI r.1.M9.MG,jI r.1.M9.MJ,.slice A25 r.1.M9.MF.length c26,jS r.1.M8.MM,jI r.1.M8.MG,jI r.1.M8.MJ,.bool r.1.M8.MZ,.slice A27 r.1.M0.length c28,.bool r.1.MN.MM.null,jS r.1.MN.MM.data,jI r.1.MN.M5,jI r.1.MN.ML,.slice A29 r.1.MN.MF.length c30]∧A'=InR g r.2∧N = [RdR (aq 2 bc) [.slice A25 r.1.M9.MF.length c26] r.1.M9.MF,RdR (aq 5 aY) [.slice A27 r.1.M0.length c28] r.1.M0,RdR (aq 2 aM) [.slice A29 r.1.MN.MF.length c30] r.1.MN.MF]):=by
 refine aU Tryz.func20 Z Tryz.ntmps20 Z ?_
 intro F w hX
 unfold jH at h
 refine KG Z (TL.alloc Z .u Tryz.zeroValue38 Z (fun b1=>(K7 Z ?_)))
 obtain⟨⟨x2,st3⟩,hx4,h⟩:=Np h
 refine KF aD 2 Z (KT 1 Z Z .u (.fn Tryz.call68 Z) (bx g st 4 _ hx4) sT Z Z ?_)
 obtain⟨⟨x5,st6⟩,hx7,h⟩:=Np h
 refine KT 1 Z Z .u (.fn Tryz.call67 Z) (wH g st3 x2 _ hx7) sT Z Z (KP aD Z (T.seq (KG Z ?_)))
 obtain⟨⟨x8,st9⟩,hx10,h⟩:=Np h
 refine KF aD 1 Z (KT 1 Z Z .u (.fn Tryz.call23 Z) (cy g st6 _ hx10) sT Z Z (KF aD 1 Z ?_))
 rcases jF h with⟨c11,h⟩ | ⟨c11,h⟩
 ·refine Lj Z c11 (Lg Z ?_)
  obtain⟨⟨x12,x19⟩,hx20,h⟩:=Np h
  refine KF aD 1 Z (L8 Z .u (.fn Tryz.call69 Z) (tg x5 _ hx20) rT Z ?_)
  rintro _ _ _ ⟨A13,c14,A15,c16,A17,c18,rfl,rfl,rfl⟩
  refine Lt [0,0,0,0,0] Z (KF aD 3 Z (TL.alloc Z .u Tryz.zeroValue38 Z (fun b21=>(KW 0 Z (cs':=lQ x12 A13 A15 A17 c14 c16 c18) Z .u Z Z NL Z Z Z Z Z (KP aD Z (T.seq (KG Z (KF aD 2 Z ?_))))))))
  rcases jF h with⟨c22,h⟩ | ⟨c22,h⟩
  ·refine Lj Z c22 (Lg Z (KH Z (KY (us:=yP x12 A13 A15 A17 c14 c16 c18) 0 Z N7 NL Z Z Z) Z (KW 4 Z (cs':=lQ x12 A13 A15 A17 c14 c16 c18) Z .u Z Z NL Z Z Z Z Z ?_)))
   obtain rfl:=Nq h
   exact KI (T.ret (Le [5,1,1,1] Tryz.results20 (Ly (us:=lQ x12 A13 A15 A17 c14 c16 c18) 4 Z N7 NL Z Z) ⟨_,_,_,_,_,_,Z,Z,Z⟩ QJ (.inl Z)))
  refine Li Z c22 (KG Z ?_)
  obtain⟨st23,hx24,h⟩:=Np h
  refine KF aD 2 Z (KT 5 Z Z .u (.fn Tryz.call70 Z) (bH g st9 x19 _ hx24) sT Z Z (K7 Z ?_))
  refine KH Z (Ld (cells:=lm) eW Z QI) Z ?_
  refine KW 4 Z (cs':=lm) Z .u Z Z NL Z Z Z Z Z ?_
  obtain rfl:=Nq h
  exact KI (T.ret (KL (Lc 2 bc (Lc 5 aY (Lc 2 aM (Le [8,2,1,0] Tryz.results20 (Ly (us:=lm) 7 Z N7 NL Z Z) ⟨_,_,_,_,_,_,Z,Z,Z⟩ QJ (.inl Z)))))))
 refine Li Z c11 (KG Z ?_)
 refine KH Z (Ld (cells:=lm) eW Z QI) Z ?_
 refine KW 0 Z (cs':=lm) Z .u Z Z NL Z Z Z Z Z ?_
 obtain rfl:=Nq h
 exact KI (T.ret (KL (Lc 2 bc (Lc 5 aY (Lc 2 aM (Le [4,2,1,0] Tryz.results20 (Ly (us:=lm) 3 Z N7 NL Z Z) ⟨_,_,_,_,_,_,Z,Z,Z⟩ QJ (.inl Z)))))))
def fX (a0:List UInt8):Option (aE×Int):=(wF a0).bind fun st2=>(jH st2).bind fun (x5,st12)=>(eg st12).bind fun (x15,st16)=>if x15=0 then some (x5,0) else (some ((⟨(⟨0,0,0,(⟨false,[]⟩:Bl)⟩:fx),(⟨(⟨false,[]⟩:Bl),0,0,0⟩:bb),(⟨[],0,0,[]⟩:bT),(⟨[],0,0,false⟩:bR),[],(⟨(⟨false,[]⟩:Bl),0,0,[]⟩:aA)⟩:aE),x15))
theorem jT (a0:List UInt8) (r:aE×Int) (h:fX a0=some r):aH Tryz.prog 15 #[jS a0] .triv (aK) (fun v A' N=> ∃ (A19:Option Addr) (c20:Nat) (A21:Option Addr) (c22:Nat) (A23:Option Addr) (c24:Nat),v= .tuple #[.agg #[jI r.1.MI.MS,jI r.1.MI.MR,jI r.1.MI.MY,.bool r.1.MI.MQ.null,jS r.1.MI.MQ.data,.bool r.1.M6.MM.null,jS r.1.M6.MM.data,jI r.1.M6.ML,jI r.1.M6.MG,jI r.1.M6.MJ,jS r.1.M9.MM,jI r.1.M9.MG,jI r.1.M9.MJ,.slice A19 r.1.M9.MF.length c20,jS r.1.M8.MM,jI r.1.M8.MG,jI r.1.M8.MJ,.bool r.1.M8.MZ,.slice A21 r.1.M0.length c22,.bool r.1.MN.MM.null,jS r.1.MN.MM.data,jI r.1.MN.M5,jI r.1.MN.ML,.slice A23 r.1.MN.MF.length c24],jI r.2]∧A'=aK∧N = [RdR (aq 2 bc) [.slice A19 r.1.M9.MF.length c20] r.1.M9.MF,RdR (aq 5 aY) [.slice A21 r.1.M0.length c22] r.1.M0,RdR (aq 2 aM) [.slice A23 r.1.MN.MF.length c24] r.1.MN.MF]):=by
 refine aU Tryz.func15 Z Tryz.ntmps15 Z ?_
 intro F w hX
 unfold fX at h
 refine KG Z (TL.alloc Z .u Tryz.zeroValue38 Z (fun b1=>(K8 aD Z Z ?_)))
 obtain⟨st2,hx3,h⟩:=Np h
 refine KF aD 1 Z (L8 Z .u (.fn Tryz.call19 Z) (lj a0 _ hx3) rT Z ?_)
 rintro _ _ _ ⟨b4,rfl,rfl,rfl⟩
 refine Lt [0,0,0] Z (K8 aD Z Z ?_)
 obtain⟨⟨x5,st12⟩,hx13,h⟩:=Np h
 refine KF aD 1 Z (TL.cg0 Z .u (.fn Tryz.call20 Z) (th b4 st2 _ hx13) sT Z ?_)
 rintro _ _ _ ⟨A6,c7,A8,c9,A10,c11,rfl,rfl,rfl⟩
 refine Lt [0,0,0,0,0,0] Z (TL.alloc Z .u Tryz.zeroValue38 Z (fun b14=>(KW 0 Z (cs':=lQ x5 A6 A8 A10 c7 c9 c11) Z .u Z Z NL Z Z Z Z Z (KI (T.seq (KG Z ?_))))))
 obtain⟨⟨x15,st16⟩,hx17,h⟩:=Np h
 refine KF aD 1 Z (KT 4 Z Z .u (.fn Tryz.call21 Z) (dt b4 st12 _ hx17) sT Z Z (K8 aD Z Z (KF aD 2 Z ?_)))
 rcases jF h with⟨c18,h⟩ | ⟨c18,h⟩
 ·refine Lj Z c18 (Lg Z (KH Z (KY (us:=yP x5 A6 A8 A10 c7 c9 c11) 0 Z N7 NL Z Z Z) Z (KW 5 Z (cs':=lQ x5 A6 A8 A10 c7 c9 c11) Z .u Z Z NL Z Z Z Z Z (KF aD 1 Z ?_))))
  obtain rfl:=Nq h
  exact KI (T.ret (Lo [6,1,1,1] Tryz.results15 (Ly (us:=lQ x5 A6 A8 A10 c7 c9 c11) 5 Z N7 NL Z Z) (KJ Z) ⟨_,_,_,_,_,_,Z,Z,Z⟩ QJ (.inl Z)))
 refine Li Z c18 (KG Z ?_)
 refine KH Z (Ld (cells:=lm) eW Z QI) Z ?_
 refine KF aD 1 Z (KW 5 Z (cs':=lm) Z .u Z Z NL Z Z Z Z Z (KF aD 1 Z ?_))
 obtain rfl:=Nq h
 exact KI (T.ret (KL (Lc 2 bc (Lc 5 aY (Lc 2 aM (Lo [9,2,1,0] Tryz.results15 (Ly (us:=lm) 8 Z N7 NL Z Z) (KJ Z) ⟨_,_,_,_,_,_,Z,Z,Z⟩ QJ (.inl Z)))))))
def uZ:fg := [(23,1,1),(25,0,0),(25,3,3),(27,0,0),(27,1,2),(27,2,3),(27,3,4),(30,0,0),(30,1,1),(30,2,2),(30,3,3),(32,0,0),(32,1,1),(32,2,2),(32,3,3),(38,0,0),(38,1,5),(38,2,10),(38,3,14),(38,4,18),(38,5,19),(53,1,5),(53,2,12),(53,3,13),(67,0,0),(67,1,18),(67,2,19)]
theorem ae:(uZ).OK Tryz.prog:=⟨FOK.mk NS rfl NZ rfl,FOK.mk ON rfl Ny rfl,FOK.mk ON rfl ND rfl,FOK.mk OM rfl ND rfl,FOK.mk OM rfl Ny rfl,FOK.mk OM rfl Ny rfl,FOK.mk OM rfl Ny rfl,FOK.mk OG rfl NZ rfl,FOK.mk OG rfl Ny rfl,FOK.mk OG rfl Ny rfl,FOK.mk OG rfl Pq rfl,FOK.mk Oy rfl NZ rfl,FOK.mk Oy rfl Ny rfl,FOK.mk Oy rfl Ny rfl,FOK.mk Oy rfl N5 rfl,FOK.mk Oo rfl Oq rfl,FOK.mk Oo rfl OR rfl,FOK.mk Oo rfl O1 rfl,FOK.mk Oo rfl OC rfl,FOK.mk Oo rfl Tryz.sizeOf33 rfl,FOK.mk Oo rfl Oh rfl,FOK.mk OY rfl O0 rfl,FOK.mk OY rfl Tryz.sizeOf48 rfl,FOK.mk OY rfl Pb rfl,FOK.mk QA rfl Ou rfl,FOK.mk QA rfl Ny rfl,FOK.mk QA rfl Ny rfl,trivial⟩
def u0:List Nat := [3,4,9,28,33]
theorem aT:NOK Tryz.prog u0:=⟨Nz,Ok,N4,OZ,Tryz.isAgg33,trivial⟩
theorem tj:Tryz.prog.follows .mixedOrders=true:=by kernel_rfl
theorem jw:BOK Tryz.prog 23 #[.bool false,.string ⟨#[]⟩] [(0,1),(1,1)]:=BOK.mk Tryz.zeroValue23 NS (by intro w; simp)
theorem qC:BOK Tryz.prog 25 #[.int .i64 0,.int .i64 0,.int .i64 0,.bool false,.string ⟨#[]⟩] [(0,1),(1,1),(2,1),(3,2)]:=BOK.mk Tryz.zeroValue25 ON (by intro w; simp)
theorem qD:BOK Tryz.prog 27 #[.bool false,.string ⟨#[]⟩,.int .i64 0,.int .i64 0,.int .i64 0] [(0,2),(2,1),(3,1),(4,1)]:=BOK.mk Tryz.zeroValue27 OM (by intro w; simp)
theorem gF:BOK Tryz.prog 32 #[.string ⟨#[]⟩,.int .i64 0,.int .i64 0,.bool false] [(0,1),(1,1),(2,1),(3,1)]:=BOK.mk Tryz.zeroValue32 Oy (by intro w; simp)
theorem qE:BOK Tryz.prog 38 #[.int .i64 0,.int .i64 0,.int .i64 0,.bool false,.string ⟨#[]⟩,.bool false,.string ⟨#[]⟩,.int .i64 0,.int .i64 0,.int .i64 0,.string ⟨#[]⟩,.int .i64 0,.int .i64 0,.slice none 0 0,.string ⟨#[]⟩,.int .i64 0,.int .i64 0,.bool false,.slice none 0 0,.bool false,.string ⟨#[]⟩,.int .i64 0,.int .i64 0,.slice none 0 0] [(0,5),(5,5),(10,4),(14,4),(18,1),(19,5)]:=BOK.mk Tryz.zeroValue38 Oo (by intro w; simp)
theorem jx:BOK Tryz.prog 47 #[.bool false,.string ⟨#[]⟩,.int .i64 0,.int .i64 0,.int .i64 0,.slice none 0 0,.bool false] [(0,2),(2,1),(3,1),(4,1),(5,1),(6,1)]:=BOK.mk Tryz.zeroValue47 Pf (by intro w; simp)
theorem fe:BOK Tryz.prog 51 #[.bool false,.string ⟨#[]⟩,.int .i64 0,.int .i64 0,.slice none 0 0] [(0,2),(2,1),(3,1),(4,1)]:=BOK.mk Tryz.zeroValue51 Pc (by intro w; simp)
theorem qF:BOK Tryz.prog 53 #[.int .i64 0,.int .i64 0,.int .i64 0,.bool false,.string ⟨#[]⟩,.bool false,.string ⟨#[]⟩,.int .i64 0,.int .i64 0,.int .i64 0,.slice none 0 0,.bool false,.slice none 0 0,.bool false,.string ⟨#[]⟩,.int .i64 0,.int .i64 0,.slice none 0 0] [(0,5),(5,7),(12,1),(13,5)]:=BOK.mk Tryz.zeroValue53 OY (by intro w; simp)
theorem dQ:fu Tryz.prog 3 27 [.bool,.string,.int .i64,.int .i64,.int .i64] true:=(fu.struct PE OR rfl Tryz.underlying27 Tryz.stoodInHeld27 ⟨by decide,rfl,[.bool,.string],[.int .i64,.int .i64,.int .i64],true,rfl,(fu.struct N0 ND rfl Tryz.underlying23 Tryz.stoodInHeld23 ⟨by decide,rfl,[.bool],[.string],false,rfl,(LK Ok N5 Tryz.underlying4),⟨by decide,rfl,[.string],[],false,rfl,(LK N4 NZ Tryz.underlying9),rfl⟩⟩),⟨by decide,rfl,[.int .i64],[.int .i64,.int .i64],false,rfl,((LK Nz Ny Tryz.underlying3).mono QH),⟨by decide,rfl,[.int .i64],[.int .i64],false,rfl,((LK Nz Ny Tryz.underlying3).mono QH),⟨by decide,rfl,[.int .i64],[],false,rfl,((LK Nz Ny Tryz.underlying3).mono QH),rfl⟩⟩⟩⟩)
theorem ba:fu Tryz.prog 2 32 [.string,.int .i64,.int .i64,.bool] true:=(fu.struct O6 OC rfl Tryz.underlying32 Tryz.stoodInHeld32 ⟨by decide,rfl,[.string],[.int .i64,.int .i64,.bool],false,rfl,(LK N4 NZ Tryz.underlying9),⟨by decide,rfl,[.int .i64],[.int .i64,.bool],false,rfl,(LK Nz Ny Tryz.underlying3),⟨by decide,rfl,[.int .i64],[.bool],false,rfl,(LK Nz Ny Tryz.underlying3),⟨by decide,rfl,[.bool],[],false,rfl,(LK Ok N5 Tryz.underlying4),rfl⟩⟩⟩⟩)
def mI  : Option (Bool):=(db (⟨(⟨26,0,0,(⟨true,[]⟩:Bl)⟩:fx),(⟨(⟨false,[]⟩:Bl),0,0,0⟩:bb),(⟨[],0,0,[]⟩:bT),(⟨[97],0,0,false⟩:bR),[],(⟨(⟨false,[]⟩:Bl),0,0,[]⟩:aA)⟩:aE)).bind fun (x2,x3)=>(fX x2).bind fun (x5,x12)=>if x2.length + [120].length≤9223372036854775807 then ((fX (x2 ++ [120])).bind fun (x16,x23)=>(if x3=0 then (if (x2.length:Int)=28 then ((x2[3]?).bind fun ch40=>if (ch40.toNat:Int)=24 then (if x12=0 then (if x5.M8.MM = [97] then (if x5.M8.MG=0 then (if x5.M8.MJ=0 then (if x5.M8.MZ=true then some false else (if x23=2 then some true else some false)) else some false) else some false) else some false) else some false) else some false) else some false) else some false).bind fun y36=>some y36) else none
theorem tk  (r:Bool) (h:mI  = some r):aH Tryz.prog 10 #[] .triv (aK) (fun v A' N=>v= .bool r∧A'=aK∧N = []):=by
 refine aU Tryz.func10 Z Tryz.ntmps10 Z ?_
 intro F w hX
 unfold mI at h
 refine KG Z (K8 ae Z Z ?_)
 refine KH Z (Ld (cells:= #[.bool true,.string ⟨#[]⟩]) jw Z QI) Z ?_
 refine KH Z (Ld (cells:= #[jI 26,jI 0,jI 0,.bool true,.string ⟨#[]⟩]) qC Z QI) Z ?_
 refine KH Z (Ld (cells:= #[.string ⟨#[97]⟩,jI 0,jI 0,.bool false]) gF Z QI) Z ?_
 refine KH Z (Ld (cells:= #[jI 26,jI 0,jI 0,.bool true,.string ⟨#[]⟩,.bool false,.string ⟨#[]⟩,jI 0,jI 0,jI 0,.string ⟨#[]⟩,jI 0,jI 0,.slice none 0 0,.string ⟨#[97]⟩,jI 0,jI 0,.bool false,.slice none 0 0,.bool false,.string ⟨#[]⟩,jI 0,jI 0,.slice none 0 0]) qE Z QI) Z ?_
 refine TL.alloc Z .u Tryz.zeroValue38 Z (fun b1=>(KW 0 Z (cs':= #[jI 26,jI 0,jI 0,.bool true,.string ⟨#[]⟩,.bool false,.string ⟨#[]⟩,jI 0,jI 0,jI 0,.string ⟨#[]⟩,jI 0,jI 0,.slice none 0 0,.string ⟨#[97]⟩,jI 0,jI 0,.bool false,.slice none 0 0,.bool false,.string ⟨#[]⟩,jI 0,jI 0,.slice none 0 0]) Z .u Z Z NL Z Z Z Z Z (K7 Z (KH Z (KY (us := [jI 26,jI 0,jI 0,.bool true,.string ⟨#[]⟩,.bool false,.string ⟨#[]⟩,jI 0,jI 0,jI 0,.string ⟨#[]⟩,jI 0,jI 0,.slice none 0 0,.string ⟨#[97]⟩,jI 0,jI 0,.bool false,.slice none 0 0,.bool false,.string ⟨#[]⟩,jI 0,jI 0,.slice none 0 0]) 0 Z N7 NL Z Z Z) Z ?_))))
 obtain⟨⟨x2,x3⟩,hx4,h⟩:=Np h
 refine K2 Z .u (.fn Tryz.call12 Z) (mC (⟨(⟨26,0,0,(⟨true,[]⟩:Bl)⟩:fx),(⟨(⟨false,[]⟩:Bl),0,0,0⟩:bb),(⟨[],0,0,[]⟩:bT),(⟨[97],0,0,false⟩:bR),[],(⟨(⟨false,[]⟩:Bl),0,0,[]⟩:aA)⟩:aE) _ _ _ _ _ _ _ hx4) (fun _ hs=>(RX.reads_and eC (RX.reads_and eC eC))) Z (K8 ae Z Z ?_)
 obtain⟨⟨x5,x12⟩,hx13,h⟩:=Np h
 refine KF ae 1 Z (L8 Z .u (.fn Tryz.call15 Z) (jT x2 _ hx13) rT Z ?_)
 rintro _ _ _ ⟨A6,c7,A8,c9,A10,c11,rfl,rfl,rfl⟩
 refine Lt [0,0,0,0,0] Z (KF ae 3 Z (TL.alloc Z .u Tryz.zeroValue38 Z (fun b14=>(KW 0 Z (cs':=lQ x5 A6 A8 A10 c7 c9 c11) Z .u Z Z NL Z Z Z Z Z (K8 ae Z Z ?_)))))
 obtain⟨c15,h⟩:=ao h
 refine KF ae 1 Z (KH Z (Lh Z (m := [120]) Z c15) Z ?_)
 obtain⟨⟨x16,x23⟩,hx24,h⟩:=Np h
 refine L8 Z .u (.fn Tryz.call15 Z) (jT (x2 ++ [120]) _ hx24) rT Z ?_
 rintro _ _ _ ⟨A17,c18,A19,c20,A21,c22,rfl,rfl,rfl⟩
 refine Lt [0,0,0,0,0,0,0,0,0] Z (KF ae 3 Z (TL.alloc Z .u Tryz.zeroValue38 Z (fun b25=>(KW 0 Z (cs':=lQ x16 A17 A19 A21 c18 c20 c22) Z .u Z Z NL Z Z Z Z Z (KP ae Z (T.seq ?_))))))
 obtain⟨y36,h,hk37⟩:=Np h
 refine Lz (fun e Rs=>e = [(0,.bool y36)]∧Rs = [aW b25 38 (lQ x16 A17 A19 A21 c18 c20 c22),RdR (aq 2 bc) [.slice A17 x16.M9.MF.length c18] x16.M9.MF,RdR (aq 5 aY) [.slice A19 x16.M0.length c20] x16.M0,RdR (aq 2 aM) [.slice A21 x16.MN.MF.length c22] x16.MN.MF,aW b14 38 (lQ x5 A6 A8 A10 c7 c9 c11),RdR (aq 2 bc) [.slice A6 x5.M9.MF.length c7] x5.M9.MF,RdR (aq 5 aY) [.slice A8 x5.M0.length c9] x5.M0,RdR (aq 2 aM) [.slice A10 x5.MN.MF.length c11] x5.MN.MF,aW b1 38 #[jI 26,jI 0,jI 0,.bool true,.string ⟨#[]⟩,.bool false,.string ⟨#[]⟩,jI 0,jI 0,jI 0,.string ⟨#[]⟩,jI 0,jI 0,.slice none 0 0,.string ⟨#[97]⟩,jI 0,jI 0,.bool false,.slice none 0 0,.bool false,.string ⟨#[]⟩,jI 0,jI 0,.slice none 0 0],aK]) ?_ ?_
 ·clear hk37
  refine T.region Z ?_
  rcases jF h with⟨c38,h⟩ | ⟨c38,h⟩
  ·refine KF ae 3 Z (KN 30 Z (Nt c38) (KM ae 1 Z (TL.q Z (.g Z Z Z) (Lx Z NE) Z ?_)))
   rcases jF h with⟨c39,h⟩ | ⟨c39,h⟩
   ·refine KM ae 3 Z (KN 35 Z (Nt c39) ?_)
    obtain⟨ch40,hc41,h⟩:=Np h
    refine KM ae 1 Z (TL.q Z (.g Z Z Z) (Mw Z Z Z Tryz.underlying9 hc41) Z ?_)
    rcases jF h with⟨c42,h⟩ | ⟨c42,h⟩
    ·refine KM ae 3 Z (KN 40 Z (Nt c42) ?_)
     rcases jF h with⟨c43,h⟩ | ⟨c43,h⟩
     ·refine KM ae 4 Z (KN 44 Z (Nt c43) (KM ae 1 Z (TL.q Z (.g Z Z Z) (KY (us:=lP x5.M8) 4 Z O6 OC Z Z Z) Z (KM ae 1 Z (TL.q Z (.g Z Z Z) (KY (us := [.string ⟨#[97]⟩,jI 0,jI 0,.bool false]) 8 Z O6 OC Z Z Z) Z ?_)))))
      rcases jF h with⟨c44,h⟩ | ⟨c44,h⟩
      ·rcases jF h with⟨c45,h⟩ | ⟨c45,h⟩
       ·rcases jF h with⟨c46,h⟩ | ⟨c46,h⟩
        ·rcases jF h with⟨c47,h⟩ | ⟨c47,h⟩
         ·refine TL.q Z (.g Z Z Z) (LG (us:=lP x5.M8) (vs := [.string ⟨#[97]⟩,jI 0,jI 0,.bool false]) ba Z Ob Z Z Z Z (bE (gj (l:=x5.M8.MM) (m := [97]) c44) (bE (eD c45) (bE (eD c46) (eK (nb (fun h=>absurd ((Eq.symm c47).trans (h.trans Z)) QH))))))) Z (KM ae 6 Z ?_)
          cases h
          exact TL.nil (KR [0,0,0,0,0,0,0,0,0,0])
         replace c47:=Nx c47
         refine TL.q Z (.g Z Z Z) (LG (us:=lP x5.M8) (vs := [.string ⟨#[97]⟩,jI 0,jI 0,.bool false]) ba Z Ob Z Z Z Z (bE (gj (l:=x5.M8.MM) (m := [97]) c44) (bE (eD c45) (bE (eD c46) (bE (jX (c47.trans (Eq.symm Z))) Z))))) Z (KM ae 6 Z ?_)
         rcases jF h with⟨c48,h⟩ | ⟨c48,h⟩
         ·cases h
          exact TL.nil (LE (d:=0) (v':= .bool true) Z (congrArg Value.bool (Nt c48)) (KR [0,0,0,0,0,0,0,0,0,0]))
         cases h
         exact TL.nil (LE (d:=0) (v':= .bool false) Z (congrArg Value.bool (Nu c48)) (KR [0,0,0,0,0,0,0,0,0,0]))
        refine TL.q Z (.g Z Z Z) (LG (us:=lP x5.M8) (vs := [.string ⟨#[97]⟩,jI 0,jI 0,.bool false]) ba Z Ob Z Z Z Z (bE (gj (l:=x5.M8.MM) (m := [97]) c44) (bE (eD c45) (eK (kD c46))))) Z (KM ae 6 Z ?_)
        cases h
        exact TL.nil (KR [0,0,0,0,0,0,0,0,0,0])
       refine TL.q Z (.g Z Z Z) (LG (us:=lP x5.M8) (vs := [.string ⟨#[97]⟩,jI 0,jI 0,.bool false]) ba Z Ob Z Z Z Z (bE (gj (l:=x5.M8.MM) (m := [97]) c44) (eK (kD c45)))) Z (KM ae 6 Z ?_)
       cases h
       exact TL.nil (KR [0,0,0,0,0,0,0,0,0,0])
      refine TL.q Z (.g Z Z Z) (LG (us:=lP x5.M8) (vs := [.string ⟨#[97]⟩,jI 0,jI 0,.bool false]) ba Z Ob Z Z Z Z (eK (mj (l:=x5.M8.MM) (m := [97]) c44))) Z (KM ae 6 Z ?_)
      cases h
      exact TL.nil (KR [0,0,0,0,0,0,0,0,0,0])
     refine KM ae 4 Z (KN 44 Z (Nu c43) (KM ae 11 Z ?_))
     cases h
     exact TL.nil (KR [0,0,0,0,0,0,0,0,0,0])
    refine KM ae 3 Z (KN 40 Z (Nu c42) (KM ae 15 Z ?_))
    cases h
    exact TL.nil (KR [0,0,0,0,0,0,0,0,0,0])
   refine KM ae 3 Z (KN 35 Z (Nu c39) (KM ae 20 Z ?_))
   cases h
   exact TL.nil (KR [0,0,0,0,0,0,0,0,0,0])
  refine KF ae 3 Z (KN 30 Z (Nu c38) (KM ae 25 Z ?_))
  cases h
  exact TL.nil (KR [0,0,0,0,0,0,0,0,0,0])
 rintro _ _ ⟨rfl,rfl⟩
 clear h
 have h:=hk37
 clear hk37
 obtain rfl:=Nq h
 exact X.seq (T.ret (KQ [9] Tryz.results10 (KJ Z)))
def mR (a0:aE):Option (Int):=(if (a0.MI.MQ.data.length:Int)>1000 then some true else (if (a0.M6.MM.data.length:Int)>1000 then some true else (if (a0.M9.MM.length:Int)>1000 then some true else (if (a0.M8.MM.length:Int)>1000 then some true else ((ln a0.M9.MF).bind fun x26=>if x26=0 then some true else ((mM a0.M0).bind fun x29=>if x29=0 then some true else ((mN a0.MN).bind fun x32=>if x32=0 then some true else some false))))))).bind fun y20=>if y20=true then some 0 else some 1
theorem xq (a0:aE) (A1:Option Addr) (c2:Nat) (A3:Option Addr) (c4:Nat) (A5:Option Addr) (c6:Nat) (r:Int) (h:mR a0=some r):aH Tryz.prog 11 #[.agg (lQ a0 A1 A3 A5 c2 c4 c6)] (RX.and (RX.of (aq 2 bc) [.slice A1 a0.M9.MF.length c2] a0.M9.MF) (RX.and (RX.of (aq 5 aY) [.slice A3 a0.M0.length c4] a0.M0) (RX.of (aq 2 aM) [.slice A5 a0.MN.MF.length c6] a0.MN.MF))) (aK) (fun v A' N=>v=jI r∧A'=aK∧N = []):=by
 refine aU Tryz.func11 Z Tryz.ntmps11 Z ?_
 intro F w hX
 unfold mR at h
 refine KG Z (TL.box Z .u Z Z (fun b7=>(KP ae Z (L3 ?_))))
 obtain⟨y20,h,hk21⟩:=Np h
 refine Lz (fun e Rs=>e = [(2,jI 0),(49,.bool y20)]∧Rs = [aW b7 38 (lQ a0 A1 A3 A5 c2 c4 c6),aK]) ?_ ?_
 ·clear hk21
  refine T.region Z (KK ae aT 0 Z 4 Z Z (KH Z (Lx Z NE) Z ?_))
  rcases jF h with⟨c22,h⟩ | ⟨c22,h⟩
  ·refine KF ae 2 Z (KN 9 Z (Nt c22) (KM ae 40 Z ?_))
   cases h
   exact TL.nil (KR [0,0])
  refine KF ae 2 Z (KN 9 Z (Nu c22) (KK ae aT 0 Z 4 Z Z (TL.q Z (.g Z Z Z) (Lx Z NE) Z ?_)))
  rcases jF h with⟨c23,h⟩ | ⟨c23,h⟩
  ·refine KM ae 3 Z (KN 17 Z (Nt c23) (KM ae 32 Z ?_))
   cases h
   exact TL.nil (KR [0,0])
  refine KM ae 3 Z (KN 17 Z (Nu c23) (KK ae aT 0 Z 3 Z Z (TL.q Z (.g Z Z Z) (Lx Z NE) Z ?_)))
  rcases jF h with⟨c24,h⟩ | ⟨c24,h⟩
  ·refine KM ae 3 Z (KN 24 Z (Nt c24) (KM ae 25 Z ?_))
   cases h
   exact TL.nil (KR [0,0])
  refine KM ae 3 Z (KN 24 Z (Nu c24) (KK ae aT 0 Z 3 Z Z (TL.q Z (.g Z Z Z) (Lx Z NE) Z ?_)))
  rcases jF h with⟨c25,h⟩ | ⟨c25,h⟩
  ·refine KM ae 3 Z (KN 31 Z (Nt c25) (KM ae 18 Z ?_))
   cases h
   exact TL.nil (KR [0,0])
  refine KM ae 3 Z (KN 31 Z (Nu c25) ?_)
  obtain⟨x26,hx27,h⟩:=Np h
  refine KK ae aT 0 Z 3 Z Z (K2 Z (.g Z Z Z) (.fn Tryz.call44 Z) (qn a0.M9.MF _ _ _ hx27) (fun _ hs=>(K0 hs (Ll hX))) Z ?_)
  rcases jF h with⟨c28,h⟩ | ⟨c28,h⟩
  ·refine KM ae 3 Z (KN 38 Z (Nt c28) (KM ae 11 Z ?_))
   cases h
   exact TL.nil (KR [0,0])
  refine KM ae 3 Z (KN 38 Z (Nu c28) ?_)
  obtain⟨x29,hx30,h⟩:=Np h
  refine KK ae aT 0 Z 2 Z Z (K2 Z (.g Z Z Z) (.fn Tryz.call45 Z) (xb a0.M0 _ _ _ hx30) (fun _ hs=>(K0 hs (Ll (K6 hX)))) Z ?_)
  rcases jF h with⟨c31,h⟩ | ⟨c31,h⟩
  ·refine KM ae 3 Z (KN 44 Z (Nt c31) (KM ae 5 Z ?_))
   cases h
   exact TL.nil (KR [0,0])
  refine KM ae 3 Z (KN 44 Z (Nu c31) (KM ae 1 Z (TL.q Z (.g Z Z Z) (KY (us := [.bool a0.MN.MM.null,jS a0.MN.MM.data,jI a0.MN.M5,jI a0.MN.ML,.slice A5 a0.MN.MF.length c6]) 0 Z OO Oh Z Z Z) Z ?_)))
  obtain⟨x32,hx33,h⟩:=Np h
  refine K2 Z (.g Z Z Z) (.fn Tryz.call46 Z) (xc a0.MN _ _ _ hx33) (fun _ hs=>(K0 hs (K6 (K6 hX)))) Z (KM ae 2 Z ?_)
  rcases jF h with⟨c34,h⟩ | ⟨c34,h⟩
  ·cases h
   exact TL.nil (LE (d:=49) (v':= .bool true) Z (congrArg Value.bool (Nt c34)) (KR [0,0]))
  cases h
  exact TL.nil (LE (d:=49) (v':= .bool false) Z (congrArg Value.bool (Nu c34)) (KR [0,0]))
 rintro _ _ ⟨rfl,rfl⟩
 clear h
 have h:=hk21
 clear hk21
 try dsimp only at h
 rcases jF h with⟨c35,h⟩ | ⟨c35,h⟩
 ·refine X.seq (KV Z c35 (KG Z (KF ae 1 Z ?_)))
  obtain rfl:=Nq h
  exact KI (T.ret (KL (KQ [1] Tryz.results11 (KJ Z))))
 replace c35:=Nx c35
 refine X.seq (Lb Z c35 (Lg Z (KF ae 1 Z ?_)))
 obtain rfl:=Nq h
 exact KI (T.ret (KQ [1] Tryz.results11 (KJ Z)))
def j2 (a0:aE):Option (eJ):=if a0.MI.MS=0 then ((gW a0.MN).bind fun x11=>some (⟨(⟨a0.MI.MS,a0.MI.MR,a0.MI.MY,a0.MI.MQ⟩:iV),(⟨(⟨false,[]⟩:Bl),0,0,0,[],false⟩:bF),[],x11⟩:eJ)) else (if a0.MI.MS=22 then (some (⟨(⟨a0.MI.MS,a0.MI.MR,a0.MI.MY,a0.MI.MQ⟩:iV),(⟨a0.M6.MM,a0.M6.ML,a0.M6.MG,a0.M6.MJ,[],false⟩:bF),[],(⟨(⟨false,[]⟩:Bl),0,0,[]⟩:bl)⟩:eJ)) else (if a0.MI.MS=24 then (some (⟨(⟨a0.MI.MS,a0.MI.MR,a0.MI.MY,a0.MI.MQ⟩:iV),(⟨(⟨false,a0.M9.MM⟩:Bl),0,a0.M9.MG,a0.M9.MJ,a0.M9.MF,false⟩:bF),[],(⟨(⟨false,[]⟩:Bl),0,0,[]⟩:bl)⟩:eJ)) else (if a0.MI.MS=26 then (some (⟨(⟨a0.MI.MS,a0.MI.MR,a0.MI.MY,a0.MI.MQ⟩:iV),(⟨(⟨false,a0.M8.MM⟩:Bl),0,a0.M8.MG,a0.M8.MJ,[],a0.M8.MZ⟩:bF),[],(⟨(⟨false,[]⟩:Bl),0,0,[]⟩:bl)⟩:eJ)) else (if a0.MI.MS=27 then ((qo a0.M0).bind fun x19=>some (⟨(⟨a0.MI.MS,a0.MI.MR,a0.MI.MY,a0.MI.MQ⟩:iV),(⟨(⟨false,[]⟩:Bl),0,0,0,[],false⟩:bF),x19,(⟨(⟨false,[]⟩:Bl),0,0,[]⟩:bl)⟩:eJ)) else (some (⟨(⟨a0.MI.MS,a0.MI.MR,a0.MI.MY,a0.MI.MQ⟩:iV),(⟨(⟨false,[]⟩:Bl),0,0,0,[],false⟩:bF),[],(⟨(⟨false,[]⟩:Bl),0,0,[]⟩:bl)⟩:eJ))))))
theorem lK (a0:aE) (A1:Option Addr) (c2:Nat) (A3:Option Addr) (c4:Nat) (A5:Option Addr) (c6:Nat) (r:eJ) (h:j2 a0=some r):rK Tryz.prog 14 #[.agg (lQ a0 A1 A3 A5 c2 c4 c6)] (RX.and (RX.of (aq 2 bc) [.slice A1 a0.M9.MF.length c2] a0.M9.MF) (RX.and (RX.of (aq 5 aY) [.slice A3 a0.M0.length c4] a0.M0) (RX.of (aq 2 aM) [.slice A5 a0.MN.MF.length c6] a0.MN.MF))) aK (fun v A' L=> ∃ (A23:Option Addr) (c24:Nat) (A25:Option Addr) (c26:Nat) (A27:Option Addr) (c28:Nat),v= .agg (AC r A23 A25 A27 c24 c26 c28)∧A'=aK∧L = [(⟨_,aq 2 bc,[.slice A23 r.Nd.MF.length c24],r.Nd.MF⟩:RO),(⟨_,aq 5 cZ,[.slice A25 r.M0.length c26],r.M0⟩:RO),(⟨_,aq 2 ca,[.slice A27 r.MN.MF.length c28],r.MN.MF⟩:RO)]):=by
 refine DC Tryz.func14 Z Tryz.ntmps14 Z ?_
 intro F w S hS hSF
 have hX:(RX.and (RX.of (aq 2 bc) [.slice A1 a0.M9.MF.length c2] a0.M9.MF) (RX.and (RX.of (aq 5 aY) [.slice A3 a0.M0.length c4] a0.M0) (RX.of (aq 2 aM) [.slice A5 a0.MN.MF.length c6] a0.MN.MF))).reads w F:=⟨S,hS,hSF⟩
 unfold j2 at h
 refine KG Z (TL.box Z .u Z Z (fun b7=>(TL.alloc Z .u Tryz.zeroValue53 Z (fun b8=>(K7 Z (KF ae 1 Z (KH Z (KY (us := [jI a0.MI.MS,jI a0.MI.MR,jI a0.MI.MY,.bool a0.MI.MQ.null,jS a0.MI.MQ.data]) 1 Z O7 Oq Z Z Z) Z ?_)))))))
 refine KH Z (Ld (cells:= #[jI a0.MI.MS,jI a0.MI.MR,jI a0.MI.MY,.bool a0.MI.MQ.null,jS a0.MI.MQ.data,.bool false,.string ⟨#[]⟩,jI 0,jI 0,jI 0,.slice none 0 0,.bool false,.slice none 0 0,.bool false,.string ⟨#[]⟩,jI 0,jI 0,.slice none 0 0]) qF Z QI) Z ?_
 refine TL.alloc Z .u Tryz.zeroValue53 Z (fun b9=>(KW 0 Z (cs':= #[jI a0.MI.MS,jI a0.MI.MR,jI a0.MI.MY,.bool a0.MI.MQ.null,jS a0.MI.MQ.data,.bool false,.string ⟨#[]⟩,jI 0,jI 0,jI 0,.slice none 0 0,.bool false,.slice none 0 0,.bool false,.string ⟨#[]⟩,jI 0,jI 0,.slice none 0 0]) Z .u Z Z Ou Z Z Z Z Z (KI (T.seq (KG Z (LT ae aT 2 Z Z Z (T.block (KG Z (KF ae 2 Z ?_)))))))))
 rcases jF h with⟨c10,h⟩ | ⟨c10,h⟩
 ·refine La Z c10 (T.region Z (KF ae 1 Z (KH Z (KY (us := [.bool a0.MN.MM.null,jS a0.MN.MM.data,jI a0.MN.M5,jI a0.MN.ML,.slice A5 a0.MN.MF.length c6]) 2 Z OO Oh Z Z Z) Z ?_)))
  obtain⟨x11,hx14,h⟩:=Np h
  refine Mq  Z .u (.fn Tryz.call57 Z) (iN a0.MN _ _ _ hx14) hS.2.2 hSF Z ?_
  rintro _ _ _ ⟨A12,c13,rfl,rfl,rfl⟩
  refine Lt [0,0,0,0,0] Z (KF ae 1 Z (KW 1 Z (cs':= #[jI a0.MI.MS,jI a0.MI.MR,jI a0.MI.MY,.bool a0.MI.MQ.null,jS a0.MI.MQ.data,.bool false,.string ⟨#[]⟩,jI 0,jI 0,jI 0,.slice none 0 0,.bool false,.slice none 0 0,.bool x11.MM.null,jS x11.MM.data,jI x11.M5,jI x11.ML,.slice A12 x11.MF.length c13]) Z .u Z Z Pb Z Z Z Z Z (TL.nil (K4 (X.seq (KG Z (KH Z (KY (us := [jI a0.MI.MS,jI a0.MI.MR,jI a0.MI.MY,.bool a0.MI.MQ.null,jS a0.MI.MQ.data,.bool false,.string ⟨#[]⟩,jI 0,jI 0,jI 0,.slice none 0 0,.bool false,.slice none 0 0,.bool x11.MM.null,jS x11.MM.data,jI x11.M5,jI x11.ML,.slice A12 x11.MF.length c13]) 1 Z O8 Ou Z Z Z) Z (KW 2 Z (cs':= #[jI a0.MI.MS,jI a0.MI.MR,jI a0.MI.MY,.bool a0.MI.MQ.null,jS a0.MI.MQ.data,.bool false,.string ⟨#[]⟩,jI 0,jI 0,jI 0,.slice none 0 0,.bool false,.slice none 0 0,.bool x11.MM.null,jS x11.MM.data,jI x11.M5,jI x11.ML,.slice A12 x11.MF.length c13]) Z .u Z Z Ou Z Z Z Z Z ?_))))))))
  obtain rfl:=Nq h
  exact KI (T.ret (Lc 2 bc (L0 (S:=S) 0 Z (LC [0,0,0,0,0,0] Z (Lc 5 cZ (L0 (S:=S) 0 Z (LC [0,0,0,0,0,0,0] Z (Le [6,1,0,0] PV (Ly (us:= #[jI a0.MI.MS,jI a0.MI.MR,jI a0.MI.MY,.bool a0.MI.MQ.null,jS a0.MI.MQ.data,.bool false,.string ⟨#[]⟩,jI 0,jI 0,jI 0,.slice none 0 0,.bool false,.slice none 0 0,.bool x11.MM.null,jS x11.MM.data,jI x11.M5,jI x11.ML,.slice A12 x11.MF.length c13]) 4 Z O8 Ou Z Z) ⟨_,⟨_,_,_,_,_,_,Z,Z,Z⟩,Z⟩ QJ (.inl Z)))))))))
 refine K9 Z c10 (KG Z (KF ae 2 Z ?_))
 rcases jF h with⟨c15,h⟩ | ⟨c15,h⟩
 ·refine La Z c15 (T.region Z (KF ae 2 Z (KH Z (KY (us:=wL6 a0.M6.MM) 2 Z N0 ND Z Z Z) Z (KK ae aT 2 Z 9 Z Z ?_))))
  refine KH Z (Ld (cells:= #[.bool a0.M6.MM.null,jS a0.M6.MM.data,jI a0.M6.ML,jI a0.M6.MG,jI a0.M6.MJ,.slice none 0 0,.bool false]) jx Z QI) Z ?_
  refine KF ae 1 Z (KW 0 Z (cs':=wA19 a0) Z .u Z Z O0 Z Z Z Z Z (TL.nil (K4 (X.seq (KG Z (KH Z (KY (us := [jI a0.MI.MS,jI a0.MI.MR,jI a0.MI.MY,.bool a0.MI.MQ.null,jS a0.MI.MQ.data,.bool a0.M6.MM.null,jS a0.M6.MM.data,jI a0.M6.ML,jI a0.M6.MG,jI a0.M6.MJ,.slice none 0 0,.bool false,.slice none 0 0,.bool false,.string ⟨#[]⟩,jI 0,jI 0,.slice none 0 0]) 0 Z O8 Ou Z Z Z) Z (KW 1 Z (cs':=wA19 a0) Z .u Z Z Ou Z Z Z Z Z ?_)))))))
  obtain rfl:=Nq h
  refine KI (T.ret (Lc 2 bc (L0 (S:=S) 0 Z (LC [0,0,0,0,0] Z (Lc 5 cZ (L0 (S:=S) 0 Z (LC [0,0,0,0,0,0] Z (Lc 2 ca ?_))))))))
  exact L0 (S:=S) 0 Z (LC [0,0,0,0,0,0,0] Z (Le [6,2,1,0] PV (Ly (us:=wA19 a0) 4 Z O8 Ou Z Z) ⟨_,⟨_,_,_,_,_,_,Z,Z,Z⟩,Z⟩ QJ (.inl Z)))
 refine K9 Z c15 (KG Z (KF ae 2 Z ?_))
 rcases jF h with⟨c16,h⟩ | ⟨c16,h⟩
 ·refine La Z c16 (T.region Z (KK ae aT 2 Z 3 Z Z ?_))
  refine KH Z (Ld (cells:= #[.bool false,jS a0.M9.MM]) jw Z QI) Z ?_
  refine KK ae aT 2 Z 9 Z Z ?_
  refine KH Z (Ld (cells:= #[.bool false,jS a0.M9.MM,jI 0,jI a0.M9.MG,jI a0.M9.MJ,.slice A1 a0.M9.MF.length c2,.bool false]) jx Z QI) Z ?_
  refine KF ae 1 Z (KW 0 Z (cs':=wA20 a0 A1 c2) Z .u Z Z O0 Z Z Z Z Z (TL.nil (K4 (X.seq (KG Z (KH Z (KY (us := [jI a0.MI.MS,jI a0.MI.MR,jI a0.MI.MY,.bool a0.MI.MQ.null,jS a0.MI.MQ.data,.bool false,jS a0.M9.MM,jI 0,jI a0.M9.MG,jI a0.M9.MJ,.slice A1 a0.M9.MF.length c2,.bool false,.slice none 0 0,.bool false,.string ⟨#[]⟩,jI 0,jI 0,.slice none 0 0]) 0 Z O8 Ou Z Z Z) Z (KW 1 Z (cs':=wA20 a0 A1 c2) Z .u Z Z Ou Z Z Z Z Z ?_)))))))
  obtain rfl:=Nq h
  refine KI (T.ret (X.oldrd (E:=aq 2 bc) (cs := [.slice A1 a0.M9.MF.length c2]) (x:=a0.M9.MF) hS.1 (Lc 5 cZ (L0 (S:=S) 0 Z (LC [0,0,0,0,0,0] Z (Lc 2 ca (L0 (S:=S) 0 Z (LC [0,0,0,0,0,0,0] Z ?_))))))))
  exact Le [6,2,1,0] PV (Ly (us:=wA20 a0 A1 c2) 4 Z O8 Ou Z Z) ⟨_,⟨_,_,_,_,_,_,Z,Z,Z⟩,Z⟩ QJ (.inl Z)
 refine K9 Z c16 (KG Z (KF ae 2 Z ?_))
 rcases jF h with⟨c17,h⟩ | ⟨c17,h⟩
 ·refine La Z c17 (T.region Z (KK ae aT 2 Z 3 Z Z ?_))
  refine KH Z (Ld (cells:= #[.bool false,jS a0.M8.MM]) jw Z QI) Z ?_
  refine KK ae aT 2 Z 9 Z Z ?_
  refine KH Z (Ld (cells:= #[.bool false,jS a0.M8.MM,jI 0,jI a0.M8.MG,jI a0.M8.MJ,.slice none 0 0,.bool a0.M8.MZ]) jx Z QI) Z ?_
  refine KF ae 1 Z (KW 0 Z (cs':=wA21 a0) Z .u Z Z O0 Z Z Z Z Z (TL.nil (K4 (X.seq (KG Z (KH Z (KY (us := [jI a0.MI.MS,jI a0.MI.MR,jI a0.MI.MY,.bool a0.MI.MQ.null,jS a0.MI.MQ.data,.bool false,jS a0.M8.MM,jI 0,jI a0.M8.MG,jI a0.M8.MJ,.slice none 0 0,.bool a0.M8.MZ,.slice none 0 0,.bool false,.string ⟨#[]⟩,jI 0,jI 0,.slice none 0 0]) 0 Z O8 Ou Z Z Z) Z (KW 1 Z (cs':=wA21 a0) Z .u Z Z Ou Z Z Z Z Z ?_)))))))
  obtain rfl:=Nq h
  refine KI (T.ret (Lc 2 bc (L0 (S:=S) 0 Z (LC [0,0,0,0,0] Z (Lc 5 cZ (L0 (S:=S) 0 Z (LC [0,0,0,0,0,0] Z (Lc 2 ca ?_))))))))
  exact L0 (S:=S) 0 Z (LC [0,0,0,0,0,0,0] Z (Le [6,2,1,0] PV (Ly (us:=wA21 a0) 4 Z O8 Ou Z Z) ⟨_,⟨_,_,_,_,_,_,Z,Z,Z⟩,Z⟩ QJ (.inl Z)))
 refine K9 Z c17 (KG Z (KF ae 2 Z ?_))
 rcases jF h with⟨c18,h⟩ | ⟨c18,h⟩
 ·refine La Z c18 (T.region Z ?_)
  obtain⟨x19,hx22,h⟩:=Np h
  refine KK ae aT 2 Z 2 Z Z (Mq  Z .u (.fn Tryz.call58 Z) (yQ a0.M0 _ _ _ hx22) hS.2.1 hSF Z ?_)
  rintro _ _ _ ⟨A20,c21,rfl,rfl,rfl⟩
  refine Lt [0,0,0,0,0] Z (KF ae 1 Z (KW 1 Z (cs':= #[jI a0.MI.MS,jI a0.MI.MR,jI a0.MI.MY,.bool a0.MI.MQ.null,jS a0.MI.MQ.data,.bool false,.string ⟨#[]⟩,jI 0,jI 0,jI 0,.slice none 0 0,.bool false,.slice A20 x19.length c21,.bool false,.string ⟨#[]⟩,jI 0,jI 0,.slice none 0 0]) Z .u Z Z Tryz.sizeOf48 Z Z Z Z Z (TL.nil (K4 (X.seq (KG Z (KH Z (KY (us := [jI a0.MI.MS,jI a0.MI.MR,jI a0.MI.MY,.bool a0.MI.MQ.null,jS a0.MI.MQ.data,.bool false,.string ⟨#[]⟩,jI 0,jI 0,jI 0,.slice none 0 0,.bool false,.slice A20 x19.length c21,.bool false,.string ⟨#[]⟩,jI 0,jI 0,.slice none 0 0]) 1 Z O8 Ou Z Z Z) Z (KW 2 Z (cs':= #[jI a0.MI.MS,jI a0.MI.MR,jI a0.MI.MY,.bool a0.MI.MQ.null,jS a0.MI.MQ.data,.bool false,.string ⟨#[]⟩,jI 0,jI 0,jI 0,.slice none 0 0,.bool false,.slice A20 x19.length c21,.bool false,.string ⟨#[]⟩,jI 0,jI 0,.slice none 0 0]) Z .u Z Z Ou Z Z Z Z Z ?_))))))))
  obtain rfl:=Nq h
  exact KI (T.ret (Lc 2 bc (L0 (S:=S) 0 Z (LC [0,0,0,0,0,0] Z (Lc 2 ca (L0 (S:=S) 0 Z (LC [0,0,0,0,0,0,0] Z (Le [6,1,1,0] PV (Ly (us:= #[jI a0.MI.MS,jI a0.MI.MR,jI a0.MI.MY,.bool a0.MI.MQ.null,jS a0.MI.MQ.data,.bool false,.string ⟨#[]⟩,jI 0,jI 0,jI 0,.slice none 0 0,.bool false,.slice A20 x19.length c21,.bool false,.string ⟨#[]⟩,jI 0,jI 0,.slice none 0 0]) 4 Z O8 Ou Z Z) ⟨_,⟨_,_,_,_,_,_,Z,Z,Z⟩,Z⟩ QJ (.inl Z)))))))))
 refine K9 Z c18 (T.skip (K4 (X.seq (KG Z (KH Z (KY (us := [jI a0.MI.MS,jI a0.MI.MR,jI a0.MI.MY,.bool a0.MI.MQ.null,jS a0.MI.MQ.data,.bool false,.string ⟨#[]⟩,jI 0,jI 0,jI 0,.slice none 0 0,.bool false,.slice none 0 0,.bool false,.string ⟨#[]⟩,jI 0,jI 0,.slice none 0 0]) 0 Z O8 Ou Z Z Z) Z (KW 1 Z (cs':= #[jI a0.MI.MS,jI a0.MI.MR,jI a0.MI.MY,.bool a0.MI.MQ.null,jS a0.MI.MQ.data,.bool false,.string ⟨#[]⟩,jI 0,jI 0,jI 0,.slice none 0 0,.bool false,.slice none 0 0,.bool false,.string ⟨#[]⟩,jI 0,jI 0,.slice none 0 0]) Z .u Z Z Ou Z Z Z Z Z ?_))))))
 obtain rfl:=Nq h
 refine KI (T.ret (Lc 2 bc (L0 (S:=S) 0 Z (LC [0,0,0,0,0] Z (Lc 5 cZ (L0 (S:=S) 0 Z (LC [0,0,0,0,0,0] Z (Lc 2 ca ?_))))))))
 exact L0 (S:=S) 0 Z (LC [0,0,0,0,0,0,0] Z (Le [6,2,1,0] PV (Ly (us:= #[jI a0.MI.MS,jI a0.MI.MR,jI a0.MI.MY,.bool a0.MI.MQ.null,jS a0.MI.MQ.data,.bool false,.string ⟨#[]⟩,jI 0,jI 0,jI 0,.slice none 0 0,.bool false,.slice none 0 0,.bool false,.string ⟨#[]⟩,jI 0,jI 0,.slice none 0 0]) 4 Z O8 Ou Z Z) ⟨_,⟨_,_,_,_,_,_,Z,Z,Z⟩,Z⟩ QJ (.inl Z)))
def kU (a0:aE):Option (Bool):=(if a0.MI.MS=22 then (if a0.M9.MM = [] then (if a0.M9.MG=0 then (if a0.M9.MJ=0 then (if (a0.M9.MF.length:Int)=0 then (if a0.M8.MM = [] then (if a0.M8.MG=0 then (if a0.M8.MJ=0 then (if a0.M8.MZ=true then some false else (if (a0.M0.length:Int)=0 then ((gW a0.MN).bind fun x98=>(et x98 (⟨(⟨false,[]⟩:Bl),0,0,[]⟩:bl)).bind fun x102=>some x102) else some false)) else some false) else some false) else some false) else some false) else some false) else some false) else some false) else (if a0.M6.MM.null=true then some false else (if a0.M6.MM.data = [] then (if a0.M6.ML=0 then (if a0.M6.MG=0 then (if a0.M6.MJ=0 then (if a0.MI.MS=24 then (if a0.M8.MM = [] then (if a0.M8.MG=0 then (if a0.M8.MJ=0 then (if a0.M8.MZ=true then some false else (if (a0.M0.length:Int)=0 then ((gW a0.MN).bind fun x118=>(et x118 (⟨(⟨false,[]⟩:Bl),0,0,[]⟩:bl)).bind fun x122=>some x122) else some false)) else some false) else some false) else some false) else (if a0.M9.MM = [] then (if a0.M9.MG=0 then (if a0.M9.MJ=0 then (if (a0.M9.MF.length:Int)=0 then (if a0.MI.MS=26 then (if (a0.M0.length:Int)=0 then ((gW a0.MN).bind fun x132=>(et x132 (⟨(⟨false,[]⟩:Bl),0,0,[]⟩:bl)).bind fun x136=>some x136) else some false) else (if a0.M8.MM = [] then (if a0.M8.MG=0 then (if a0.M8.MJ=0 then (if a0.M8.MZ=true then some false else (if a0.MI.MS=27 then ((gW a0.MN).bind fun x144=>(et x144 (⟨(⟨false,[]⟩:Bl),0,0,[]⟩:bl)).bind fun x148=>some x148) else (if (a0.M0.length:Int)=0 then (if a0.MI.MS=0 then some true else ((gW a0.MN).bind fun x152=>(et x152 (⟨(⟨false,[]⟩:Bl),0,0,[]⟩:bl)).bind fun x156=>some x156)) else some false))) else some false) else some false) else some false)) else some false) else some false) else some false) else some false)) else some false) else some false) else some false) else some false))).bind fun y82=>some y82
theorem tl (a0:aE) (A1:Option Addr) (c2:Nat) (A3:Option Addr) (c4:Nat) (A5:Option Addr) (c6:Nat) (r:Bool) (h:kU a0=some r):aH Tryz.prog 18 #[.agg (lQ a0 A1 A3 A5 c2 c4 c6)] (RX.and (RX.of (aq 2 bc) [.slice A1 a0.M9.MF.length c2] a0.M9.MF) (RX.and (RX.of (aq 5 aY) [.slice A3 a0.M0.length c4] a0.M0) (RX.of (aq 2 aM) [.slice A5 a0.MN.MF.length c6] a0.MN.MF))) (aK) (fun v A' N=>v= .bool r∧A'=aK∧N = []):=by
 refine aU Tryz.func18 Z Tryz.ntmps18 Z ?_
 intro F w hX
 obtain⟨S,hS,hSF⟩:=hX
 have hX:(RX.and (RX.of (aq 2 bc) [.slice A1 a0.M9.MF.length c2] a0.M9.MF) (RX.and (RX.of (aq 5 aY) [.slice A3 a0.M0.length c4] a0.M0) (RX.of (aq 2 aM) [.slice A5 a0.MN.MF.length c6] a0.MN.MF))).reads w F:=⟨S,hS,hSF⟩
 unfold kU at h
 refine KG Z (TL.box Z .u Z Z (fun b7=>(K8 ae Z Z (LT ae aT 0 Z Z Z (T.seq ?_)))))
 obtain⟨y82,h,hk83⟩:=Np h
 refine Lz (fun e Rs=>e = [(2,.bool y82)]∧Rs = [aW b7 38 (lQ a0 A1 A3 A5 c2 c4 c6),aK]) ?_ ?_
 ·clear hk83
  refine T.region Z ?_
  rcases jF h with⟨c84,h⟩ | ⟨c84,h⟩
  ·refine KF ae 3 Z (KN 9 Z (Nt c84) ?_)
   have c85: ¬ (a0.MI.MS=24):=by have hq:=c84; omega
   refine KM ae 9 Z (KN 18 Z (Nu c85) (KK ae aT 0 Z 3 Z Z (TL.q Z (.g Z Z Z) (Ex.sEq Z (m := []) Z) Z ?_)))
   rcases jF h with⟨c86,h⟩ | ⟨c86,h⟩
   ·refine KM ae 1 Z (KN 23 Z (Nt c86) ?_)
    rcases jF h with⟨c87,h⟩ | ⟨c87,h⟩
    ·refine KK ae aT 0 Z 6 Z Z (KN 29 Z (Nt c87) ?_)
     rcases jF h with⟨c88,h⟩ | ⟨c88,h⟩
     ·refine KK ae aT 0 Z 6 Z Z (KN 35 Z (Nt c88) (KK ae aT 0 Z 3 Z Z (TL.q Z (.g Z Z Z) (KX Z NH) Z ?_)))
      rcases jF h with⟨c89,h⟩ | ⟨c89,h⟩
      ·refine KM ae 5 Z (KN 44 Z (Nt c89) ?_)
       have c90: ¬ (a0.MI.MS=26):=by have hq:=c84; omega
       refine KM ae 3 Z (KN 47 Z (Nu c90) (KM ae 1 Z (TL.q Z (.g Z Z Z) (KY (us:=lP a0.M8) 0 Z O6 OC Z Z Z) Z ?_)))
       refine TL.q Z (.g Z Z Z) (Ld (cells:=vA4) gF Z QI) Z ?_
       rcases jF h with⟨c91,h⟩ | ⟨c91,h⟩
       ·rcases jF h with⟨c92,h⟩ | ⟨c92,h⟩
        ·rcases jF h with⟨c93,h⟩ | ⟨c93,h⟩
         ·rcases jF h with⟨c94,h⟩ | ⟨c94,h⟩
          ·refine TL.q Z (.g Z Z Z) (LG (us:=lP a0.M8) (vs:=r6) ba Z Ob Z Z Z Z (bE (gj (l:=a0.M8.MM) (m := []) c91) (bE (eD c92) (bE (eD c93) (eK (nb (fun h=>absurd ((Eq.symm c94).trans (h.trans Z)) QH))))))) Z (KM ae 24 Z ?_)
           cases h
           exact TL.nil (KR [0,0])
          replace c94:=Nx c94
          refine TL.q Z (.g Z Z Z) (LG (us:=lP a0.M8) (vs:=r6) ba Z Ob Z Z Z Z (bE (gj (l:=a0.M8.MM) (m := []) c91) (bE (eD c92) (bE (eD c93) (bE (jX (c94.trans (Eq.symm Z))) Z))))) Z ?_
          have c95: ¬ (a0.MI.MS=27):=by have hq:=c84; omega
          refine KM ae 6 Z (KN 57 Z (Nu c95) (KK ae aT 0 Z 2 Z Z (TL.q Z (.g Z Z Z) (KX Z Of) Z ?_)))
          rcases jF h with⟨c96,h⟩ | ⟨c96,h⟩
          ·refine KM ae 4 Z (KN 64 Z (Nt c96) ?_)
           have c97: ¬ (a0.MI.MS=0):=by have hq:=c84; omega
           refine KM ae 3 Z (KN 67 Z (Nu c97) (KM ae 1 Z (TL.q Z (.g Z Z Z) (KY (us := [.bool a0.MN.MM.null,jS a0.MN.MM.data,jI a0.MN.M5,jI a0.MN.ML,.slice A5 a0.MN.MF.length c6]) 0 Z OO Oh Z Z Z) Z ?_)))
           obtain⟨x98,hx101,h⟩:=Np h
           refine Mq  Z (.g Z Z Z) (.fn Tryz.call57 Z) (iN a0.MN _ _ _ hx101) hS.2.2 hSF Z ?_
           rintro _ _ _ ⟨A99,c100,rfl,rfl,rfl⟩
           refine Lt [0,0,0] Z ?_
           refine TL.q Z (.g Z Z Z) (Ld (cells:=vA0) fe Z QI) Z ?_
           obtain⟨x102,hx103,h⟩:=Np h
           refine K2 Z (.g Z Z Z) (.fn Tryz.call66 Z) (ge x98 _ _ (⟨(⟨false,[]⟩:Bl),0,0,[]⟩:bl) _ _ _ hx103) (fun _ hs=>(RX.reads_and (LJ 0 hs Z iW hSF) eC)) Z (KM ae 3 Z ?_)
           cases h
           exact TL.nil (KR [1,1])
          refine KM ae 4 Z (KN 64 Z (Nu c96) (KM ae 11 Z ?_))
          cases h
          exact TL.nil (KR [0,0])
         refine TL.q Z (.g Z Z Z) (LG (us:=lP a0.M8) (vs:=r6) ba Z Ob Z Z Z Z (bE (gj (l:=a0.M8.MM) (m := []) c91) (bE (eD c92) (eK (kD c93))))) Z (KM ae 24 Z ?_)
         cases h
         exact TL.nil (KR [0,0])
        refine TL.q Z (.g Z Z Z) (LG (us:=lP a0.M8) (vs:=r6) ba Z Ob Z Z Z Z (bE (gj (l:=a0.M8.MM) (m := []) c91) (eK (kD c92)))) Z (KM ae 24 Z ?_)
        cases h
        exact TL.nil (KR [0,0])
       refine TL.q Z (.g Z Z Z) (LG (us:=lP a0.M8) (vs:=r6) ba Z Ob Z Z Z Z (eK (mj (l:=a0.M8.MM) (m := []) c91))) Z (KM ae 24 Z ?_)
       cases h
       exact TL.nil (KR [0,0])
      refine KM ae 5 Z (KN 44 Z (Nu c89) (KM ae 31 Z ?_))
      cases h
      exact TL.nil (KR [0,0])
     refine KK ae aT 0 Z 6 Z Z (KN 35 Z (Nu c88) (KM ae 40 Z ?_))
     cases h
     exact TL.nil (KR [0,0])
    refine KK ae aT 0 Z 6 Z Z (KN 29 Z (Nu c87) (KM ae 46 Z ?_))
    cases h
    exact TL.nil (KR [0,0])
   refine KM ae 1 Z (KN 23 Z (Nu c86) (KM ae 52 Z ?_))
   cases h
   exact TL.nil (KR [0,0])
  refine KF ae 3 Z (KN 9 Z (Nu c84) (KM ae 1 Z (TL.q Z (.g Z Z Z) (KY (us:=B0 a0) 0 Z PE OR Z Z Z) Z ?_)))
  refine TL.q Z (.g Z Z Z) (Ld (cells:=vA2) qD Z QI) Z ?_
  rcases jF h with⟨c104,h⟩ | ⟨c104,h⟩
  ·refine TL.q Z (.g Z Z Z) (LG (us:=B0 a0) (vs:=Ge) dQ Z Pv Z Z Z Z (eK (nb (fun h=>absurd ((Eq.symm c104).trans (h.trans Z)) QH)))) Z (KM ae 62 Z ?_)
   cases h
   exact TL.nil (KR [0,0])
  replace c104:=Nx c104
  rcases jF h with⟨c105,h⟩ | ⟨c105,h⟩
  ·rcases jF h with⟨c106,h⟩ | ⟨c106,h⟩
   ·rcases jF h with⟨c107,h⟩ | ⟨c107,h⟩
    ·rcases jF h with⟨c108,h⟩ | ⟨c108,h⟩
     ·refine TL.q Z (.g Z Z Z) (LG (us:=B0 a0) (vs:=Ge) dQ Z Pv Z Z Z Z (bE (jX (c104.trans (Eq.symm Z))) (bE (gj (l:=a0.M6.MM.data) (m := []) c105) (bE (eD c106) (bE (eD c107) (bE (eD c108) Z)))))) Z ?_
      rcases jF h with⟨c109,h⟩ | ⟨c109,h⟩
      ·refine KM ae 5 Z (KN 18 Z (Nt c109) ?_)
       have c110: ¬ (a0.MI.MS=26):=by have hq:=c109; omega
       refine KM ae 29 Z (KN 47 Z (Nu c110) (KM ae 1 Z (TL.q Z (.g Z Z Z) (KY (us:=lP a0.M8) 0 Z O6 OC Z Z Z) Z ?_)))
       refine TL.q Z (.g Z Z Z) (Ld (cells:=vA4) gF Z QI) Z ?_
       rcases jF h with⟨c111,h⟩ | ⟨c111,h⟩
       ·rcases jF h with⟨c112,h⟩ | ⟨c112,h⟩
        ·rcases jF h with⟨c113,h⟩ | ⟨c113,h⟩
         ·rcases jF h with⟨c114,h⟩ | ⟨c114,h⟩
          ·refine TL.q Z (.g Z Z Z) (LG (us:=lP a0.M8) (vs:=r6) ba Z Ob Z Z Z Z (bE (gj (l:=a0.M8.MM) (m := []) c111) (bE (eD c112) (bE (eD c113) (eK (nb (fun h=>absurd ((Eq.symm c114).trans (h.trans Z)) QH))))))) Z (KM ae 24 Z ?_)
           cases h
           exact TL.nil (KR [0,0])
          replace c114:=Nx c114
          refine TL.q Z (.g Z Z Z) (LG (us:=lP a0.M8) (vs:=r6) ba Z Ob Z Z Z Z (bE (gj (l:=a0.M8.MM) (m := []) c111) (bE (eD c112) (bE (eD c113) (bE (jX (c114.trans (Eq.symm Z))) Z))))) Z ?_
          have c115: ¬ (a0.MI.MS=27):=by have hq:=c109; omega
          refine KM ae 6 Z (KN 57 Z (Nu c115) (KK ae aT 0 Z 2 Z Z (TL.q Z (.g Z Z Z) (KX Z Of) Z ?_)))
          rcases jF h with⟨c116,h⟩ | ⟨c116,h⟩
          ·refine KM ae 4 Z (KN 64 Z (Nt c116) ?_)
           have c117: ¬ (a0.MI.MS=0):=by have hq:=c109; omega
           refine KM ae 3 Z (KN 67 Z (Nu c117) (KM ae 1 Z (TL.q Z (.g Z Z Z) (KY (us := [.bool a0.MN.MM.null,jS a0.MN.MM.data,jI a0.MN.M5,jI a0.MN.ML,.slice A5 a0.MN.MF.length c6]) 0 Z OO Oh Z Z Z) Z ?_)))
           obtain⟨x118,hx121,h⟩:=Np h
           refine Mq  Z (.g Z Z Z) (.fn Tryz.call57 Z) (iN a0.MN _ _ _ hx121) hS.2.2 hSF Z ?_
           rintro _ _ _ ⟨A119,c120,rfl,rfl,rfl⟩
           refine Lt [0,0,0] Z ?_
           refine TL.q Z (.g Z Z Z) (Ld (cells:=vA0) fe Z QI) Z ?_
           obtain⟨x122,hx123,h⟩:=Np h
           refine K2 Z (.g Z Z Z) (.fn Tryz.call66 Z) (ge x118 _ _ (⟨(⟨false,[]⟩:Bl),0,0,[]⟩:bl) _ _ _ hx123) (fun _ hs=>(RX.reads_and (LJ 0 hs Z iW hSF) eC)) Z (KM ae 3 Z ?_)
           cases h
           exact TL.nil (KR [1,1])
          refine KM ae 4 Z (KN 64 Z (Nu c116) (KM ae 11 Z ?_))
          cases h
          exact TL.nil (KR [0,0])
         refine TL.q Z (.g Z Z Z) (LG (us:=lP a0.M8) (vs:=r6) ba Z Ob Z Z Z Z (bE (gj (l:=a0.M8.MM) (m := []) c111) (bE (eD c112) (eK (kD c113))))) Z (KM ae 24 Z ?_)
         cases h
         exact TL.nil (KR [0,0])
        refine TL.q Z (.g Z Z Z) (LG (us:=lP a0.M8) (vs:=r6) ba Z Ob Z Z Z Z (bE (gj (l:=a0.M8.MM) (m := []) c111) (eK (kD c112)))) Z (KM ae 24 Z ?_)
        cases h
        exact TL.nil (KR [0,0])
       refine TL.q Z (.g Z Z Z) (LG (us:=lP a0.M8) (vs:=r6) ba Z Ob Z Z Z Z (eK (mj (l:=a0.M8.MM) (m := []) c111))) Z (KM ae 24 Z ?_)
       cases h
       exact TL.nil (KR [0,0])
      refine KM ae 5 Z (KN 18 Z (Nu c109) (KK ae aT 0 Z 3 Z Z (TL.q Z (.g Z Z Z) (Ex.sEq Z (m := []) Z) Z ?_)))
      rcases jF h with⟨c124,h⟩ | ⟨c124,h⟩
      ·refine KM ae 1 Z (KN 23 Z (Nt c124) ?_)
       rcases jF h with⟨c125,h⟩ | ⟨c125,h⟩
       ·refine KK ae aT 0 Z 6 Z Z (KN 29 Z (Nt c125) ?_)
        rcases jF h with⟨c126,h⟩ | ⟨c126,h⟩
        ·refine KK ae aT 0 Z 6 Z Z (KN 35 Z (Nt c126) (KK ae aT 0 Z 3 Z Z (TL.q Z (.g Z Z Z) (KX Z NH) Z ?_)))
         rcases jF h with⟨c127,h⟩ | ⟨c127,h⟩
         ·refine KM ae 5 Z (KN 44 Z (Nt c127) ?_)
          rcases jF h with⟨c128,h⟩ | ⟨c128,h⟩
          ·refine KM ae 3 Z (KN 47 Z (Nt c128) ?_)
           have c129: ¬ (a0.MI.MS=27):=by have hq:=c128; omega
           refine KM ae 10 Z (KN 57 Z (Nu c129) (KK ae aT 0 Z 2 Z Z (TL.q Z (.g Z Z Z) (KX Z Of) Z ?_)))
           rcases jF h with⟨c130,h⟩ | ⟨c130,h⟩
           ·refine KM ae 4 Z (KN 64 Z (Nt c130) ?_)
            have c131: ¬ (a0.MI.MS=0):=by have hq:=c128; omega
            refine KM ae 3 Z (KN 67 Z (Nu c131) (KM ae 1 Z (TL.q Z (.g Z Z Z) (KY (us := [.bool a0.MN.MM.null,jS a0.MN.MM.data,jI a0.MN.M5,jI a0.MN.ML,.slice A5 a0.MN.MF.length c6]) 0 Z OO Oh Z Z Z) Z ?_)))
            obtain⟨x132,hx135,h⟩:=Np h
            refine Mq  Z (.g Z Z Z) (.fn Tryz.call57 Z) (iN a0.MN _ _ _ hx135) hS.2.2 hSF Z ?_
            rintro _ _ _ ⟨A133,c134,rfl,rfl,rfl⟩
            refine Lt [0,0,0] Z ?_
            refine TL.q Z (.g Z Z Z) (Ld (cells:=vA0) fe Z QI) Z ?_
            obtain⟨x136,hx137,h⟩:=Np h
            refine K2 Z (.g Z Z Z) (.fn Tryz.call66 Z) (ge x132 _ _ (⟨(⟨false,[]⟩:Bl),0,0,[]⟩:bl) _ _ _ hx137) (fun _ hs=>(RX.reads_and (LJ 0 hs Z iW hSF) eC)) Z (KM ae 3 Z ?_)
            cases h
            exact TL.nil (KR [1,1])
           refine KM ae 4 Z (KN 64 Z (Nu c130) (KM ae 11 Z ?_))
           cases h
           exact TL.nil (KR [0,0])
          refine KM ae 3 Z (KN 47 Z (Nu c128) (KM ae 1 Z (TL.q Z (.g Z Z Z) (KY (us:=lP a0.M8) 0 Z O6 OC Z Z Z) Z ?_)))
          refine TL.q Z (.g Z Z Z) (Ld (cells:=vA4) gF Z QI) Z ?_
          rcases jF h with⟨c138,h⟩ | ⟨c138,h⟩
          ·rcases jF h with⟨c139,h⟩ | ⟨c139,h⟩
           ·rcases jF h with⟨c140,h⟩ | ⟨c140,h⟩
            ·rcases jF h with⟨c141,h⟩ | ⟨c141,h⟩
             ·refine TL.q Z (.g Z Z Z) (LG (us:=lP a0.M8) (vs:=r6) ba Z Ob Z Z Z Z (bE (gj (l:=a0.M8.MM) (m := []) c138) (bE (eD c139) (bE (eD c140) (eK (nb (fun h=>absurd ((Eq.symm c141).trans (h.trans Z)) QH))))))) Z (KM ae 24 Z ?_)
              cases h
              exact TL.nil (KR [0,0])
             replace c141:=Nx c141
             refine TL.q Z (.g Z Z Z) (LG (us:=lP a0.M8) (vs:=r6) ba Z Ob Z Z Z Z (bE (gj (l:=a0.M8.MM) (m := []) c138) (bE (eD c139) (bE (eD c140) (bE (jX (c141.trans (Eq.symm Z))) Z))))) Z ?_
             rcases jF h with⟨c142,h⟩ | ⟨c142,h⟩
             ·refine KM ae 6 Z (KN 57 Z (Nt c142) ?_)
              have c143: ¬ (a0.MI.MS=0):=by have hq:=c142; omega
              refine KM ae 10 Z (KN 67 Z (Nu c143) (KM ae 1 Z (TL.q Z (.g Z Z Z) (KY (us := [.bool a0.MN.MM.null,jS a0.MN.MM.data,jI a0.MN.M5,jI a0.MN.ML,.slice A5 a0.MN.MF.length c6]) 0 Z OO Oh Z Z Z) Z ?_)))
              obtain⟨x144,hx147,h⟩:=Np h
              refine Mq  Z (.g Z Z Z) (.fn Tryz.call57 Z) (iN a0.MN _ _ _ hx147) hS.2.2 hSF Z ?_
              rintro _ _ _ ⟨A145,c146,rfl,rfl,rfl⟩
              refine Lt [0,0,0] Z ?_
              refine TL.q Z (.g Z Z Z) (Ld (cells:=vA0) fe Z QI) Z ?_
              obtain⟨x148,hx149,h⟩:=Np h
              refine K2 Z (.g Z Z Z) (.fn Tryz.call66 Z) (ge x144 _ _ (⟨(⟨false,[]⟩:Bl),0,0,[]⟩:bl) _ _ _ hx149) (fun _ hs=>(RX.reads_and (LJ 0 hs Z iW hSF) eC)) Z (KM ae 3 Z ?_)
              cases h
              exact TL.nil (KR [1,1])
             refine KM ae 6 Z (KN 57 Z (Nu c142) (KK ae aT 0 Z 2 Z Z (TL.q Z (.g Z Z Z) (KX Z Of) Z ?_)))
             rcases jF h with⟨c150,h⟩ | ⟨c150,h⟩
             ·refine KM ae 4 Z (KN 64 Z (Nt c150) ?_)
              rcases jF h with⟨c151,h⟩ | ⟨c151,h⟩
              ·refine KM ae 3 Z (KN 67 Z (Nt c151) (KM ae 8 Z ?_))
               cases h
               exact TL.nil (KR [0,0])
              refine KM ae 3 Z (KN 67 Z (Nu c151) (KM ae 1 Z (TL.q Z (.g Z Z Z) (KY (us := [.bool a0.MN.MM.null,jS a0.MN.MM.data,jI a0.MN.M5,jI a0.MN.ML,.slice A5 a0.MN.MF.length c6]) 0 Z OO Oh Z Z Z) Z ?_)))
              obtain⟨x152,hx155,h⟩:=Np h
              refine Mq  Z (.g Z Z Z) (.fn Tryz.call57 Z) (iN a0.MN _ _ _ hx155) hS.2.2 hSF Z ?_
              rintro _ _ _ ⟨A153,c154,rfl,rfl,rfl⟩
              refine Lt [0,0,0] Z ?_
              refine TL.q Z (.g Z Z Z) (Ld (cells:=vA0) fe Z QI) Z ?_
              obtain⟨x156,hx157,h⟩:=Np h
              refine K2 Z (.g Z Z Z) (.fn Tryz.call66 Z) (ge x152 _ _ (⟨(⟨false,[]⟩:Bl),0,0,[]⟩:bl) _ _ _ hx157) (fun _ hs=>(RX.reads_and (LJ 0 hs Z iW hSF) eC)) Z (KM ae 3 Z ?_)
              cases h
              exact TL.nil (KR [1,1])
             refine KM ae 4 Z (KN 64 Z (Nu c150) (KM ae 11 Z ?_))
             cases h
             exact TL.nil (KR [0,0])
            refine TL.q Z (.g Z Z Z) (LG (us:=lP a0.M8) (vs:=r6) ba Z Ob Z Z Z Z (bE (gj (l:=a0.M8.MM) (m := []) c138) (bE (eD c139) (eK (kD c140))))) Z (KM ae 24 Z ?_)
            cases h
            exact TL.nil (KR [0,0])
           refine TL.q Z (.g Z Z Z) (LG (us:=lP a0.M8) (vs:=r6) ba Z Ob Z Z Z Z (bE (gj (l:=a0.M8.MM) (m := []) c138) (eK (kD c139)))) Z (KM ae 24 Z ?_)
           cases h
           exact TL.nil (KR [0,0])
          refine TL.q Z (.g Z Z Z) (LG (us:=lP a0.M8) (vs:=r6) ba Z Ob Z Z Z Z (eK (mj (l:=a0.M8.MM) (m := []) c138))) Z (KM ae 24 Z ?_)
          cases h
          exact TL.nil (KR [0,0])
         refine KM ae 5 Z (KN 44 Z (Nu c127) (KM ae 31 Z ?_))
         cases h
         exact TL.nil (KR [0,0])
        refine KK ae aT 0 Z 6 Z Z (KN 35 Z (Nu c126) (KM ae 40 Z ?_))
        cases h
        exact TL.nil (KR [0,0])
       refine KK ae aT 0 Z 6 Z Z (KN 29 Z (Nu c125) (KM ae 46 Z ?_))
       cases h
       exact TL.nil (KR [0,0])
      refine KM ae 1 Z (KN 23 Z (Nu c124) (KM ae 52 Z ?_))
      cases h
      exact TL.nil (KR [0,0])
     refine TL.q Z (.g Z Z Z) (LG (us:=B0 a0) (vs:=Ge) dQ Z Pv Z Z Z Z (bE (jX (c104.trans (Eq.symm Z))) (bE (gj (l:=a0.M6.MM.data) (m := []) c105) (bE (eD c106) (bE (eD c107) (eK (kD c108))))))) Z (KM ae 62 Z ?_)
     cases h
     exact TL.nil (KR [0,0])
    refine TL.q Z (.g Z Z Z) (LG (us:=B0 a0) (vs:=Ge) dQ Z Pv Z Z Z Z (bE (jX (c104.trans (Eq.symm Z))) (bE (gj (l:=a0.M6.MM.data) (m := []) c105) (bE (eD c106) (eK (kD c107)))))) Z (KM ae 62 Z ?_)
    cases h
    exact TL.nil (KR [0,0])
   refine TL.q Z (.g Z Z Z) (LG (us:=B0 a0) (vs:=Ge) dQ Z Pv Z Z Z Z (bE (jX (c104.trans (Eq.symm Z))) (bE (gj (l:=a0.M6.MM.data) (m := []) c105) (eK (kD c106))))) Z (KM ae 62 Z ?_)
   cases h
   exact TL.nil (KR [0,0])
  refine TL.q Z (.g Z Z Z) (LG (us:=B0 a0) (vs:=Ge) dQ Z Pv Z Z Z Z (bE (jX (c104.trans (Eq.symm Z))) (eK (mj (l:=a0.M6.MM.data) (m := []) c105)))) Z (KM ae 62 Z ?_)
  cases h
  exact TL.nil (KR [0,0])
 rintro _ _ ⟨rfl,rfl⟩
 clear h
 have h:=hk83
 clear hk83
 obtain rfl:=Nq h
 exact X.seq (T.ret (KQ [1] Tryz.results18 (KJ Z)))
def iD (a0:aE):Option (Bool):=(mI).bind fun x8=>if x8=true then ((mR a0).bind fun x11=>if x11=0 then some true else ((db a0).bind fun (x14,x15)=>(j2 a0).bind fun x17=>(lZ x17).bind fun x25=>if x15=x25 then (if x25=0 then ((fX x14).bind fun (x29,x36)=>((j2 a0).bind fun x75=>(kH x75).bind fun x83=>if x14=x83 then (if x36=0 then ((j2 x29).bind fun x87=>(j2 a0).bind fun x96=>(nl x87 x96).bind fun x104=>if x104=true then ((kU x29).bind fun x107=>some x107) else some false) else some false) else some false).bind fun y73=>some y73) else (if x14 = [] then some true else none)) else none)) else none
theorem f_l21_FrameEncodes_spec (a0:aE) (A1:Option Addr) (c2:Nat) (A3:Option Addr) (c4:Nat) (A5:Option Addr) (c6:Nat) (r:Bool) (h:iD a0=some r):aH Tryz.prog 3 #[.agg (lQ a0 A1 A3 A5 c2 c4 c6)] (RX.and (RX.of (aq 2 bc) [.slice A1 a0.M9.MF.length c2] a0.M9.MF) (RX.and (RX.of (aq 5 aY) [.slice A3 a0.M0.length c4] a0.M0) (RX.of (aq 2 aM) [.slice A5 a0.MN.MF.length c6] a0.MN.MF))) (aK) (fun v A' N=>v= .bool r∧A'=aK∧N = []):=by
 refine aU Tryz.func3 Z Tryz.ntmps3 Z ?_
 intro F w hX
 obtain⟨S,hS,hSF⟩:=hX
 have hX:(RX.and (RX.of (aq 2 bc) [.slice A1 a0.M9.MF.length c2] a0.M9.MF) (RX.and (RX.of (aq 5 aY) [.slice A3 a0.M0.length c4] a0.M0) (RX.of (aq 2 aM) [.slice A5 a0.MN.MF.length c6] a0.MN.MF))).reads w F:=⟨S,hS,hSF⟩
 unfold iD at h
 refine KG Z (TL.box Z .u Z Z (fun b7=>(KF ae 1 Z ?_)))
 obtain⟨x8,hx9,h⟩:=Np h
 refine KI (T.seq (KG Z (K2 Z .u (.fn Tryz.call10 Z) (tk _ hx9) rT Z (KF ae 1 Z ?_))))
 rcases jF h with⟨c10,h⟩ | ⟨c10,h⟩
 ·refine KI (Lb Z (bf c10) (K3 (T.seq (KG Z (KH Z (KY (us:=yP a0 A1 A3 A5 c2 c4 c6) 0 Z N7 NL Z Z Z) Z ?_)))))
  obtain⟨x11,hx12,h⟩:=Np h
  refine K2 Z .u (.fn Tryz.call11 Z) (xq a0 _ _ _ _ _ _ _ hx12) (fun _ hs=>(RX.reads_and (K0 hs (Ll hX)) (RX.reads_and (K0 hs (Ll (K6 hX))) (K0 hs (K6 (K6 hX)))))) Z (KF ae 1 Z ?_)
  rcases jF h with⟨c13,h⟩ | ⟨c13,h⟩
  ·refine La Z c13 (KG Z (KF ae 1 Z ?_))
   obtain rfl:=Nq h
   exact KI (T.ret (KL (KQ [1] Tryz.results3 (KJ Z))))
  refine K9 Z c13 (Lg Z (KH Z (KY (us:=yP a0 A1 A3 A5 c2 c4 c6) 0 Z N7 NL Z Z Z) Z ?_))
  obtain⟨⟨x14,x15⟩,hx16,h⟩:=Np h
  refine K2 Z .u (.fn Tryz.call12 Z) (mC a0 _ _ _ _ _ _ _ hx16) (fun _ hs=>(RX.reads_and (K0 hs (Ll hX)) (RX.reads_and (K0 hs (Ll (K6 hX))) (K0 hs (K6 (K6 hX)))))) Z (K8 ae Z Z (KH Z (KY (us:=yP a0 A1 A3 A5 c2 c4 c6) 0 Z N7 NL Z Z Z) Z ?_))
  obtain⟨x17,hx24,h⟩:=Np h
  refine Mq  Z .u (.fn Tryz.call14 Z) (lK a0 _ _ _ _ _ _ _ hx24) ⟨hS.1,hS.2.1,hS.2.2⟩ hSF Z ?_
  rintro _ _ _ ⟨A18,c19,A20,c21,A22,c23,rfl,rfl,rfl⟩
  refine Lt [0,0,0,0,0] Z ?_
  obtain⟨x25,hx26,h⟩:=Np h
  refine K2 Z .u (.fn Tryz.call13 Z) (uT x17 _ _ _ _ _ _ _ hx26) (fun _ hs=>(RX.reads_and (LJ 0 hs Z iW hSF) (RX.reads_and (LJ 1 hs Z iW hSF) (LJ 2 hs Z iW hSF)))) Z (KP ae Z (T.seq (KG Z (KF ae 3 Z ?_))))
  rcases jF h with⟨c27,h⟩ | ⟨c27,h⟩
  ·refine Lj Z c27 (K3 (T.seq (KG Z (KF ae 2 Z ?_))))
   rcases jF h with⟨c28,h⟩ | ⟨c28,h⟩
   ·refine Lj Z c28 (Lg Z ?_)
    obtain⟨⟨x29,x36⟩,hx37,h⟩:=Np h
    refine KF ae 1 Z (L8 Z .u (.fn Tryz.call15 Z) (jT x14 _ hx37) rT Z ?_)
    rintro _ _ _ ⟨A30,c31,A32,c33,A34,c35,rfl,rfl,rfl⟩
    refine Lt [0,0,0,0,0,0,0,0] Z (KF ae 3 Z (TL.alloc Z .u Tryz.zeroValue38 Z (fun b38=>(KW 0 Z (cs':=lQ x29 A30 A32 A34 c31 c33 c35) Z .u Z Z NL Z Z Z Z Z (KP ae Z (T.seq ?_))))))
    obtain⟨y73,h,hk74⟩:=Np h
    refine Lz (fun e Rs=>e = [(2,.bool y73)]∧Rs = [aW b38 38 (lQ x29 A30 A32 A34 c31 c33 c35),RdR (aq 2 bc) [.slice A30 x29.M9.MF.length c31] x29.M9.MF,RdR (aq 5 aY) [.slice A32 x29.M0.length c33] x29.M0,RdR (aq 2 aM) [.slice A34 x29.MN.MF.length c35] x29.MN.MF,RdR (fE w S (aq 2 bc)) [.slice A18 x17.Nd.MF.length c19] x17.Nd.MF,RdR (fE w S (aq 5 cZ)) [.slice A20 x17.M0.length c21] x17.M0,RdR (fE w S (aq 2 ca)) [.slice A22 x17.MN.MF.length c23] x17.MN.MF,aW b7 38 (lQ a0 A1 A3 A5 c2 c4 c6),aK]) ?_ ?_
    ·clear hk74
     refine Lm (.q 0 (.q 1 (.e 2 (.e 3 (.q 4 (.q 5 (.q 6 (.q 7 (.q 8 (.q 9 (.q 10 (.q 12 (.e 11 (.e 13 (.e 14 (.q 15 (.q 16 (.q 17 (.e 18 (.q 19 (.q 20 .nil))))))))))))))))))))) [0,3,3,3,3,3] Z tj (NoP.seq (NoP.seq bu)) QI ?_
     refine TD.run ae [0] Z Z (KO Z (KY (us:=yP a0 A1 A3 A5 c2 c4 c6) 4 Z N7 NL Z Z Z) Z ?_)
     obtain⟨x75,hx82,h⟩:=Np h
     refine TD.cso  Z .u (.fn Tryz.call14 Z) (lK a0 _ _ _ _ _ _ _ hx82) ⟨hS.1,hS.2.1,hS.2.2⟩ hSF Z [3,6,6,6,6,6] ?_ ?_
     ·rintro _ _ _ ⟨A76,c77,A78,c79,A80,c81,rfl,rfl,rfl⟩
      rfl
     rintro _ _ _ ⟨A76,c77,A78,c79,A80,c81,rfl,rfl,rfl⟩
     refine LM [0,0,0,0,0,0,0,0,0,0,0,0] Z ?_
     obtain⟨x83,hx84,h⟩:=Np h
     refine Lw Z .u (.fn Tryz.call16 Z) (s8 x75 _ _ _ _ _ _ _ hx84) (fun _ hs=>(RX.reads_and (LJ 0 hs Z iW hSF) (RX.reads_and (LJ 1 hs Z iW hSF) (LJ 2 hs Z iW hSF)))) Z [3,6,6,6,6,6] (Z) (KO Z (Ex.sEq Z Z) Z ?_)
     rcases jF h with⟨c85,h⟩ | ⟨c85,h⟩
     ·refine TD.run ae [5] Z Z ?_
      iterate 2 refine TD.q Z (.g Z Z (Nt c85)) (Ls ae Z) Z ?_
      refine KO Z (LN Z (Nt c85) Z) Z ?_
      rcases jF h with⟨c86,h⟩ | ⟨c86,h⟩
      ·refine TD.run ae [9] Z Z (TD.q Z (.g Z Z (Nt c86)) (KY (us:=yP x29 A30 A32 A34 c31 c33 c35) 0 Z N7 NL Z Z Z) Z (TD.q Z (.g Z Z (Nt c86)) (KY (us:=yP a0 A1 A3 A5 c2 c4 c6) 4 Z N7 NL Z Z Z) Z ?_))
       obtain⟨x87,hx94,h⟩:=Np h
       refine LM [4,4,4,0,0,0,0,0,0,0,0,0] Z ?_
       refine TD.csn 3 Z (.g Z Z (Nt c86)) (.fn Tryz.call14 Z) (lK x29 _ _ _ _ _ _ _ hx94) (fun w1 G1 hG=>(BX (Sep.has 0 Z hG (oL (fun w G h=>mZ w G h))) (BX (Sep.has 1 Z hG (oL (fun w G h=>mZ w G h))) (Sep.has 2 Z hG (oL (fun w G h=>mZ w G h)))))) hSF Z [4,4,4,4,4,4] ?_ ?_
       ·rintro _ _ _ ⟨A88,c89,A90,c91,A92,c93,rfl,rfl,rfl⟩
        rfl
       rintro _ _ _ ⟨A88,c89,A90,c91,A92,c93,rfl,rfl,rfl⟩
       refine LM [0,0,0,0,0,0,0,0,0,0] Z ?_
       obtain⟨x96,hx103,h⟩:=Np h
       refine TD.cso  Z (.g Z Z (Nt c86)) (.fn Tryz.call14 Z) (lK a0 _ _ _ _ _ _ _ hx103) ⟨hS.1,hS.2.1,hS.2.2⟩ hSF Z [7,7,7,7,7,7] ?_ ?_
       ·rintro _ _ _ ⟨A97,c98,A99,c100,A101,c102,rfl,rfl,rfl⟩
        rfl
       rintro _ _ _ ⟨A97,c98,A99,c100,A101,c102,rfl,rfl,rfl⟩
       refine LM [0,0,0,0,0,0,0,0,0,0,0,0,0] Z ?_
       obtain⟨x104,hx105,h⟩:=Np h
       refine Lw Z (.g Z Z (Nt c86)) (.fn Tryz.call17 Z) (v9 x87 _ _ _ _ _ _ x96 _ _ _ _ _ _ _ hx105) (fun _ hs=>(RX.reads_and (LJ 3 hs Z (wZ 0 Z) hSF) (RX.reads_and (LJ 3 hs Z (wZ 1 Z) hSF) (RX.reads_and (LJ 3 hs Z (wZ 2 Z) hSF) (RX.reads_and (LJ 0 hs Z iW hSF) (RX.reads_and (LJ 1 hs Z iW hSF) (LJ 2 hs Z iW hSF))))))) Z [7,7,7,7,7,7] (Z) (KO Z (LN Z (Nt c86) Z) Z ?_)
       rcases jF h with⟨c106,h⟩ | ⟨c106,h⟩
       ·refine TD.run ae [16] Z Z (TD.q Z (.g Z Z c106) (KY (us:=yP x29 A30 A32 A34 c31 c33 c35) 0 Z N7 NL Z Z Z) Z ?_)
        obtain⟨x107,hx108,h⟩:=Np h
        refine Lw Z (.g Z Z c106) (.fn Tryz.call18 Z) (tl x29 _ _ _ _ _ _ _ hx108) (fun _ hs=>(RX.reads_and (LJ 3 hs Z (wY 0 Z (oL (fun w G h=>mZ w G h))) hSF) (RX.reads_and (LJ 3 hs Z (wY 1 Z (oL (fun w G h=>mZ w G h))) hSF) (LJ 3 hs Z (wY 2 Z (oL (fun w G h=>mZ w G h))) hSF)))) Z [7,7,7,7,7,7] (Z) (KO Z (LN Z c106 Z) Z (TD.run ae [20] Z Z (TD.nil (X.ungrp 3 Z (LC [0,0,0,0,0,0,0,0,0,0,0,0,0,0,0] Z ?_)))))
        cases h
        exact KR [9,0,0,0,6,6,6,6,6]
       replace c106:=Nx c106
       refine TD.run ae [16] Z Z (LD Z (.gn Z Z c106) Z (L6 Z (.gn Z Z c106) Z [7,7,7,7,7,7] Z (KO Z (LL Z c106 Z) Z (TD.run ae [20] Z Z (TD.nil (X.ungrp 3 Z (LC [0,0,0,0,0,0,0,0,0,0,0,0,0,0,0] Z ?_)))))))
       cases h
       exact KR [9,0,0,0,6,6,6,6,6]
      refine TD.run ae [9] Z Z ?_
      iterate 2 refine LD Z (.gn Z Z (Nu c86)) Z ?_
      iterate 3 refine L6 Z (.gn Z Z (Nu c86)) Z [3,6,6,6,6,6] Z ?_
      refine KO Z (LL Z (Nu c86) Z) Z (TD.run ae [16] Z Z (LD Z (.gn Z Z Z) Z (L6 Z (.gn Z Z Z) Z [3,6,6,6,6,6] Z (KO Z (LL Z Z Z) Z (TD.run ae [20] Z Z ?_)))))
      cases h
      exact TD.nil (KR [3,3,3,3,3,3,3,3,3])
     refine TD.run ae [5] Z Z ?_
     iterate 2 refine LD Z (.gn Z Z (Nu c85)) Z ?_
     refine KO Z (LL Z (Nu c85) Z) Z (TD.run ae [9] Z Z ?_)
     iterate 2 refine LD Z (.gn Z Z Z) Z ?_
     iterate 3 refine L6 Z (.gn Z Z Z) Z [3,6,6,6,6,6] Z ?_
     refine KO Z (LL Z Z Z) Z (TD.run ae [16] Z Z (LD Z (.gn Z Z Z) Z (L6 Z (.gn Z Z Z) Z [3,6,6,6,6,6] Z (KO Z (LL Z Z Z) Z (TD.run ae [20] Z Z ?_)))))
     cases h
     exact TD.nil (KR [3,3,3,3,3,3,3,3,3])
    rintro _ _ ⟨rfl,rfl⟩
    clear h
    have h:=hk74
    clear hk74
    obtain rfl:=Nq h
    exact X.seq (T.ret (KQ [8] Tryz.results3 (KJ Z)))
   refine Li Z c28 (KG Z (KF ae 1 Z (KH Z (Ex.sEq Z (m := []) Z) Z (KF ae 1 Z ?_))))
   rcases jF h with⟨c109,h⟩ | ⟨c109,h⟩
   ·obtain rfl:=Nq h
    exact KI (T.ret (KL (Le [4] Tryz.results3 (KJ (v:= .bool true) (congrArg (fun b=>some (Value.bool b)) (Nt c109))) ⟨Z,Z,Z⟩ QJ (.inl Z))))
   exact nomatch h
  exact Li rfl c27 (nomatch h)
 replace c10:=Nx c10
 exact KI (KV rfl (bG c10) (nomatch h))
abbrev Pr (α:Type):=List UInt8→Nat→Except Int (α×Nat)
namespace Pr
variable {α β:Type}
def ret (a:α):Pr α:=fun _ q=> .ok (a,q)
def err (e:Int):Pr α:=fun _ _=> .error e
def bind (p:Pr α) (f:α→Pr β):Pr β:=fun s q=>match p s q with | .error e=> .error e | .ok (a,r)=>f a s r
theorem bind_ok {p:Pr α} {f:α→Pr β} {s:List UInt8} {q:Nat} {x:β×Nat} (h:p.bind f s q= .ok x): ∃ a r,p s q= .ok (a,r)∧f a s r= .ok x:=by
 unfold bind at h
 cases hp:p s q with
 | error e=>rw[hp] at h; exact nomatch h
 | ok y=>rw[hp] at h; exact⟨_,_,rfl,h⟩
theorem bind_of {p:Pr α} {f:α→Pr β} {s:List UInt8} {q r:Nat} {a:α} (h:p s q= .ok (a,r)):p.bind f s q=f a s r:=by unfold bind; rw[h]
theorem bind_err {p:Pr α} {f:α→Pr β} {s:List UInt8} {q:Nat} {e:Int} (h:p s q= .error e):p.bind f s q= .error e:=by unfold bind; rw[h]
end Pr
structure CR {α:Type} (op:I→Option (α×I)) (p:Pr α) (z:α):Prop where
 dead: ∀ st:I,st.err≠0→op st=some (z,st)
 bad: ∀ (s:List UInt8) (q:Nat) (e:Int),q≤s.length→p s q= .error e→ ∃ st:I,op ⟨s.drop q,q,0⟩=some (z,st)∧st.err=e∧e≠0
 good: ∀ (s:List UInt8) (q:Nat) (a:α) (r:Nat),q≤s.length→p s q= .ok (a,r)→op ⟨s.drop q,q,0⟩=some (a,⟨s.drop r,r,0⟩)
structure Sp {α:Type} (p:Pr α) (enc:α→List UInt8) (ok:α→Prop):Prop where
 spell: ∀ (s:List UInt8) (q:Nat) (a:α) (r:Nat),q≤s.length→p s q= .ok (a,r)→q≤r∧r≤s.length∧r=q+(enc a).length∧s.take r=s.take q++enc a∧ok a
 back: ∀ (s t:List UInt8) (q:Nat) (a:α),q≤s.length→ok a→s.drop q=enc a++t→p s q= .ok (a,q+(enc a).length)
theorem cz {s x t:List UInt8} {q:Nat} (h:s.drop q=x++t):s.drop (q+x.length)=t:=by rw[← Ol,h,List.drop_left]
theorem rd (s:List UInt8) (q k:Nat):s.take (q+k)=s.take q++(s.drop q).take k:=List.take_add
theorem Gr (q:Int) (c:UInt8) (k:Nat):be (q*256+c.toNat) (k+1)=be q k ++ [c]:=by
 have hc:=c.toNat_lt
 unfold be
 rw[List.range_succ,List.map_append]
 congr 1
 ·apply List.map_congr_left
  intro i hi
  have hi:=List.mem_range.1 hi
  have e:k+1 - 1 - i=(k - 1 - i)+1:=by omega
  have e2:(q*256+(c.toNat:Int)) / 256=q:=by omega
  rw[e,show 8*(k - 1 - i+1)=8+8*(k - 1 - i) by omega,Int.pow_add,← Int.ediv_ediv_of_nonneg QH,show (2 ^ 8:Int)=256 from rfl,e2]
 ·simp only[List.map_cons,List.map_nil,Nat.add_sub_cancel,Nat.sub_self,Nat.mul_zero,Int.pow_zero,Int.ediv_one]
  congr 1
  apply UInt8.toNat_inj.1
  simp[UInt8.toNat_ofNat']
  omega
theorem Gs (cs:List UInt8): ∀ (q:Int) (k:Nat),be (cs.foldl (fun n d=>n*256+(d.toNat:Int)) q) (k+cs.length)=be q k++cs:=by
 induction cs with
 | nil=>intro q k; simp
 | cons c cs ih =>
  intro q k
  have h:=ih (q*256+c.toNat) (k+1)
  rw[Gr] at h
  rw[List.foldl_cons,NB,show k+(cs.length+1)=k+1+cs.length by omega,h]
  simp
theorem Ic (c:UInt8):be (sgn c) 1 = [c]:=by
 have hc:=c.toNat_lt
 unfold be
 simp only[List.range_one,List.map_cons,List.map_nil,Nat.sub_self,Nat.mul_zero,Int.pow_zero,Int.ediv_one]
 congr 1
 apply UInt8.toNat_inj.1
 unfold sgn
 simp[UInt8.toNat_ofNat']
 split <;> omega
theorem DU (l:List UInt8) (h:l ≠ []):be (eh l) l.length=l:=by
 cases l with
 | nil=>exact absurd rfl h
 | cons c cs =>
  have h:=Gs cs (sgn c) 1
  rw[Ic] at h
  rw[NB,Nat.add_comm]
  exact h
def fC (k:Nat):Pr Int:=fun s q=>if s.length<q+k then .error 1 else .ok (eh ((s.drop q).take k),q+k)
theorem Id (k:Nat) (h1:1≤k) (h8:k≤8) (kk:Int) (hk:kk=(k:Int)):CR (fun st=>ed st kk) (fC k) 0:=by
 subst hk
 refine⟨fun st h=> ?_,fun s q e hq h=> ?_,fun s q a r hq h=> ?_⟩
 ·rw[kA,oE h]
 ·unfold fC at h
  split at h
  ·rename_i hl
   injection h with h
   subst h
   refine⟨⟨s.drop q,q,1⟩,?_,rfl,by decide⟩
   simp only[kA]
   rw[rW _ _ _ QG QG (by rw[NI]; omega)]
  ·exact nomatch h
 ·unfold fC at h
  split at h
  ·exact nomatch h
  ·rename_i hl
   injection h with h
   obtain⟨rfl,rfl⟩:=N2 h
   simp only[kA]
   rw[As _ _ _ h1 h8 (by rw[NI]; omega),Ol]
theorem eA (k:Nat) (h1:1≤k) (h8:k≤8):Sp (fC k) (fun n=>be n k) (fun n=>bm n k=true):=by
 refine⟨fun s q a r hq h=> ?_,fun s t q a hq ha h=> ?_⟩
 ·unfold fC at h
  split at h
  ·exact nomatch h
  ·rename_i hl
   injection h with h
   obtain⟨rfl,rfl⟩:=N2 h
   have hn:((s.drop q).take k).length=k:=by rw[Ox,NI]; omega
   have hne:(s.drop q).take k ≠ []:=fun h0=>by rw[h0] at hn; simp at hn; omega
   have hb:be (eh ((s.drop q).take k)) k=(s.drop q).take k:=by
    have:=DU _ hne
    rwa [hn] at this
   refine⟨by omega,by omega,by rw[av],by rw[hb,rd],?_⟩
   rw[← Ey _ _ h1 h8,hb]
 ·have hl:=congrArg List.length h
  rw[NI,Nv,av] at hl
  unfold fC
  rw[QL QG,h,List.take_append_of_le_length (by rw[av]; omega),List.take_of_length_le (by rw[av]; omega),av,BF _ _ h1 h8 ha]
def Ca (n:Int):Pr Bl:=fun s q=>if n= -1 then .ok (⟨true,[]⟩,q) else if n<0 then .error 4 else if (s.length:Int)<q+n then .error 1 else .ok (⟨false,(s.drop q).take n.toNat⟩,q+n.toNat)
theorem sg (n:Int) (s:List UInt8) (q:Nat) (hq:q≤s.length) :
 (∃ e st,Ca n s q= .error e∧ms ⟨s.drop q,q,0⟩ n=(⟨false,[]⟩,st)∧st.err=e∧e≠0)∨(∃ b r,Ca n s q= .ok (b,r)∧ms ⟨s.drop q,q,0⟩ n=(b,⟨s.drop r,r,0⟩)∧q≤r∧r≤s.length∧co b=n∧bw b=true∧s.take r=s.take q++b.data∧r=q+b.data.length):=by
 have hd:(s.drop q).length=s.length - q:=NI
 unfold Ca ms
 rw[QL (show ¬ ((⟨s.drop q,q,0⟩:I).err≠0) by simp)]
 by_cases h1:n= -1
 ·rw[QK h1,QK h1]
  exact .inr ⟨_,_,rfl,rfl,NW _,hq,h1.symm,rfl,by simp,rfl⟩
 rw[QL h1,QL h1]
 by_cases h2:n<0
 ·rw[QK h2,FZ _ _ _ h2]
  exact .inl ⟨_,_,rfl,rfl,rfl,by decide⟩
 rw[QL h2]
 by_cases h3:(s.length:Int)<q+n
 ·rw[QK h3,vu _ _ _ QG]
  exact .inl ⟨_,_,rfl,rfl,rfl,by decide⟩
 rw[QL h3]
 obtain⟨m,rfl⟩: ∃ m:Nat,n=(m:Int):=⟨n.toNat,by omega⟩
 rw[Oz,BJ _ _ _ QG,Ol]
 have hl:((s.drop q).take m).length=m:=by rw[Ox]; omega
 exact .inr ⟨_,_,rfl,rfl,by omega,by omega,by unfold co; simp only[Bool.false_eq_true,if_false]; rw[hl],rfl,rd s q m,by rw[hl]⟩
def og (k:Nat):Pr Bl:=(fC k).bind Ca
theorem Ie {lenop:I→Int×I} {p:Pr Int} (hl:CR (fun st=>some (lenop st)) p 0) (hs: ∀ s q a r,q≤s.length→p s q= .ok (a,r)→r≤s.length):CR (fun st=>some (ms (lenop st).2 (lenop st).1)) (p.bind Ca) (⟨false,[]⟩:Bl):=by
 refine⟨fun st h=> ?_,fun s q e hq h=> ?_,fun s q a r hq h=> ?_⟩
 ·have h0:=Nq (hl.dead st h)
  rw[h0,tR h]
 ·cases hp:p s q with
  | error e' =>
   rw[Pr.bind_err hp] at h
   injection h with h
   subst h
   obtain⟨st,h1,h2,h3⟩:=hl.bad s q e' hq hp
   have h0:=Nq h1
   rw[h0,tR (by simp only[h2]; exact h3)]
   exact⟨st,rfl,h2,h3⟩
  | ok x =>
   obtain⟨n,m⟩:=x
   rw[Pr.bind_of hp] at h
   have h0:=Nq (hl.good s q n m hq hp)
   rw[h0]
   rcases sg n s m (hs _ _ _ _ hq hp) with⟨e',st,g1,g2,g3,g4⟩ | ⟨b,r,g1,g2,_⟩
   ·rw[g1] at h
    injection h with h
    subst h
    exact⟨st,by rw[g2],g3,g4⟩
   ·rw[g1] at h
    exact nomatch h
 ·obtain⟨n,m,hp,h⟩:=Pr.bind_ok h
  have h0:=Nq (hl.good s q n m hq hp)
  rw[h0]
  rcases sg n s m (hs _ _ _ _ hq hp) with⟨e',st,g1,g2,g3,g4⟩ | ⟨b,r',g1,g2,_⟩
  ·rw[g1] at h
   exact nomatch h
  ·rw[g1] at h
   injection h with h
   obtain⟨rfl,rfl⟩:=N2 h
   rw[g2]
theorem Ig {p:Pr Int} {enc:Int→List UInt8} {ok:Int→Prop} (hp:Sp p enc ok):Sp (p.bind Ca) (fun b=>enc (co b)++b.data) (fun b=>ok (co b)∧bw b=true):=by
 refine⟨fun s q a r hq h=> ?_,fun s t q a hq ha h=> ?_⟩
 ·obtain⟨n,m,h1,h⟩:=Pr.bind_ok h
  obtain⟨a1,a2,a3,a4,a5⟩:=hp.spell _ _ _ _ hq h1
  rcases sg n s m a2 with⟨e',st,g1,g2,g3,g4⟩ | ⟨b,r',g1,g2,b1,b2,b3,b4,b5,b6⟩
  ·rw[g1] at h
   exact nomatch h
  ·rw[g1] at h
   injection h with h
   obtain⟨rfl,rfl⟩:=N2 h
   refine⟨by omega,b2,by rw[Nv,b3]; omega,by rw[b5,a4,b3,NA],by rw[b3]; exact a5,b4⟩
 ·rw[NA] at h
  have h1:=hp.back s _ q _ hq ha.1 h
  rw[Pr.bind_of h1,Nv,← Nat.add_assoc]
  have h2:=cz h
  have hl:=congrArg List.length h
  rw[NI,Nv,Nv] at hl
  generalize (enc (co a)).length=m at h2 hl ⊢
  obtain⟨nu,d⟩:=a
  unfold Ca co
  cases nu with
  | true =>
   have:d = []:=by have:=ha.2; unfold bw at this; simpa using this
   subst this
   rw[QK rfl,QK rfl]
   rfl
  | false =>
   simp only[Bool.false_eq_true,if_false]
   simp only at h2 hl
   rw[QL QG,QL QG,h2,QL QG,Oz,List.take_left]
theorem xr (k:Nat) (h1:1≤k) (h8:k≤8) (kk:Int) (hk:kk=(k:Int)):CR (fun st=>lk st kk) (og k) (⟨false,[]⟩:Bl) :=
 Ie (lenop:=fun st=>fp st kk) (Id k h1 h8 kk hk) (fun s q a r hq h=>((eA k h1 h8).spell s q a r hq h).2.1)
theorem iK (k:Nat) (h1:1≤k) (h8:k≤8):Sp (og k) (fun b=>be (co b) k++b.data) (fun b=>bm (co b) k=true∧bw b=true):=Ig (eA k h1 h8)
theorem n9 (bs:Int) (a:Nat): ∀ (l:List UInt8) (b acc i:Nat),vgo bs l (a+b) acc i=((vgo bs l b acc i).1,⟨(vgo bs l b acc i).2.rest,a+(vgo bs l b acc i).2.pos,(vgo bs l b acc i).2.err⟩)
 | [],b,acc,i=>rfl
 | c::l,b,acc,i=>by
  have ih:=n9 bs a l (b+1) (acc+c.toNat % 128*2 ^ (7*i)) (i+1)
  unfold vgo
  split
  ·rfl
  ·split
   ·rw[Nat.add_assoc,ih]
   ·split
    ·rfl
    ·rfl
theorem xt (bs:Int): ∀ (l:List UInt8) (b acc i:Nat),(vgo bs l b acc i).2.err≠0→(vgo bs l b acc i).1=0
 | [],b,acc,i,h=>rfl
 | c::l,b,acc,i,h=>by
  have ih:=xt bs l (b+1) (acc+c.toNat % 128*2 ^ (7*i)) (i+1)
  revert h
  unfold vgo
  split
  ·exact fun _=>rfl
  ·split
   ·exact ih
   ·split
    ·exact fun _=>rfl
    ·exact fun h=>absurd rfl h
def tn (bs:Int):Pr Nat:=fun s q=>if (vgo bs (s.drop q) 0 0 0).2.err=0 then .ok ((vgo bs (s.drop q) 0 0 0).1,q+(vgo bs (s.drop q) 0 0 0).2.pos) else .error (vgo bs (s.drop q) 0 0 0).2.err
theorem zr {bs:Int} {s:List UInt8} {q n r:Nat} (hq:q≤s.length) (h:tn bs s q= .ok (n,r)):fj bs ⟨s.drop q,q,0⟩=(n,⟨s.drop r,r,0⟩)∧q≤r∧r≤s.length∧r=q+(bY n).length∧s.take r=s.take q++bY n:=by
 have hd:(s.drop q).length=s.length - q:=NI
 unfold tn at h
 split at h
 ·rename_i he
  injection h with h
  obtain⟨h1,h2⟩:=N2 h
  obtain⟨k,v,g1,g2,g3,g4,_⟩:=vgo_ok bs (s.drop q) 0 0 0 _ _ (rfl: _=((vgo bs (s.drop q) 0 0 0).1,(vgo bs (s.drop q) 0 0 0).2)) he
  have g3':(vgo bs (s.drop q) 0 0 0).1=v:=by rw[g3]; simp
  rw[g3'] at h1
  subst h1
  rw[g1] at h2
  simp only[Nat.zero_add] at h2
  have hlk:(bY v).length=k:=by rw[g4,Ox]; omega
  refine⟨?_,by omega,by omega,by omega,?_⟩
  ·unfold fj
   rw[QL (by simp)]
   have:=n9 bs q (s.drop q) 0 0 0
   rw[Nat.add_zero] at this
   simp only
   rw[this,g3',g1,← h2,Ol]
   simp
  ·rw[← h2,rd,g4]
 ·exact nomatch h
theorem Ih {bs:Int} {s:List UInt8} {q:Nat} {e:Int} (h:tn bs s q= .error e): ∃ st,fj bs ⟨s.drop q,q,0⟩=(0,st)∧st.err=e∧e≠0:=by
 unfold tn at h
 split at h
 ·exact nomatch h
 ·rename_i he
  injection h with h
  subst h
  have h0:=xt bs (s.drop q) 0 0 0 he
  refine⟨(fj bs ⟨s.drop q,q,0⟩).2,?_,?_,he⟩
  ·unfold fj
   rw[QL (by simp)]
   have:=n9 bs q (s.drop q) 0 0 0
   rw[Nat.add_zero] at this
   simp only
   rw[this,h0]
  ·unfold fj
   rw[QL (by simp)]
   have:=n9 bs q (s.drop q) 0 0 0
   rw[Nat.add_zero] at this
   simp only
   rw[this]
theorem DV {bs:Int} {st:I} (h:st.err≠0):fj bs st=(0,st):=QK h
theorem Cb (bs:Int) (hb:bs=32∨bs=64): ∀ (l:List UInt8) (b acc i:Nat),acc<2 ^ (7*i)→(vgo bs l b acc i).2.err=0→(vgo bs l b acc i).1<2 ^ bs.toNat
 | [],b,acc,i,ha,h=>by simp[vgo] at h
 | c::l,b,acc,i,ha,h=>by
  have ih:=Cb bs hb l (b+1) (acc+c.toNat % 128*2 ^ (7*i)) (i+1)
  revert h
  unfold vgo
  split
  ·exact fun h=>absurd h (by simp)
  ·rename_i hc
   obtain⟨h1,h2⟩:=sF bs hb acc (c.toNat % 128) i ha QG (Nat.mod_lt _ QH) (fun h=>hc (.inr h))
   split
   ·exact ih h1
   ·split
    ·exact fun h=>absurd h (by simp)
    ·exact fun _=>h2
theorem EL (bs:Int) (hb:bs=32∨bs=64):Sp (tn bs) bY (fun n=>n<2 ^ bs.toNat):=by
 refine⟨fun s q a r hq h=> ?_,fun s t q a hq ha h=> ?_⟩
 ·obtain⟨h1,h2,h3,h4,h5⟩:=zr hq h
  refine⟨h2,h3,h4,h5,?_⟩
  unfold tn at h
  split at h
  ·rename_i he
   injection h with h
   rw[← (N2 h).1]
   exact Cb bs hb _ _ _ _ (by simp) he
  ·exact nomatch h
 ·unfold tn
  rw[h,JS bs QG a 0 0 0 t (by simpa using ha) QG]
  simp
def qG (bs:Int):Pr Int:=(tn bs).bind fun n=> .ret (oC n)
theorem AQ (bs:Int) (hb:bs=32∨bs=64):CR (fun st=>some (gL (fj bs st))) (qG bs) 0:=by
 refine⟨fun st h=> ?_,fun s q e hq h=> ?_,fun s q a r hq h=> ?_⟩
 ·rw[DV h]
  simp[gL,oC]
 ·cases hp:tn bs s q with
  | error e' =>
   rw[qG,Pr.bind_err hp] at h
   injection h with h
   subst h
   obtain⟨st,h1,h2,h3⟩:=Ih hp
   exact⟨st,by rw[h1]; simp[gL,oC],h2,h3⟩
  | ok x =>
   rw[qG,Pr.bind_of (a:=x.1) (r:=x.2) hp] at h
   exact nomatch h
 ·obtain⟨n,m,hp,h⟩:=Pr.bind_ok h
  injection h with h
  obtain⟨rfl,rfl⟩:=N2 h
  rw[(zr hq hp).1]
  rfl
theorem lL (bs:Int) (hb:bs=32∨bs=64):Sp (qG bs) (fun n=>bY (bj n)) (fun n=>bj n<2 ^ bs.toNat):=by
 refine⟨fun s q a r hq h=> ?_,fun s t q a hq ha h=> ?_⟩
 ·obtain⟨n,m,hp,h⟩:=Pr.bind_ok h
  injection h with h
  obtain⟨rfl,rfl⟩:=N2 h
  have:=(EL bs hb).spell _ _ _ _ hq hp
  rwa [Dj]
 ·rw[qG,Pr.bind_of ((EL bs hb).back s t q _ hq ha h)]
  simp only[Pr.ret,Di]
def oa:Pr Bl:=(qG 32).bind Ca
theorem zt:CR cY oa (⟨false,[]⟩:Bl) :=
 Ie (lenop:=fun st=>gL (fj 32 st)) (AQ 32 (.inl rfl)) (fun s q a r hq h=>((lL 32 (.inl rfl)).spell s q a r hq h).2.1)
theorem kv:Sp oa (fun b=>bY (bj (co b))++b.data) (fun b=>bj (co b)<2 ^ (32:Int).toNat∧bw b=true):=Ig (lL 32 (.inl rfl))
def qH (p:Pr Bl):Pr (List UInt8):=p.bind fun b=>if b.null then .err 4 else .ret b.data
theorem EM {op:I→Bl×I} {p:Pr Bl} (h:CR (fun st=>some (op st)) p (⟨false,[]⟩:Bl)) (hb: ∀ s q a r,q≤s.length→p s q= .ok (a,r)→bw a=true):CR (fun st=>some (wv (op st))) (qH p) []:=by
 refine⟨fun st hs=> ?_,fun s q e hq he=> ?_,fun s q a r hq hg=> ?_⟩
 ·have h0:=Nq (h.dead st hs)
  rw[h0]
  rfl
 ·cases hp:p s q with
  | error e' =>
   rw[qH,Pr.bind_err hp] at he
   injection he with he
   subst he
   obtain⟨st,h1,h2,h3⟩:=h.bad s q _ hq hp
   have h0:=Nq h1
   rw[h0]
   exact⟨st,rfl,h2,h3⟩
  | ok x =>
   obtain⟨b,r⟩:=x
   rw[qH,Pr.bind_of hp] at he
   have h0:=Nq (h.good s q b r hq hp)
   rw[h0]
   have hbr:=hb _ _ _ _ hq hp
   split at he
   ·rename_i hn
    injection he with he
    subst he
    have:b.data = []:=by unfold bw at hbr; rw[hn] at hbr; simpa using hbr
    refine⟨⟨s.drop r,r,4⟩,?_,rfl,by decide⟩
    unfold wv
    simp only[hn,if_true,this]
    rfl
   ·exact nomatch he
 ·obtain⟨b,m,hp,hg⟩:=Pr.bind_ok hg
  have h0:=Nq (h.good s q b m hq hp)
  rw[h0]
  split at hg
  ·exact nomatch hg
  ·rename_i hn
   injection hg with hg
   obtain⟨rfl,rfl⟩:=N2 hg
   unfold wv
   simp only[hn,Bool.false_eq_true,if_false]
theorem AR {p:Pr Bl} {enc:Bl→List UInt8} {ok:Bl→Prop} (hp:Sp p enc ok):Sp (qH p) (fun d=>enc ⟨false,d⟩) (fun d=>ok ⟨false,d⟩):=by
 refine⟨fun s q a r hq h=> ?_,fun s t q a hq ha h=> ?_⟩
 ·obtain⟨b,m,h1,h⟩:=Pr.bind_ok h
  have h2:=hp.spell _ _ _ _ hq h1
  split at h
  ·exact nomatch h
  ·rename_i hn
   injection h with h
   obtain⟨rfl,rfl⟩:=N2 h
   obtain⟨nu,d⟩:=b
   simp only[Bool.not_eq_true] at hn
   subst hn
   exact h2
 ·rw[qH,Pr.bind_of (hp.back s t q _ hq ha h)]
  rfl
def xu:Pr (List UInt8):=qH (og 2)
def zu:Pr (List UInt8):=qH oa
theorem J4:CR sO xu []:=EM (op:=fun st=>jN st 2) (xr 2 QH QH 2 rfl) (fun s q a r hq h=>((iK 2 QH QH).spell s q a r hq h).2.2.2.2.2)
theorem pA:Sp xu (fun d=>be (d.length:Int) 2++d) (fun d=>bm (d.length:Int) 2=true∧bw ⟨false,d⟩=true):=AR (iK 2 QH QH)
theorem J5:CR wN zu []:=EM (op:=iU) zt (fun s q a r hq h=>(kv.spell s q a r hq h).2.2.2.2.2)
theorem re:Sp zu (fun d=>bY (bj (d.length:Int))++d) (fun d=>bj (d.length:Int)<2 ^ (32:Int).toNat∧bw ⟨false,d⟩=true):=AR kv
theorem oh (t l:List UInt8):iY (t,0) l=(t++l,0):=rfl
theorem EN (t:List UInt8) (e:Int):lM (t,0) e=(t,e):=rfl
theorem dY {n k:Int} (h:bm n k=true): -9223372036854775808≤n∧n≤9223372036854775807:=by
 unfold bm at h
 simp only[Bool.and_eq_true,decide_eq_true_eq] at h
 obtain⟨⟨⟨h1,h2⟩,h3⟩,h4⟩:=h
 have:(2:Nat) ^ (8*k.toNat - 1)≤2 ^ 63:=Nat.pow_le_pow_right QH QG
 have h5:((2:Int) ^ (8*k.toNat - 1))=((2 ^ (8*k.toNat - 1):Nat):Int):=by simp
 have h6:(2:Nat) ^ 63=9223372036854775808:=by decide
 omega
theorem ec {t:List UInt8} {n k:Int} (hf:bm n k=true) (ht:t.length≤140737488355320):d8 (t,0) n k=some (t++be n k.toNat,0):=by
 rw[Ho _ _ _ ⟨dY hf,by simp only; omega⟩]
 unfold yA
 rw[QK hf,oh]
theorem kw {t:List UInt8} {b:Bl} {k:Int} (hf:bm (co b) k=true) (hb:bw b=true) (ht:t.length+b.data.length≤140737488355320):kf (t,0) b k=some (t++(be (co b) k.toNat++b.data),0):=by
 have h8:1≤k∧k≤8:=by unfold bm at hf; simp only[Bool.and_eq_true,decide_eq_true_eq] at hf; exact⟨hf.1.1.1,hf.1.1.2⟩
 rw[pk _ _ _ ⟨by omega,by simp only; omega⟩]
 unfold oD ph yA
 rw[QK hb,QK hf,oh,oh,NA]
theorem mJ {t:List UInt8} {b:Bl} (hb:bw b=true) (hl:b.data.length≤2147483647) (ht:t.length+b.data.length≤140737488355310):j8 (t,0) b=some (t++(bY (bj (co b))++b.data),0):=by
 rw[rI _ _ (by simp only; omega)]
 unfold mV ph jz
 rw[QK hb,QK (by unfold co; split <;> omega),oh,oh,NA]
structure CQ {α:Type} (op:I→Option (α×I)) (p:Pr α) (z:α):Prop where
 dead: ∀ st:I,st.err≠0→op st=some (z,st)
 run: ∀ (s:List UInt8) (q:Nat),q≤s.length→(∃ (e:Int) (st:I),p s q= .error e∧op ⟨s.drop q,q,0⟩=some (z,st)∧st.err=e∧st.err≠0)∨(∃ (a:α) (r:Nat),p s q= .ok (a,r)∧op ⟨s.drop q,q,0⟩=some (a,⟨s.drop r,r,0⟩)∧q≤r∧r≤s.length)
theorem CR.cq {α:Type} {op:I→Option (α×I)} {p:Pr α} {z:α} {enc:α→List UInt8} {ok:α→Prop} (h:CR op p z) (hs:Sp p enc ok):CQ op p z:=by
 refine⟨h.dead,fun s q hq=> ?_⟩
 cases hp:p s q with
 | error e =>
  obtain⟨st,h1,h2,h3⟩:=h.bad s q e hq hp
  exact .inl ⟨e,st,rfl,h1,h2,by rw[h2]; exact h3⟩
 | ok x =>
  have:=hs.spell s q x.1 x.2 hq hp
  exact .inr ⟨x.1,x.2,rfl,h.good s q x.1 x.2 hq hp,this.1,this.2.1⟩
theorem Cc (k:Nat) (h1:1≤k) (h8:k≤8) (kk:Int) (hk:kk=(k:Int)):CQ (fun st=>ed st kk) (fC k) 0:=(Id k h1 h8 kk hk).cq (eA k h1 h8)
theorem Q1:CQ (fun st=>ed st 1) (fC 1) 0:=Cc 1 QH QH 1 rfl
theorem Q2:CQ (fun st=>ed st 2) (fC 2) 0:=Cc 2 QH QH 2 rfl
theorem Q4:CQ (fun st=>ed st 4) (fC 4) 0:=Cc 4 QH QH 4 rfl
theorem Q8:CQ (fun st=>ed st 8) (fC 8) 0:=Cc 8 QH QH 8 rfl
theorem lz {st:I} {k:Int} (h:st.err≠0):ed st k=some (0,st):=by rw[kA,oE h]
theorem tp (l:List UInt8) (q:Nat) (e:Int):dx ⟨l,q,0⟩ e=⟨l,q,e⟩:=rfl
theorem QF2:CQ (fun st=>lk st 2) (og 2) (⟨false,[]⟩:Bl):=(xr 2 QH QH 2 rfl).cq (iK 2 QH QH)
theorem QF4:CQ (fun st=>lk st 4) (og 4) (⟨false,[]⟩:Bl):=(xr 4 QH QH 4 rfl).cq (iK 4 QH QH)
theorem mb {st:I} {k:Int} (h:st.err≠0):lk st k=some (⟨false,[]⟩,st):=by rw[F4,Dq h]
theorem QV:CQ cY oa (⟨false,[]⟩:Bl):=zt.cq kv
theorem QT:CQ sO xu []:=J4.cq pA
theorem QN:CQ wN zu []:=J5.cq re
theorem xv (t:List UInt8):otx (t,0)=(t,0):=by simp[otx]
theorem otx_e (t:List UInt8) (e:Int) (h:e≠0):otx (t,e)=([],e):=by simp[otx,h]
theorem fY {n:Int} {k:Int} (h:k=2∨k=4∨k=8) (h1: -32768≤n) (h2:n≤32767):bm n k=true:=by
 have e2:(2:Int) ^ (8*(2:Int).toNat - 1)=32768:=by decide
 have e4:(2:Int) ^ (8*(4:Int).toNat - 1)=2147483648:=by decide
 have e8:(2:Int) ^ (8*(8:Int).toNat - 1)=9223372036854775808:=by decide
 unfold bm
 simp only[Bool.and_eq_true,decide_eq_true_eq]
 rcases h with rfl | rfl | rfl <;> omega
end Go.Proofs.YtheikonlgjdopaaGreat.Sl
