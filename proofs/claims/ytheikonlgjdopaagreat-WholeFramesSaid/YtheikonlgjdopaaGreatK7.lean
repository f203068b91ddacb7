/- wholeFrames_holds: part 7. -/
import Derived.Test.YtheikonlgjdopaaGreatK6
set_option maxRecDepth 100000
set_option maxHeartbeats 4000000
set_option linter.defProp false
namespace Go.Proofs.YtheikonlgjdopaaGreat.Sl
open Go.RowKit
set_option linter.unusedVariables false
set_option linter.unusedSimpArgs false
def Jw := @List.append_assoc
def JC := @Tryz.sizeOf38
def JP := @Prod.mk.inj
def JU := @Tryz.isAgg38
def Kh := @Tryz.runUnderlying38
def Ki := @Tryz.sizeOf53
def KM := @Tryz.results69
def KQ := @Tryz.isAgg53
def Lr := @Tryz.results14
def L5 := @Tryz.runUnderlying67
def D6:ey := [(25,0,0),(25,1,1),(38,0,0),(38,1,5),(38,2,10),(38,3,14),(38,4,18),(38,5,19)]
theorem ar:(D6).OK Tryz.prog:=⟨FOK.mk KB rfl Jv rfl,FOK.mk KB rfl Jv rfl,FOK.mk Kh rfl Ke rfl,FOK.mk Kh rfl KJ rfl,FOK.mk Kh rfl KK rfl,FOK.mk Kh rfl KL rfl,FOK.mk Kh rfl Tryz.sizeOf33 rfl,FOK.mk Kh rfl Kk rfl,trivial⟩
def D7:List Nat := [3,33]
theorem fV:NOK Tryz.prog D7:=⟨Jy,Tryz.isAgg33,trivial⟩
theorem ei:BOK Tryz.prog 38 #[.int .i64 0,.int .i64 0,.int .i64 0,.bool false,.string ⟨#[]⟩,.bool false,.string ⟨#[]⟩,.int .i64 0,.int .i64 0,.int .i64 0,.string ⟨#[]⟩,.int .i64 0,.int .i64 0,.slice none 0 0,.string ⟨#[]⟩,.int .i64 0,.int .i64 0,.bool false,.slice none 0 0,.bool false,.string ⟨#[]⟩,.int .i64 0,.int .i64 0,.slice none 0 0] [(0,5),(5,5),(10,4),(14,4),(18,1),(19,5)]:=BOK.mk Tryz.zeroValue38 Kh (by intro w; simp)
def bE (st:List UInt8×Int) (a0:al):Option (List UInt8×Int):=(if a0.IE.IP=22 then ((fL st a0.I0 a0.IE.IO).bind fun st86=>some st86) else ((if a0.IE.IP=24 then ((gP st a0.I4).bind fun st126=>some st126) else ((if a0.IE.IP=26 then ((gQ st a0.Jb).bind fun st146=>some st146) else ((if a0.IE.IP=27 then ((hC st a0.I1 a0.IE.IO).bind fun st156=>some st156) else ((da st a0.IL a0.IE.IO).bind fun st158=>some st158)).bind fun st153=>some st153)).bind fun st143=>some st143)).bind fun st123=>some st123)).bind fun st83=>some st83
theorem mM (g:Nat) (st:List UInt8×Int) (a0:al) (A1:Option Addr) (c2:Nat) (A3:Option Addr) (c4:Nat) (A5:Option Addr) (c6:Nat) (r:List UInt8×Int) (h:bE st a0=some r):aC Tryz.prog 49 #[.agg (g7 a0 A1 A3 A5 c2 c4 c6),jP g] (RX.and (RX.of (ai 2 aZ) [.slice A1 a0.I4.IC.length c2] a0.I4.IC) (RX.and (RX.of (ai 5 aP) [.slice A3 a0.I1.length c4] a0.I1) (RX.of (ai 2 ay) [.slice A5 a0.IL.IC.length c6] a0.IL.IC))) (bp g st) (fun v A' N=>v= .tuple #[]/\A'=bp g r/\N = []):=by
 refine aU Tryz.func49 Z Tryz.ntmps49 Z ?_;intro F w hX;unfold bE at h;refine Gq Z (TL.box Z .u Z Z (fun b7=>(GG Z (Ie ar fV 0 Z Z Z (T.block (Gq Z (Gx ar Z ?_)))))));obtain⟨st83,h,hk84⟩:=Jn h;refine Hj (fun e Rs=>e = []/\Rs = [aN b7 38 (g7 a0 A1 A3 A5 c2 c4 c6),bp g st83]) ?_ ?_
 ·clear hk84;rcases jF h with⟨c85,h⟩ | ⟨c85,h⟩
  ·refine HX Z c85 (T.region Z (Gp ar 1 Z (Gr Z (GH (us := [.bool a0.I0.IJ.null,jS a0.I0.IJ.data,jI a0.I0.II,jI a0.I0.ID,jI a0.I0.IF]) 0 Z LI KJ Z Z Z) Z ?_)));obtain⟨st86,hx87,h⟩:=Jn h;refine Gt ar fV 0 Z 4 Z Z (Gy 1 Z Z .u (.fn Tryz.call96 Z) (nr g st a0.I0 a0.IE.IO _ hx87) sT Z Z ?_);cases h;exact TL.nil (GE [0,0])
  refine HY Z c85 (Gq Z (Gx ar Z ?_));obtain⟨st123,h,hk124⟩:=Jn h;refine Hj (fun e Rs=>e = []/\Rs = [aN b7 38 (g7 a0 A1 A3 A5 c2 c4 c6),bp g st123]) ?_ ?_
  ·clear hk124;rcases jF h with⟨c125,h⟩ | ⟨c125,h⟩
   ·refine HX Z c125 (T.region Z (Gp ar 1 Z (Gr Z (GH (us:=wL11 a0.I4 A1 c2) 0 Z LJ KK Z Z Z) Z ?_)));obtain⟨st126,hx127,h⟩:=Jn h;refine Gp ar 1 Z (Gy 1 Z Z .u (.fn Tryz.call97 Z) (oU g st a0.I4 _ _ _ hx127) (fun _ hs=>(Ia hs (GR hX))) Z Z ?_);cases h;exact TL.nil (GE [0,0])
   refine HY Z c125 (Gq Z (Gx ar Z ?_));obtain⟨st143,h,hk144⟩:=Jn h;refine Hj (fun e Rs=>e = []/\Rs = [aN b7 38 (g7 a0 A1 A3 A5 c2 c4 c6),bp g st143]) ?_ ?_
   ·clear hk144;rcases jF h with⟨c145,h⟩ | ⟨c145,h⟩
    ·refine HX Z c145 (T.region Z (Gp ar 1 Z (Gr Z (GH (us:=wL13 a0.Jb) 0 Z LK KL Z Z Z) Z ?_)));obtain⟨st146,hx147,h⟩:=Jn h;refine Gp ar 1 Z (Gy 1 Z Z .u (.fn Tryz.call98 Z) (oV g st a0.Jb _ hx147) sT Z Z ?_);cases h;exact TL.nil (GE [0,0])
    refine HY Z c145 (Gq Z (Gx ar Z ?_));obtain⟨st153,h,hk154⟩:=Jn h;refine Hj (fun e Rs=>e = []/\Rs = [aN b7 38 (g7 a0 A1 A3 A5 c2 c4 c6),bp g st153]) ?_ ?_
    ·clear hk154;rcases jF h with⟨c155,h⟩ | ⟨c155,h⟩
     ·refine HX Z c155 (T.region Z ?_);obtain⟨st156,hx157,h⟩:=Jn h;refine Gt ar fV 0 Z 6 Z Z (Gy 1 Z Z .u (.fn Tryz.call99 Z) (qz g st a0.I1 _ _ a0.IE.IO _ hx157) (fun _ hs=>(Ia hs (GR (Gz hX)))) Z Z ?_);cases h;exact TL.nil (GE [0,0])
     refine HY Z c155 (T.region Z (Gp ar 1 Z (Gr Z (GH (us := [.bool a0.IL.IJ.null,jS a0.IL.IJ.data,jI a0.IL.I6,jI a0.IL.II,.slice A5 a0.IL.IC.length c6]) 0 Z KX Kk Z Z Z) Z ?_)));obtain⟨st158,hx159,h⟩:=Jn h;refine Gt ar fV 0 Z 4 Z Z (Gy 1 Z Z .u (.fn Tryz.call100 Z) (kG g st a0.IL _ _ a0.IE.IO _ hx159) (fun _ hs=>(Ia hs (Gz (Gz hX)))) Z Z ?_);cases h;exact TL.nil (GE [0,0])
    rintro _ _ ⟨rfl,rfl⟩;clear h;have h:=hk154;clear hk154;try dsimp only at h
    cases h;exact GE [0,0]
   rintro _ _ ⟨rfl,rfl⟩;clear h;have h:=hk144;clear hk144;try dsimp only at h
   cases h;exact GE [0,0]
  rintro _ _ ⟨rfl,rfl⟩;clear h;have h:=hk124;clear hk124;try dsimp only at h
  cases h;exact GE [0,0]
 rintro _ _ ⟨rfl,rfl⟩;clear h;have h:=hk84;clear hk84;obtain rfl:=Jp h;exact GN (Ht [1] Tryz.results49 ⟨Z,Z,Z⟩ Mf (.inr Z))
def cH (a0:al):Option (List UInt8×Int):=(gi ([],0) a0.IE).bind fun st10=>(Bu st10).bind fun (x12,st13)=>(if x12=0 then ((bE st13 a0).bind fun st21=>some st21) else some st13).bind fun st18=>(kT st18).bind fun (x23,x24,st25)=>if x24=0 then ((dA ([],0) (x23.length:Int) 4).bind fun st28=>(vU st28 x23).bind fun st30=>(kT st30).bind fun (x32,x33,st34)=>some (x32,x33)) else some ([],x24)
theorem kA (a0:al) (A1:Option Addr) (c2:Nat) (A3:Option Addr) (c4:Nat) (A5:Option Addr) (c6:Nat) (r:List UInt8×Int) (h:cH a0=some r):aC Tryz.prog 12 #[.agg (g7 a0 A1 A3 A5 c2 c4 c6)] (RX.and (RX.of (ai 2 aZ) [.slice A1 a0.I4.IC.length c2] a0.I4.IC) (RX.and (RX.of (ai 5 aP) [.slice A3 a0.I1.length c4] a0.I1) (RX.of (ai 2 ay) [.slice A5 a0.IL.IC.length c6] a0.IL.IC))) (aO) (fun v A' N=>v= .tuple #[jS r.1,jI r.2]/\A'=aO/\N = []):=by
 refine aU Tryz.func12 Z Tryz.ntmps12 Z ?_;intro F w hX;unfold cH at h;refine Gq Z (TL.box Z .u Z Z (fun b7=>(GP ar Z Z (Io Z .u Tryz.zeroValue112 Z (fun b8=>(Io Z .u Tryz.zeroValue112 Z (fun b9=>(GG Z (Gp ar 1 Z ?_)))))))));refine Gr Z (GH (us := [jI a0.IE.IP,jI a0.IE.IO,jI a0.IE.IY,.bool a0.IE.IK.null,jS a0.IE.IK.data]) 2 Z KP Ke Z Z Z) Z ?_;obtain⟨st10,hx11,h⟩:=Jn h;refine Gy 1 Z Z .u (.fn Tryz.call47 Z) (nY b8 ([],0) a0.IE _ hx11) sT Z Z ?_;obtain⟨⟨x12,st13⟩,hx14,h⟩:=Jn h;refine Gs (T.seq (Gq Z (Gy 1 Z Z .u (.fn Tryz.call48 Z) (z9 b8 st10 _ hx14) sT Z Z (Gx ar Z ?_))));obtain⟨st18,h,hk19⟩:=Jn h;refine Hj (fun e Rs=>e = [(2,.string ⟨#[]⟩),(3,jI 0),(4,jP b8),(5,jP b9)]/\Rs = [bp b9 ([],0),bp b8 st18,aN b7 38 (g7 a0 A1 A3 A5 c2 c4 c6),aO]) ?_ ?_
 ·clear hk19;rcases jF h with⟨c20,h⟩ | ⟨c20,h⟩
  ·refine HX Z c20 (T.region Z (Gr Z (GH (us:=nM a0 A1 A3 A5 c2 c4 c6) 2 Z JU JC Z Z Z) Z ?_));obtain⟨st21,hx22,h⟩:=Jn h;refine Gy 1 Z Z .u (.fn Tryz.call49 Z) (mM b8 st13 a0 _ _ _ _ _ _ _ hx22) (fun _ hs=>(Src.and (Ia hs (GR hX)) (Src.and (Ia hs (GR (Gz hX))) (Ia hs (Gz (Gz hX)))))) Z Z ?_;cases h;exact TL.nil (GE [0,0,0,0])
  refine HY Z c20 ?_;cases h;exact T.skip (GE [0,0,0,0])
 rintro _ _ ⟨rfl,rfl⟩;clear h;have h:=hk19;clear hk19;obtain⟨⟨x23,x24,st25⟩,hx26,h⟩:=Jn h;refine X.seq (Gq Z (Gy 1 Z Z .u (.fn Tryz.call50 Z) (gI b8 st18 _ hx26) sT Z Z (Gx ar Z (T.seq (Gq Z (Gp ar 2 Z ?_))))));rcases jF h with⟨c27,h⟩ | ⟨c27,h⟩
 ·refine GY Z c27 (G3 Z (Gp ar 1 Z (Gr Z (Hv Z JJ) Z ?_)));obtain⟨st28,hx29,h⟩:=Jn h;refine Gy 0 Z Z .u (.fn Tryz.call51 Z) (bh b9 ([],0) (x23.length:Int) 4 _ hx29) sT Z Z (GG Z ?_);obtain⟨st30,hx31,h⟩:=Jn h;refine Gp ar 1 Z (Gy 0 Z Z .u (.fn Tryz.call52 Z) (tN b9 st28 x23 _ hx31) sT Z Z ?_);obtain⟨⟨x32,x33,st34⟩,hx35,h⟩:=Jn h;refine GG Z (Gy 0 Z Z .u (.fn Tryz.call50 Z) (gI b9 st30 _ hx35) sT Z Z (Gp ar 4 Z ?_));obtain rfl:=Jp h;exact Gs (T.ret (G9 [3] Tryz.results12 (Gu Z) (Gu Z) ⟨Z,Z,Z⟩ Mf (.inl Z)))
 refine GX Z c27 (Gq Z (Gp ar 3 Z ?_));obtain rfl:=Jp h;exact Gs (T.ret (Gv (G9 [3] Tryz.results12 (Gu Z) (Gu Z) ⟨Z,Z,Z⟩ Mf (.inl Z))))
def jf (a0:List UInt8):Option (al×Int):=(sZ a0).bind fun st2=>(fR st2).bind fun (x5,st6)=>(gt st6).bind fun (x9,st10)=>if x9=0 then (if x5.IP=22 then ((dW st10 x5.IO).bind fun (x14,st15)=>(dJ st15).bind fun (x17,st18)=>if x17=0 then (some ((⟨x5,x14,(⟨[],0,0,[]⟩:bI),(⟨[],0,0,false⟩:bH),[],(⟨(⟨false,[]⟩:Bl),0,0,[]⟩:ao)⟩:al),0)) else (some ((⟨(⟨0,0,0,(⟨false,[]⟩:Bl)⟩:e7),(⟨(⟨false,[]⟩:Bl),0,0,0⟩:aT),(⟨[],0,0,[]⟩:bI),(⟨[],0,0,false⟩:bH),[],(⟨(⟨false,[]⟩:Bl),0,0,[]⟩:ao)⟩:al),x17))) else (if x5.IP=24 then ((jQ st10).bind fun (x22,st25)=>(dJ st25).bind fun (x27,st28)=>if x27=0 then (some ((⟨x5,(⟨(⟨false,[]⟩:Bl),0,0,0⟩:aT),x22,(⟨[],0,0,false⟩:bH),[],(⟨(⟨false,[]⟩:Bl),0,0,[]⟩:ao)⟩:al),0)) else (some ((⟨(⟨0,0,0,(⟨false,[]⟩:Bl)⟩:e7),(⟨(⟨false,[]⟩:Bl),0,0,0⟩:aT),(⟨[],0,0,[]⟩:bI),(⟨[],0,0,false⟩:bH),[],(⟨(⟨false,[]⟩:Bl),0,0,[]⟩:ao)⟩:al),x27))) else (if x5.IP=26 then ((jR st10).bind fun (x32,st33)=>(dJ st33).bind fun (x35,st36)=>if x35=0 then (some ((⟨x5,(⟨(⟨false,[]⟩:Bl),0,0,0⟩:aT),(⟨[],0,0,[]⟩:bI),x32,[],(⟨(⟨false,[]⟩:Bl),0,0,[]⟩:ao)⟩:al),0)) else (some ((⟨(⟨0,0,0,(⟨false,[]⟩:Bl)⟩:e7),(⟨(⟨false,[]⟩:Bl),0,0,0⟩:aT),(⟨[],0,0,[]⟩:bI),(⟨[],0,0,false⟩:bH),[],(⟨(⟨false,[]⟩:Bl),0,0,[]⟩:ao)⟩:al),x35))) else (if x5.IP=27 then ((fp st10 x5.IO).bind fun (x40,st43)=>(dJ st43).bind fun (x45,st46)=>if x45=0 then (some ((⟨x5,(⟨(⟨false,[]⟩:Bl),0,0,0⟩:aT),(⟨[],0,0,[]⟩:bI),(⟨[],0,0,false⟩:bH),x40,(⟨(⟨false,[]⟩:Bl),0,0,[]⟩:ao)⟩:al),0)) else (some ((⟨(⟨0,0,0,(⟨false,[]⟩:Bl)⟩:e7),(⟨(⟨false,[]⟩:Bl),0,0,0⟩:aT),(⟨[],0,0,[]⟩:bI),(⟨[],0,0,false⟩:bH),[],(⟨(⟨false,[]⟩:Bl),0,0,[]⟩:ao)⟩:al),x45))) else ((dS st10 x5.IO).bind fun (x49,st52)=>(dJ st52).bind fun (x54,st55)=>if x54=0 then (some ((⟨x5,(⟨(⟨false,[]⟩:Bl),0,0,0⟩:aT),(⟨[],0,0,[]⟩:bI),(⟨[],0,0,false⟩:bH),[],x49⟩:al),0)) else (some ((⟨(⟨0,0,0,(⟨false,[]⟩:Bl)⟩:e7),(⟨(⟨false,[]⟩:Bl),0,0,0⟩:aT),(⟨[],0,0,[]⟩:bI),(⟨[],0,0,false⟩:bH),[],(⟨(⟨false,[]⟩:Bl),0,0,[]⟩:ao)⟩:al),x54))))))) else (some ((⟨(⟨0,0,0,(⟨false,[]⟩:Bl)⟩:e7),(⟨(⟨false,[]⟩:Bl),0,0,0⟩:aT),(⟨[],0,0,[]⟩:bI),(⟨[],0,0,false⟩:bH),[],(⟨(⟨false,[]⟩:Bl),0,0,[]⟩:ao)⟩:al),x9))
theorem qD (a0:List UInt8) (r:al×Int) (h:jf a0=some r):aC Tryz.prog 69 #[jS a0] .triv (aO) (fun v A' N=> ∃ (A58:Option Addr) (c59:Nat) (A60:Option Addr) (c61:Nat) (A62:Option Addr) (c63:Nat),v= .tuple #[.agg #[jI r.1.IE.IP,jI r.1.IE.IO,jI r.1.IE.IY,.bool r.1.IE.IK.null,jS r.1.IE.IK.data,.bool r.1.I0.IJ.null,jS r.1.I0.IJ.data,jI r.1.I0.II,jI r.1.I0.ID,jI r.1.I0.IF,jS r.1.I4.IJ,jI r.1.I4.ID,jI r.1.I4.IF,.slice A58 r.1.I4.IC.length c59,jS r.1.Jb.IJ,jI r.1.Jb.ID,jI r.1.Jb.IF,.bool r.1.Jb.I2,.slice A60 r.1.I1.length c61,.bool r.1.IL.IJ.null,jS r.1.IL.IJ.data,jI r.1.IL.I6,jI r.1.IL.II,.slice A62 r.1.IL.IC.length c63],jI r.2]/\A'=aO/\N = [RdR (ai 2 aZ) [.slice A58 r.1.I4.IC.length c59] r.1.I4.IC,RdR (ai 5 aP) [.slice A60 r.1.I1.length c61] r.1.I1,RdR (ai 2 ay) [.slice A62 r.1.IL.IC.length c63] r.1.IL.IC]):=by
 refine aU Tryz.func69 Z Tryz.ntmps69 Z ?_;intro F w hX;unfold jf at h;refine Gq Z (TL.alloc Z .u Tryz.zeroValue38 Z (fun b1=>(GP ar Z Z ?_)));obtain⟨st2,hx3,h⟩:=Jn h;refine Gp ar 1 Z (HZ Z .u (.fn Tryz.call19 Z) (iE a0 _ hx3) rT Z ?_);rintro _ _ _ ⟨b4,rfl,rfl,rfl⟩;refine Hc [0,0,0] Z (GP ar Z Z ?_);obtain⟨⟨x5,st6⟩,hx7,h⟩:=Jn h;refine Gp ar 1 Z (Gy 0 Z Z .u (.fn Tryz.call115 Z) (pa b4 st2 _ hx7) sT Z Z ?_);refine Gr Z (GW (cells:= #[jI x5.IP,jI x5.IO,jI x5.IY,.bool x5.IK.null,jS x5.IK.data,.bool false,.string ⟨#[]⟩,jI 0,jI 0,jI 0,.string ⟨#[]⟩,jI 0,jI 0,.slice none 0 0,.string ⟨#[]⟩,jI 0,jI 0,.bool false,.slice none 0 0,.bool false,.string ⟨#[]⟩,jI 0,jI 0,.slice none 0 0]) ei Z Me) Z ?_;refine TL.alloc Z .u Tryz.zeroValue38 Z (fun b8=>(GC 0 Z (cs':= #[jI x5.IP,jI x5.IO,jI x5.IY,.bool x5.IK.null,jS x5.IK.data,.bool false,.string ⟨#[]⟩,jI 0,jI 0,jI 0,.string ⟨#[]⟩,jI 0,jI 0,.slice none 0 0,.string ⟨#[]⟩,jI 0,jI 0,.bool false,.slice none 0 0,.bool false,.string ⟨#[]⟩,jI 0,jI 0,.slice none 0 0]) Z .u Z Z JC Z Z Z Z Z (Gs (T.seq (Gq Z ?_)))));obtain⟨⟨x9,st10⟩,hx11,h⟩:=Jn h;refine Gp ar 1 Z (Gy 1 Z Z .u (.fn Tryz.call23 Z) (bY b4 st6 _ hx11) sT Z Z (GP ar Z Z (Gp ar 2 Z ?_)));rcases jF h with⟨c12,h⟩ | ⟨c12,h⟩
 ·refine GY Z c12 (GQ (T.seq (Gq Z (Ie ar fV 0 Z Z Z (T.block (Gq Z (Gp ar 2 Z ?_)))))));rcases jF h with⟨c13,h⟩ | ⟨c13,h⟩
  ·refine Hg Z c13 (T.region Z ?_);obtain⟨⟨x14,st15⟩,hx16,h⟩:=Jn h;refine Gt ar fV 0 Z 4 Z Z (Gy 1 Z Z .u (.fn Tryz.call116 Z) (nU b4 st10 x5.IO _ hx16) sT Z Z (Gp ar 1 Z (GC 0 Z (cs':= #[jI x5.IP,jI x5.IO,jI x5.IY,.bool x5.IK.null,jS x5.IK.data,.bool x14.IJ.null,jS x14.IJ.data,jI x14.II,jI x14.ID,jI x14.IF,.string ⟨#[]⟩,jI 0,jI 0,.slice none 0 0,.string ⟨#[]⟩,jI 0,jI 0,.bool false,.slice none 0 0,.bool false,.string ⟨#[]⟩,jI 0,jI 0,.slice none 0 0]) Z .u Z Z KJ Z Z Z Z Z (TL.nil (GN (X.seq (T.seq (Gq Z ?_))))))));obtain⟨⟨x17,st18⟩,hx19,h⟩:=Jn h;refine Gp ar 1 Z (Gy 1 Z Z .u (.fn Tryz.call21 Z) (cR b4 st15 _ hx19) sT Z Z (GP ar Z Z (Gp ar 2 Z ?_)));rcases jF h with⟨c20,h⟩ | ⟨c20,h⟩
   ·refine GY Z c20 (G3 Z (Gr Z (GH (us := [jI x5.IP,jI x5.IO,jI x5.IY,.bool x5.IK.null,jS x5.IK.data,.bool x14.IJ.null,jS x14.IJ.data,jI x14.II,jI x14.ID,jI x14.IF,.string ⟨#[]⟩,jI 0,jI 0,.slice none 0 0,.string ⟨#[]⟩,jI 0,jI 0,.bool false,.slice none 0 0,.bool false,.string ⟨#[]⟩,jI 0,jI 0,.slice none 0 0]) 0 Z JU JC Z Z Z) Z (GC 2 Z (cs':= #[jI x5.IP,jI x5.IO,jI x5.IY,.bool x5.IK.null,jS x5.IK.data,.bool x14.IJ.null,jS x14.IJ.data,jI x14.II,jI x14.ID,jI x14.IF,.string ⟨#[]⟩,jI 0,jI 0,.slice none 0 0,.string ⟨#[]⟩,jI 0,jI 0,.bool false,.slice none 0 0,.bool false,.string ⟨#[]⟩,jI 0,jI 0,.slice none 0 0]) Z .u Z Z JC Z Z Z Z Z (Gp ar 1 Z ?_))));obtain rfl:=Jp h;exact Gs (T.ret (GO 2 aZ (GO 5 aP (GO 2 ay (G9 [6,2,1,0] KM (Hb (us:= #[jI x5.IP,jI x5.IO,jI x5.IY,.bool x5.IK.null,jS x5.IK.data,.bool x14.IJ.null,jS x14.IJ.data,jI x14.II,jI x14.ID,jI x14.IF,.string ⟨#[]⟩,jI 0,jI 0,.slice none 0 0,.string ⟨#[]⟩,jI 0,jI 0,.bool false,.slice none 0 0,.bool false,.string ⟨#[]⟩,jI 0,jI 0,.slice none 0 0]) 5 Z JU JC Z Z) (Gu Z) ⟨_,_,_,_,_,_,Z,Z,Z⟩ Mf (.inl Z))))))
   refine GX Z c20 (Gq Z ?_);refine Gr Z (GW (cells:=jz) ei Z Me) Z ?_;refine Gp ar 1 Z (GC 2 Z (cs':=jz) Z .u Z Z JC Z Z Z Z Z (Gp ar 1 Z ?_));obtain rfl:=Jp h;exact Gs (T.ret (Gv (GO 2 aZ (GO 5 aP (GO 2 ay (G9 [6,2,1,0] KM (Hb (us:=jz) 5 Z JU JC Z Z) (Gu Z) ⟨_,_,_,_,_,_,Z,Z,Z⟩ Mf (.inl Z)))))))
  refine Hh Z c13 (Gq Z (Gp ar 2 Z ?_));rcases jF h with⟨c21,h⟩ | ⟨c21,h⟩
  ·refine Hg Z c21 (T.region Z ?_);obtain⟨⟨x22,st25⟩,hx26,h⟩:=Jn h;refine Gp ar 1 Z (It Z .u (.fn Tryz.call117 Z) (pA b4 st10 _ hx26) sT Z ?_);rintro _ _ _ ⟨A23,c24,rfl,rfl,rfl⟩;refine Hc [0,0,0,0,0] Z (Gp ar 1 Z (GC 1 Z (cs':= #[jI x5.IP,jI x5.IO,jI x5.IY,.bool x5.IK.null,jS x5.IK.data,.bool false,.string ⟨#[]⟩,jI 0,jI 0,jI 0,jS x22.IJ,jI x22.ID,jI x22.IF,.slice A23 x22.IC.length c24,.string ⟨#[]⟩,jI 0,jI 0,.bool false,.slice none 0 0,.bool false,.string ⟨#[]⟩,jI 0,jI 0,.slice none 0 0]) Z .u Z Z KK Z Z Z Z Z (TL.nil (GN (X.seq (T.seq (Gq Z ?_)))))));obtain⟨⟨x27,st28⟩,hx29,h⟩:=Jn h;refine Gp ar 1 Z (Gy 2 Z Z .u (.fn Tryz.call21 Z) (cR b4 st25 _ hx29) sT Z Z (GP ar Z Z (Gp ar 2 Z ?_)));rcases jF h with⟨c30,h⟩ | ⟨c30,h⟩
   ·refine GY Z c30 (G3 Z (Gr Z (GH (us := [jI x5.IP,jI x5.IO,jI x5.IY,.bool x5.IK.null,jS x5.IK.data,.bool false,.string ⟨#[]⟩,jI 0,jI 0,jI 0,jS x22.IJ,jI x22.ID,jI x22.IF,.slice A23 x22.IC.length c24,.string ⟨#[]⟩,jI 0,jI 0,.bool false,.slice none 0 0,.bool false,.string ⟨#[]⟩,jI 0,jI 0,.slice none 0 0]) 1 Z JU JC Z Z Z) Z (GC 3 Z (cs':= #[jI x5.IP,jI x5.IO,jI x5.IY,.bool x5.IK.null,jS x5.IK.data,.bool false,.string ⟨#[]⟩,jI 0,jI 0,jI 0,jS x22.IJ,jI x22.ID,jI x22.IF,.slice A23 x22.IC.length c24,.string ⟨#[]⟩,jI 0,jI 0,.bool false,.slice none 0 0,.bool false,.string ⟨#[]⟩,jI 0,jI 0,.slice none 0 0]) Z .u Z Z JC Z Z Z Z Z (Gp ar 1 Z ?_))));obtain rfl:=Jp h;exact Gs (T.ret (GO 5 aP (GO 2 ay (G9 [6,2,1,0] KM (Hb (us:= #[jI x5.IP,jI x5.IO,jI x5.IY,.bool x5.IK.null,jS x5.IK.data,.bool false,.string ⟨#[]⟩,jI 0,jI 0,jI 0,jS x22.IJ,jI x22.ID,jI x22.IF,.slice A23 x22.IC.length c24,.string ⟨#[]⟩,jI 0,jI 0,.bool false,.slice none 0 0,.bool false,.string ⟨#[]⟩,jI 0,jI 0,.slice none 0 0]) 5 Z JU JC Z Z) (Gu Z) ⟨_,_,_,_,_,_,Z,Z,Z⟩ Mf (.inl Z)))))
   refine GX Z c30 (Gq Z ?_);refine Gr Z (GW (cells:=jz) ei Z Me) Z ?_;refine Gp ar 1 Z (GC 3 Z (cs':=jz) Z .u Z Z JC Z Z Z Z Z (Gp ar 1 Z ?_));obtain rfl:=Jp h;exact Gs (T.ret (Gv (GO 2 aZ (GO 5 aP (GO 2 ay (G9 [7,2,1,0] KM (Hb (us:=jz) 6 Z JU JC Z Z) (Gu Z) ⟨_,_,_,_,_,_,Z,Z,Z⟩ Mf (.inl Z)))))))
  refine Hh Z c21 (Gq Z (Gp ar 2 Z ?_));rcases jF h with⟨c31,h⟩ | ⟨c31,h⟩
  ·refine Hg Z c31 (T.region Z ?_);obtain⟨⟨x32,st33⟩,hx34,h⟩:=Jn h;refine Gp ar 1 Z (Gy 1 Z Z .u (.fn Tryz.call118 Z) (pC b4 st10 _ hx34) sT Z Z (Gp ar 1 Z (GC 0 Z (cs':= #[jI x5.IP,jI x5.IO,jI x5.IY,.bool x5.IK.null,jS x5.IK.data,.bool false,.string ⟨#[]⟩,jI 0,jI 0,jI 0,.string ⟨#[]⟩,jI 0,jI 0,.slice none 0 0,jS x32.IJ,jI x32.ID,jI x32.IF,.bool x32.I2,.slice none 0 0,.bool false,.string ⟨#[]⟩,jI 0,jI 0,.slice none 0 0]) Z .u Z Z KL Z Z Z Z Z (TL.nil (GN (X.seq (T.seq (Gq Z ?_))))))));obtain⟨⟨x35,st36⟩,hx37,h⟩:=Jn h;refine Gp ar 1 Z (Gy 1 Z Z .u (.fn Tryz.call21 Z) (cR b4 st33 _ hx37) sT Z Z (GP ar Z Z (Gp ar 2 Z ?_)));rcases jF h with⟨c38,h⟩ | ⟨c38,h⟩
   ·refine GY Z c38 (G3 Z (Gr Z (GH (us := [jI x5.IP,jI x5.IO,jI x5.IY,.bool x5.IK.null,jS x5.IK.data,.bool false,.string ⟨#[]⟩,jI 0,jI 0,jI 0,.string ⟨#[]⟩,jI 0,jI 0,.slice none 0 0,jS x32.IJ,jI x32.ID,jI x32.IF,.bool x32.I2,.slice none 0 0,.bool false,.string ⟨#[]⟩,jI 0,jI 0,.slice none 0 0]) 0 Z JU JC Z Z Z) Z (GC 2 Z (cs':= #[jI x5.IP,jI x5.IO,jI x5.IY,.bool x5.IK.null,jS x5.IK.data,.bool false,.string ⟨#[]⟩,jI 0,jI 0,jI 0,.string ⟨#[]⟩,jI 0,jI 0,.slice none 0 0,jS x32.IJ,jI x32.ID,jI x32.IF,.bool x32.I2,.slice none 0 0,.bool false,.string ⟨#[]⟩,jI 0,jI 0,.slice none 0 0]) Z .u Z Z JC Z Z Z Z Z (Gp ar 1 Z ?_))));obtain rfl:=Jp h;exact Gs (T.ret (GO 2 aZ (GO 5 aP (GO 2 ay (G9 [6,2,1,0] KM (Hb (us:= #[jI x5.IP,jI x5.IO,jI x5.IY,.bool x5.IK.null,jS x5.IK.data,.bool false,.string ⟨#[]⟩,jI 0,jI 0,jI 0,.string ⟨#[]⟩,jI 0,jI 0,.slice none 0 0,jS x32.IJ,jI x32.ID,jI x32.IF,.bool x32.I2,.slice none 0 0,.bool false,.string ⟨#[]⟩,jI 0,jI 0,.slice none 0 0]) 5 Z JU JC Z Z) (Gu Z) ⟨_,_,_,_,_,_,Z,Z,Z⟩ Mf (.inl Z))))))
   refine GX Z c38 (Gq Z ?_);refine Gr Z (GW (cells:=jz) ei Z Me) Z ?_;refine Gp ar 1 Z (GC 2 Z (cs':=jz) Z .u Z Z JC Z Z Z Z Z (Gp ar 1 Z ?_));obtain rfl:=Jp h;exact Gs (T.ret (Gv (GO 2 aZ (GO 5 aP (GO 2 ay (G9 [6,2,1,0] KM (Hb (us:=jz) 5 Z JU JC Z Z) (Gu Z) ⟨_,_,_,_,_,_,Z,Z,Z⟩ Mf (.inl Z)))))))
  refine Hh Z c31 (Gq Z (Gp ar 2 Z ?_));rcases jF h with⟨c39,h⟩ | ⟨c39,h⟩
  ·refine Hg Z c39 (T.region Z ?_);obtain⟨⟨x40,st43⟩,hx44,h⟩:=Jn h;refine Gt ar fV 0 Z 4 Z Z (It Z .u (.fn Tryz.call119 Z) (rU b4 st10 x5.IO _ hx44) sT Z ?_);rintro _ _ _ ⟨A41,c42,rfl,rfl,rfl⟩;refine Hc [0,0,0,0,0] Z (Gp ar 1 Z (GC 1 Z (cs':= #[jI x5.IP,jI x5.IO,jI x5.IY,.bool x5.IK.null,jS x5.IK.data,.bool false,.string ⟨#[]⟩,jI 0,jI 0,jI 0,.string ⟨#[]⟩,jI 0,jI 0,.slice none 0 0,.string ⟨#[]⟩,jI 0,jI 0,.bool false,.slice A41 x40.length c42,.bool false,.string ⟨#[]⟩,jI 0,jI 0,.slice none 0 0]) Z .u Z Z Tryz.sizeOf33 Z Z Z Z Z (TL.nil (GN (X.seq (T.seq (Gq Z ?_)))))));obtain⟨⟨x45,st46⟩,hx47,h⟩:=Jn h;refine Gp ar 1 Z (Gy 2 Z Z .u (.fn Tryz.call21 Z) (cR b4 st43 _ hx47) sT Z Z (GP ar Z Z (Gp ar 2 Z ?_)));rcases jF h with⟨c48,h⟩ | ⟨c48,h⟩
   ·refine GY Z c48 (G3 Z (Gr Z (GH (us := [jI x5.IP,jI x5.IO,jI x5.IY,.bool x5.IK.null,jS x5.IK.data,.bool false,.string ⟨#[]⟩,jI 0,jI 0,jI 0,.string ⟨#[]⟩,jI 0,jI 0,.slice none 0 0,.string ⟨#[]⟩,jI 0,jI 0,.bool false,.slice A41 x40.length c42,.bool false,.string ⟨#[]⟩,jI 0,jI 0,.slice none 0 0]) 1 Z JU JC Z Z Z) Z (GC 3 Z (cs':= #[jI x5.IP,jI x5.IO,jI x5.IY,.bool x5.IK.null,jS x5.IK.data,.bool false,.string ⟨#[]⟩,jI 0,jI 0,jI 0,.string ⟨#[]⟩,jI 0,jI 0,.slice none 0 0,.string ⟨#[]⟩,jI 0,jI 0,.bool false,.slice A41 x40.length c42,.bool false,.string ⟨#[]⟩,jI 0,jI 0,.slice none 0 0]) Z .u Z Z JC Z Z Z Z Z (Gp ar 1 Z ?_))));obtain rfl:=Jp h;exact Gs (T.ret (GO 2 aZ (GO 2 ay (G9 [6,1,1,0] KM (Hb (us:= #[jI x5.IP,jI x5.IO,jI x5.IY,.bool x5.IK.null,jS x5.IK.data,.bool false,.string ⟨#[]⟩,jI 0,jI 0,jI 0,.string ⟨#[]⟩,jI 0,jI 0,.slice none 0 0,.string ⟨#[]⟩,jI 0,jI 0,.bool false,.slice A41 x40.length c42,.bool false,.string ⟨#[]⟩,jI 0,jI 0,.slice none 0 0]) 5 Z JU JC Z Z) (Gu Z) ⟨_,_,_,_,_,_,Z,Z,Z⟩ Mf (.inl Z)))))
   refine GX Z c48 (Gq Z ?_);refine Gr Z (GW (cells:=jz) ei Z Me) Z ?_;refine Gp ar 1 Z (GC 3 Z (cs':=jz) Z .u Z Z JC Z Z Z Z Z (Gp ar 1 Z ?_));obtain rfl:=Jp h;exact Gs (T.ret (Gv (GO 2 aZ (GO 5 aP (GO 2 ay (G9 [7,2,1,0] KM (Hb (us:=jz) 6 Z JU JC Z Z) (Gu Z) ⟨_,_,_,_,_,_,Z,Z,Z⟩ Mf (.inl Z)))))))
  refine Hh Z c39 (T.region Z ?_);obtain⟨⟨x49,st52⟩,hx53,h⟩:=Jn h;refine Gt ar fV 0 Z 4 Z Z (It Z .u (.fn Tryz.call120 Z) (o9 b4 st10 x5.IO _ hx53) sT Z ?_);rintro _ _ _ ⟨A50,c51,rfl,rfl,rfl⟩;refine Hc [0,0,0,0,0] Z (Gp ar 1 Z (GC 1 Z (cs':= #[jI x5.IP,jI x5.IO,jI x5.IY,.bool x5.IK.null,jS x5.IK.data,.bool false,.string ⟨#[]⟩,jI 0,jI 0,jI 0,.string ⟨#[]⟩,jI 0,jI 0,.slice none 0 0,.string ⟨#[]⟩,jI 0,jI 0,.bool false,.slice none 0 0,.bool x49.IJ.null,jS x49.IJ.data,jI x49.I6,jI x49.II,.slice A50 x49.IC.length c51]) Z .u Z Z Kk Z Z Z Z Z (TL.nil (GN (X.seq (T.seq (Gq Z ?_)))))));obtain⟨⟨x54,st55⟩,hx56,h⟩:=Jn h;refine Gp ar 1 Z (Gy 2 Z Z .u (.fn Tryz.call21 Z) (cR b4 st52 _ hx56) sT Z Z (GP ar Z Z (Gp ar 2 Z ?_)));rcases jF h with⟨c57,h⟩ | ⟨c57,h⟩
  ·refine GY Z c57 (G3 Z (Gr Z (GH (us := [jI x5.IP,jI x5.IO,jI x5.IY,.bool x5.IK.null,jS x5.IK.data,.bool false,.string ⟨#[]⟩,jI 0,jI 0,jI 0,.string ⟨#[]⟩,jI 0,jI 0,.slice none 0 0,.string ⟨#[]⟩,jI 0,jI 0,.bool false,.slice none 0 0,.bool x49.IJ.null,jS x49.IJ.data,jI x49.I6,jI x49.II,.slice A50 x49.IC.length c51]) 1 Z JU JC Z Z Z) Z (GC 3 Z (cs':= #[jI x5.IP,jI x5.IO,jI x5.IY,.bool x5.IK.null,jS x5.IK.data,.bool false,.string ⟨#[]⟩,jI 0,jI 0,jI 0,.string ⟨#[]⟩,jI 0,jI 0,.slice none 0 0,.string ⟨#[]⟩,jI 0,jI 0,.bool false,.slice none 0 0,.bool x49.IJ.null,jS x49.IJ.data,jI x49.I6,jI x49.II,.slice A50 x49.IC.length c51]) Z .u Z Z JC Z Z Z Z Z (Gp ar 1 Z ?_))));obtain rfl:=Jp h;exact Gs (T.ret (GO 2 aZ (GO 5 aP (G9 [6,1,0,0] KM (Hb (us:= #[jI x5.IP,jI x5.IO,jI x5.IY,.bool x5.IK.null,jS x5.IK.data,.bool false,.string ⟨#[]⟩,jI 0,jI 0,jI 0,.string ⟨#[]⟩,jI 0,jI 0,.slice none 0 0,.string ⟨#[]⟩,jI 0,jI 0,.bool false,.slice none 0 0,.bool x49.IJ.null,jS x49.IJ.data,jI x49.I6,jI x49.II,.slice A50 x49.IC.length c51]) 5 Z JU JC Z Z) (Gu Z) ⟨_,_,_,_,_,_,Z,Z,Z⟩ Mf (.inl Z)))))
  refine GX Z c57 (Gq Z ?_);refine Gr Z (GW (cells:=jz) ei Z Me) Z ?_;refine Gp ar 1 Z (GC 3 Z (cs':=jz) Z .u Z Z JC Z Z Z Z Z (Gp ar 1 Z ?_));obtain rfl:=Jp h;exact Gs (T.ret (Gv (GO 2 aZ (GO 5 aP (GO 2 ay (G9 [7,2,1,0] KM (Hb (us:=jz) 6 Z JU JC Z Z) (Gu Z) ⟨_,_,_,_,_,_,Z,Z,Z⟩ Mf (.inl Z)))))))
 refine GX Z c12 (Gq Z ?_);refine Gr Z (GW (cells:=jz) ei Z Me) Z ?_;refine Gp ar 1 Z (GC 2 Z (cs':=jz) Z .u Z Z JC Z Z Z Z Z (Gp ar 1 Z ?_));obtain rfl:=Jp h;exact Gs (T.ret (Gv (GO 2 aZ (GO 5 aP (GO 2 ay (G9 [6,2,1,0] KM (Hb (us:=jz) 5 Z JU JC Z Z) (Gu Z) ⟨_,_,_,_,_,_,Z,Z,Z⟩ Mf (.inl Z)))))))
def hU (st:I)  : Option (al×I):=(dB st 4).bind fun (x2,st3)=>(yc st3 x2).bind fun (x5,st6)=>(gt st6).bind fun (x8,st9)=>if x8=0 then ((jf x5).bind fun (x12,x19)=>if x19=0 then some (x12,st9) else ((bT st9 x19).bind fun st23=>some ((⟨(⟨0,0,0,(⟨false,[]⟩:Bl)⟩:e7),(⟨(⟨false,[]⟩:Bl),0,0,0⟩:aT),(⟨[],0,0,[]⟩:bI),(⟨[],0,0,false⟩:bH),[],(⟨(⟨false,[]⟩:Bl),0,0,[]⟩:ao)⟩:al),st23))) else (some ((⟨(⟨0,0,0,(⟨false,[]⟩:Bl)⟩:e7),(⟨(⟨false,[]⟩:Bl),0,0,0⟩:aT),(⟨[],0,0,[]⟩:bI),(⟨[],0,0,false⟩:bH),[],(⟨(⟨false,[]⟩:Bl),0,0,[]⟩:ao)⟩:al),st9))
theorem qE (g:Nat) (st:I)  (r:al×I) (h:hU st  = some r):aC Tryz.prog 20 #[jP g] .triv (InR g st) (fun v A' N=> ∃ (A25:Option Addr) (c26:Nat) (A27:Option Addr) (c28:Nat) (A29:Option Addr) (c30:Nat),v= .agg #[jI r.1.IE.IP,jI r.1.IE.IO,jI r.1.IE.IY,.bool r.1.IE.IK.null,jS r.1.IE.IK.data,.bool r.1.I0.IJ.null,jS r.1.I0.IJ.data,jI r.1.I0.II,jI r.1.I0.ID,jI r.1.I0.IF,jS r.1.I4.IJ,jI r.1.I4.ID,jI r.1.I4.IF,.slice A25 r.1.I4.IC.length c26,jS r.1.Jb.IJ,jI r.1.Jb.ID,jI r.1.Jb.IF,.bool r.1.Jb.I2,.slice A27 r.1.I1.length c28,.bool r.1.IL.IJ.null,jS r.1.IL.IJ.data,jI r.1.IL.I6,jI r.1.IL.II,.slice A29 r.1.IL.IC.length c30]/\A'=InR g r.2/\N = [RdR (ai 2 aZ) [.slice A25 r.1.I4.IC.length c26] r.1.I4.IC,RdR (ai 5 aP) [.slice A27 r.1.I1.length c28] r.1.I1,RdR (ai 2 ay) [.slice A29 r.1.IL.IC.length c30] r.1.IL.IC]):=by
 refine aU Tryz.func20 Z Tryz.ntmps20 Z ?_;intro F w hX;unfold hU at h;refine Gq Z (TL.alloc Z .u Tryz.zeroValue38 Z (fun b1=>(GG Z ?_)));obtain⟨⟨x2,st3⟩,hx4,h⟩:=Jn h;refine Gp ar 2 Z (Gy 1 Z Z .u (.fn Tryz.call68 Z) (bl g st 4 _ hx4) sT Z Z ?_);obtain⟨⟨x5,st6⟩,hx7,h⟩:=Jn h;refine Gy 1 Z Z .u (.fn Tryz.call67 Z) (tQ g st3 x2 _ hx7) sT Z Z (Gx ar Z (T.seq (Gq Z ?_)));obtain⟨⟨x8,st9⟩,hx10,h⟩:=Jn h;refine Gp ar 1 Z (Gy 1 Z Z .u (.fn Tryz.call23 Z) (bY g st6 _ hx10) sT Z Z (Gp ar 1 Z ?_));rcases jF h with⟨c11,h⟩ | ⟨c11,h⟩
 ·refine GY Z c11 (G3 Z ?_);obtain⟨⟨x12,x19⟩,hx20,h⟩:=Jn h;refine Gp ar 1 Z (HZ Z .u (.fn Tryz.call69 Z) (qD x5 _ hx20) rT Z ?_);rintro _ _ _ ⟨A13,c14,A15,c16,A17,c18,rfl,rfl,rfl⟩;refine Hc [0,0,0,0,0] Z (Gp ar 3 Z (TL.alloc Z .u Tryz.zeroValue38 Z (fun b21=>(GC 0 Z (cs':=g7 x12 A13 A15 A17 c14 c16 c18) Z .u Z Z JC Z Z Z Z Z (Gx ar Z (T.seq (Gq Z (Gp ar 2 Z ?_))))))));rcases jF h with⟨c22,h⟩ | ⟨c22,h⟩
  ·refine GY Z c22 (G3 Z (Gr Z (GH (us:=nM x12 A13 A15 A17 c14 c16 c18) 0 Z JU JC Z Z Z) Z (GC 4 Z (cs':=g7 x12 A13 A15 A17 c14 c16 c18) Z .u Z Z JC Z Z Z Z Z ?_)));obtain rfl:=Jp h;exact Gs (T.ret (GV [5,1,1,1] Tryz.results20 (Hb (us:=g7 x12 A13 A15 A17 c14 c16 c18) 4 Z JU JC Z Z) ⟨_,_,_,_,_,_,Z,Z,Z⟩ Mf (.inl Z)))
  refine GX Z c22 (Gq Z ?_);obtain⟨st23,hx24,h⟩:=Jn h;refine Gp ar 2 Z (Gy 5 Z Z .u (.fn Tryz.call70 Z) (bx g st9 x19 _ hx24) sT Z Z (GG Z ?_));refine Gr Z (GW (cells:=jz) ei Z Me) Z ?_;refine GC 4 Z (cs':=jz) Z .u Z Z JC Z Z Z Z Z ?_;obtain rfl:=Jp h;exact Gs (T.ret (Gv (GO 2 aZ (GO 5 aP (GO 2 ay (GV [8,2,1,0] Tryz.results20 (Hb (us:=jz) 7 Z JU JC Z Z) ⟨_,_,_,_,_,_,Z,Z,Z⟩ Mf (.inl Z)))))))
 refine GX Z c11 (Gq Z ?_);refine Gr Z (GW (cells:=jz) ei Z Me) Z ?_;refine GC 0 Z (cs':=jz) Z .u Z Z JC Z Z Z Z Z ?_;obtain rfl:=Jp h;exact Gs (T.ret (Gv (GO 2 aZ (GO 5 aP (GO 2 ay (GV [4,2,1,0] Tryz.results20 (Hb (us:=jz) 3 Z JU JC Z Z) ⟨_,_,_,_,_,_,Z,Z,Z⟩ Mf (.inl Z)))))))
def eY (a0:List UInt8):Option (al×Int):=(sZ a0).bind fun st2=>(hU st2).bind fun (x5,st12)=>(dJ st12).bind fun (x15,st16)=>if x15=0 then some (x5,0) else (some ((⟨(⟨0,0,0,(⟨false,[]⟩:Bl)⟩:e7),(⟨(⟨false,[]⟩:Bl),0,0,0⟩:aT),(⟨[],0,0,[]⟩:bI),(⟨[],0,0,false⟩:bH),[],(⟨(⟨false,[]⟩:Bl),0,0,[]⟩:ao)⟩:al),x15))
theorem kB (a0:List UInt8) (r:al×Int) (h:eY a0=some r):aC Tryz.prog 15 #[jS a0] .triv (aO) (fun v A' N=> ∃ (A19:Option Addr) (c20:Nat) (A21:Option Addr) (c22:Nat) (A23:Option Addr) (c24:Nat),v= .tuple #[.agg #[jI r.1.IE.IP,jI r.1.IE.IO,jI r.1.IE.IY,.bool r.1.IE.IK.null,jS r.1.IE.IK.data,.bool r.1.I0.IJ.null,jS r.1.I0.IJ.data,jI r.1.I0.II,jI r.1.I0.ID,jI r.1.I0.IF,jS r.1.I4.IJ,jI r.1.I4.ID,jI r.1.I4.IF,.slice A19 r.1.I4.IC.length c20,jS r.1.Jb.IJ,jI r.1.Jb.ID,jI r.1.Jb.IF,.bool r.1.Jb.I2,.slice A21 r.1.I1.length c22,.bool r.1.IL.IJ.null,jS r.1.IL.IJ.data,jI r.1.IL.I6,jI r.1.IL.II,.slice A23 r.1.IL.IC.length c24],jI r.2]/\A'=aO/\N = [RdR (ai 2 aZ) [.slice A19 r.1.I4.IC.length c20] r.1.I4.IC,RdR (ai 5 aP) [.slice A21 r.1.I1.length c22] r.1.I1,RdR (ai 2 ay) [.slice A23 r.1.IL.IC.length c24] r.1.IL.IC]):=by
 refine aU Tryz.func15 Z Tryz.ntmps15 Z ?_;intro F w hX;unfold eY at h;refine Gq Z (TL.alloc Z .u Tryz.zeroValue38 Z (fun b1=>(GP ar Z Z ?_)));obtain⟨st2,hx3,h⟩:=Jn h;refine Gp ar 1 Z (HZ Z .u (.fn Tryz.call19 Z) (iE a0 _ hx3) rT Z ?_);rintro _ _ _ ⟨b4,rfl,rfl,rfl⟩;refine Hc [0,0,0] Z (GP ar Z Z ?_);obtain⟨⟨x5,st12⟩,hx13,h⟩:=Jn h;refine Gp ar 1 Z (TL.cg0 Z .u (.fn Tryz.call20 Z) (qE b4 st2 _ hx13) sT Z ?_);rintro _ _ _ ⟨A6,c7,A8,c9,A10,c11,rfl,rfl,rfl⟩;refine Hc [0,0,0,0,0,0] Z (TL.alloc Z .u Tryz.zeroValue38 Z (fun b14=>(GC 0 Z (cs':=g7 x5 A6 A8 A10 c7 c9 c11) Z .u Z Z JC Z Z Z Z Z (Gs (T.seq (Gq Z ?_))))));obtain⟨⟨x15,st16⟩,hx17,h⟩:=Jn h;refine Gp ar 1 Z (Gy 4 Z Z .u (.fn Tryz.call21 Z) (cR b4 st12 _ hx17) sT Z Z (GP ar Z Z (Gp ar 2 Z ?_)));rcases jF h with⟨c18,h⟩ | ⟨c18,h⟩
 ·refine GY Z c18 (G3 Z (Gr Z (GH (us:=nM x5 A6 A8 A10 c7 c9 c11) 0 Z JU JC Z Z Z) Z (GC 5 Z (cs':=g7 x5 A6 A8 A10 c7 c9 c11) Z .u Z Z JC Z Z Z Z Z (Gp ar 1 Z ?_))));obtain rfl:=Jp h;exact Gs (T.ret (G9 [6,1,1,1] Tryz.results15 (Hb (us:=g7 x5 A6 A8 A10 c7 c9 c11) 5 Z JU JC Z Z) (Gu Z) ⟨_,_,_,_,_,_,Z,Z,Z⟩ Mf (.inl Z)))
 refine GX Z c18 (Gq Z ?_);refine Gr Z (GW (cells:=jz) ei Z Me) Z ?_;refine Gp ar 1 Z (GC 5 Z (cs':=jz) Z .u Z Z JC Z Z Z Z Z (Gp ar 1 Z ?_));obtain rfl:=Jp h;exact Gs (T.ret (Gv (GO 2 aZ (GO 5 aP (GO 2 ay (G9 [9,2,1,0] Tryz.results15 (Hb (us:=jz) 8 Z JU JC Z Z) (Gu Z) ⟨_,_,_,_,_,_,Z,Z,Z⟩ Mf (.inl Z)))))))
def rZ:ey := [(23,1,1),(25,0,0),(25,3,3),(27,0,0),(27,1,2),(27,2,3),(27,3,4),(30,0,0),(30,1,1),(30,2,2),(30,3,3),(32,0,0),(32,1,1),(32,2,2),(32,3,3),(38,0,0),(38,1,5),(38,2,10),(38,3,14),(38,4,18),(38,5,19),(53,1,5),(53,2,12),(53,3,13),(67,0,0),(67,1,18),(67,2,19)]
theorem au:(rZ).OK Tryz.prog:=⟨FOK.mk JT rfl JO rfl,FOK.mk KB rfl Jv rfl,FOK.mk KB rfl JB rfl,FOK.mk KA rfl JB rfl,FOK.mk KA rfl Jv rfl,FOK.mk KA rfl Jv rfl,FOK.mk KA rfl Jv rfl,FOK.mk Kq rfl JO rfl,FOK.mk Kq rfl Jv rfl,FOK.mk Kq rfl Jv rfl,FOK.mk Kq rfl K2 rfl,FOK.mk Kr rfl JO rfl,FOK.mk Kr rfl Jv rfl,FOK.mk Kr rfl Jv rfl,FOK.mk Kr rfl JW rfl,FOK.mk Kh rfl Ke rfl,FOK.mk Kh rfl KJ rfl,FOK.mk Kh rfl KK rfl,FOK.mk Kh rfl KL rfl,FOK.mk Kh rfl Tryz.sizeOf33 rfl,FOK.mk Kh rfl Kk rfl,FOK.mk KI rfl Lf rfl,FOK.mk KI rfl Tryz.sizeOf48 rfl,FOK.mk KI rfl K3 rfl,FOK.mk L5 rfl Ki rfl,FOK.mk L5 rfl Jv rfl,FOK.mk L5 rfl Jv rfl,trivial⟩
def r6:List Nat := [3,4,9,28,33]
theorem bC:NOK Tryz.prog r6:=⟨Jy,Ky,JZ,KW,Tryz.isAgg33,trivial⟩
theorem j8:BOK Tryz.prog 23 #[.bool false,.string ⟨#[]⟩] [(0,1),(1,1)]:=BOK.mk Tryz.zeroValue23 JT (by intro w; simp)
theorem gW:BOK Tryz.prog 47 #[.bool false,.string ⟨#[]⟩,.int .i64 0,.int .i64 0,.int .i64 0,.slice none 0 0,.bool false] [(0,2),(2,1),(3,1),(4,1),(5,1),(6,1)]:=BOK.mk Tryz.zeroValue47 KR (by intro w; simp)
theorem nZ:BOK Tryz.prog 53 #[.int .i64 0,.int .i64 0,.int .i64 0,.bool false,.string ⟨#[]⟩,.bool false,.string ⟨#[]⟩,.int .i64 0,.int .i64 0,.int .i64 0,.slice none 0 0,.bool false,.slice none 0 0,.bool false,.string ⟨#[]⟩,.int .i64 0,.int .i64 0,.slice none 0 0] [(0,5),(5,7),(12,1),(13,5)]:=BOK.mk Tryz.zeroValue53 KI (by intro w; simp)
def jH (a0:al):Option (Int):=(if (a0.IE.IK.data.length:Int)>1000 then some true else (if (a0.I0.IJ.data.length:Int)>1000 then some true else (if (a0.I4.IJ.length:Int)>1000 then some true else (if (a0.Jb.IJ.length:Int)>1000 then some true else ((jA a0.I4.IC).bind fun x26=>if x26=0 then some true else ((kL a0.I1).bind fun x29=>if x29=0 then some true else ((kM a0.IL).bind fun x32=>if x32=0 then some true else some false))))))).bind fun y20=>if y20=true then some 0 else some 1
theorem n7 (a0:al) (A1:Option Addr) (c2:Nat) (A3:Option Addr) (c4:Nat) (A5:Option Addr) (c6:Nat) (r:Int) (h:jH a0=some r):aC Tryz.prog 11 #[.agg (g7 a0 A1 A3 A5 c2 c4 c6)] (RX.and (RX.of (ai 2 aZ) [.slice A1 a0.I4.IC.length c2] a0.I4.IC) (RX.and (RX.of (ai 5 aP) [.slice A3 a0.I1.length c4] a0.I1) (RX.of (ai 2 ay) [.slice A5 a0.IL.IC.length c6] a0.IL.IC))) (aO) (fun v A' N=>v=jI r/\A'=aO/\N = []):=by
 refine aU Tryz.func11 Z Tryz.ntmps11 Z ?_;intro F w hX;unfold jH at h;refine Gq Z (TL.box Z .u Z Z (fun b7=>(Gx au Z (Ig ?_))));obtain⟨y20,h,hk21⟩:=Jn h;refine Hj (fun e Rs=>e = [(2,jI 0),(49,.bool y20)]/\Rs = [aN b7 38 (g7 a0 A1 A3 A5 c2 c4 c6),aO]) ?_ ?_
 ·clear hk21;refine T.region Z (Gt au bC 0 Z 4 Z Z (Gr Z (Hv Z JJ) Z ?_));rcases jF h with⟨c22,h⟩ | ⟨c22,h⟩
  ·refine Gp au 2 Z (GA 9 Z (Jq c22) (GB au 40 Z ?_));cases h;exact TL.nil (GE [0,0])
  refine Gp au 2 Z (GA 9 Z (Jr c22) (Gt au bC 0 Z 4 Z Z (TL.q Z (.g Z Z Z) (Hv Z JJ) Z ?_)));rcases jF h with⟨c23,h⟩ | ⟨c23,h⟩
  ·refine GB au 3 Z (GA 17 Z (Jq c23) (GB au 32 Z ?_));cases h;exact TL.nil (GE [0,0])
  refine GB au 3 Z (GA 17 Z (Jr c23) (Gt au bC 0 Z 3 Z Z (TL.q Z (.g Z Z Z) (Hv Z JJ) Z ?_)));rcases jF h with⟨c24,h⟩ | ⟨c24,h⟩
  ·refine GB au 3 Z (GA 24 Z (Jq c24) (GB au 25 Z ?_));cases h;exact TL.nil (GE [0,0])
  refine GB au 3 Z (GA 24 Z (Jr c24) (Gt au bC 0 Z 3 Z Z (TL.q Z (.g Z Z Z) (Hv Z JJ) Z ?_)));rcases jF h with⟨c25,h⟩ | ⟨c25,h⟩
  ·refine GB au 3 Z (GA 31 Z (Jq c25) (GB au 18 Z ?_));cases h;exact TL.nil (GE [0,0])
  refine GB au 3 Z (GA 31 Z (Jr c25) ?_);obtain⟨x26,hx27,h⟩:=Jn h;refine Gt au bC 0 Z 3 Z Z (GT Z (.g Z Z Z) (.fn Tryz.call44 Z) (nN a0.I4.IC _ _ _ hx27) (fun _ hs=>(GJ hs (GR hX))) Z ?_);rcases jF h with⟨c28,h⟩ | ⟨c28,h⟩
  ·refine GB au 3 Z (GA 38 Z (Jq c28) (GB au 11 Z ?_));cases h;exact TL.nil (GE [0,0])
  refine GB au 3 Z (GA 38 Z (Jr c28) ?_);obtain⟨x29,hx30,h⟩:=Jn h;refine Gt au bC 0 Z 2 Z Z (GT Z (.g Z Z Z) (.fn Tryz.call45 Z) (t6 a0.I1 _ _ _ hx30) (fun _ hs=>(GJ hs (GR (Gz hX)))) Z ?_);rcases jF h with⟨c31,h⟩ | ⟨c31,h⟩
  ·refine GB au 3 Z (GA 44 Z (Jq c31) (GB au 5 Z ?_));cases h;exact TL.nil (GE [0,0])
  refine GB au 3 Z (GA 44 Z (Jr c31) (GB au 1 Z (TL.q Z (.g Z Z Z) (GH (us := [.bool a0.IL.IJ.null,jS a0.IL.IJ.data,jI a0.IL.I6,jI a0.IL.II,.slice A5 a0.IL.IC.length c6]) 0 Z KX Kk Z Z Z) Z ?_)));obtain⟨x32,hx33,h⟩:=Jn h;refine GT Z (.g Z Z Z) (.fn Tryz.call46 Z) (t7 a0.IL _ _ _ hx33) (fun _ hs=>(GJ hs (Gz (Gz hX)))) Z (GB au 2 Z ?_);rcases jF h with⟨c34,h⟩ | ⟨c34,h⟩
  ·cases h;exact TL.nil (Hn (d:=49) (v':= .bool true) Z (congrArg Value.bool (Jq c34)) (GE [0,0]))
  cases h;exact TL.nil (Hn (d:=49) (v':= .bool false) Z (congrArg Value.bool (Jr c34)) (GE [0,0]))
 rintro _ _ ⟨rfl,rfl⟩;clear h;have h:=hk21;clear hk21;try dsimp only at h
 rcases jF h with⟨c35,h⟩ | ⟨c35,h⟩
 ·refine X.seq (GF Z c35 (Gq Z (Gp au 1 Z ?_)));obtain rfl:=Jp h;exact Gs (T.ret (Gv (GD [1] Tryz.results11 (Gu Z))))
 replace c35:=Ju c35;refine X.seq (GU Z c35 (G3 Z (Gp au 1 Z ?_)));obtain rfl:=Jp h;exact Gs (T.ret (GD [1] Tryz.results11 (Gu Z)))
def dZ (a0:al):Option (ff):=if a0.IE.IP=0 then ((kX a0.IL).bind fun x11=>some (⟨(⟨a0.IE.IP,a0.IE.IO,a0.IE.IY,a0.IE.IK⟩:lG),(⟨(⟨false,[]⟩:Bl),0,0,0,[],false⟩:cG),[],x11⟩:ff)) else (if a0.IE.IP=22 then (some (⟨(⟨a0.IE.IP,a0.IE.IO,a0.IE.IY,a0.IE.IK⟩:lG),(⟨a0.I0.IJ,a0.I0.II,a0.I0.ID,a0.I0.IF,[],false⟩:cG),[],(⟨(⟨false,[]⟩:Bl),0,0,[]⟩:cj)⟩:ff)) else (if a0.IE.IP=24 then (some (⟨(⟨a0.IE.IP,a0.IE.IO,a0.IE.IY,a0.IE.IK⟩:lG),(⟨(⟨false,a0.I4.IJ⟩:Bl),0,a0.I4.ID,a0.I4.IF,a0.I4.IC,false⟩:cG),[],(⟨(⟨false,[]⟩:Bl),0,0,[]⟩:cj)⟩:ff)) else (if a0.IE.IP=26 then (some (⟨(⟨a0.IE.IP,a0.IE.IO,a0.IE.IY,a0.IE.IK⟩:lG),(⟨(⟨false,a0.Jb.IJ⟩:Bl),0,a0.Jb.ID,a0.Jb.IF,[],a0.Jb.I2⟩:cG),[],(⟨(⟨false,[]⟩:Bl),0,0,[]⟩:cj)⟩:ff)) else (if a0.IE.IP=27 then ((nO a0.I1).bind fun x19=>some (⟨(⟨a0.IE.IP,a0.IE.IO,a0.IE.IY,a0.IE.IK⟩:lG),(⟨(⟨false,[]⟩:Bl),0,0,0,[],false⟩:cG),x19,(⟨(⟨false,[]⟩:Bl),0,0,[]⟩:cj)⟩:ff)) else (some (⟨(⟨a0.IE.IP,a0.IE.IO,a0.IE.IY,a0.IE.IK⟩:lG),(⟨(⟨false,[]⟩:Bl),0,0,0,[],false⟩:cG),[],(⟨(⟨false,[]⟩:Bl),0,0,[]⟩:cj)⟩:ff))))))
theorem gq (a0:al) (A1:Option Addr) (c2:Nat) (A3:Option Addr) (c4:Nat) (A5:Option Addr) (c6:Nat) (r:ff) (h:dZ a0=some r):ph Tryz.prog 14 #[.agg (g7 a0 A1 A3 A5 c2 c4 c6)] (RX.and (RX.of (ai 2 aZ) [.slice A1 a0.I4.IC.length c2] a0.I4.IC) (RX.and (RX.of (ai 5 aP) [.slice A3 a0.I1.length c4] a0.I1) (RX.of (ai 2 ay) [.slice A5 a0.IL.IC.length c6] a0.IL.IC))) aO (fun v A' L=> ∃ (A23:Option Addr) (c24:Nat) (A25:Option Addr) (c26:Nat) (A27:Option Addr) (c28:Nat),v= .agg (wA8 r A23 A25 A27 c24 c26 c28)/\A'=aO/\L = [(⟨_,ai 2 aZ,[.slice A23 r.Jf.IC.length c24],r.Jf.IC⟩:RO),(⟨_,ai 5 dM,[.slice A25 r.I1.length c26],r.I1⟩:RO),(⟨_,ai 2 cT,[.slice A27 r.IL.IC.length c28],r.IL.IC⟩:RO)]):=by
 refine Ae Tryz.func14 Z Tryz.ntmps14 Z ?_;intro F w S hS hSF;have hX:(RX.and (RX.of (ai 2 aZ) [.slice A1 a0.I4.IC.length c2] a0.I4.IC) (RX.and (RX.of (ai 5 aP) [.slice A3 a0.I1.length c4] a0.I1) (RX.of (ai 2 ay) [.slice A5 a0.IL.IC.length c6] a0.IL.IC))).reads w F:=⟨S,hS,hSF⟩;unfold dZ at h;refine Gq Z (TL.box Z .u Z Z (fun b7=>(TL.alloc Z .u Tryz.zeroValue53 Z (fun b8=>(GG Z (Gp au 1 Z (Gr Z (GH (us := [jI a0.IE.IP,jI a0.IE.IO,jI a0.IE.IY,.bool a0.IE.IK.null,jS a0.IE.IK.data]) 1 Z KP Ke Z Z Z) Z ?_)))))));refine Gr Z (GW (cells:= #[jI a0.IE.IP,jI a0.IE.IO,jI a0.IE.IY,.bool a0.IE.IK.null,jS a0.IE.IK.data,.bool false,.string ⟨#[]⟩,jI 0,jI 0,jI 0,.slice none 0 0,.bool false,.slice none 0 0,.bool false,.string ⟨#[]⟩,jI 0,jI 0,.slice none 0 0]) nZ Z Me) Z ?_;refine TL.alloc Z .u Tryz.zeroValue53 Z (fun b9=>(GC 0 Z (cs':= #[jI a0.IE.IP,jI a0.IE.IO,jI a0.IE.IY,.bool a0.IE.IK.null,jS a0.IE.IK.data,.bool false,.string ⟨#[]⟩,jI 0,jI 0,jI 0,.slice none 0 0,.bool false,.slice none 0 0,.bool false,.string ⟨#[]⟩,jI 0,jI 0,.slice none 0 0]) Z .u Z Z Ki Z Z Z Z Z (Gs (T.seq (Gq Z (Ie au bC 2 Z Z Z (T.block (Gq Z (Gp au 2 Z ?_)))))))));rcases jF h with⟨c10,h⟩ | ⟨c10,h⟩
 ·refine Hg Z c10 (T.region Z (Gp au 1 Z (Gr Z (GH (us := [.bool a0.IL.IJ.null,jS a0.IL.IJ.data,jI a0.IL.I6,jI a0.IL.II,.slice A5 a0.IL.IC.length c6]) 2 Z KX Kk Z Z Z) Z ?_)));obtain⟨x11,hx14,h⟩:=Jn h;refine TL.cso  Z .u (.fn Tryz.call57 Z) (vC a0.IL _ _ _ hx14) hS.2.2 hSF Z ?_;rintro _ _ _ ⟨A12,c13,rfl,rfl,rfl⟩;refine Hc [0,0,0,0,0] Z (Gp au 1 Z (GC 1 Z (cs':= #[jI a0.IE.IP,jI a0.IE.IO,jI a0.IE.IY,.bool a0.IE.IK.null,jS a0.IE.IK.data,.bool false,.string ⟨#[]⟩,jI 0,jI 0,jI 0,.slice none 0 0,.bool false,.slice none 0 0,.bool x11.IJ.null,jS x11.IJ.data,jI x11.I6,jI x11.II,.slice A12 x11.IC.length c13]) Z .u Z Z K3 Z Z Z Z Z (TL.nil (GN (X.seq (Gq Z (Gr Z (GH (us := [jI a0.IE.IP,jI a0.IE.IO,jI a0.IE.IY,.bool a0.IE.IK.null,jS a0.IE.IK.data,.bool false,.string ⟨#[]⟩,jI 0,jI 0,jI 0,.slice none 0 0,.bool false,.slice none 0 0,.bool x11.IJ.null,jS x11.IJ.data,jI x11.I6,jI x11.II,.slice A12 x11.IC.length c13]) 1 Z KQ Ki Z Z Z) Z (GC 2 Z (cs':= #[jI a0.IE.IP,jI a0.IE.IO,jI a0.IE.IY,.bool a0.IE.IK.null,jS a0.IE.IK.data,.bool false,.string ⟨#[]⟩,jI 0,jI 0,jI 0,.slice none 0 0,.bool false,.slice none 0 0,.bool x11.IJ.null,jS x11.IJ.data,jI x11.I6,jI x11.II,.slice A12 x11.IC.length c13]) Z .u Z Z Ki Z Z Z Z Z ?_))))))));obtain rfl:=Jp h;exact Gs (T.ret (GO 2 aZ (HU (S:=S) 0 Z (G8 [0,0,0,0,0,0] Z (GO 5 dM (HU (S:=S) 0 Z (G8 [0,0,0,0,0,0,0] Z (GV [6,1,0,0] Lr (Hb (us:= #[jI a0.IE.IP,jI a0.IE.IO,jI a0.IE.IY,.bool a0.IE.IK.null,jS a0.IE.IK.data,.bool false,.string ⟨#[]⟩,jI 0,jI 0,jI 0,.slice none 0 0,.bool false,.slice none 0 0,.bool x11.IJ.null,jS x11.IJ.data,jI x11.I6,jI x11.II,.slice A12 x11.IC.length c13]) 4 Z KQ Ki Z Z) ⟨_,⟨_,_,_,_,_,_,Z,Z,Z⟩,Z⟩ Mf (.inl Z)))))))))
 refine Hh Z c10 (Gq Z (Gp au 2 Z ?_));rcases jF h with⟨c15,h⟩ | ⟨c15,h⟩
 ·refine Hg Z c15 (T.region Z (Gp au 2 Z (Gr Z (GH (us:=wL6 a0.I0.IJ) 2 Z JY JB Z Z Z) Z (Gt au bC 2 Z 9 Z Z ?_))));refine Gr Z (GW (cells:= #[.bool a0.I0.IJ.null,jS a0.I0.IJ.data,jI a0.I0.II,jI a0.I0.ID,jI a0.I0.IF,.slice none 0 0,.bool false]) gW Z Me) Z ?_;refine Gp au 1 Z (GC 0 Z (cs':=wA19 a0) Z .u Z Z Lf Z Z Z Z Z (TL.nil (GN (X.seq (Gq Z (Gr Z (GH (us := [jI a0.IE.IP,jI a0.IE.IO,jI a0.IE.IY,.bool a0.IE.IK.null,jS a0.IE.IK.data,.bool a0.I0.IJ.null,jS a0.I0.IJ.data,jI a0.I0.II,jI a0.I0.ID,jI a0.I0.IF,.slice none 0 0,.bool false,.slice none 0 0,.bool false,.string ⟨#[]⟩,jI 0,jI 0,.slice none 0 0]) 0 Z KQ Ki Z Z Z) Z (GC 1 Z (cs':=wA19 a0) Z .u Z Z Ki Z Z Z Z Z ?_)))))));obtain rfl:=Jp h;refine Gs (T.ret (GO 2 aZ (HU (S:=S) 0 Z (G8 [0,0,0,0,0] Z (GO 5 dM (HU (S:=S) 0 Z (G8 [0,0,0,0,0,0] Z (GO 2 cT ?_))))))));exact HU (S:=S) 0 Z (G8 [0,0,0,0,0,0,0] Z (GV [6,2,1,0] Lr (Hb (us:=wA19 a0) 4 Z KQ Ki Z Z) ⟨_,⟨_,_,_,_,_,_,Z,Z,Z⟩,Z⟩ Mf (.inl Z)))
 refine Hh Z c15 (Gq Z (Gp au 2 Z ?_));rcases jF h with⟨c16,h⟩ | ⟨c16,h⟩
 ·refine Hg Z c16 (T.region Z (Gt au bC 2 Z 3 Z Z ?_));refine Gr Z (GW (cells:= #[.bool false,jS a0.I4.IJ]) j8 Z Me) Z ?_;refine Gt au bC 2 Z 9 Z Z ?_;refine Gr Z (GW (cells:= #[.bool false,jS a0.I4.IJ,jI 0,jI a0.I4.ID,jI a0.I4.IF,.slice A1 a0.I4.IC.length c2,.bool false]) gW Z Me) Z ?_;refine Gp au 1 Z (GC 0 Z (cs':=wA20 a0 A1 c2) Z .u Z Z Lf Z Z Z Z Z (TL.nil (GN (X.seq (Gq Z (Gr Z (GH (us := [jI a0.IE.IP,jI a0.IE.IO,jI a0.IE.IY,.bool a0.IE.IK.null,jS a0.IE.IK.data,.bool false,jS a0.I4.IJ,jI 0,jI a0.I4.ID,jI a0.I4.IF,.slice A1 a0.I4.IC.length c2,.bool false,.slice none 0 0,.bool false,.string ⟨#[]⟩,jI 0,jI 0,.slice none 0 0]) 0 Z KQ Ki Z Z Z) Z (GC 1 Z (cs':=wA20 a0 A1 c2) Z .u Z Z Ki Z Z Z Z Z ?_)))))));obtain rfl:=Jp h;refine Gs (T.ret (X.oldrd (E:=ai 2 aZ) (cs := [.slice A1 a0.I4.IC.length c2]) (x:=a0.I4.IC) hS.1 (GO 5 dM (HU (S:=S) 0 Z (G8 [0,0,0,0,0,0] Z (GO 2 cT (HU (S:=S) 0 Z (G8 [0,0,0,0,0,0,0] Z ?_))))))));exact GV [6,2,1,0] Lr (Hb (us:=wA20 a0 A1 c2) 4 Z KQ Ki Z Z) ⟨_,⟨_,_,_,_,_,_,Z,Z,Z⟩,Z⟩ Mf (.inl Z)
 refine Hh Z c16 (Gq Z (Gp au 2 Z ?_));rcases jF h with⟨c17,h⟩ | ⟨c17,h⟩
 ·refine Hg Z c17 (T.region Z (Gt au bC 2 Z 3 Z Z ?_));refine Gr Z (GW (cells:= #[.bool false,jS a0.Jb.IJ]) j8 Z Me) Z ?_;refine Gt au bC 2 Z 9 Z Z ?_;refine Gr Z (GW (cells:= #[.bool false,jS a0.Jb.IJ,jI 0,jI a0.Jb.ID,jI a0.Jb.IF,.slice none 0 0,.bool a0.Jb.I2]) gW Z Me) Z ?_;refine Gp au 1 Z (GC 0 Z (cs':=wA21 a0) Z .u Z Z Lf Z Z Z Z Z (TL.nil (GN (X.seq (Gq Z (Gr Z (GH (us := [jI a0.IE.IP,jI a0.IE.IO,jI a0.IE.IY,.bool a0.IE.IK.null,jS a0.IE.IK.data,.bool false,jS a0.Jb.IJ,jI 0,jI a0.Jb.ID,jI a0.Jb.IF,.slice none 0 0,.bool a0.Jb.I2,.slice none 0 0,.bool false,.string ⟨#[]⟩,jI 0,jI 0,.slice none 0 0]) 0 Z KQ Ki Z Z Z) Z (GC 1 Z (cs':=wA21 a0) Z .u Z Z Ki Z Z Z Z Z ?_)))))));obtain rfl:=Jp h;refine Gs (T.ret (GO 2 aZ (HU (S:=S) 0 Z (G8 [0,0,0,0,0] Z (GO 5 dM (HU (S:=S) 0 Z (G8 [0,0,0,0,0,0] Z (GO 2 cT ?_))))))));exact HU (S:=S) 0 Z (G8 [0,0,0,0,0,0,0] Z (GV [6,2,1,0] Lr (Hb (us:=wA21 a0) 4 Z KQ Ki Z Z) ⟨_,⟨_,_,_,_,_,_,Z,Z,Z⟩,Z⟩ Mf (.inl Z)))
 refine Hh Z c17 (Gq Z (Gp au 2 Z ?_));rcases jF h with⟨c18,h⟩ | ⟨c18,h⟩
 ·refine Hg Z c18 (T.region Z ?_);obtain⟨x19,hx22,h⟩:=Jn h;refine Gt au bC 2 Z 2 Z Z (TL.cso  Z .u (.fn Tryz.call58 Z) (vB a0.I1 _ _ _ hx22) hS.2.1 hSF Z ?_);rintro _ _ _ ⟨A20,c21,rfl,rfl,rfl⟩;refine Hc [0,0,0,0,0] Z (Gp au 1 Z (GC 1 Z (cs':= #[jI a0.IE.IP,jI a0.IE.IO,jI a0.IE.IY,.bool a0.IE.IK.null,jS a0.IE.IK.data,.bool false,.string ⟨#[]⟩,jI 0,jI 0,jI 0,.slice none 0 0,.bool false,.slice A20 x19.length c21,.bool false,.string ⟨#[]⟩,jI 0,jI 0,.slice none 0 0]) Z .u Z Z Tryz.sizeOf48 Z Z Z Z Z (TL.nil (GN (X.seq (Gq Z (Gr Z (GH (us := [jI a0.IE.IP,jI a0.IE.IO,jI a0.IE.IY,.bool a0.IE.IK.null,jS a0.IE.IK.data,.bool false,.string ⟨#[]⟩,jI 0,jI 0,jI 0,.slice none 0 0,.bool false,.slice A20 x19.length c21,.bool false,.string ⟨#[]⟩,jI 0,jI 0,.slice none 0 0]) 1 Z KQ Ki Z Z Z) Z (GC 2 Z (cs':= #[jI a0.IE.IP,jI a0.IE.IO,jI a0.IE.IY,.bool a0.IE.IK.null,jS a0.IE.IK.data,.bool false,.string ⟨#[]⟩,jI 0,jI 0,jI 0,.slice none 0 0,.bool false,.slice A20 x19.length c21,.bool false,.string ⟨#[]⟩,jI 0,jI 0,.slice none 0 0]) Z .u Z Z Ki Z Z Z Z Z ?_))))))));obtain rfl:=Jp h;exact Gs (T.ret (GO 2 aZ (HU (S:=S) 0 Z (G8 [0,0,0,0,0,0] Z (GO 2 cT (HU (S:=S) 0 Z (G8 [0,0,0,0,0,0,0] Z (GV [6,1,1,0] Lr (Hb (us:= #[jI a0.IE.IP,jI a0.IE.IO,jI a0.IE.IY,.bool a0.IE.IK.null,jS a0.IE.IK.data,.bool false,.string ⟨#[]⟩,jI 0,jI 0,jI 0,.slice none 0 0,.bool false,.slice A20 x19.length c21,.bool false,.string ⟨#[]⟩,jI 0,jI 0,.slice none 0 0]) 4 Z KQ Ki Z Z) ⟨_,⟨_,_,_,_,_,_,Z,Z,Z⟩,Z⟩ Mf (.inl Z)))))))))
 refine Hh Z c18 (T.skip (GN (X.seq (Gq Z (Gr Z (GH (us := [jI a0.IE.IP,jI a0.IE.IO,jI a0.IE.IY,.bool a0.IE.IK.null,jS a0.IE.IK.data,.bool false,.string ⟨#[]⟩,jI 0,jI 0,jI 0,.slice none 0 0,.bool false,.slice none 0 0,.bool false,.string ⟨#[]⟩,jI 0,jI 0,.slice none 0 0]) 0 Z KQ Ki Z Z Z) Z (GC 1 Z (cs':= #[jI a0.IE.IP,jI a0.IE.IO,jI a0.IE.IY,.bool a0.IE.IK.null,jS a0.IE.IK.data,.bool false,.string ⟨#[]⟩,jI 0,jI 0,jI 0,.slice none 0 0,.bool false,.slice none 0 0,.bool false,.string ⟨#[]⟩,jI 0,jI 0,.slice none 0 0]) Z .u Z Z Ki Z Z Z Z Z ?_))))));obtain rfl:=Jp h;refine Gs (T.ret (GO 2 aZ (HU (S:=S) 0 Z (G8 [0,0,0,0,0] Z (GO 5 dM (HU (S:=S) 0 Z (G8 [0,0,0,0,0,0] Z (GO 2 cT ?_))))))));exact HU (S:=S) 0 Z (G8 [0,0,0,0,0,0,0] Z (GV [6,2,1,0] Lr (Hb (us:= #[jI a0.IE.IP,jI a0.IE.IO,jI a0.IE.IY,.bool a0.IE.IK.null,jS a0.IE.IK.data,.bool false,.string ⟨#[]⟩,jI 0,jI 0,jI 0,.slice none 0 0,.bool false,.slice none 0 0,.bool false,.string ⟨#[]⟩,jI 0,jI 0,.slice none 0 0]) 4 Z KQ Ki Z Z) ⟨_,⟨_,_,_,_,_,_,Z,Z,Z⟩,Z⟩ Mf (.inl Z)))
abbrev Pr (α:Type):=List UInt8->Nat->Except Int (α×Nat)
namespace Pr
variable {α β:Type}
def ret (a:α):Pr α:=fun _ q=> .ok (a,q)
def err (e:Int):Pr α:=fun _ _=> .error e
def bind (p:Pr α) (f:α->Pr β):Pr β:=fun s q=>match p s q with | .error e=> .error e | .ok (a,r)=>f a s r
theorem bind_ok {p:Pr α} {f:α->Pr β} {s:List UInt8} {q:Nat} {x:β×Nat} (h:p.bind f s q= .ok x): ∃ a r,p s q= .ok (a,r)/\f a s r= .ok x:=by
 unfold bind at h
 cases hp:p s q with
 | error e=>rw[hp] at h; exact nomatch h
 | ok y=>rw[hp] at h; exact⟨_,_,rfl,h⟩
theorem bind_of {p:Pr α} {f:α->Pr β} {s:List UInt8} {q r:Nat} {a:α} (h:p s q= .ok (a,r)):p.bind f s q=f a s r:=by unfold bind; rw[h]
theorem bind_err {p:Pr α} {f:α->Pr β} {s:List UInt8} {q:Nat} {e:Int} (h:p s q= .error e):p.bind f s q= .error e:=by unfold bind; rw[h]
end Pr
structure CR {α:Type} (op:I->Option (α×I)) (p:Pr α) (z:α):Prop where
 dead: ∀ st:I,st.err≠0->op st=some (z,st)
 bad: ∀ (s:List UInt8) (q:Nat) (e:Int),q<=s.length->p s q= .error e-> ∃ st:I,op ⟨s.drop q,q,0⟩=some (z,st)/\st.err=e/\e≠0
 good: ∀ (s:List UInt8) (q:Nat) (a:α) (r:Nat),q<=s.length->p s q= .ok (a,r)->op ⟨s.drop q,q,0⟩=some (a,⟨s.drop r,r,0⟩)
structure Sp {α:Type} (p:Pr α) (enc:α->List UInt8) (ok:α->Prop):Prop where
 spell: ∀ (s:List UInt8) (q:Nat) (a:α) (r:Nat),q<=s.length->p s q= .ok (a,r)->q<=r/\r<=s.length/\r=q+(enc a).length/\s.take r=s.take q++enc a/\ok a
 back: ∀ (s t:List UInt8) (q:Nat) (a:α),q<=s.length->ok a->s.drop q=enc a++t->p s q= .ok (a,q+(enc a).length)
theorem bZ {s x t:List UInt8} {q:Nat} (h:s.drop q=x++t):s.drop (q+x.length)=t:=by rw[<- Kf,h,List.drop_left]
theorem oI (s:List UInt8) (q k:Nat):s.take (q+k)=s.take q++(s.drop q).take k:=List.take_add
theorem CZ (q:Int) (c:UInt8) (k:Nat):be (q*256+c.toNat) (k+1)=be q k ++ [c]:=by
 have hc:=c.toNat_lt;unfold be;rw[List.range_succ,List.map_append];congr 1
 ·apply List.map_congr_left;intro i hi;have hi:=List.mem_range.1 hi;have e:k+1 - 1 - i=(k - 1 - i)+1:=by omega
  have e2:(q*256+(c.toNat:Int)) / 256=q:=by omega
  rw[e,show 8*(k - 1 - i+1)=8+8*(k - 1 - i) by omega,Int.pow_add,<- Int.ediv_ediv_of_nonneg Md,show (2 ^ 8:Int)=256 from rfl,e2]
 ·simp only[List.map_cons,List.map_nil,Nat.add_sub_cancel,Nat.sub_self,Nat.mul_zero,Int.pow_zero,Int.ediv_one];congr 1;apply UInt8.toNat_inj.1;simp[UInt8.toNat_ofNat'];omega
theorem C0 (cs:List UInt8): ∀ (q:Int) (k:Nat),be (cs.foldl (fun n d=>n*256+(d.toNat:Int)) q) (k+cs.length)=be q k++cs:=by
 induction cs with
 | nil=>intro q k; simp
 | cons c cs ih =>
  intro q k;have h:=ih (q*256+c.toNat) (k+1);rw[CZ] at h;rw[List.foldl_cons,Jz,show k+(cs.length+1)=k+1+cs.length by omega,h];simp
theorem D8 (c:UInt8):be (sgn c) 1 = [c]:=by
 have hc:=c.toNat_lt;unfold be;simp only[List.range_one,List.map_cons,List.map_nil,Nat.sub_self,Nat.mul_zero,Int.pow_zero,Int.ediv_one];congr 1;apply UInt8.toNat_inj.1;unfold sgn;simp[UInt8.toNat_ofNat'];split <;> omega
theorem Ax (l:List UInt8) (h:l ≠ []):be (fd l) l.length=l:=by
 cases l with
 | nil=>exact absurd rfl h
 | cons c cs =>
  have h:=C0 cs (sgn c) 1;rw[D8] at h;rw[Jz,Nat.add_comm];exact h
def eI (k:Nat):Pr Int:=fun s q=>if s.length<q+k then .error 1 else .ok (fd ((s.drop q).take k),q+k)
theorem D9 (k:Nat) (h1:1<=k) (h8:k<=8) (kk:Int) (hk:kk=(k:Int)):CR (fun st=>dB st kk) (eI k) 0:=by
 subst hk;refine⟨fun st h=> ?_,fun s q e hq h=> ?_,fun s q a r hq h=> ?_⟩
 ·rw[iM,l9 h]
 ·unfold eI at h;split at h
  ·rename_i hl;injection h with h;subst h;refine⟨⟨s.drop q,q,1⟩,?_,rfl,by decide⟩;simp only[iM];rw[pp _ _ _ Mc Mc (by rw[JA]; omega)]
  ·exact nomatch h
 ·unfold eI at h;split at h
  ·exact nomatch h
  ·rename_i hl;injection h with h;obtain⟨rfl,rfl⟩:=JP h;simp only[iM];rw[wZ _ _ _ h1 h8 (by rw[JA]; omega),Kf]
theorem dL (k:Nat) (h1:1<=k) (h8:k<=8):Sp (eI k) (fun n=>be n k) (fun n=>bm n k=true):=by
 refine⟨fun s q a r hq h=> ?_,fun s t q a hq ha h=> ?_⟩
 ·unfold eI at h;split at h
  ·exact nomatch h
  ·rename_i hl;injection h with h;obtain⟨rfl,rfl⟩:=JP h;have hn:((s.drop q).take k).length=k:=by rw[Kw,JA]; omega
   have hne:(s.drop q).take k ≠ []:=fun h0=>by rw[h0] at hn; simp at hn; omega
   have hb:be (fd ((s.drop q).take k)) k=(s.drop q).take k:=by
    have:=Ax _ hne
    rwa [hn] at this
   refine⟨by omega,by omega,by rw[ax],by rw[hb,oI],?_⟩;rw[<- Fw _ _ h1 h8,hb]
 ·have hl:=congrArg List.length h;rw[JA,Js,ax] at hl;unfold eI;rw[Mh Mc,h,List.take_append_of_le_length (by rw[ax]; omega),List.take_of_length_le (by rw[ax]; omega),ax,xV _ _ h1 h8 ha]
def yx (n:Int):Pr Bl:=fun s q=>if n= -1 then .ok (⟨true,[]⟩,q) else if n<0 then .error 4 else if (s.length:Int)<q+n then .error 1 else .ok (⟨false,(s.drop q).take n.toNat⟩,q+n.toNat)
theorem pH (n:Int) (s:List UInt8) (q:Nat) (hq:q<=s.length) :
 (∃ e st,yx n s q= .error e/\kq ⟨s.drop q,q,0⟩ n=(⟨false,[]⟩,st)/\st.err=e/\e≠0)\/(∃ b r,yx n s q= .ok (b,r)/\kq ⟨s.drop q,q,0⟩ n=(b,⟨s.drop r,r,0⟩)/\q<=r/\r<=s.length/\blen b=n/\bu b=true/\s.take r=s.take q++b.data/\r=q+b.data.length):=by
 have hd:(s.drop q).length=s.length - q:=JA;unfold yx kq;rw[Mh (show ¬ ((⟨s.drop q,q,0⟩:I).err≠0) by simp)];by_cases h1:n= -1
 ·rw[Mg h1,Mg h1];exact .inr ⟨_,_,rfl,rfl,JN _,hq,h1.symm,rfl,by simp,rfl⟩
 rw[Mh h1,Mh h1];by_cases h2:n<0
 ·rw[Mg h2,Cx _ _ _ h2];exact .inl ⟨_,_,rfl,rfl,rfl,by decide⟩
 rw[Mh h2];by_cases h3:(s.length:Int)<q+n
 ·rw[Mg h3,sy _ _ _ Mc];exact .inl ⟨_,_,rfl,rfl,rfl,by decide⟩
 rw[Mh h3];obtain⟨m,rfl⟩: ∃ m:Nat,n=(m:Int):=⟨n.toNat,by omega⟩;rw[Kp,xZ _ _ _ Mc,Kf];have hl:((s.drop q).take m).length=m:=by rw[Kw]; omega
 exact .inr ⟨_,_,rfl,rfl,by omega,by omega,by unfold blen; simp only[Bool.false_eq_true,if_false]; rw[hl],rfl,oI s q m,by rw[hl]⟩
def lT (k:Nat):Pr Bl:=(eI k).bind yx
theorem Ea {lenop:I->Int×I} {p:Pr Int} (hl:CR (fun st=>some (lenop st)) p 0) (hs: ∀ s q a r,q<=s.length->p s q= .ok (a,r)->r<=s.length):CR (fun st=>some (kq (lenop st).2 (lenop st).1)) (p.bind yx) (⟨false,[]⟩:Bl):=by
 refine⟨fun st h=> ?_,fun s q e hq h=> ?_,fun s q a r hq h=> ?_⟩
 ·have h0:=Jp (hl.dead st h);rw[h0,rj h]
 ·cases hp:p s q with
  | error e' =>
   rw[Pr.bind_err hp] at h;injection h with h;subst h;obtain⟨st,h1,h2,h3⟩:=hl.bad s q e' hq hp;have h0:=Jp h1;rw[h0,rj (by simp only[h2]; exact h3)];exact⟨st,rfl,h2,h3⟩
  | ok x =>
   obtain⟨n,m⟩:=x;rw[Pr.bind_of hp] at h;have h0:=Jp (hl.good s q n m hq hp);rw[h0];rcases pH n s m (hs _ _ _ _ hq hp) with⟨e',st,g1,g2,g3,g4⟩ | ⟨b,r,g1,g2,_⟩
   ·rw[g1] at h;injection h with h;subst h;exact⟨st,by rw[g2],g3,g4⟩
   ·rw[g1] at h;exact nomatch h
 ·obtain⟨n,m,hp,h⟩:=Pr.bind_ok h;have h0:=Jp (hl.good s q n m hq hp);rw[h0];rcases pH n s m (hs _ _ _ _ hq hp) with⟨e',st,g1,g2,g3,g4⟩ | ⟨b,r',g1,g2,_⟩
  ·rw[g1] at h;exact nomatch h
  ·rw[g1] at h;injection h with h;obtain⟨rfl,rfl⟩:=JP h;rw[g2]
theorem Eb {p:Pr Int} {enc:Int->List UInt8} {ok:Int->Prop} (hp:Sp p enc ok):Sp (p.bind yx) (fun b=>enc (blen b)++b.data) (fun b=>ok (blen b)/\bu b=true):=by
 refine⟨fun s q a r hq h=> ?_,fun s t q a hq ha h=> ?_⟩
 ·obtain⟨n,m,h1,h⟩:=Pr.bind_ok h;obtain⟨a1,a2,a3,a4,a5⟩:=hp.spell _ _ _ _ hq h1;rcases pH n s m a2 with⟨e',st,g1,g2,g3,g4⟩ | ⟨b,r',g1,g2,b1,b2,b3,b4,b5,b6⟩
  ·rw[g1] at h;exact nomatch h
  ·rw[g1] at h;injection h with h;obtain⟨rfl,rfl⟩:=JP h;refine⟨by omega,b2,by rw[Js,b3]; omega,by rw[b5,a4,b3,Jw],by rw[b3]; exact a5,b4⟩
 ·rw[Jw] at h;have h1:=hp.back s _ q _ hq ha.1 h;rw[Pr.bind_of h1,Js,<- Nat.add_assoc];have h2:=bZ h;have hl:=congrArg List.length h;rw[JA,Js,Js] at hl;generalize (enc (blen a)).length=m at h2 hl ⊢;obtain⟨nu,d⟩:=a;unfold yx blen
  cases nu with
  | true =>
   have:d = []:=by have:=ha.2; unfold bu at this; simpa using this
   subst this;rw[Mg rfl,Mg rfl];rfl
  | false =>
   simp only[Bool.false_eq_true,if_false];simp only at h2 hl;rw[Mh Mc,Mh Mc,h2,Mh Mc,Kp,List.take_left]
theorem ui (k:Nat) (h1:1<=k) (h8:k<=8) (kk:Int) (hk:kk=(k:Int)):CR (fun st=>jx st kk) (lT k) (⟨false,[]⟩:Bl) :=
 Ea (lenop:=fun st=>ew st kk) (D9 k h1 h8 kk hk) (fun s q a r hq h=>((dL k h1 h8).spell s q a r hq h).2.1)
theorem gj (k:Nat) (h1:1<=k) (h8:k<=8):Sp (lT k) (fun b=>be (blen b) k++b.data) (fun b=>bm (blen b) k=true/\bu b=true):=Eb (dL k h1 h8)
theorem lN (bs:Int) (a:Nat): ∀ (l:List UInt8) (b acc i:Nat),vgo bs l (a+b) acc i=((vgo bs l b acc i).1,⟨(vgo bs l b acc i).2.rest,a+(vgo bs l b acc i).2.pos,(vgo bs l b acc i).2.err⟩)
 | [],b,acc,i=>rfl
 | c::l,b,acc,i=>by
  have ih:=lN bs a l (b+1) (acc+c.toNat % 128*2 ^ (7*i)) (i+1);unfold vgo;split
  ·rfl
  ·split
   ·rw[Nat.add_assoc,ih]
   ·split
    ·rfl
    ·rfl
theorem uj (bs:Int): ∀ (l:List UInt8) (b acc i:Nat),(vgo bs l b acc i).2.err≠0->(vgo bs l b acc i).1=0
 | [],b,acc,i,h=>rfl
 | c::l,b,acc,i,h=>by
  have ih:=uj bs l (b+1) (acc+c.toNat % 128*2 ^ (7*i)) (i+1)
  revert h
  unfold vgo;split
  ·exact fun _=>rfl
  ·split
   ·exact ih
   ·split
    ·exact fun _=>rfl
    ·exact fun h=>absurd rfl h
def qF (bs:Int):Pr Nat:=fun s q=>if (vgo bs (s.drop q) 0 0 0).2.err=0 then .ok ((vgo bs (s.drop q) 0 0 0).1,q+(vgo bs (s.drop q) 0 0 0).2.pos) else .error (vgo bs (s.drop q) 0 0 0).2.err
theorem v7 {bs:Int} {s:List UInt8} {q n r:Nat} (hq:q<=s.length) (h:qF bs s q= .ok (n,r)):es bs ⟨s.drop q,q,0⟩=(n,⟨s.drop r,r,0⟩)/\q<=r/\r<=s.length/\r=q+(cQ n).length/\s.take r=s.take q++cQ n:=by
 have hd:(s.drop q).length=s.length - q:=JA;unfold qF at h;split at h
 ·rename_i he;injection h with h;obtain⟨h1,h2⟩:=JP h;obtain⟨k,v,g1,g2,g3,g4,_⟩:=vgo_ok bs (s.drop q) 0 0 0 _ _ (rfl: _=((vgo bs (s.drop q) 0 0 0).1,(vgo bs (s.drop q) 0 0 0).2)) he;have g3':(vgo bs (s.drop q) 0 0 0).1=v:=by rw[g3]; simp
  rw[g3'] at h1;subst h1;rw[g1] at h2;simp only[Nat.zero_add] at h2;have hlk:(cQ v).length=k:=by rw[g4,Kw]; omega
  refine⟨?_,by omega,by omega,by omega,?_⟩
  ·unfold es;rw[Mh (by simp)];have:=lN bs q (s.drop q) 0 0 0;rw[Nat.add_zero] at this;simp only;rw[this,g3',g1,<- h2,Kf];simp
  ·rw[<- h2,oI,g4]
 ·exact nomatch h
theorem Ec {bs:Int} {s:List UInt8} {q:Nat} {e:Int} (h:qF bs s q= .error e): ∃ st,es bs ⟨s.drop q,q,0⟩=(0,st)/\st.err=e/\e≠0:=by
 unfold qF at h;split at h
 ·exact nomatch h
 ·rename_i he;injection h with h;subst h;have h0:=uj bs (s.drop q) 0 0 0 he;refine⟨(es bs ⟨s.drop q,q,0⟩).2,?_,?_,he⟩
  ·unfold es;rw[Mh (by simp)];have:=lN bs q (s.drop q) 0 0 0;rw[Nat.add_zero] at this;simp only;rw[this,h0]
  ·unfold es;rw[Mh (by simp)];have:=lN bs q (s.drop q) 0 0 0;rw[Nat.add_zero] at this;simp only;rw[this]
theorem Ay {bs:Int} {st:I} (h:st.err≠0):es bs st=(0,st):=Mg h
theorem yy (bs:Int) (hb:bs=32\/bs=64): ∀ (l:List UInt8) (b acc i:Nat),acc<2 ^ (7*i)->(vgo bs l b acc i).2.err=0->(vgo bs l b acc i).1<2 ^ bs.toNat
 | [],b,acc,i,ha,h=>by simp[vgo] at h
 | c::l,b,acc,i,ha,h=>by
  have ih:=yy bs hb l (b+1) (acc+c.toNat % 128*2 ^ (7*i)) (i+1)
  revert h
  unfold vgo;split
  ·exact fun h=>absurd h (by simp)
  ·rename_i hc;obtain⟨h1,h2⟩:=pY bs hb acc (c.toNat % 128) i ha Mc (Nat.mod_lt _ Md) (fun h=>hc (.inr h));split
   ·exact ih h1
   ·split
    ·exact fun h=>absurd h (by simp)
    ·exact fun _=>h2
theorem BC (bs:Int) (hb:bs=32\/bs=64):Sp (qF bs) cQ (fun n=>n<2 ^ bs.toNat):=by
 refine⟨fun s q a r hq h=> ?_,fun s t q a hq ha h=> ?_⟩
 ·obtain⟨h1,h2,h3,h4,h5⟩:=v7 hq h;refine⟨h2,h3,h4,h5,?_⟩;unfold qF at h;split at h
  ·rename_i he;injection h with h;rw[<- (JP h).1];exact yy bs hb _ _ _ _ (by simp) he
  ·exact nomatch h
 ·unfold qF;rw[h,FA bs Mc a 0 0 0 t (by simpa using ha) Mc];simp
def n8 (bs:Int):Pr Int:=(qF bs).bind fun n=> .ret (l7 n)
theorem xp (bs:Int) (hb:bs=32\/bs=64):CR (fun st=>some (fz (es bs st))) (n8 bs) 0:=by
 refine⟨fun st h=> ?_,fun s q e hq h=> ?_,fun s q a r hq h=> ?_⟩
 ·rw[Ay h];simp[fz,l7]
 ·cases hp:qF bs s q with
  | error e' =>
   rw[n8,Pr.bind_err hp] at h;injection h with h;subst h;obtain⟨st,h1,h2,h3⟩:=Ec hp;exact⟨st,by rw[h1]; simp[fz,l7],h2,h3⟩
  | ok x =>
   rw[n8,Pr.bind_of (a:=x.1) (r:=x.2) hp] at h;exact nomatch h
 ·obtain⟨n,m,hp,h⟩:=Pr.bind_ok h;injection h with h;obtain⟨rfl,rfl⟩:=JP h;rw[(v7 hq hp).1];rfl
theorem jU (bs:Int) (hb:bs=32\/bs=64):Sp (n8 bs) (fun n=>cQ (bw n)) (fun n=>bw n<2 ^ bs.toNat):=by
 refine⟨fun s q a r hq h=> ?_,fun s t q a hq ha h=> ?_⟩
 ·obtain⟨n,m,hp,h⟩:=Pr.bind_ok h;injection h with h;obtain⟨rfl,rfl⟩:=JP h;have:=(BC bs hb).spell _ _ _ _ hq hp
  rwa [zW]
 ·rw[n8,Pr.bind_of ((BC bs hb).back s t q _ hq ha h)];simp only[Pr.ret,zV]
def lO:Pr Bl:=(n8 32).bind yx
theorem v8:CR cF lO (⟨false,[]⟩:Bl) :=
 Ea (lenop:=fun st=>fz (es 32 st)) (xp 32 (.inl rfl)) (fun s q a r hq h=>((jU 32 (.inl rfl)).spell s q a r hq h).2.1)
theorem iJ:Sp lO (fun b=>cQ (bw (blen b))++b.data) (fun b=>bw (blen b)<2 ^ (32:Int).toNat/\bu b=true):=Eb (jU 32 (.inl rfl))
def n9 (p:Pr Bl):Pr (List UInt8):=p.bind fun b=>if b.null then .err 4 else .ret b.data
theorem BD {op:I->Bl×I} {p:Pr Bl} (h:CR (fun st=>some (op st)) p (⟨false,[]⟩:Bl)) (hb: ∀ s q a r,q<=s.length->p s q= .ok (a,r)->bu a=true):CR (fun st=>some (tI (op st))) (n9 p) []:=by
 refine⟨fun st hs=> ?_,fun s q e hq he=> ?_,fun s q a r hq hg=> ?_⟩
 ·have h0:=Jp (h.dead st hs);rw[h0];rfl
 ·cases hp:p s q with
  | error e' =>
   rw[n9,Pr.bind_err hp] at he;injection he with he;subst he;obtain⟨st,h1,h2,h3⟩:=h.bad s q _ hq hp;have h0:=Jp h1;rw[h0];exact⟨st,rfl,h2,h3⟩
  | ok x =>
   obtain⟨b,r⟩:=x;rw[n9,Pr.bind_of hp] at he;have h0:=Jp (h.good s q b r hq hp);rw[h0];have hbr:=hb _ _ _ _ hq hp;split at he
   ·rename_i hn;injection he with he;subst he;have:b.data = []:=by unfold bu at hbr; rw[hn] at hbr; simpa using hbr
    refine⟨⟨s.drop r,r,4⟩,?_,rfl,by decide⟩;unfold tI;simp only[hn,if_true,this];rfl
   ·exact nomatch he
 ·obtain⟨b,m,hp,hg⟩:=Pr.bind_ok hg;have h0:=Jp (h.good s q b m hq hp);rw[h0];split at hg
  ·exact nomatch hg
  ·rename_i hn;injection hg with hg;obtain⟨rfl,rfl⟩:=JP hg;unfold tI;simp only[hn,Bool.false_eq_true,if_false]
theorem xq {p:Pr Bl} {enc:Bl->List UInt8} {ok:Bl->Prop} (hp:Sp p enc ok):Sp (n9 p) (fun d=>enc ⟨false,d⟩) (fun d=>ok ⟨false,d⟩):=by
 refine⟨fun s q a r hq h=> ?_,fun s t q a hq ha h=> ?_⟩
 ·obtain⟨b,m,h1,h⟩:=Pr.bind_ok h;have h2:=hp.spell _ _ _ _ hq h1;split at h
  ·exact nomatch h
  ·rename_i hn;injection h with h;obtain⟨rfl,rfl⟩:=JP h;obtain⟨nu,d⟩:=b;simp only[Bool.not_eq_true] at hn;subst hn;exact h2
 ·rw[n9,Pr.bind_of (hp.back s t q _ hq ha h)];rfl
def uk:Pr (List UInt8):=n9 (lT 2)
def v9:Pr (List UInt8):=n9 lO
theorem FM:CR qg uk []:=BD (op:=fun st=>ic st 2) (ui 2 Md Md 2 rfl) (fun s q a r hq h=>((gj 2 Md Md).spell s q a r hq h).2.2.2.2.2)
theorem mN:Sp uk (fun d=>be (d.length:Int) 2++d) (fun d=>bm (d.length:Int) 2=true/\bu ⟨false,d⟩=true):=xq (gj 2 Md Md)
theorem FN:CR tS v9 []:=BD (op:=gC) v8 (fun s q a r hq h=>(iJ.spell s q a r hq h).2.2.2.2.2)
theorem oJ:Sp v9 (fun d=>cQ (bw (d.length:Int))++d) (fun d=>bw (d.length:Int)<2 ^ (32:Int).toNat/\bu ⟨false,d⟩=true):=xq iJ
theorem lU (t l:List UInt8):gH (t,0) l=(t++l,0):=rfl
theorem BE (t:List UInt8) (e:Int):jW (t,0) e=(t,e):=rfl
theorem d7 {n k:Int} (h:bm n k=true): -9223372036854775808<=n/\n<=9223372036854775807:=by
 unfold bm at h;simp only[Bool.and_eq_true,decide_eq_true_eq] at h;obtain⟨⟨⟨h1,h2⟩,h3⟩,h4⟩:=h;have:(2:Nat) ^ (8*k.toNat - 1)<=2 ^ 63:=Nat.pow_le_pow_right Md Mc;have h5:((2:Int) ^ (8*k.toNat - 1))=((2 ^ (8*k.toNat - 1):Nat):Int):=by simp
 have h6:(2:Nat) ^ 63=9223372036854775808:=by decide
 omega
theorem dI {t:List UInt8} {n k:Int} (hf:bm n k=true) (ht:t.length<=140737488355320):dA (t,0) n k=some (t++be n k.toNat,0):=by
 rw[DL _ _ _ ⟨d7 hf,by simp only; omega⟩];unfold vq;rw[Mg hf,lU]
theorem iK {t:List UInt8} {b:Bl} {k:Int} (hf:bm (blen b) k=true) (hb:bu b=true) (ht:t.length+b.data.length<=140737488355320):iF (t,0) b k=some (t++(be (blen b) k.toNat++b.data),0):=by
 have h8:1<=k/\k<=8:=by unfold bm at hf; simp only[Bool.and_eq_true,decide_eq_true_eq] at hf; exact⟨hf.1.1.1,hf.1.1.2⟩
 rw[mC _ _ _ ⟨by omega,by simp only; omega⟩];unfold l8 mA vq;rw[Mg hb,Mg hf,lU,lU,Jw]
theorem kH {t:List UInt8} {b:Bl} (hb:bu b=true) (hl:b.data.length<=2147483647) (ht:t.length+b.data.length<=140737488355310):iz (t,0) b=some (t++(cQ (bw (blen b))++b.data),0):=by
 rw[pf _ _ (by simp only; omega)];unfold kR mA gZ;rw[Mg hb,Mg (by unfold blen; split <;> omega),lU,lU,Jw]
structure CQ {α:Type} (op:I->Option (α×I)) (p:Pr α) (z:α):Prop where
 dead: ∀ st:I,st.err≠0->op st=some (z,st)
 run: ∀ (s:List UInt8) (q:Nat),q<=s.length->(∃ (e:Int) (st:I),p s q= .error e/\op ⟨s.drop q,q,0⟩=some (z,st)/\st.err=e/\st.err≠0)\/(∃ (a:α) (r:Nat),p s q= .ok (a,r)/\op ⟨s.drop q,q,0⟩=some (a,⟨s.drop r,r,0⟩)/\q<=r/\r<=s.length)
theorem CR.cq {α:Type} {op:I->Option (α×I)} {p:Pr α} {z:α} {enc:α->List UInt8} {ok:α->Prop} (h:CR op p z) (hs:Sp p enc ok):CQ op p z:=by
 refine⟨h.dead,fun s q hq=> ?_⟩
 cases hp:p s q with
 | error e =>
  obtain⟨st,h1,h2,h3⟩:=h.bad s q e hq hp;exact .inl ⟨e,st,rfl,h1,h2,by rw[h2]; exact h3⟩
 | ok x =>
  have:=hs.spell s q x.1 x.2 hq hp;exact .inr ⟨x.1,x.2,rfl,h.good s q x.1 x.2 hq hp,this.1,this.2.1⟩
theorem yz (k:Nat) (h1:1<=k) (h8:k<=8) (kk:Int) (hk:kk=(k:Int)):CQ (fun st=>dB st kk) (eI k) 0:=(D9 k h1 h8 kk hk).cq (dL k h1 h8)
theorem Q1:CQ (fun st=>dB st 1) (eI 1) 0:=yz 1 Md Md 1 rfl
theorem Q2:CQ (fun st=>dB st 2) (eI 2) 0:=yz 2 Md Md 2 rfl
theorem Q4:CQ (fun st=>dB st 4) (eI 4) 0:=yz 4 Md Md 4 rfl
theorem Q8:CQ (fun st=>dB st 8) (eI 8) 0:=yz 8 Md Md 8 rfl
theorem jJ {st:I} {k:Int} (h:st.err≠0):dB st k=some (0,st):=by rw[iM,l9 h]
theorem qG (l:List UInt8) (q:Nat) (e:Int):cX ⟨l,q,0⟩ e=⟨l,q,e⟩:=rfl
theorem QF2:CQ (fun st=>jx st 2) (lT 2) (⟨false,[]⟩:Bl):=(ui 2 Md Md 2 rfl).cq (gj 2 Md Md)
theorem QF4:CQ (fun st=>jx st 4) (lT 4) (⟨false,[]⟩:Bl):=(ui 4 Md Md 4 rfl).cq (gj 4 Md Md)
theorem j9 {st:I} {k:Int} (h:st.err≠0):jx st k=some (⟨false,[]⟩,st):=by rw[Cz,z5 h]
theorem QV:CQ cF lO (⟨false,[]⟩:Bl):=v8.cq iJ
theorem QT:CQ qg uk []:=FM.cq mN
theorem QN:CQ tS v9 []:=FN.cq oJ
theorem ul (t:List UInt8):otx (t,0)=(t,0):=by simp[otx]
theorem otx_e (t:List UInt8) (e:Int) (h:e≠0):otx (t,e)=([],e):=by simp[otx,h]
theorem eZ {n:Int} {k:Int} (h:k=2\/k=4\/k=8) (h1: -32768<=n) (h2:n<=32767):bm n k=true:=by
 have e2:(2:Int) ^ (8*(2:Int).toNat - 1)=32768:=by decide
 have e4:(2:Int) ^ (8*(4:Int).toNat - 1)=2147483648:=by decide
 have e8:(2:Int) ^ (8*(8:Int).toNat - 1)=9223372036854775808:=by decide
 unfold bm;simp only[Bool.and_eq_true,decide_eq_true_eq];rcases h with rfl | rfl | rfl <;> omega
open Go.RowKit Go.Deep Go.ChangeShapes
set_option linter.unusedVariables false
def fS {α:Type} (E:Rd α) (W:α->Prop):Rd α:=⟨fun w S cs a=>E.P w S cs a/\W a,fun h k=>⟨E.mono h.1 k,h.2⟩,fun h k=>⟨E.move h.1 k,h.2⟩⟩
section
variable {H:Type} (enc:TypeId×Value->H) (P:Program) {α β:Type}
def dT (t:TypeId) (E:Rd α):Prop :=
 ∀ (w:World) (fuel:Nat) (cs:List Value) (x:DataW H×List MemPlace),DataW.trod enc P w 0 (fun _=>true) true fuel t cs=some x->(∀ m,m∈x.1.weights P t->m<=reachBytes)-> ∃ a,E.P w (fun k=>k<w.heap.size) cs a
def qH (off:Nat) (fs:List Field) (n:Nat) (E:Rd α):Prop :=
 ∀ (w:World) (fuel:Nat) (cs:List Value) (xs:List (DataW H×List MemPlace)),cs.length=off+n->xs.length=fs.length ->
  (∀ (i:Nat) (f:Field),fs[i]? = some f->DataW.trod enc P w 0 (fun _=>true) true fuel f.type ((cs.drop f.offset).take (P.cellsOf f.type))=xs[i]?) ->
  (∀ m,m∈DataW.weightsEach P (fs.map (·.type)) (xs.map (·.1))->m<=reachBytes)-> ∃ a,E.P w (fun k=>k<w.heap.size) (cs.drop off) a
variable {enc P}
theorem dk {t:TypeId} {E:Rd α} {E':Rd β} (f:α->β) (h:dT enc P t E) (hf: ∀ w S cs a,E.P w S cs a->E'.P w S cs (f a)):dT enc P t E':=by
 intro w fuel cs x hx hw;obtain⟨a,ha⟩:=h w fuel cs x hx hw;exact⟨f a,hf _ _ _ _ ha⟩
theorem r7 {t:TypeId} {E:Rd α} {E':Rd β} (f:α->β) (h:DE enc P t E) (hf: ∀ w S cs a,E.P w S cs a->E'.P w S cs (f a)):dT enc P t E':=by
 intro w fuel cs x hx hw;obtain⟨a,ha⟩:=h w fuel cs x hx;exact⟨f a,hf _ _ _ _ ha⟩
def wI (n:Int):Prop:= -9223372036854775808<=n/\n<=9223372036854775807
def wB (_:Bool):Prop:=True
def wS (l:List UInt8):Prop:=l.length<=140737488351232
def wU8 (n:Int):Prop:=0<=n/\n<=255
def wL (W:α->Prop) (l:List α):Prop:=l.length<=140737488351232/\ ∀ x,x∈l->W x
def wLb (bytes:Nat) (W:α->Prop) (l:List α):Prop:=l.length*bytes<=140737488351232/\ ∀ x,x∈l->W x
theorem eb {t:TypeId} (ht:P.underlying t=some (.int .i64)):dT enc P t (fS mH wI):=r7 id (vL ht) (fun w S cs a h=>⟨h.1,Go.bounds_i64 h.2⟩)
theorem op_u8 {t:TypeId} (ht:P.underlying t=some (.int .u8)):dT enc P t (fS u8E wU8):=r7 id (vL ht) (fun w S cs a h=>⟨h.1,Go.bounds_u8 h.2⟩)
theorem oK {t:TypeId} (ht:P.underlying t=some .bool):dT enc P t (fS boolE wB):=r7 id (zM ht) (fun w S cs a h=>⟨h,trivial⟩)
theorem r8 {t:TypeId} (ht:P.underlying t=some .string):dT enc P t (fS lx wS):=by
 intro w fuel cs x h hw;obtain⟨s,rfl,rfl,hs⟩:=DataW.trod_string ht h;have:=hw s.data.toList.length (by simp[DataW.weights]);exact⟨s.data.toList,by cases s; simp[lx,bsOf],this⟩
theorem wa {size:Nat} {E:Rd α} {W:α->Prop} {w:World} {S:Nat->Prop} {cs:List Value} {l:List α} (h:(ai size (fS E W)).P w S cs l):(ai size E).P w S cs l/\ ∀ x,x∈l->W x:=by
 rcases h with⟨h,rfl⟩ | ⟨a,cap,h1,h2,h3,h4,h5⟩
 ·exact⟨.inl ⟨h,rfl⟩,fun x hx=>by simp at hx⟩
 ·refine⟨.inr ⟨a,cap,h1,h2,h3,h4,fun i x hx=> ?_⟩,fun x hx=> ?_⟩
  ·obtain⟨cs,k1,k2,k3⟩:=h5 i x hx;exact⟨cs,k1,k2,k3.1⟩
  ·obtain⟨i,hi⟩:=List.getElem?_of_mem hx;obtain⟨cs,k1,k2,k3⟩:=h5 i x hi;exact k3.2
theorem oa {e:TypeId} {l:List (DataW H)} {d:DataW H} {m:Nat} (hd:d∈l) (hm:m∈d.weights P e):m∈DataW.weightsAll P e l:=by
 induction l with
 | nil=>simp at hd
 | cons x l ih =>
  simp only[DataW.weightsAll,List.mem_append];rcases List.mem_cons.1 hd with rfl | h
  ·exact .inl hm
  ·exact .inr (ih h)
theorem op_slice {t e:TypeId} {E:Rd α} {W:α->Prop} (size bytes:Nat) (ht:P.underlying t=some (.slice e)) (hc:P.cellsOf e=size) (hb:P.bytesOf e=bytes) (hp:0<size) (hpb:0<bytes) (he:dT enc P e (fS E W)):dT enc P t (fS (ai size E) (wL W)):=by
 intro w fuel cs x h hw;rcases open_slice ht h with⟨rfl,_⟩ | ⟨a,len,cap,m,n,D,Pl,rfl,_,hl,hm,hmm,rfl,hx⟩
 ·exact⟨[],.inl ⟨rfl,rfl⟩,by simp,fun x hx=>by simp at hx⟩
 have hlm:len<=m:=by rw[hmm]; split <;> omega
 have hlen:len<=140737488351232:=by
  have h1:=hw ((((List.range len).map D).length+((List.range (m - len)).map fun j=>D (len+j)).length)*P.bytesOf e) (by simp only[DataW.weights,ht]; exact List.mem_cons_self);rw[hb] at h1;simp only[Kn,List.length_range] at h1;have h2:(len+(m - len))*1<=(len+(m - len))*bytes:=Nat.mul_le_mul_left _ hpb;have h3:reachBytes=140737488351232:=rfl;omega
 have hwe: ∀ i,i<len-> ∀ z,z∈(D i).weights P e->z<=reachBytes:=by
  intro i hi z hz;apply hw;simp only[DataW.weights,ht];exact List.mem_cons_of_mem _ (List.mem_append.2 (.inl (oa (d:=D i) (List.mem_map.2 ⟨i,List.mem_range.2 hi,rfl⟩) hz)))
 rw[hc] at hx;have each: ∀ i:Fin len,∃ y:α,∃ cs,cs.length=size/\(∀ j,j<size->w.cell? (a.add (i.val*size+j))=cs[j]?)/\(fS E W).P w (fun k=>k<w.heap.size) cs y:=by
  intro i;obtain⟨cs',h1,h2⟩:=hx i.val (by have:=i.isLt; omega);obtain⟨_,h3,h4⟩:=World.cells?_some h1;obtain⟨y,hy⟩:=he _ _ _ _ h2 (hwe i.val i.isLt);refine⟨y,cs',h3,fun j hj=> ?_,hy⟩;rw[<- h4 j hj,add_add]
 obtain⟨f,hf⟩:=Classical.axiomOfChoice each;have hs:(ai size (fS E W)).P w (fun k=>k<w.heap.size) [.slice (some a) len cap] ((List.finRange len).map f):=by
  refine .inr ⟨a,cap,by simp,by simpa using hl,hm,fun hz=> ?_,?_⟩
  ·simp at hz;obtain⟨cs',k1,k2,k3⟩:=hf ⟨0,by omega⟩;have:=k2 0 hp;rw[List.getElem?_eq_getElem Mc] at this;simp only[World.cell?] at this;rw[block_add] at this;rcases Nat.lt_or_ge a.block w.heap.size with h | h
   ·exact h
   ·rw[Array.getElem?_eq_none h] at this;simp at this
  ·intro i x hx;rw[List.getElem?_map,Option.map_eq_some_iff] at hx;obtain⟨j,hj,rfl⟩:=hx;have e:j.val=i:=by
    obtain⟨h1,h2⟩:=Jt hj;rw[<- h2];simp
   rw[<- e];exact hf j
 obtain⟨k1,k2⟩:=wa hs;exact⟨_,k1,by simpa using hlen,k2⟩
theorem wb {t e:TypeId} {E:Rd α} {W:α->Prop} (size bytes:Nat) (ht:P.underlying t=some (.slice e)) (hc:P.cellsOf e=size) (hb:P.bytesOf e=bytes) (hp:0<size) (hpb:0<bytes) (he:dT enc P e (fS E W)):dT enc P t (fS (ai size E) (wLb bytes W)):=by
 intro w fuel cs x h hw;rcases open_slice ht h with⟨rfl,_⟩ | ⟨a,len,cap,m,n,D,Pl,rfl,_,hl,hm,hmm,rfl,hx⟩
 ·exact⟨[],.inl ⟨rfl,rfl⟩,by rw[J6,Nat.zero_mul]; exact JM _,fun x hx=>by simp at hx⟩
 have hlm:len<=m:=by rw[hmm]; split <;> omega
 have hlen:len*bytes<=140737488351232:=by
  have h1:=hw ((((List.range len).map D).length+((List.range (m - len)).map fun j=>D (len+j)).length)*P.bytesOf e) (by simp only[DataW.weights,ht]; exact List.mem_cons_self);rw[hb] at h1;simp only[Kn,List.length_range] at h1;have h2:len*bytes<=(len+(m - len))*bytes:=Nat.mul_le_mul_right _ Mc;have h3:reachBytes=140737488351232:=rfl;omega
 have hwe: ∀ i,i<len-> ∀ z,z∈(D i).weights P e->z<=reachBytes:=by
  intro i hi z hz;apply hw;simp only[DataW.weights,ht];exact List.mem_cons_of_mem _ (List.mem_append.2 (.inl (oa (d:=D i) (List.mem_map.2 ⟨i,List.mem_range.2 hi,rfl⟩) hz)))
 rw[hc] at hx;have each: ∀ i:Fin len,∃ y:α,∃ cs,cs.length=size/\(∀ j,j<size->w.cell? (a.add (i.val*size+j))=cs[j]?)/\(fS E W).P w (fun k=>k<w.heap.size) cs y:=by
  intro i;obtain⟨cs',h1,h2⟩:=hx i.val (by have:=i.isLt; omega);obtain⟨_,h3,h4⟩:=World.cells?_some h1;obtain⟨y,hy⟩:=he _ _ _ _ h2 (hwe i.val i.isLt);refine⟨y,cs',h3,fun j hj=> ?_,hy⟩;rw[<- h4 j hj,add_add]
 obtain⟨f,hf⟩:=Classical.axiomOfChoice each;have hs:(ai size (fS E W)).P w (fun k=>k<w.heap.size) [.slice (some a) len cap] ((List.finRange len).map f):=by
  refine .inr ⟨a,cap,by simp,by simpa using hl,hm,fun hz=> ?_,?_⟩
  ·simp at hz;obtain⟨cs',k1,k2,k3⟩:=hf ⟨0,by omega⟩;have:=k2 0 hp;rw[List.getElem?_eq_getElem Mc] at this;simp only[World.cell?] at this;rw[block_add] at this;rcases Nat.lt_or_ge a.block w.heap.size with h | h
   ·exact h
   ·rw[Array.getElem?_eq_none h] at this;simp at this
  ·intro i x hx;rw[List.getElem?_map,Option.map_eq_some_iff] at hx;obtain⟨j,hj,rfl⟩:=hx;have e:j.val=i:=by
    obtain⟨h1,h2⟩:=Jt hj;rw[<- h2];simp
   rw[<- e];exact hf j
 obtain⟨k1,k2⟩:=wa hs;exact⟨_,k1,by simpa using hlen,k2⟩
theorem cO (off:Nat):qH enc P off [] 0 unitRd:=by
 intro w fuel cs xs hl _ _ _;exact⟨(),List.drop_of_length_le Mc⟩
theorem aA {off n:Nat} (m:Nat) {f:Field} {fs:List Field} {A:Rd α} {B:Rd β} (ho:f.offset=off) (hc:P.cellsOf f.type=m) (hA:dT enc P f.type A) (hB:qH enc P (off+m) fs n B) :
 qH enc P off (f::fs) (m+n) (pairRd A B):=by
 intro w fuel cs xs hl hx h hw
 cases xs with
 | nil=>simp at hx
 | cons x xs =>
  have h0:=h 0 f rfl;rw[ho,hc] at h0;simp only[List.map_cons,DataW.weightsEach,List.mem_append] at hw;obtain⟨a,ha⟩:=hA _ _ _ _ h0 (fun m hm=>hw m (.inl hm));obtain⟨b,hb⟩:=hB w fuel cs xs Mc (by simpa using hx) (fun i f' hf=>by simpa using h (i+1) f' (by simpa using hf)) (fun m hm=>hw m (.inr hm));refine⟨(a,b),(cs.drop off).take m,cs.drop (off+m),?_,ha,hb⟩;rw[<- Kf,List.take_append_drop]
theorem cy {t:TypeId} {fs:Array Field} {n:Nat} {E:Rd α} (ht:P.underlying t=some (.struct fs)) (hc:P.cellsOf t=n) (h:qH enc P 0 fs.toList n E):dT enc P t E:=by
 intro w fuel cs x hx hw;obtain⟨xs,k,rfl,rfl,hl,hxl,hf⟩:=DataW.trod_struct ht hx;simp only[DataW.weights,ht] at hw;obtain⟨a,ha⟩:=h w k cs xs Mc (by simpa using hxl) (fun i f hi=>hf i f (by simpa using hi)) hw;exact⟨a,by simpa using ha⟩
theorem weights_in: ∀ {ts:List TypeId} {ds:List (DataW H)} (j:Nat) {t:TypeId} {d:DataW H} {m:Nat},ts[j]? = some t->ds[j]? = some d->m∈d.weights P t->m∈DataW.weightsEach P ts ds
 | [],_,j,_,_,_,ht,_,_=>by simp at ht
 | _ :: _,[],j,_,_,_,_,hd,_=>by simp at hd
 | t::ts,d::ds,0,_,_,_,ht,hd,hm=>by
  obtain rfl:t= _:=by simpa using ht
  obtain rfl:d= _:=by simpa using hd
  simp only[DataW.weightsEach,List.mem_append];exact .inl hm
 | t::ts,d::ds,j+1,_,_,_,ht,hd,hm=>by
  simp only[DataW.weightsEach,List.mem_append];exact .inr (weights_in j (by simpa using ht) (by simpa using hd) hm)
theorem slice_cells {size:Nat} {E:Rd α} {w:World} {S:Nat->Prop} {cs:List Value} {l:List α} (h:(ai size E).P w S cs l): ∃ A c,cs = [.slice A l.length c]:=by
 rcases h with⟨h,rfl⟩ | ⟨a,cap,h,_⟩
 ·exact⟨none,0,h⟩
 ·exact⟨_,_,h⟩
theorem opens_arg1 {t e:TypeId} {E:Rd α} {r:Reach} {b0:Nat} {w:World} {v:Value} {d:DataW H} {p:List MemPlace} (ht:P.underlying t=some (.slice e)) (hval:Value.okWide P w r b0 t v) (h:dT enc P t E)
 (hv:DataW.Trod enc P w 0 (fun _=>true) true t v d p) (hw: ∀ m,m∈d.weights P t->m<=reachBytes): ∃ a,E.P w (fun k=>k<w.heap.size) [v] a:=by
 obtain⟨a0,len,cap,rfl⟩:=Go.WideShapes.okWide_slice ht hval;obtain⟨fuel,hf⟩:=hv;exact h _ _ _ _ hf hw
theorem opens_arg2 {t:TypeId} {fs:Array Field} {E:Rd α} {r:Reach} {b0:Nat} {w:World} {v:Value} {d:DataW H} {p:List MemPlace} (ht:P.underlying t=some (.struct fs)) (hval:Value.okWide P w r b0 t v) (h:dT enc P t E)
 (hv:DataW.Trod enc P w 0 (fun _=>true) true t v d p) (hw: ∀ m,m∈d.weights P t->m<=reachBytes): ∃ a cs,v= .agg cs/\E.P w (fun k=>k<w.heap.size) cs.toList a:=by
 obtain⟨cs,rfl,_⟩:=Go.WideShapes.okWide_struct ht hval;obtain⟨fuel,hf⟩:=hv;obtain⟨a,ha⟩:=h _ _ _ _ hf hw;exact⟨a,cs,rfl,ha⟩
theorem RX.reads_all {E:Rd α} {w:World} {cs:List Value} {a:α} (h:E.P w (fun k=>k<w.heap.size) cs a):(RX.of E cs a).reads w (fun _=>False):=⟨_,h,fun k hk=>⟨fun h=>h,hk⟩⟩
end
open Go.RowKit
def um (x:Bl):Prop:=wB x.null/\wS x.data
def Ed (x:Hd):Prop:=wS x.I3/\um x.IQ
def uo (x:Rec):Prop:=wI x.Ja/\wI x.IZ/\um x.I3/\um x.IQ/\(wL Ed) x.IR
def BF (x:e7):Prop:=wI x.IP/\wI x.IO/\wI x.IY/\um x.IK
def mO (x:Top):Prop:=wS x.IW/\(wL wI) x.IH
def wf_Val (x:Val):Prop:=wI x.ID/\wI x.IF/\wI x.II/\wI x.Jk/\(wL mO) x.IC/\wI x.Jm/\wI x.Jl
def lV (x:Bat):Prop:=wI x.I9/\wI x.I5/\wB x.Jg/\wB x.Jf/\wB x.Jc/\wI x.I7/\wI x.IV/\wI x.Je/\wI x.ID/\wI x.IF/\wI x.IX/\(wL uo) x.IG
def wc (x:bH):Prop:=wS x.IJ/\wI x.ID/\wI x.IF/\wB x.I2
def lP (x:aH):Prop:=wI x.ID/\wI x.IF/\wB x.I2/\(wL mO) x.IC/\wI x.IU
def ob (x:aT):Prop:=um x.IJ/\wI x.II/\wI x.ID/\wI x.IF
def lj (x:aL):Prop:=wI x.I8/\(wL lV) x.IM
def km (x:az):Prop:=wS x.IW/\(wLb 32 lj) x.IH
def fw (x:ao):Prop:=um x.IJ/\wI x.I6/\wI x.II/\(wLb 40 km) x.IC
def wd (x:bI):Prop:=wS x.IJ/\wI x.ID/\wI x.IF/\(wL mO) x.IC
def gr (x:al):Prop:=BF x.IE/\ob x.I0/\wd x.I4/\wc x.Jb/\(wL lP) x.I1/\fw x.IL
set_option linter.unusedSimpArgs false
theorem oc {k v:Int} (h:gy k v=0):bm k 2=true/\bm v 2=true:=by
 unfold gy gb at h;have e:(2:Int) ^ (8*(2:Int).toNat - 1)=32768:=by decide
 have hv: ∀ n:Int,-100<=n->n<=100->bm n 2=true:=fun n h1 h2=>by
  unfold bm;simp only[Bool.and_eq_true,decide_eq_true_eq];omega
 by_cases h0:k=0
 ·simp[h0] at h;exact⟨hv _ Mc Mc,hv _ Mc Mc⟩
 by_cases h1:k=22
 ·simp[h1] at h;exact⟨hv _ Mc Mc,hv _ Mc Mc⟩
 by_cases h2:k=24
 ·simp[h2] at h;exact⟨hv _ Mc Mc,hv _ Mc Mc⟩
 by_cases h3:k=26
 ·simp[h3] at h;exact⟨hv _ Mc Mc,hv _ Mc Mc⟩
 by_cases h4:k=27
 ·simp[h4] at h;exact⟨hv _ Mc Mc,hv _ Mc Mc⟩
 simp[h0,h1,h2,h3,h4] at h
def r9 (h:e7):List UInt8:=be h.IP 2++(be h.IO 2++(be h.IY 4++(be (blen h.IK) 2++h.IK.data)))
def okH (h:e7):Prop:=gy h.IP h.IO=0/\bm h.IY 4=true/\bm (blen h.IK) 2=true/\bu h.IK=true
def yA:Pr e7:=(eI 2).bind fun k=>(eI 2).bind fun v=>if gy k v=0 then (eI 4).bind fun n=>(lT 2).bind fun c=> .ret ⟨k,v,n,c⟩ else .err (gy k v)
theorem FO:Sp yA r9 okH:=by
 refine⟨fun s q a r hq h=> ?_,fun s t q a hq ha h=> ?_⟩
 ·obtain⟨k,q1,h1,h⟩:=Pr.bind_ok h;obtain⟨v,q2,h2,h⟩:=Pr.bind_ok h;split at h
  ·rename_i hv;obtain⟨n,q3,h3,h⟩:=Pr.bind_ok h;obtain⟨c,q4,h4,h⟩:=Pr.bind_ok h;injection h with h;obtain⟨rfl,rfl⟩:=JP h;obtain⟨a1,a2,a3,a4,a5⟩:=(dL 2 Md Md).spell _ _ _ _ hq h1;obtain⟨b1,b2,b3,b4,b5⟩:=(dL 2 Md Md).spell _ _ _ _ a2 h2;obtain⟨c1,c2,c3,c4,c5⟩:=(dL 4 Md Md).spell _ _ _ _ b2 h3;obtain⟨d1,d2,d3,d4,d5⟩:=(gj 2 Md Md).spell _ _ _ _ c2 h4;refine⟨by omega,d2,?_,?_,hv,c5,d5.1,d5.2⟩
   ·simp only[r9,Js] at *;omega
   ·rw[d4,c4,b4,a4];simp only[r9,Jw]
  ·exact nomatch h
 ·obtain⟨a1,a2,a3,a4⟩:=ha;obtain⟨f1,f2⟩:=oc a1;have hl:=congrArg List.length h;simp only[r9,JA,Js,ax] at hl;simp only[r9,Jw] at h;have g1:=(dL 2 Md Md).back _ _ _ _ hq f1 h;have h:=bZ h;have g2:=(dL 2 Md Md).back _ _ _ _ (by rw[ax]; omega) f2 h;have h:=bZ h;have g3:=(dL 4 Md Md).back _ _ _ _ (by simp only[ax]; omega) a2 h;have h:=bZ h;rw[<- Jw] at h;have g4:=(gj 2 Md Md).back _ _ _ _ (by simp only[ax]; omega) ⟨a3,a4⟩ h;rw[yA,Pr.bind_of g1,Pr.bind_of g2,Mg a1,Pr.bind_of g3,Pr.bind_of g4];simp only[Pr.ret,r9,Js,Nat.add_assoc]
def zHead:e7:=⟨0,0,0,⟨false,[]⟩⟩
theorem Q_head:CQ fR yA zHead:=by
 refine⟨fun st h=> ?_,fun s q hq=> ?_⟩
 ·unfold fR;simp only[jJ h,j9 h,bn,Jo,Mh h];rfl
 ·unfold fR yA;rcases Q2.run s q hq with⟨e,st,p1,g1,x1,y1⟩ | ⟨k,q1,p1,g1,n1,l1⟩
  ·refine .inl ⟨e,st,Pr.bind_err p1,?_,x1,y1⟩;simp only[g1,jJ y1,j9 y1,bn,Jo,Mh y1];rfl
  simp only[g1,Jo,Pr.bind_of p1];rcases Q2.run s q1 l1 with⟨e,st,p2,g2,x2,y2⟩ | ⟨v,q2,p2,g2,n2,l2⟩
  ·refine .inl ⟨e,st,Pr.bind_err p2,?_,x2,y2⟩;simp only[g2,jJ y2,j9 y2,bn,Jo,Mh y2];rfl
  simp only[g2,Jo,Pr.bind_of p2,bn,uh,if_true];by_cases hv:gy k v=0
  ·simp only[Mg hv];rcases Q4.run s q2 l2 with⟨e,st,p3,g3,x3,y3⟩ | ⟨n,q3,p3,g3,n3,l3⟩
   ·refine .inl ⟨e,st,Pr.bind_err p3,?_,x3,y3⟩;simp only[g3,jJ y3,j9 y3,bn,Jo,Mh y3];rfl
   simp only[g3,Jo,Pr.bind_of p3];rcases QF2.run s q3 l3 with⟨e,st,p4,g4,x4,y4⟩ | ⟨c,q4,p4,g4,n4,l4⟩
   ·refine .inl ⟨e,st,Pr.bind_err p4,?_,x4,y4⟩;simp only[g4,jJ y4,j9 y4,bn,Jo,Mh y4];rfl
   refine .inr ⟨⟨k,v,n,c⟩,q4,by rw[Pr.bind_of p4]; rfl,?_,by omega,l4⟩;simp only[g4,Jo,if_true]
  ·simp only[Mh hv];have y:(⟨s.drop q2,q2,gy k v⟩:I).err≠0:=hv;refine .inl ⟨gy k v,⟨s.drop q2,q2,gy k v⟩,rfl,?_,rfl,hv⟩;simp only[cY,qG,Jo,jJ y,j9 y,bn,Mh hv];rfl
def mP (h:e7):Int:=if gy h.IP h.IO=0 then (if bm h.IY 4=true then (if bu h.IK=true then (if (h.IK.data.length:Int)>32767 then 4 else 0) else 4) else 11) else gy h.IP h.IO
theorem Ee (h:e7) (hn:wI h.IY):gh h=some (mP h):=by
 unfold gh mP;rw[uh,Jo];by_cases h1:gy h.IP h.IO=0
 ·rw[Mg h1,Mg h1,fe _ _ hn,Jo];by_cases h2:bm h.IY 4=true
  ·rw[Mg h2,Mg h2,oE,Jo];by_cases h3:bu h.IK=true
   ·rw[Mg h3,Mg h3];split <;> rfl
   ·rw[Mh h3,Mh h3]
  ·rw[Mh h2,Mh h2]
 ·rw[Mh h1,Mh h1]
theorem Az {h:e7} (hc:mP h=0):okH h:=by
 unfold mP at hc;split at hc
 ·rename_i h1;split at hc
  ·rename_i h2;split at hc
   ·rename_i h3;split at hc
    ·exact absurd hc Md
    ·exact⟨h1,h2,eZ (.inl rfl) (by unfold blen; split <;> omega) (by unfold blen; split <;> omega),h3⟩
   ·exact absurd hc Md
  ·exact absurd hc Md
 ·rename_i h1;exact absurd hc h1
theorem uq (h:e7) (t:List UInt8) (ht:t.length<=140737488000000) (hn:wI h.IY) (hl:h.IK.data.length<=40000):gi (t,0) h=some (if mP h=0 then (t++r9 h,0) else (t,mP h)):=by
 unfold gi;rw[Ee h hn,Jo];by_cases hc:mP h=0
 ·rw[Mg hc,Mg hc];obtain⟨o1,o2,o3,o4⟩:=Az hc;rw[dI (oc o1).1 Mc,Jo,dI (oc o1).2 (by simp only[Js,ax]; omega),Jo];rw[dI o2 (by simp only[Js,ax]; omega),Jo,iK o3 o4 (by simp only[Js,ax]; omega),Jo];simp only[r9,Jw];rfl
 ·rw[Mh hc,Mh hc,ma,BE];rfl
def qI (each:Nat) (n:Int):Pr Int:=fun s q=>if n<0 then .error 4 else if 0<each/\((s.length - q:Nat):Int) / each<n then .error 1 else .ok (n,q)
def od (k each:Nat):Pr Int:=(eI k).bind (qI each)
theorem kP {k each:Nat} (h1:1<=k) (h8:k<=8) {s:List UInt8} {q r:Nat} {n:Int} (hq:q<=s.length) (h:od k each s q= .ok (n,r)):0<=n/\(0<each->n*each<=((s.length - r:Nat):Int))/\r=q+k/\r<=s.length/\s.take r=s.take q++be n k/\bm n k=true:=by
 obtain⟨m,r',h2,h⟩:=Pr.bind_ok h;obtain⟨a1,a2,a3,a4,a5⟩:=(dL k h1 h8).spell _ _ _ _ hq h2;unfold qI at h;split at h
 ·exact nomatch h
 ·rename_i hn;split at h
  ·exact nomatch h
  ·rename_i he;injection h with h;obtain⟨rfl,rfl⟩:=JP h;rw[ax] at a3;refine⟨by omega,fun hz=> ?_,a3,a2,a4,a5⟩;have:m<=((s.length - r':Nat):Int) / each:=by
    rcases Int.lt_or_le (((s.length - r':Nat):Int) / each) m with g | g
    ·exact absurd ⟨hz,g⟩ he
    ·exact g
   exact (Int.le_ediv_iff_mul_le Mc).1 this
theorem C1 {k each:Nat} (h1:1<=k) (h8:k<=8) {s t:List UInt8} {q:Nat} {n:Int} (hq:q<=s.length) (hf:bm n k=true) (hn:0<=n) (h:s.drop q=be n k++t) (hl:0<each->n*each<=t.length):od k each s q= .ok (n,q+k):=by
 have g:=(dL k h1 h8).back s t q n hq hf h;rw[ax] at g;rw[od,Pr.bind_of g];unfold qI;have hlen:=congrArg List.length h;rw[JA,Js,ax] at hlen;rw[Mh Mc,Mh];rintro⟨hz,hc⟩;have:=(Int.le_ediv_iff_mul_le (show (0:Int)<each by omega)).2 (hl hz);rw[show s.length - (q+k)=t.length by omega] at hc;omega
theorem qJ (k each:Nat) (h1:1<=k) (h8:k<=8) (kk ee:Int) (hk:kk=(k:Int)) (he:ee=(each:Int)) (h9:ee<=1000):CQ (fun st=>ie st kk ee) (od k each) 0:=by
 subst hk;refine⟨fun st h=> ?_,fun s q hq=> ?_⟩
 ·show ie st k ee= _;rw[rm _ _ _ ⟨by omega,by omega⟩];unfold ke;rw[l9 h];simp only;rw[Mg h]
 ·show (∃ e st,od k each s q= .error e/\ie ⟨s.drop q,q,0⟩ k ee=some (0,st)/\ _/\ _)\/(∃ a r,od k each s q= .ok (a,r)/\ie ⟨s.drop q,q,0⟩ k ee=some (a,⟨s.drop r,r,0⟩)/\q<=r/\r<=s.length);rw[rm _ _ _ ⟨by omega,by omega⟩];unfold ke;rcases (yz k h1 h8 k rfl).run s q hq with⟨e,st,p1,g1,x1,y1⟩ | ⟨n,r,p1,g1,n1,l1⟩
  ·rw[iM] at g1;have g1:=Jp g1;obtain⟨u1,u2⟩:=JP g1;rw[u2];exact .inl ⟨e,st,Pr.bind_err p1,by rw[Mg y1],x1,y1⟩
  ·rw[iM] at g1;have g1:=Jp g1;have u3:ew ⟨s.drop q,q,0⟩ k=(n,⟨s.drop r,r,0⟩):=g1;rw[u3,od,Pr.bind_of p1];simp only;rw[Mh (by simp)];unfold qI;by_cases hn:n<0
   ·rw[Mg hn,Mg hn];exact .inl ⟨4,_,rfl,rfl,rfl,by simp[cX]⟩
   ·rw[Mh hn,Mh hn,JA,he];by_cases hc:0<each/\((s.length - r:Nat):Int) / each<n
    ·rw[Mg hc,Mg ⟨by omega,hc.2⟩];exact .inl ⟨1,_,rfl,rfl,rfl,by simp[cX]⟩
    ·rw[Mh hc,Mh (fun h=>hc ⟨by omega,h.2⟩)];exact .inr ⟨n,r,rfl,rfl,n1,l1⟩
theorem lk {st:I} {k e:Int} (h:st.err≠0) (hk:0<=k/\k<=1000) (he:0<=e/\e<=1000):ie st k e=some (0,st):=by
 rw[rm _ _ _ ⟨by omega,by omega⟩];unfold ke;rw[l9 h];simp only;rw[Mg h]
def il {α:Type} (p:Pr α):Nat->Pr (List α)
 | 0=> .ret []
 | n+1=>p.bind fun a=>(il p n).bind fun l=> .ret (a::l)
def aS {α:Type} (enc:α->List UInt8):List α->List UInt8
 | [] => []
 | a::l=>enc a++aS enc l
theorem ur {α:Type} {p:Pr α} {enc:α->List UInt8} {ok:α->Prop} (hp:Sp p enc ok): ∀ n:Nat,Sp (il p n) (aS enc) (fun l=>l.length=n/\ ∀ x,x∈l->ok x)
 | 0=>by
  refine⟨fun s q a r hq h=> ?_,fun s t q a hq ha h=> ?_⟩
  ·injection h with h;obtain⟨rfl,rfl⟩:=JP h;exact⟨JN _,hq,rfl,by simp[aS],rfl,fun x h=>nomatch h⟩
  ·obtain rfl:=List.length_eq_zero_iff.1 ha.1;rfl
 | n+1=>by
  have ih:=ur hp n;refine⟨fun s q a r hq h=> ?_,fun s t q a hq ha h=> ?_⟩
  ·obtain⟨x,q1,h1,h⟩:=Pr.bind_ok h;obtain⟨l,q2,h2,h⟩:=Pr.bind_ok h;injection h with h;obtain⟨rfl,rfl⟩:=JP h;obtain⟨a1,a2,a3,a4,a5⟩:=hp.spell _ _ _ _ hq h1;obtain⟨b1,b2,b3,b4,b5,b6⟩:=ih.spell _ _ _ _ a2 h2;refine⟨by omega,b2,by rw[aS,Js]; omega,by rw[b4,a4,aS,Jw],by rw[Jz,b5],fun y hy=> ?_⟩;rcases List.mem_cons.1 hy with rfl | hy
   ·exact a5
   ·exact b6 y hy
  ·obtain⟨ha1,ha2⟩:=ha
   cases a with
   | nil=>exact absurd ha1 (by simp)
   | cons x l =>
    rw[aS,Jw] at h;have hl:=congrArg List.length h;rw[JA,Js] at hl;have g1:=hp.back _ _ _ _ hq (ha2 x (.head _)) h;have g2:=ih.back _ _ _ _ Mc ⟨by simpa using ha1,fun y hy=>ha2 y (.tail _ hy)⟩ (bZ h);rw[il,Pr.bind_of g1,Pr.bind_of g2];simp only[Pr.ret,aS,Js,Nat.add_assoc]
theorem mQ {α:Type} {enc:α->List UInt8} {ok:α->Prop} {each:Nat} (he: ∀ x,ok x->each<=(enc x).length): ∀ l:List α,(∀ x,x∈l->ok x)->l.length*each<=(aS enc l).length
 | [],h=>by simp
 | x::l,h=>by
  have:=mQ he l (fun y hy=>h y (.tail _ hy));have:=he x (h x (.head _));rw[aS,Js,Jz,Nat.add_mul];omega
def ko {α:Type} (k each:Nat) (p:Pr α):Pr (List α):=(od k each).bind fun n=>il p n.toNat
theorem ut {α:Type} {p:Pr α} {enc:α->List UInt8} {ok:α->Prop} (k each:Nat) (h1:1<=k) (h8:k<=8) (hp:Sp p enc ok) (he: ∀ x,ok x->each<=(enc x).length):Sp (ko k each p) (fun l=>be (l.length:Int) k++aS enc l) (fun l=>bm (l.length:Int) k=true/\ ∀ x,x∈l->ok x):=by
 refine⟨fun s q a r hq h=> ?_,fun s t q a hq ha h=> ?_⟩
 ·obtain⟨n,q1,g1,h⟩:=Pr.bind_ok h;obtain⟨a1,a2,a3,a4,a5,a6⟩:=kP h1 h8 hq g1;obtain⟨b1,b2,b3,b4,b5,b6⟩:=(ur hp n.toNat).spell _ _ _ _ a4 h;have hn:(a.length:Int)=n:=by omega
  refine⟨by omega,b2,by rw[Js,ax]; omega,by rw[b4,a5,hn,Jw],by rw[hn]; exact a6,b6⟩
 ·rw[Jw] at h;have hl:=congrArg List.length h;rw[JA,Js,Js,ax] at hl;have g1:=C1 (each:=each) h1 h8 hq ha.1 Mc h (fun _=>by
   have:=mQ he a ha.2;rw[Js,Int.natCast_add,<- Int.natCast_mul];omega)
  have h2:=bZ h;rw[ax] at h2;have g2:=(ur hp a.length).back _ _ _ _ Mc ⟨rfl,ha.2⟩ h2;rw[ko,Pr.bind_of g1,Kp,g2,Js,ax];simp only[Nat.add_assoc]
structure CB {α:Type} (op:I->Option (α×I)) (p:Pr α) (z:α):Prop where
 dead: ∀ st:I,st.err≠0->op st=some (z,st)
 run: ∀ (s:List UInt8) (q:Nat),s.length<=1000000->q<=s.length->(∃ (e:Int) (st:I),p s q= .error e/\op ⟨s.drop q,q,0⟩=some (z,st)/\st.err=e/\st.err≠0)\/(∃ (a:α) (r:Nat),p s q= .ok (a,r)/\op ⟨s.drop q,q,0⟩=some (a,⟨s.drop r,r,0⟩)/\q<=r/\r<=s.length)
theorem CQ.cb {α:Type} {op:I->Option (α×I)} {p:Pr α} {z:α} (h:CQ op p z):CB op p z:=⟨h.dead,fun s q _ hq=>h.run s q hq⟩
theorem Sp.congr {α:Type} {p:Pr α} {enc enc':α->List UInt8} {ok ok':α->Prop} (h:Sp p enc ok) (hok: ∀ a,ok a↔ok' a) (he: ∀ a,ok a->enc a=enc' a):Sp p enc' ok':=by
 refine⟨fun s q a r hq hp=> ?_,fun s t q a hq ha hd=> ?_⟩
 ·obtain⟨h1,h2,h3,h4,h5⟩:=h.spell s q a r hq hp;rw[<- he a h5];exact⟨h1,h2,h3,h4,(hok a).1 h5⟩
 ·have ha':=(hok a).2 ha;rw[<- he a ha'] at hd ⊢;exact h.back s t q a hq ha' hd
theorem Sp.seq {α β:Type} {p:Pr α} {f:α->Pr β} {π:β->α} {enc1:α->List UInt8} {enc2:β->List UInt8} {ok1:α->Prop} {ok2:β->Prop} (hp:Sp p enc1 ok1) (hf: ∀ a,Sp (f a) enc2 (fun x=>ok2 x/\π x=a)) :
 Sp (p.bind f) (fun x=>enc1 (π x)++enc2 x) (fun x=>ok1 (π x)/\ok2 x):=by
 refine⟨fun s q x r hq h=> ?_,fun s t q x hq hx hd=> ?_⟩
 ·obtain⟨a,m,h1,h2⟩:=Pr.bind_ok h;obtain⟨a1,a2,a3,a4,a5⟩:=hp.spell s q a m hq h1;obtain⟨b1,b2,b3,b4,b5,b6⟩:=(hf a).spell s m x r a2 h2;subst b6;exact⟨by omega,b2,by rw[Js]; omega,by rw[b4,a4,Jw],a5,b5⟩
 ·rw[Jw] at hd;have h1:=hp.back s _ q (π x) hq hx.1 hd;have hl:=congrArg List.length hd;rw[JA,Js] at hl;have h2:=(hf (π x)).back s t _ x Mc ⟨hx.2,rfl⟩ (bZ hd);rw[Pr.bind_of h1,h2,Js,Nat.add_assoc]
theorem uu {β:Type} (x0:β) (c:Prop) [Decidable c] (e:Int):Sp (if c then Pr.ret x0 else Pr.err e) (fun _ => []) (fun x=>c/\x=x0):=by
 refine⟨fun s q x r hq h=> ?_,fun s t q x hq hx hd=> ?_⟩
 ·by_cases hc:c
  ·rw[Mg hc] at h;injection h with h;obtain⟨rfl,rfl⟩:=JP h;exact⟨JN _,hq,rfl,by simp,hc,rfl⟩
  ·rw[Mh hc] at h;exact nomatch h
 ·rw[Mg hx.1,hx.2];rfl
theorem Eg {β:Type} (x0:β):Sp (Pr.ret x0) (fun _ => []) (fun x=>x=x0):=by
 refine⟨fun s q x r hq h=> ?_,fun s t q x hq hx hd=> ?_⟩
 ·injection h with h;obtain⟨rfl,rfl⟩:=JP h;exact⟨JN _,hq,rfl,by simp,rfl⟩
 ·rw[hx];rfl
theorem CB.bind {α β:Type} {op1:I->Option (α×I)} {p:Pr α} {z1:α} {op2:α->I->Option (β×I)} {f:α->Pr β} {z:β} (W:α->Prop) (h:CB op1 p z1)
 (hs: ∀ s q a r,s.length<=1000000->q<=s.length->p s q= .ok (a,r)->W a) (hz:W z1) (hf: ∀ a,W a->CB (op2 a) (f a) z):CB (fun st=>(op1 st).bind fun (a,st1)=>op2 a st1) (p.bind f) z:=by
 refine⟨fun st hd=> ?_,fun s q hl hq=> ?_⟩
 ·show (op1 st).bind _= _;rw[h.dead st hd,Jo];exact (hf z1 hz).dead st hd
 ·rcases h.run s q hl hq with⟨e,st,p1,g1,x1,y1⟩ | ⟨a,r,p1,g1,n1,l1⟩
  ·refine .inl ⟨e,st,Pr.bind_err p1,?_,x1,y1⟩;show (op1 _).bind _= _;rw[g1,Jo];exact (hf z1 hz).dead st y1
  ·have g2:((op1 ⟨s.drop q,q,0⟩).bind fun (a,st1)=>op2 a st1)=op2 a ⟨s.drop r,r,0⟩:=by rw[g1,Jo]
   show (∃ e st,p.bind f s q= _/\((op1 ⟨s.drop q,q,0⟩).bind fun (a,st1)=>op2 a st1)= _/\ _/\ _)\/(∃ x m,p.bind f s q= _/\((op1 ⟨s.drop q,q,0⟩).bind fun (a,st1)=>op2 a st1)= _/\ _/\ _);rw[g2,Pr.bind_of p1];rcases (hf a (hs s q a r hl hq p1)).run s r hl l1 with⟨e,st,p2,k2,x2,y2⟩ | ⟨b,m,p2,k2,n2,l2⟩
   ·exact .inl ⟨e,st,p2,k2,x2,y2⟩
   ·exact .inr ⟨b,m,p2,k2,by omega,l2⟩
theorem CB.congr {α:Type} {op op':I->Option (α×I)} {p:Pr α} {z:α} (h:CB op p z) (he: ∀ st,op' st=op st):CB op' p z:=⟨fun st hd=>(he st).trans (h.dead st hd),fun s q hl hq=>by rw[he]; exact h.run s q hl hq⟩
theorem CB.pr {α:Type} {op:I->Option (α×I)} {p p':Pr α} {z:α} (h:CB op p z) (he:p=p'):CB op p' z:=he ▸ h
theorem oe {k:Nat} (h1:1<=k) (h8:k<=8): ∀ (s:List UInt8) (q:Nat) (a:Int) (r:Nat),s.length<=1000000->q<=s.length->eI k s q= .ok (a,r)-> -9223372036854775808<=a/\a<=9223372036854775807 :=
 fun s q a r _ hq h=>d7 ((dL k h1 h8).spell s q a r hq h).2.2.2.2
def qK:Pr Bool:=(eI 1).bind fun n=>if n=0 then .ret false else if n=1 then .ret true else .err 11
def jV (b:Bool):List UInt8:=be (if b=true then 1 else 0) 1
theorem BG:Sp qK jV (fun _=>True):=by
 refine⟨fun s q x r hq h=> ?_,fun s t q x hq hx hd=> ?_⟩
 ·obtain⟨n,m,h1,h⟩:=Pr.bind_ok h;obtain⟨a1,a2,a3,a4,a5⟩:=(dL 1 Md Md).spell s q n m hq h1;by_cases h0:n=0
  ·rw[Mg h0] at h;injection h with h;obtain⟨rfl,rfl⟩:=JP h;subst h0;exact⟨a1,a2,a3,a4,trivial⟩
  ·rw[Mh h0] at h;by_cases h1:n=1
   ·rw[Mg h1] at h;injection h with h;obtain⟨rfl,rfl⟩:=JP h;subst h1;exact⟨a1,a2,a3,a4,trivial⟩
   ·rw[Mh h1] at h;exact nomatch h
 ·cases x with
  | true =>
   have:=(dL 1 Md Md).back s t q 1 hq Md hd;rw[qK,Pr.bind_of this];rfl
  | false =>
   have:=(dL 1 Md Md).back s t q 0 hq Md hd;rw[qK,Pr.bind_of this];rfl
theorem xr {α:Type} {op:I->Option (α×I)} {x0 z:α} {e:Int} (h: ∀ st:I,st.err≠0->op st=some (z,st)) (h0: ∀ st:I,st.err=0->op st=some (if e=0 then (x0,st) else (z,cX st e))):CB op (if e=0 then .ret x0 else .err e) z:=by
 refine⟨h,fun s q hl hq=> ?_⟩;by_cases he:e=0
 ·rw[Mg he,h0 _ rfl,Mg he];exact .inr ⟨x0,q,rfl,rfl,JN _,hq⟩
 ·rw[Mh he,h0 _ rfl,Mh he];exact .inl ⟨e,_,rfl,rfl,rfl,he⟩
def ll:Pr Top:=uk.bind fun nm=>(ko 4 4 (eI 4)).bind fun ps=> .ret ⟨nm,ps⟩
def nw (t:Top):List UInt8:=(be (t.IW.length:Int) 2++t.IW)++(be (t.IH.length:Int) 4++aS (fun n=>be n 4) t.IH)
def okT (t:Top):Prop:=bm (t.IW.length:Int) 2=true/\bm (t.IH.length:Int) 4=true/\ ∀ n,n∈t.IH->bm n 4=true
theorem yB:Sp (ko 4 4 (eI 4)) (fun l=>be (l.length:Int) 4++aS (fun n=>be n 4) l) (fun l=>bm (l.length:Int) 4=true/\ ∀ n,n∈l->bm n 4=true):=ut 4 4 Md Md (dL 4 Md Md) (fun x _=>by rw[ax]; decide)
theorem Eh:Sp ll nw okT:=by
 refine⟨fun s q a r hq h=> ?_,fun s t q a hq ha h=> ?_⟩
 ·obtain⟨k,q1,h1,h⟩:=Pr.bind_ok h;obtain⟨v,q2,h2,h⟩:=Pr.bind_ok h;injection h with h;obtain⟨rfl,rfl⟩:=JP h;obtain⟨a1,a2,a3,a4,a5⟩:=mN.spell _ _ _ _ hq h1;obtain⟨b1,b2,b3,b4,b5⟩:=yB.spell _ _ _ _ a2 h2;exact⟨by omega,b2,by simp only[nw,Js] at *; omega,by rw[b4,a4]; simp only[nw,Jw],a5.1,b5⟩
 ·obtain⟨a1,a2,a3⟩:=ha;have hl:=congrArg List.length h;rw[nw,Jw] at h;have g1:=mN.back _ _ _ _ hq ⟨a1,rfl⟩ h;have h:=bZ h;have g2:=yB.back _ _ _ _ (by simp only[nw,JA,Js,ax] at *; omega) ⟨a2,a3⟩ h;rw[ll,Pr.bind_of g1,Pr.bind_of g2];simp only[Pr.ret,nw,Js,Nat.add_assoc]
theorem BH (t:Top) (h:okT t):6<=(nw t).length:=by simp only[nw,Js,ax]; omega
theorem sa:Sp (ko 4 6 ll) (fun l=>be (l.length:Int) 4++aS nw l) (fun l=>bm (l.length:Int) 4=true/\ ∀ t,t∈l->okT t):=ut 4 6 Md Md Eh BH
theorem we (n:Int) (s:List UInt8) (hn:n<=1000000): ∀ (m fuel k:Nat) (acc:List Int) (q:Nat),((k+m:Nat):Int)=n->m<fuel->q+4*m<=s.length->acc.length=k ->
 ∃ l,il (eI 4) m s q= .ok (l,q+4*m)/\cv n fuel k acc ⟨s.drop q,q,0⟩=some (k+m,acc++l,⟨s.drop (q+4*m),q+4*m,0⟩)
 | 0,fuel+1,k,acc,q,h1,h2,h3,h4=>⟨[],rfl,by rw[cv,Mh Mc,JE]; rfl⟩
 | m+1,fuel+1,k,acc,q,h1,h2,h3,h4=>by
  rw[cv,Mg Mc];rcases Q4.run s q Mc with⟨e,st,p1,g1,x1,y1⟩ | ⟨a,r,p1,g1,n1,l1⟩
  ·unfold eI at p1;rw[Mh Mc] at p1;exact nomatch p1
  ·have hr:r=q+4:=by
    unfold eI at p1;rw[Mh Mc] at p1;injection p1 with p1;exact (JP p1).2.symm
   subst hr;rw[g1];simp only[Jo];rw[Mg Mc,Mg Mc];obtain⟨l,e1,e2⟩:=we n s hn m fuel (k+1) (acc ++ [a]) (q+4) Mc Mc Mc (by rw[Js,h4]; rfl);have eq:q+4+4*m=q+4*(m+1):=by omega
   rw[eq] at e1 e2;refine⟨a::l,?_,?_⟩
   ·rw[il,Pr.bind_of p1,Pr.bind_of e1];rfl
   ·rw[e2,Jw];rw[show k+1+m=k+(m+1) by omega];rfl
theorem wg (n:Int) (s:List UInt8) (hs:s.length<=1000000) (hn:n<=1000000): ∀ (m fuel k:Nat) (acc:List Top) (q:Nat),((k+m:Nat):Int)=n->m<fuel->q<=s.length->acc.length=k ->
 (∃ (e:Int) (st:I),il ll m s q= .error e/\bQ n fuel [] acc k ⟨s.drop q,q,0⟩=some (.ret ([],st))/\st.err=e/\st.err≠0) \/
 (∃ l r,il ll m s q= .ok (l,r)/\bQ n fuel [] acc k ⟨s.drop q,q,0⟩=some (.go ([],acc++l,k+m,⟨s.drop r,r,0⟩))/\q<=r/\r<=s.length)
 | 0,fuel+1,k,acc,q,h1,h2,h3,h4=> .inr ⟨[],q,rfl,by rw[bQ,Mh Mc,JE]; rfl,JN _,h3⟩
 | m+1,fuel+1,k,acc,q,h1,h2,h3,h4=>by
  rw[bQ,Mg Mc];have died: ∀ (st:I) (t:List UInt8),st.err≠0->((ie st 4 4).bind fun (x24,st25)=>(cv x24 ((x24).toNat+1) 0 [] st25).bind fun (k57,y58,st61)=>if (acc.length+1)*40<=140737488355328 then ((gt st61).bind fun (x66,st67)=>if x66=0 then (if -9223372036854775808<=((k:Int)+1)/\((k:Int)+1)<=9223372036854775807 then (bQ n fuel [] (acc ++ [(⟨t,y58⟩:Top)]) (k+1) st67) else none) else (some (Lp.ret ([],st67)))) else none)=some (Lp.ret ([],st)):=by
   intro st t h;rw[lk h Md Md];simp only[Jo];rw[show (0:Int).toNat+1=1 from rfl,cv,Mh Md];simp only[Jo,bn];rw[Mg Mc,Mh h]
  rcases QT.run s q h3 with⟨e,st,p1,g1,x1,y1⟩ | ⟨nm,q1,p1,g1,n1,l1⟩
  ·left;refine⟨e,st,by rw[il,Pr.bind_err (show ll s q= .error e from Pr.bind_err p1)],?_,x1,y1⟩;rw[g1];simp only[Jo];exact died st [] y1
  rw[g1];simp only[Jo];rcases (qJ 4 4 Md Md 4 4 rfl rfl Md).run s q1 l1 with⟨e,st,p2,g2,x2,y2⟩ | ⟨c,q2,p2,g2,n2,l2⟩
  ·left;refine⟨e,st,by rw[il,Pr.bind_err]; rw[ll,Pr.bind_of p1,Pr.bind_err]; rw[ko,Pr.bind_err p2],?_,x2,y2⟩;have:=died st nm y2;rw[lk y2 Md Md] at this;rw[g2];exact this
  obtain⟨c1,c2,c3,c4,c5,c6⟩:=kP Md Md l1 p2;have c2:=c2 Md;rw[g2];simp only[Jo];obtain⟨ps,e1,e2⟩:=we c s Mc c.toNat (c.toNat+1) 0 [] q2 Mc Mc Mc rfl;rw[e2];simp only[Jo,bn,if_true];rw[Mg Mc,Mg Mc,JI];have ht:ll s q= .ok (⟨nm,ps⟩,q2+4*c.toNat):=by
   rw[ll,Pr.bind_of p1,Pr.bind_of (a:=ps) (r:=q2+4*c.toNat) (by rw[ko,Pr.bind_of p2,e1])];rfl
  rw[il,Pr.bind_of ht];rcases wg n s hs hn m fuel (k+1) (acc ++ [⟨nm,ps⟩]) (q2+4*c.toNat) Mc Mc Mc (by rw[Js,h4]; rfl) with⟨e,st,r1,r2,r3,r4⟩ | ⟨l,r,r1,r2,r3,r4⟩
  ·exact .inl ⟨e,st,by rw[Pr.bind_err r1],r2,r3,r4⟩
  ·refine .inr ⟨⟨nm,ps⟩::l,r,by rw[Pr.bind_of r1]; rfl,?_,by omega,r4⟩;rw[r2,Jw,show k+1+m=k+(m+1) by omega];rfl
theorem yC:CB dr (ko 4 6 ll) []:=by
 refine⟨fun st h=> ?_,fun s q hs hq=> ?_⟩
 ·unfold dr;rw[lk h Md Md];simp only[Jo];rw[show (0:Int).toNat+1=1 from rfl,bQ,Mh Md];rfl
 ·unfold dr;rcases (qJ 4 6 Md Md 4 6 rfl rfl Md).run s q hq with⟨e,st,p1,g1,x1,y1⟩ | ⟨c,q1,p1,g1,n1,l1⟩
  ·refine .inl ⟨e,st,Pr.bind_err p1,?_,x1,y1⟩;rw[g1];simp only[Jo];rw[show (0:Int).toNat+1=1 from rfl,bQ,Mh Md];rfl
  ·obtain⟨c1,c2,c3,c4,c5,c6⟩:=kP Md Md hq p1;have c2:=c2 Md;rw[g1,ko,Pr.bind_of p1];simp only[Jo];rcases wg c s hs Mc c.toNat (c.toNat+1) 0 [] q1 Mc Mc l1 rfl with⟨e,st,r1,r2,r3,r4⟩ | ⟨l,r,r1,r2,r3,r4⟩
   ·exact .inl ⟨e,st,r1,by rw[r2]; rfl,r3,r4⟩
   ·refine .inr ⟨l,r,r1,?_,by omega,r4⟩;rw[r2,JI];rfl
theorem iw {α:Type} {l:List α} {k:Nat} {x:α} {t:List α} (h:l.drop k=x::t):l[k]? = some x/\l.drop (k+1)=t/\l.length=k+1+t.length:=by
 have hl:=congrArg List.length h;rw[JA,Jz] at hl;refine⟨?_,?_,by omega⟩
 ·have:=congrArg (fun z=>z[0]?) h;simpa using this
 ·rw[<- Kf,h];rfl
theorem uv {α:Type} {l:List α} {k:Nat} (h:l.drop k = []):l.length<=k:=List.drop_eq_nil_iff.1 h
def up {α:Type} (lt:α->α->Bool):Option α->List α->Bool
 | _,[]=>true
 | none,x::t=>up lt (some x) t
 | some p,x::t=>lt p x && up lt (some x) t
def ltI (a b:Int):Bool:=decide (a<b)
theorem wh (a0:List Int) (hb:a0.length<=140737488355328): ∀ (t:List Int) (p:Int) (k fuel:Nat) (y:Bool),a0.drop k=p::t->t.length<fuel-> ∃ z,cB a0 fuel y ((k:Int)+1)=some (if up ltI (some p) t=true then .go (y,z) else .ret false)
 | [],p,k,fuel+1,y,h,hf=>by
  obtain⟨h1,h2,h3⟩:=iw h;refine⟨(k:Int)+1,?_⟩;rw[cB,Mh (by simp only[J6] at h3; omega)];rfl
 | x::t,p,k,fuel+1,y,h,hf=>by
  obtain⟨h1,h2,h3⟩:=iw h;obtain⟨g1,g2,g3⟩:=iw h2;rw[Jz] at hf h3;obtain⟨z,hz⟩:=wh a0 hb t x (k+1) fuel y h2 Mc;rw[cB,Mg Mc,Mg Mc,Mg Mc,show ((k:Int)+1 - 1).toNat=k by omega,h1];rw[Jo];rw[Mg Mc,show ((k:Int)+1).toNat=k+1 by omega,g1];rw[Jo];by_cases hc:p<x
  ·rw[Mh Mc,Mg Mc];refine⟨z,?_⟩;rw[show ((k:Int)+1+1)=((k+1:Nat):Int)+1 by omega,hz];simp only[up,ltI,hc,decide_true,Bool.true_and]
  ·rw[Mg Mc];refine⟨0,?_⟩;simp only[up,ltI,hc,decide_false,Bool.false_and,Bool.false_eq_true,if_false]
theorem FP (a0:List Int) (hb:a0.length<=140737488355328):fo a0=some (up ltI none a0):=by
 unfold fo
 cases a0 with
 | nil=>rfl
 | cons x t =>
  obtain⟨z,hz⟩:=wh (x::t) hb t x 0 ((((x::t).length:Int) - 1).toNat+1) false rfl (by simp only[Jz]; omega);rw[show (((0:Nat):Int)+1)=1 from rfl] at hz;rw[hz];simp only[up];cases up ltI (some x) t <;> rfl
theorem wi (a0:List (List UInt8)) (hb:a0.length<=140737488355328): ∀ (t:List (List UInt8)) (p:List UInt8) (k fuel:Nat) (y:Bool),a0.drop k=p::t->t.length<fuel-> ∃ z,bV a0 fuel y ((k:Int)+1)=some (if up Op.bytesLess (some p) t=true then .go (y,z) else .ret false)
 | [],p,k,fuel+1,y,h,hf=>by
  obtain⟨h1,h2,h3⟩:=iw h;refine⟨(k:Int)+1,?_⟩;rw[bV,Mh (by simp only[J6] at h3; omega)];rfl
 | x::t,p,k,fuel+1,y,h,hf=>by
  obtain⟨h1,h2,h3⟩:=iw h;obtain⟨g1,g2,g3⟩:=iw h2;rw[Jz] at hf h3;obtain⟨z,hz⟩:=wi a0 hb t x (k+1) fuel y h2 Mc;rw[bV,Mg Mc,Mg Mc,Mg Mc,show ((k:Int)+1 - 1).toNat=k by omega,h1];simp only[Jo];rw[Mg Mc,show ((k:Int)+1).toNat=k+1 by omega,g1];simp only[Jo];by_cases hc:Op.bytesLess p x=true
  ·rw[Mg hc,Mg Mc];refine⟨z,?_⟩;rw[show ((k:Int)+1+1)=((k+1:Nat):Int)+1 by omega,hz];simp only[up,hc,Bool.true_and]
  ·rw[Mh hc];refine⟨0,?_⟩;simp only[up,hc,Bool.false_and,Bool.false_eq_true,if_false]
theorem FQ (a0:List (List UInt8)) (hb:a0.length<=140737488355328):ek a0=some (up Op.bytesLess none a0):=by
 unfold ek
 cases a0 with
 | nil=>rfl
 | cons x t =>
  obtain⟨z,hz⟩:=wi (x::t) hb t x 0 ((((x::t).length:Int) - 1).toNat+1) false rfl (by simp only[Jz]; omega);rw[show (((0:Nat):Int)+1)=1 from rfl] at hz;rw[hz];simp only[up];cases up Op.bytesLess (some x) t <;> rfl
def okn (n:Int):Bool:=decide (0<=n) && decide (n<=2147483647)
def C2 (l:List Int):Bool:=l.all okn && up ltI none l && !l.isEmpty
def vH (t:Top):Bool:= !t.IW.isEmpty && decide (t.IW.length<=32767) && C2 t.IH
def yD (l:List Top):Bool:=l.all vH && up Op.bytesLess none (l.map (·.IW))
theorem uw (y:Bool): ∀ l:List Int,(∀ n,n∈l->wI n)->d8 l y=some (if l.all okn=true then .go y else .ret false)
 | [],h=>rfl
 | n::l,h=>by
  have hn:=h n (.head _);rw[d8,fe _ _ hn,ej,List.all_cons];by_cases h1:n<0
  ·have:okn n=false:=by unfold okn; simp; omega
   rw[Mg h1,this];rfl
  ·rw[Mh h1,Jo];by_cases h2:n<=2147483647
   ·have:okn n=true:=by unfold okn; simp; omega
    rw[Mg (by simp; omega),uw y l (fun m hm=>h m (.tail _ hm)),this,Bool.true_and]
   ·have:okn n=false:=by unfold okn; simp; omega
    rw[Mh (by simp; omega),this];rfl
theorem Ei (l:List Int) (hw:wL wI l):ip l=some (C2 l):=by
 unfold ip C2;rw[uw false l hw.2]
 cases hall:l.all okn with
 | false=>rfl
 | true =>
  simp only[if_true,Jo,Bool.true_and]
  cases l with
  | nil=>rfl
  | cons x t =>
   rw[Mg (by simp only[Jz]; omega),FP _ (by have:=hw.1; omega)];simp
theorem qL (y:Bool): ∀ (l:List Top) (acc:List (List UInt8)),(∀ t,t∈l->mO t)->acc.length+l.length<=1000000->de l y acc=some (if l.all vH=true then .go (y,acc++l.map (·.IW)) else .ret false)
 | [],acc,h,hl=>by simp[de]
 | t::l,acc,h,hl=>by
  have ht:=h t (.head _);rw[Jz] at hl;rw[de,Ei _ ht.2,List.all_cons];by_cases h1:t.IW = []
  ·have:vH t=false:=by simp[vH,h1]
   rw[Mg h1,this];rfl
  ·rw[Mh h1];by_cases h2:(t.IW.length:Int)>32767
   ·have:vH t=false:=by simp[vH,show ¬ t.IW.length<=32767 by omega]
    rw[Mg h2,this];rfl
   ·rw[Mh h2,Jo];have hne:t.IW.isEmpty=false:=by cases hh:t.IW with | nil=>exact absurd hh h1 | cons c u=>rfl
    have ho:vH t=C2 t.IH:=by simp[vH,hne,show t.IW.length<=32767 by omega]
    rw[ho]
    cases hp:C2 t.IH with
    | false=>rfl
    | true =>
     rw[Mg rfl,Mg Mc,qL y l _ (fun u hu=>h u (.tail _ hu)) (by rw[Js]; simp only[Jz,J6]; omega),Bool.true_and,List.map_cons,Jw];rfl
theorem AA (l:List Top) (hw: ∀ t,t∈l->mO t) (hl:l.length<=1000000):eo l=some (yD l):=by
 unfold eo yD;rw[qL false l [] hw (by simpa using hl)]
 cases hall:l.all vH with
 | false=>rfl
 | true =>
  simp only[if_true,Jo,Bool.true_and,JI];rw[FQ _ (by rw[Kn]; omega)];rfl
theorem wj (a b:List Int) (ha:a.length<=140737488355328) (y:Bool): ∀ (t u:List Int) (k fuel:Nat),a.drop k=t->b.drop k=u->t.length=u.length->t.length<fuel-> ∃ z,eN a b fuel y k=some (if t=u then .go (y,z) else .ret false)
 | [],[],k,fuel+1,ht,hu,hl,hf=>by
  have:=uv ht;exact⟨k,by rw[eN,Mh Mc,Mg rfl]⟩
 | [],d::u,k,fuel,ht,hu,hl,hf=>by simp at hl
 | c::t,[],k,fuel,ht,hu,hl,hf=>by simp at hl
 | c::t,d::u,k,fuel+1,ht,hu,hl,hf=>by
  obtain⟨t1,t2,t3⟩:=iw ht;obtain⟨u1,u2,u3⟩:=iw hu;simp only[Jz] at hl hf;obtain⟨z,hz⟩:=wj a b ha y t u (k+1) fuel t2 u2 Mc Mc;rw[eN,Mg Mc,t1,Jo,u1,Jo];by_cases hc:c=d
  ·rw[Mg hc,Mg Mc,hz];subst hc;refine⟨z,?_⟩;by_cases h:t=u
   ·rw[Mg h,Mg (by rw[h])]
   ·rw[Mh h,Mh (by simpa using h)]
  ·rw[Mh hc];exact⟨0,by rw[Mh (fun h=>hc (List.cons.inj h).1)]⟩
theorem FR (a b:List Int) (ha:a.length<=140737488355328):ld a b=some (decide (a=b)):=by
 unfold ld;by_cases hl:(a.length:Int)=(b.length:Int)
 ·rw[Mg hl];obtain⟨z,hz⟩:=wj a b ha false a b 0 (((a.length:Int)).toNat+1) rfl rfl Mc Mc;rw[hz];by_cases h:a=b
  ·rw[Mg h,Jq h];rfl
  ·rw[Mh h,Jr h];rfl
 ·rw[Mh hl,Jr (fun h=>hl (by rw[h]))]
def yE (a b:Top):Bool:=decide (a.IW=b.IW) && decide (a.IH=b.IH)
def iD:List Top->List Top->Bool
 | [],[]=>true
 | a::l,b::m=>yE a b && iD l m
 | _,_=>false
theorem AB (a:Top):yE a a=true:=by simp[yE]
theorem sF: ∀ l:List Top,iD l l=true
 | []=>rfl
 | a::l=>by rw[iD,AB,sF l]; rfl
theorem ux: ∀ (l m:List Top),iD l m=true->l.length=m.length
 | [],[],h=>rfl
 | [],b::m,h=>nomatch h
 | a::l,[],h=>nomatch h
 | a::l,b::m,h=>by
  rw[iD,Bool.and_eq_true] at h;rw[Jz,Jz,ux l m h.2]
theorem uy (a0 a1:List Top) (h0:a0.length<=1000000) (y:Bool): ∀ (l u:List Top) (k fuel:Nat),(∀ t,t∈l->t.IH.length<=140737488355328)->a0.drop k=l->a1.drop k=u->l.length=u.length->l.length<fuel-> ∃ z,cL a0 a1 fuel y k=some (if iD l u=true then .go (y,z) else .ret false)
 | [],[],k,fuel+1,hw,ht,hu,hl,hf=>by
  have:=uv ht;exact⟨k,by rw[cL,Mh Mc]; rfl⟩
 | [],d::u,k,fuel,hw,ht,hu,hl,hf=>by simp at hl
 | c::l,[],k,fuel,hw,ht,hu,hl,hf=>by simp at hl
 | c::l,d::u,k,fuel+1,hw,ht,hu,hl,hf=>by
  obtain⟨t1,t2,t3⟩:=iw ht;obtain⟨u1,u2,u3⟩:=iw hu;simp only[Jz] at hl hf;obtain⟨z,hz⟩:=uy a0 a1 h0 y l u (k+1) fuel (fun t ht=>hw t (.tail _ ht)) t2 u2 Mc Mc;rw[cL,Mg Mc,t1,Jo,u1,Jo,iD,yE,FR _ _ (hw c (.head _))];by_cases hc:c.IW=d.IW
  ·rw[Mg hc,Jq hc,Jo,Bool.true_and]
   cases decide (c.IH=d.IH) with
   | false=>exact⟨0,rfl⟩
   | true =>
    rw[Mg rfl,Mg Mc,Bool.true_and];exact⟨z,hz⟩
  ·rw[Mh hc,Jr hc];exact⟨0,rfl⟩
theorem uz (a b:List Top) (h0:a.length<=1000000) (ha: ∀ t,t∈a->t.IH.length<=140737488355328):cI a b=some (iD a b):=by
 unfold cI;by_cases hl:(a.length:Int)=(b.length:Int)
 ·obtain⟨z,hz⟩:=uy a b h0 false a b 0 (((a.length:Int)).toNat+1) ha rfl rfl Mc Mc;rw[Mg hl,hz];cases iD a b <;> rfl
 ·rw[Mh hl];have:iD a b=false:=by
   cases h:iD a b with
   | false=>rfl
   | true=>exact absurd (congrArg Int.ofNat (ux a b h)) hl
  rw[this]
def wT (t:Top):Nat:=t.IW.length+4*t.IH.length+6
def wTs:List Top->Nat
 | []=>0
 | t::l=>wT t+wTs l
theorem yF (y:Int): ∀ (l:List Top) (acc:Int),(∀ t,t∈l->mO t)->0<=acc->acc<=1000->(fh l y acc=some (.ret 0))\/(∃ z,fh l y acc=some (.go z)/\acc+wTs l<=1000)
 | [],acc,hw,h0,h1=> .inr ⟨_,rfl,by simp[wTs]; omega⟩
 | t::l,acc,hw,h0,h1=>by
  have ht:=hw t (.head _);have ht1:t.IW.length<=140737488351232:=ht.1;have ht2:t.IH.length<=140737488351232:=ht.2.1;rw[fh,Mg Mc,Mg Mc,Mg Mc,Mg Mc];by_cases hc:(acc+(((t.IW.length:Int)+(4*(t.IH.length:Int)))+6))>1000
  ·rw[Mg hc];exact .inl rfl
  ·rw[Mh hc];rcases yF y l _ (fun u hu=>hw u (.tail _ hu)) Mc (show acc+(((t.IW.length:Int)+(4*(t.IH.length:Int)))+6)<=1000 by omega) with h | ⟨z,h,h2⟩
   ·exact .inl h
   ·exact .inr ⟨z,h,by simp only[wTs,wT]; omega⟩
theorem Ej (l:List Top) (hw: ∀ t,t∈l->mO t):(jA l=some 0)\/(jA l=some 1/\wTs l<=1000):=by
 unfold jA;rcases yF 0 l 0 hw Md Md with h | ⟨z,h,h2⟩
 ·exact .inl (by rw[h]; rfl)
 ·exact .inr ⟨by rw[h]; rfl,by omega⟩
theorem jg: ∀ l:List Top,l.length*6<=wTs l
 | []=>by simp[wTs]
 | t::l=>by have:=jg l; simp only[wTs,wT,Jz]; omega
theorem qM: ∀ (l:List Top) (t:Top),t∈l->wT t<=wTs l
 | u::l,t,h=>by
  rcases List.mem_cons.1 h with rfl | h
  ·simp only[wTs]; omega
  ·have:=qM l t h; simp only[wTs]; omega
theorem sb: ∀ l:List Int,(aS (fun n=>be n 4) l).length=4*l.length
 | []=>rfl
 | n::l=>by rw[aS,Js,ax,sb l,Jz]; omega
theorem yG (t:Top):(nw t).length=wT t:=by
 simp only[nw,Js,ax,sb,wT];omega
theorem jK: ∀ l:List Top,(aS nw l).length=wTs l
 | []=>rfl
 | t::l=>by rw[aS,Js,yG,jK l,wTs]
theorem Ek: ∀ (l:List Int) (t:List UInt8),(∀ n,n∈l->bm n 4=true)->t.length+4*l.length<=1000000000->cz l (t,0)=some (t++aS (fun n=>be n 4) l,0)
 | [],t,h,hl=>by rw[cz,aS,JE]
 | n::l,t,h,hl=>by
  rw[Jz] at hl;rw[cz,dI (h n (.head _)) Mc,Jo,Ek l _ (fun m hm=>h m (.tail _ hm)) (by rw[Js,ax]; show t.length+4+4*l.length<= _; omega),aS,Jw];rfl
theorem pI {t d:List UInt8} (hf:d.length<=32767) (ht:t.length<=1000000000):iO (t,0) d=some (t++(be (d.length:Int) 2++d),0):=by
 rw[sC _ _ (by simp only; omega)];have:=iK (t:=t) (b:=⟨false,d⟩) (k:=2) (eZ (.inl rfl) (show -32768<=(d.length:Int) by omega) (show (d.length:Int)<=32767 by omega)) rfl (by simp only; omega);rw[mC _ _ _ ⟨by decide,by simp only; omega⟩] at this;exact this
theorem El: ∀ (l:List Top) (t:List UInt8),(∀ x,x∈l->okT x)->t.length+wTs l<=1000000->wTs l<=2000->cA l (t,0)=some (t++aS nw l,0)
 | [],t,h,hl,hw=>by rw[cA,aS,JE]
 | x::l,t,h,hl,hw=>by
  obtain⟨h1,h2,h3⟩:=h x (.head _);simp only[wTs,wT] at hl hw;rw[cA,pI Mc Mc,Jo,dI h2 (by simp only[Js,ax]; omega),Jo,Ek _ _ h3 (by simp only[Js,ax]; show _+(4:Int).toNat + _<= _; omega),Jo,El l _ (fun y hy=>h y (.tail _ hy)) (by simp only[Js,ax,sb]; show _+(4:Int).toNat + _ + _<= _; omega) Mc];simp only[aS,nw,Jw];rfl
theorem uA (l:List Top) (t:List UInt8) (h: ∀ x,x∈l->okT x) (ht:t.length<=900000) (hw:wTs l<=2000):et (t,0) l=some (t++(be (l.length:Int) 4++aS nw l),0):=by
 have:=jg l;unfold et;rw[dI (eZ (.inr (.inl rfl)) Mc Mc) Mc,Jo,El l _ h (by simp only[Js,ax]; show _+(4:Int).toNat + _<= _; omega) hw,Jw];rfl
theorem sc (n:Int):bm n 2=decide (-32768<=n/\n<=32767):=by
 rw[Bool.eq_iff_iff];unfold bm;simp only[Bool.and_eq_true,decide_eq_true_eq];have:(2:Int) ^ (8*(2:Int).toNat - 1)=32768:=by decide
 omega
theorem Em (n:Int):bm n 8=decide (-9223372036854775808<=n/\n<=9223372036854775807):=by
 rw[Bool.eq_iff_iff];unfold bm;simp only[Bool.and_eq_true,decide_eq_true_eq];have:(2:Int) ^ (8*(8:Int).toNat - 1)=9223372036854775808:=by decide
 omega
def badR (v:Val):Prop:=v.ID<0\/v.IF<0\/v.IF>32767\/v.II<0\/v.II>2147483647\/v.Jm<0\/v.Jl < -1
def badC (v:Val):Prop:= ¬ ((1<=v.Jk/\v.Jk<=3)↔0<(v.IC.length:Int))\/ ¬ (v.Jk=0↔v.Jl= -1)
open Classical in
noncomputable def chkV (v:Val):Int:=if badR v then 11 else if v.Jk<0\/v.Jk>6 then 12 else if badC v then 10 else if yD v.IC=true then 0 else 13
theorem C3 (v:Val) (hw:wf_Val v) (hl:v.IC.length<=1000000):iq v=some (chkV v):=by
 unfold iq chkV;rw[AA _ hw.2.2.2.2.1.2 hl,fe _ _ hw.2.1,fe _ _ hw.2.2.1,sc,ej];generalize yD v.IC=b;by_cases hr:badR v
 ·rw[Mg hr];unfold badR at hr;by_cases c1:v.ID<0
  ·rw[Mg c1]
  rw[Mh c1];by_cases c2:v.IF<0
  ·rw[Mg c2]
  rw[Mh c2,Jo];by_cases c3: -32768<=v.IF/\v.IF<=32767
  ·rw[Mg (Jq c3)];by_cases c4:v.II<0
   ·rw[Mg c4]
   rw[Mh c4,Jo];by_cases c5: -2147483648<=v.II/\v.II<=2147483647
   ·rw[Mg (Jq c5)];by_cases c6:v.Jm<0
    ·rw[Mg c6]
    rw[Mh c6,Mg Mc]
   ·rw[Mh (by simp only[decide_eq_true_eq]; exact c5)]
  ·rw[Mh (by simp only[decide_eq_true_eq]; exact c3)]
 rw[Mh hr];unfold badR at hr;rw[Mh Mc,Mh Mc,Jo,Mg (Jq Mc),Mh Mc,Jo,Mg (Jq Mc),Mh Mc,Mh Mc];unfold kF;by_cases hs:v.Jk<0\/v.Jk>6
 ·rw[Mg hs];by_cases c1:v.Jk<0
  ·rw[Mg c1]
  ·rw[Mh c1,Mg Mc]
 rw[Mh hs,Mh Mc,Mh Mc];by_cases hc:badC v
 ·rw[Mg hc];unfold badC at hc;by_cases c0:v.Jk=0
  ·rw[Mg c0,Jo,Mg rfl];by_cases c1:(v.IC.length:Int)=0
   ·rw[Mg c1,Mg c0,Mh Mc]
   ·rw[Mh c1]
  ·rw[Mh c0];by_cases c4:v.Jk>=4
   ·rw[Mg c4,Jo,Mg rfl];by_cases c1:(v.IC.length:Int)=0
    ·rw[Mg c1,Mh c0,Mg Mc]
    ·rw[Mh c1]
   ·rw[Mh c4,Jo,Mh Md];by_cases c1:(v.IC.length:Int)=0
    ·rw[Mg c1]
    ·rw[Mh c1,Mh c0,Mg Mc]
 rw[Mh hc];unfold badC at hc;by_cases c0:v.Jk=0
 ·rw[Mg c0,Jo,Mg rfl,Mg Mc,Mg c0,Mg Mc];cases b <;> rfl
 ·rw[Mh c0];by_cases c4:v.Jk>=4
  ·rw[Mg c4,Jo,Mg rfl,Mg Mc,Mh c0,Mh Mc];cases b <;> rfl
  ·rw[Mh c4,Jo,Mh Md,Mh Mc,Mh c0,Mh Mc];cases b <;> rfl
theorem xt {l:List Top} (h:yD l=true) (hw:wTs l<=2000): ∀ t,t∈l->okT t:=by
 intro t ht;unfold yD at h;rw[Bool.and_eq_true] at h;have h1:=List.all_eq_true.1 h.1 t ht;unfold vH C2 at h1;simp only[Bool.and_eq_true,decide_eq_true_eq,List.all_eq_true] at h1;have h2:=qM l t ht;unfold wT at h2;refine⟨eZ (.inl rfl) Mc Mc,eZ (.inr (.inl rfl)) Mc Mc,fun n hn=> ?_⟩;have h3:=h1.2.1.1 n hn;unfold okn at h3;simp only[Bool.and_eq_true,decide_eq_true_eq] at h3;rw[ej];exact Jq Mc
theorem wi0:wI 0:=⟨by decide,by decide⟩
theorem wi1:wI 1:=⟨by decide,by decide⟩
theorem wim:wI (-1):=⟨by decide,by decide⟩
def who (p e:Int):Bool:=decide (0<=p/\0<=e/\e<=32767)
theorem xu (p e:Int) (he:wI e):iI p e=some (who p e):=by
 unfold iI who;by_cases h1:p>=0
 ·rw[Mg h1];by_cases h2:e>=0
  ·rw[Mg h2,fe _ _ he,sc];simp only[Jo];congr 1;by_cases h3:e<=32767
   ·rw[Jq Mc,Jq Mc]
   ·rw[Jr Mc,Jr Mc]
  ·rw[Mh h2,Jr Mc];rfl
 ·rw[Mh h1,Jr Mc];rfl
def sG (l:List Top):Int:=if l.length=0 then 10 else if yD l=true then 0 else 13
def wTl (l:List Top):Prop:=(∀ t,t∈l->mO t)/\l.length<=1000000
theorem yH (l:List Top) (hw:wTl l):jD l=some (sG l):=by
 unfold jD sG;by_cases h:l.length=0
 ·rw[Mg Mc,Mg h]
 ·rw[Mh Mc,Mh h,C3 _ ⟨wi0,wi0,wi0,wi1,⟨by have:=hw.2; simp only; omega,hw.1⟩,wi0,wi0⟩ hw.2,Jo];unfold chkV;rw[Mh (by unfold badR; simp),Mh (by simp),Mh (by
   unfold badC;simp only;rintro (h1 | h1)
   ·exact h1 ⟨fun _=>by omega,fun _=>by omega⟩
   ·exact h1 ⟨fun h=>absurd h Md,fun h=>absurd h Md⟩)]
def lW (d:List UInt8) (p e:Int):Int:=if eD d=true then (if who p e=true then 0 else 11) else 4
def mR (d:List UInt8) (p e:Int) (l:List Top):Int:=if eD d=true then (if who p e=true then sG l else 11) else 4
def tmB (t:Int):Bool:=decide (0<=t/\t<=2147483647)
def nobB (p e:Int):Bool:=decide (p= -1/\e= -1)
def fx (b:Bl) (t p e v:Int):Int:=if (bu b && (b.null || eD b.data))=true then (if (tmB t && (nobB p e || (decide (v>0) && who p e)))=true then 0 else 11) else 4
theorem yI (x:bH) (he:wI x.IF):fN x=some (lW x.IJ x.ID x.IF):=by
 unfold fN lW;rw[mE,Jo,xu _ _ he,Jo];cases eD x.IJ <;> cases who x.ID x.IF <;> rfl
theorem yJ (x:bI) (he:wI x.IF) (hl:wTl x.IC):fM x=some (mR x.IJ x.ID x.IF x.IC):=by
 unfold fM mR;rw[mE,Jo,xu _ _ he,Jo,yH _ hl,Jo];cases eD x.IJ <;> cases who x.ID x.IF <;> rfl
theorem uB (x:aT) (v:Int) (he:wI x.IF) (ht:wI x.II):eR x v=some (fx x.IJ x.II x.ID x.IF v):=by
 unfold eR fx;have h1:(if x.ID=(-1) then (if x.IF=(-1) then some true else some false) else some false)=some (nobB x.ID x.IF):=by
  unfold nobB;by_cases a:x.ID= -1 <;> by_cases b:x.IF= -1 <;> simp[a,b]
 have h3:(if x.II<0 then some true else ((ib x.II 4).bind fun x29=>if x29=true then some false else some true))=some (!tmB x.II):=by
  unfold tmB;by_cases a:x.II<0
  ·rw[Mg a,Jr Mc];rfl
  ·rw[Mh a,fe _ _ ht,ej,Jo];by_cases b:x.II<=2147483647
   ·rw[Mg (Jq Mc),Jq Mc];rfl
   ·rw[Mh (by simp; omega),Jr Mc];rfl
 have h4:(if v>0 then ((some (who x.ID x.IF)).bind fun x55=>if x55=true then some false else some true) else some true)=some (!(decide (v>0) && who x.ID x.IF)):=by
  by_cases d:v>0
  ·rw[Mg d,Jq d];cases who x.ID x.IF <;> rfl
  ·rw[Mh d,Jr d];rfl
 rw[h1,Jo,h3,xu _ _ he,h4,oE,mE];cases bu x.IJ <;> cases x.IJ.null <;> cases eD x.IJ.data <;> cases tmB x.II <;> cases nobB x.ID x.IF <;> cases (decide (v>0) && who x.ID x.IF) <;> rfl
theorem En:CB fA qK false:=by
 refine⟨fun st h=> ?_,fun s q hl hq=> ?_⟩
 ·unfold fA;rw[jJ h,Jo];rfl
 ·unfold fA qK;rcases Q1.run s q hq with⟨e,st,p1,g1,x1,y1⟩ | ⟨n,r,p1,g1,n1,l1⟩
  ·refine .inl ⟨e,st,Pr.bind_err p1,?_,x1,y1⟩;rw[g1,Jo];rfl
  ·rw[g1,Jo,Pr.bind_of p1];simp only;by_cases h0:n=0
   ·rw[Mg h0,Mg h0,Jo,Mh Md,Jo,Mh Mc];exact .inr ⟨false,r,rfl,rfl,n1,l1⟩
   ·by_cases h1:n=1
    ·rw[Mh h0,Mg h1,Mh h0,Mg h1,Jo,Mh Md,Jo,Mg h1];exact .inr ⟨true,r,rfl,rfl,n1,l1⟩
    ·rw[Mh h0,Mh h1,Mh h0,Mh h1,Jo,Mg rfl,cY,Jo,Jo,Mh h1];exact .inl ⟨11,_,rfl,rfl,rfl,by simp[cX]⟩
abbrev yK:Pr (List Top):=ko 4 6 ll
theorem mS {α:Type} {enc:α->List UInt8}: ∀ (l:List α) (x:α),x∈l->(enc x).length<=(aS enc l).length
 | y::l,x,h=>by
  rw[aS,Js];rcases List.mem_cons.1 h with rfl | h
  ·omega
  ·have:=mS (enc:=enc) l x h;omega
theorem Eo (s:List UInt8) (q:Nat) (l:List Top) (r:Nat) (hl:s.length<=1000000) (hq:q<=s.length) (h:yK s q= .ok (l,r)):wTl l:=by
 obtain⟨a1,a2,a3,a4,a5,a6⟩:=sa.spell s q l r hq h;rw[Js,ax] at a3;have hlen:=mQ BH l a6;refine⟨fun t ht=> ?_,by omega⟩;have h1:=mS (enc:=nw) l t ht;obtain⟨b1,b2,b3⟩:=a6 t ht;have h2:(nw t).length=wT t:=yG t;unfold wT at h2;exact⟨by show t.IW.length<= _; omega,by show t.IH.length<= _; omega,fun n hn=>d7 (b3 n hn)⟩
def zE:bH:=⟨[],0,0,false⟩
def zA:bI:=⟨[],0,0,[]⟩
def zB:aT:=⟨⟨false,[]⟩,0,0,0⟩
def Ep:Pr bH:=uk.bind fun d=>(eI 8).bind fun p=>(eI 2).bind fun e=>qK.bind fun c=>if lW d p e=0 then .ret ⟨d,p,e,c⟩ else .err (lW d p e)
def Er:Pr bI:=uk.bind fun d=>(eI 8).bind fun p=>(eI 2).bind fun e=>yK.bind fun l=>if mR d p e l=0 then .ret ⟨d,p,e,l⟩ else .err (mR d p e l)
def Es (v:Int):Pr aT:=(lT 2).bind fun b=>(eI 4).bind fun t=>if fx b t (-1) (-1) v=0 then .ret ⟨b,t,-1,-1⟩ else .err (fx b t (-1) (-1) v)
def Et (v:Int):Pr aT:=(lT 2).bind fun b=>(eI 4).bind fun t=>(eI 8).bind fun p=>(eI 2).bind fun e=>if fx b t p e v=0 then .ret ⟨b,t,p,e⟩ else .err (fx b t p e v)
theorem B_end:CB jR Ep zE:=by
 refine CB.congr (CB.bind (fun _=>True) QT.cb (fun _ _ _ _ _ _ _=>trivial) trivial fun d _=>CB.bind wI Q8.cb (oe Md Md) wi0 fun p hp=>CB.bind wI Q2.cb (oe Md Md) wi0 fun e he=>CB.bind (fun _=>True) En (fun _ _ _ _ _ _ _=>trivial) trivial fun c _ =>
  xr (op:=fun st=>(cE st ⟨d,p,e,c⟩).bind fun (x15,st16)=>if x15=true then some (⟨d,p,e,c⟩,st16) else some (zE,st16)) (fun st h=> ?_) (fun st h=> ?_)) (fun st=>rfl)
 ·unfold cE;rw[bn,Jo];simp only;rw[Mh h];rfl
 ·unfold cE;rw[bn,Jo];simp only;rw[Mg h,yI _ he,Jo];by_cases hc:lW d p e=0
  ·rw[Mg hc,Mg hc];rfl
  ·rw[Mh hc,Mh hc,cY];rfl
theorem B_add:CB jQ Er zA:=by
 refine CB.congr (CB.bind (fun _=>True) QT.cb (fun _ _ _ _ _ _ _=>trivial) trivial fun d _=>CB.bind wI Q8.cb (oe Md Md) wi0 fun p hp=>CB.bind wI Q2.cb (oe Md Md) wi0 fun e he=>CB.bind wTl yC Eo ⟨(fun t h=>nomatch h),by decide⟩ fun l hl =>
  xr (op:=fun st=>(cD st ⟨d,p,e,l⟩).bind fun (x15,st16)=>if x15=true then some (⟨d,p,e,l⟩,st16) else some (zA,st16)) (fun st h=> ?_) (fun st h=> ?_)) (fun st=>rfl)
 ·unfold cD;rw[bn,Jo];simp only;rw[Mh h];rfl
 ·unfold cD;rw[bn,Jo];simp only;rw[Mg h,yJ _ he hl,Jo];by_cases hc:mR d p e l=0
  ·rw[Mg hc,Mg hc];rfl
  ·rw[Mh hc,Mh hc,cY];rfl
theorem BI (b:Bl) (t p e v:Int) (ht:wI t) (he:wI e):CB (fun st=>(cm st ⟨b,t,p,e⟩ v).bind fun (x15,st16)=>if x15=true then some ((⟨b,t,p,e⟩:aT),st16) else some (zB,st16)) (if fx b t p e v=0 then .ret ⟨b,t,p,e⟩ else .err (fx b t p e v)) zB:=by
 refine xr (fun st h=> ?_) (fun st h=> ?_)
 ·unfold cm;rw[bn,Jo];simp only;rw[Mh h];rfl
 ·unfold cm f7;rw[bn,Jo];simp only;rw[Mg h,uB _ _ he ht,Jo,Jo];by_cases hc:fx b t p e v=0
  ·rw[Mg hc,Mg hc];rfl
  ·rw[Mh hc,Mh hc,cY];rfl
theorem B_beg0 (v:Int) (hv: ¬ v>0):CB (fun st=>dW st v) (Es v) zB:=by
 refine CB.congr (CB.bind (fun _=>True) QF2.cb (fun _ _ _ _ _ _ _=>trivial) trivial fun b _=>CB.bind wI Q4.cb (oe Md Md) wi0 fun t ht=>BI b t (-1) (-1) v ht wim) (fun st=> ?_);unfold dW;simp only[Mh hv,Jo];rfl
theorem B_beg1 (v:Int) (hv:v>0):CB (fun st=>dW st v) (Et v) zB:=by
 refine CB.congr (CB.bind (fun _=>True) QF2.cb (fun _ _ _ _ _ _ _=>trivial) trivial fun b _=>CB.bind wI Q4.cb (oe Md Md) wi0 fun t ht=>CB.bind wI Q8.cb (oe Md Md) wi0 fun p hp=>CB.bind wI Q2.cb (oe Md Md) wi0 fun e he=>BI b t p e v ht he) (fun st=> ?_);unfold dW;simp only[Mg hv,Option.bind_assoc,Jo];rfl
def sH (d:List UInt8):List UInt8:=be (d.length:Int) 2++d
def lQ (l:List Top):List UInt8:=be (l.length:Int) 4++aS nw l
def AC (x:bH):List UInt8:=sH x.IJ++(be x.ID 8++(be x.IF 2++jV x.I2))
def AD (x:bI):List UInt8:=sH x.IJ++(be x.ID 8++(be x.IF 2++lQ x.IC))
def uC (b:Bl):List UInt8:=be (blen b) 2++b.data
def yL (x:aT):List UInt8:=uC x.IJ++be x.II 4
def yM (x:aT):List UInt8:=uC x.IJ++(be x.II 4++(be x.ID 8++be x.IF 2))
def okTx (d:List UInt8):Prop:=bm (d.length:Int) 2=true/\bu ⟨false,d⟩=true
def okFx (b:Bl):Prop:=bm (blen b) 2=true/\bu b=true
def vI (l:List Top):Prop:=bm (l.length:Int) 4=true/\ ∀ t,t∈l->okT t
abbrev spI (k:Nat) (h1:1<=k:=by decide) (h8:k<=8:=by decide):=dL k h1 h8
theorem Sp_end:Sp Ep AC (fun x=>okTx x.IJ/\bm x.ID 8=true/\bm x.IF 2=true/\lW x.IJ x.ID x.IF=0):=by
 refine Sp.congr (Sp.seq (β:=bH) (π:=(·.IJ)) (ok2:=fun x:bH=>bm x.ID 8=true/\bm x.IF 2=true/\lW x.IJ x.ID x.IF=0) mN fun d =>
  Sp.congr (Sp.seq (β:=bH) (π:=(·.ID)) (ok2:=fun x:bH=>bm x.IF 2=true/\lW d x.ID x.IF=0/\x.IJ=d) (spI 8) fun p =>
  Sp.congr (Sp.seq (β:=bH) (π:=(·.IF)) (ok2:=fun x:bH=>lW d p x.IF=0/\x.IJ=d/\x.ID=p) (spI 2) fun e =>
  Sp.congr (Sp.seq (β:=bH) (π:=(·.I2)) (ok2:=fun x:bH=>lW d p e=0/\x.IJ=d/\x.ID=p/\x.IF=e) BG fun c =>
  (uu (β:=bH) _ _ _).congr (ok':=fun x:bH=>(lW d p e=0/\x.IJ=d/\x.ID=p/\x.IF=e)/\x.I2=c) (fun x=> ?_) (fun _ _=>rfl)) (fun x=> ?_) (fun _ _=>rfl)) (fun x=> ?_) (fun _ _=>rfl)) (fun x=> ?_) (fun _ _=>rfl)) (fun x=> ?_) (fun x _=>by simp only[AC,sH,JE])
 ·obtain⟨a1,a2,a3,a4⟩:=x;simp only[bH.mk.injEq];exact⟨fun ⟨h,h1,h2,h3,h4⟩=>⟨⟨h,h1,h2,h3⟩,h4⟩,fun ⟨⟨h,h1,h2,h3⟩,h4⟩=>⟨h,h1,h2,h3,h4⟩⟩
 ·exact⟨fun ⟨_,h,h1,h2,h3⟩=>⟨⟨by rw[h3]; exact h,h1,h2⟩,h3⟩,fun ⟨⟨h,h1,h2⟩,h3⟩=>⟨trivial,by rw[<- h3]; exact h,h1,h2,h3⟩⟩
 ·exact⟨fun ⟨h0,h,h1,h2⟩=>⟨⟨h0,by rw[h2]; exact h,h1⟩,h2⟩,fun ⟨⟨h0,h,h1⟩,h2⟩=>⟨h0,by rw[<- h2]; exact h,h1,h2⟩⟩
 ·exact⟨fun ⟨h0,h,h1,h2⟩=>⟨⟨h0,h,by rw[h2]; exact h1⟩,h2⟩,fun ⟨⟨h0,h,h1⟩,h2⟩=>⟨h0,h,by rw[<- h2]; exact h1,h2⟩⟩
 ·exact Iff.rfl
theorem Sp_add:Sp Er AD (fun x=>okTx x.IJ/\bm x.ID 8=true/\bm x.IF 2=true/\vI x.IC/\mR x.IJ x.ID x.IF x.IC=0):=by
 refine Sp.congr (Sp.seq (β:=bI) (π:=(·.IJ)) (ok2:=fun x:bI=>bm x.ID 8=true/\bm x.IF 2=true/\vI x.IC/\mR x.IJ x.ID x.IF x.IC=0) mN fun d =>
  Sp.congr (Sp.seq (β:=bI) (π:=(·.ID)) (ok2:=fun x:bI=>bm x.IF 2=true/\vI x.IC/\mR d x.ID x.IF x.IC=0/\x.IJ=d) (spI 8) fun p =>
  Sp.congr (Sp.seq (β:=bI) (π:=(·.IF)) (ok2:=fun x:bI=>vI x.IC/\mR d p x.IF x.IC=0/\x.IJ=d/\x.ID=p) (spI 2) fun e =>
  Sp.congr (Sp.seq (β:=bI) (π:=(·.IC)) (ok2:=fun x:bI=>mR d p e x.IC=0/\x.IJ=d/\x.ID=p/\x.IF=e) sa fun l =>
  (uu (β:=bI) _ _ _).congr (ok':=fun x:bI=>(mR d p e x.IC=0/\x.IJ=d/\x.ID=p/\x.IF=e)/\x.IC=l) (fun x=> ?_) (fun _ _=>rfl)) (fun x=> ?_) (fun _ _=>rfl)) (fun x=> ?_) (fun _ _=>rfl)) (fun x=> ?_) (fun _ _=>rfl)) (fun x=> ?_) (fun x _=>by simp only[AD,sH,lQ,JE])
 ·obtain⟨a1,a2,a3,a4⟩:=x;simp only[bI.mk.injEq];exact⟨fun ⟨h,h1,h2,h3,h4⟩=>⟨⟨by rw[h4]; exact h,h1,h2,h3⟩,h4⟩,fun ⟨⟨h,h1,h2,h3⟩,h4⟩=>⟨by rw[<- h4]; exact h,h1,h2,h3,h4⟩⟩
 ·exact⟨fun ⟨h0,h,h1,h2,h3⟩=>⟨⟨h0,by rw[h3]; exact h,h1,h2⟩,h3⟩,fun ⟨⟨h0,h,h1,h2⟩,h3⟩=>⟨h0,by rw[<- h3]; exact h,h1,h2,h3⟩⟩
 ·exact⟨fun ⟨h0,hk,h,h1,h2⟩=>⟨⟨h0,hk,by rw[h2]; exact h,h1⟩,h2⟩,fun ⟨⟨h0,hk,h,h1⟩,h2⟩=>⟨h0,hk,by rw[<- h2]; exact h,h1,h2⟩⟩
 ·exact⟨fun ⟨h0,h,hk,h1,h2⟩=>⟨⟨h0,h,hk,by rw[h2]; exact h1⟩,h2⟩,fun ⟨⟨h0,h,hk,h1⟩,h2⟩=>⟨h0,h,hk,by rw[<- h2]; exact h1,h2⟩⟩
 ·exact Iff.rfl
theorem FS (v:Int):Sp (Et v) yM (fun x=>okFx x.IJ/\bm x.II 4=true/\bm x.ID 8=true/\bm x.IF 2=true/\fx x.IJ x.II x.ID x.IF v=0):=by
 refine Sp.congr (Sp.seq (β:=aT) (π:=(·.IJ)) (ok2:=fun x:aT=>bm x.II 4=true/\bm x.ID 8=true/\bm x.IF 2=true/\fx x.IJ x.II x.ID x.IF v=0) (gj 2 Md Md) fun b =>
  Sp.congr (Sp.seq (β:=aT) (π:=(·.II)) (ok2:=fun x:aT=>bm x.ID 8=true/\bm x.IF 2=true/\fx b x.II x.ID x.IF v=0/\x.IJ=b) (spI 4) fun t =>
  Sp.congr (Sp.seq (β:=aT) (π:=(·.ID)) (ok2:=fun x:aT=>bm x.IF 2=true/\fx b t x.ID x.IF v=0/\x.IJ=b/\x.II=t) (spI 8) fun p =>
  Sp.congr (Sp.seq (β:=aT) (π:=(·.IF)) (ok2:=fun x:aT=>fx b t p x.IF v=0/\x.IJ=b/\x.II=t/\x.ID=p) (spI 2) fun e =>
  (uu (β:=aT) _ _ _).congr (ok':=fun x:aT=>(fx b t p x.IF v=0/\x.IJ=b/\x.II=t/\x.ID=p)/\x.IF=e) (fun x=> ?_) (fun _ _=>rfl)) (fun x=> ?_) (fun _ _=>rfl)) (fun x=> ?_) (fun _ _=>rfl)) (fun x=> ?_) (fun _ _=>rfl)) (fun x=> ?_) (fun x _=>by simp only[yM,uC,JE])
 ·obtain⟨a1,a2,a3,a4⟩:=x;simp only[aT.mk.injEq];exact⟨fun ⟨h,h1,h2,h3,h4⟩=>⟨⟨by rw[h4]; exact h,h1,h2,h3⟩,h4⟩,fun ⟨⟨h,h1,h2,h3⟩,h4⟩=>⟨by rw[<- h4]; exact h,h1,h2,h3,h4⟩⟩
 ·exact⟨fun ⟨h0,h,h1,h2,h3⟩=>⟨⟨h0,by rw[h3]; exact h,h1,h2⟩,h3⟩,fun ⟨⟨h0,h,h1,h2⟩,h3⟩=>⟨h0,by rw[<- h3]; exact h,h1,h2,h3⟩⟩
 ·exact⟨fun ⟨h0,hk,h,h1,h2⟩=>⟨⟨h0,hk,by rw[h2]; exact h,h1⟩,h2⟩,fun ⟨⟨h0,hk,h,h1⟩,h2⟩=>⟨h0,hk,by rw[<- h2]; exact h,h1,h2⟩⟩
 ·exact⟨fun ⟨h0,h,hk,h1,h2⟩=>⟨⟨h0,h,hk,by rw[h2]; exact h1⟩,h2⟩,fun ⟨⟨h0,h,hk,h1⟩,h2⟩=>⟨h0,h,hk,by rw[<- h2]; exact h1,h2⟩⟩
 ·exact Iff.rfl
theorem FT (v:Int):Sp (Es v) yL (fun x=>okFx x.IJ/\bm x.II 4=true/\fx x.IJ x.II x.ID x.IF v=0/\x.ID= -1/\x.IF= -1):=by
 refine Sp.congr (Sp.seq (β:=aT) (π:=(·.IJ)) (ok2:=fun x:aT=>bm x.II 4=true/\fx x.IJ x.II (-1) (-1) v=0/\x.ID= -1/\x.IF= -1) (gj 2 Md Md) fun b =>
  Sp.congr (Sp.seq (β:=aT) (π:=(·.II)) (ok2:=fun x:aT=>fx b x.II (-1) (-1) v=0/\x.IJ=b/\x.ID= -1/\x.IF= -1) (spI 4) fun t =>
  (uu (β:=aT) _ _ _).congr (ok':=fun x:aT=>(fx b x.II (-1) (-1) v=0/\x.IJ=b/\x.ID= -1/\x.IF= -1)/\x.II=t) (fun x=> ?_) (fun _ _=>rfl)) (fun x=> ?_) (fun _ _=>rfl)) (fun x=> ?_) (fun x _=>by simp only[yL,uC,JE])
 ·obtain⟨a1,a2,a3,a4⟩:=x;simp only[aT.mk.injEq];exact⟨fun ⟨h,h1,h2,h3,h4⟩=>⟨⟨by rw[h2]; exact h,h1,h3,h4⟩,h2⟩,fun ⟨⟨h,h1,h3,h4⟩,h2⟩=>⟨by rw[<- h2]; exact h,h1,h2,h3,h4⟩⟩
 ·exact⟨fun ⟨h0,h,h1,h2,h3⟩=>⟨⟨h0,by rw[h1]; exact h,h2,h3⟩,h1⟩,fun ⟨⟨h0,h,h2,h3⟩,h1⟩=>⟨h0,by rw[<- h1]; exact h,h1,h2,h3⟩⟩
 ·exact⟨fun ⟨h0,h,h1,h2,h3⟩=>⟨h0,h,by rw[h2,h3]; exact h1,h2,h3⟩,fun ⟨h0,h,h1,h2,h3⟩=>⟨h0,h,by rw[h2,h3] at h1; exact h1,h2,h3⟩⟩
end Go.Proofs.YtheikonlgjdopaaGreat.Sl
