/- splitRows_holds: part 5. -/
import Derived.Test.YtheikonlgjdopaaGreatK4
set_option maxRecDepth 100000
set_option maxHeartbeats 4000000
set_option linter.defProp false
namespace Go.Proofs.YtheikonlgjdopaaGreat.Sl
open Go.RowKit
set_option linter.unusedVariables false
set_option linter.unusedSimpArgs false
def Oo := @Tryz.results90
def OI := @Tryz.runUnderlying32
def OP := @Tryz.runUnderlying30
def OU := @Tryz.runUnderlying78
def OY := @Tryz.runUnderlying27
def O2 := @Tryz.runUnderlying103
def O6 := @Tryz.runUnderlying53
def O9 := @Tryz.sizeOf27
def Pa := @Tryz.sizeOf30
def Pb := @Tryz.sizeOf32
def Po := @Tryz.results168
def PB := @Tryz.eqGuardType45
def P7 := @Tryz.sizeOf45
def Qk := @Tryz.isAgg27
def Ql := @Tryz.isAgg30
def Qm := @Tryz.isAgg32
def Qt := @Tryz.ntmps185
def QC := @Tryz.isAgg45
def QD := @Tryz.results189
def QE := @Tryz.results146
def QF := @Tryz.results119
def QG := @Tryz.func185
def QM := @Tryz.results13
def vh:eO := [(45,0,0),(45,1,1),(53,0,0),(53,1,5),(53,2,12),(53,3,13)]
theorem aC:(vh).OK Tryz.prog:=⟨FOK.mk Pw rfl NG rfl,FOK.mk Pw rfl NG rfl,FOK.mk O6 rfl P7 rfl,FOK.mk O6 rfl O8 rfl,FOK.mk O6 rfl Tryz.sizeOf48 rfl,FOK.mk O6 rfl Pj rfl,trivial⟩
def vi:List Nat := [3,48]
theorem cK:NOK Tryz.prog vi:=⟨NH,Tryz.isAgg48,trivial⟩
theorem dR:iG Tryz.prog 3 45 [.int .i64,.int .i64,.int .i64,.bool,.string] true:=(iG.struct QC P7 rfl Tryz.underlying45 Tryz.stoodInHeld45 ⟨by decide,rfl,[.int .i64],[.int .i64,.int .i64,.bool,.string],false,rfl,((LZ NH NG Tryz.underlying3).mono QS),⟨by decide,rfl,[.int .i64],[.int .i64,.bool,.string],false,rfl,((LZ NH NG Tryz.underlying3).mono QS),⟨by decide,rfl,[.int .i64],[.bool,.string],false,rfl,((LZ NH NG Tryz.underlying3).mono QS),⟨by decide,rfl,[.bool,.string],[],true,rfl,(iG.struct Oa NM rfl Tryz.underlying23 Tryz.stoodInHeld23 ⟨by decide,rfl,[.bool],[.string],false,rfl,(LZ Oz Oe Tryz.underlying4),⟨by decide,rfl,[.string],[],false,rfl,(LZ Oc N6 Tryz.underlying9),rfl⟩⟩),rfl⟩⟩⟩⟩)
def lO (a0:cI):Option (Int):=(lM a0.MQ).bind fun x8=>if x8=0 then (if a0.MQ.M1=0 then ((kg a0.MZ a0.MQ.MY).bind fun x12=>some x12) else (if a0.MQ.M1=27 then ((kj a0.Nb a0.MQ.MY).bind fun x15=>some x15) else ((ki a0.MQ.M1 a0.MQ.MY a0.Ni).bind fun x17=>some x17))) else some x8
theorem vj (a0:cI) (A1:Option Addr) (c2:Nat) (A3:Option Addr) (c4:Nat) (A5:Option Addr) (c6:Nat) (r:Int) (h:lO a0=some r):aG Tryz.prog 13 #[.agg (zb a0 A1 A3 A5 c2 c4 c6)] (RX.and (RX.of (aq 2 bh) [.slice A1 a0.Ni.MN.length c2] a0.Ni.MN) (RX.and (RX.of (aq 5 co) [.slice A3 a0.Nb.length c4] a0.Nb) (RX.of (aq 2 bR) [.slice A5 a0.MZ.MN.length c6] a0.MZ.MN))) (aL) (fun v A' N=>v=jI r/\A'=aL/\N = []):=by
 refine aU Tryz.func13 Z Tryz.ntmps13 Z ?_;intro F w hX;unfold lO at h;refine KN Z (TL.box Z .u Z Z (fun b7=>(Le aC Z Z (KM aC 1 Z (KO Z (K9 (us := [jI a0.MQ.M1,jI a0.MQ.MY,jI a0.MQ.M6,.bool a0.MQ.MX.null,jS a0.MQ.MX.data]) 0 Z QC P7 Z Z Z) Z ?_)))));obtain⟨x8,hx9,h⟩:=Ny h;refine Lb Z .u (.fn Tryz.call53 Z) (uZ a0.MQ _ hx9) rT Z (KX aC Z (T.seq (KN Z (KM aC 2 Z ?_))));rcases jF h with⟨c10,h⟩ | ⟨c10,h⟩
 ·refine Lr Z c10 (K8 (T.seq (KN Z (L6 aC cK 0 Z Z Z (T.block (KN Z (KM aC 2 Z ?_)))))));rcases jF h with⟨c11,h⟩ | ⟨c11,h⟩
  ·refine Lh Z c11 (KN Z (KM aC 1 Z (KO Z (K9 (us := [.bool a0.MZ.MU.null,jS a0.MZ.MU.data,jI a0.MZ.Nc,jI a0.MZ.MT,.slice A5 a0.MZ.MN.length c6]) 0 Z Qj Pj Z Z Z) Z ?_)));obtain⟨x12,hx13,h⟩:=Ny h;refine KR aC cK 0 Z 3 Z Z (Lb Z .u (.fn Tryz.call54 Z) (uV a0.MZ _ _ a0.MQ.MY _ hx13) (fun _ hs=>(K7 hs (Lf (Lf hX)))) Z (KM aC 1 Z ?_));obtain rfl:=Nz h;exact KP (T.ret (K2 (KT (KY [1] QM (KQ Z)))))
  refine Lg Z c11 (KN Z (KM aC 2 Z ?_));rcases jF h with⟨c14,h⟩ | ⟨c14,h⟩
  ·refine Lh Z c14 (KN Z ?_);obtain⟨x15,hx16,h⟩:=Ny h;refine KR aC cK 0 Z 5 Z Z (Lb Z .u (.fn Tryz.call55 Z) (vf a0.Nb _ _ a0.MQ.MY _ hx16) (fun _ hs=>(K7 hs (Lx (Lf hX)))) Z (KM aC 1 Z ?_));obtain rfl:=Nz h;exact KP (T.ret (K2 (KT (KY [1] QM (KQ Z)))))
  refine Lg Z c14 (T.skip (La (X.seq (KN Z (KR aC cK 0 Z 7 Z Z (KO Z (K9 (us:=wL9 a0.Ni A1 c2) 0 Z PX O8 Z Z Z) Z ?_))))));obtain⟨x17,hx18,h⟩:=Ny h;refine Lb Z .u (.fn Tryz.call56 Z) (vb a0.MQ.M1 a0.MQ.MY a0.Ni _ _ _ hx18) (fun _ hs=>(K7 hs (Lx hX))) Z (KM aC 1 Z ?_);obtain rfl:=Nz h;exact KP (T.ret (KY [1] QM (KQ Z)))
 refine Lq Z c10 (KN Z (KM aC 2 Z ?_));obtain rfl:=Nz h;exact KP (T.ret (KT (KY [1] QM (KQ Z))))
def ky (a0:cI):Option (List UInt8):=(lN a0.MQ).bind fun x8=>(if a0.MQ.M1=0 then ((iW a0.MZ).bind fun x33=>if x8.length+x33.length<=9223372036854775807 then some (x8++x33) else none) else ((if a0.MQ.M1=27 then ((jb a0.Nb a0.MQ.MY).bind fun x46=>if x8.length+x46.length<=9223372036854775807 then some (x8++x46) else none) else ((iZ a0.MQ.M1 a0.MQ.MY a0.Ni).bind fun x49=>if x8.length+x49.length<=9223372036854775807 then some (x8++x49) else none)).bind fun y43=>some y43)).bind fun y30=>(cP (y30.length:Int) 4).bind fun x52=>if x52.length+y30.length<=9223372036854775807 then some (x52++y30) else none
theorem tt (a0:cI) (A1:Option Addr) (c2:Nat) (A3:Option Addr) (c4:Nat) (A5:Option Addr) (c6:Nat) (r:List UInt8) (h:ky a0=some r):aG Tryz.prog 16 #[.agg (zb a0 A1 A3 A5 c2 c4 c6)] (RX.and (RX.of (aq 2 bh) [.slice A1 a0.Ni.MN.length c2] a0.Ni.MN) (RX.and (RX.of (aq 5 co) [.slice A3 a0.Nb.length c4] a0.Nb) (RX.of (aq 2 bR) [.slice A5 a0.MZ.MN.length c6] a0.MZ.MN))) (aL) (fun v A' N=>v=jS r/\A'=aL/\N = []):=by
 refine aU Tryz.func16 Z Tryz.ntmps16 Z ?_;intro F w hX;unfold ky at h;refine KN Z (TL.box Z .u Z Z (fun b7=>(Le aC Z Z (KM aC 1 Z (KO Z (K9 (us := [jI a0.MQ.M1,jI a0.MQ.MY,jI a0.MQ.M6,.bool a0.MQ.MX.null,jS a0.MQ.MX.data]) 0 Z QC P7 Z Z Z) Z ?_)))));obtain⟨x8,hx9,h⟩:=Ny h;refine Lb Z .u (.fn Tryz.call59 Z) (u0 a0.MQ _ hx9) rT Z (KX aC Z (T.seq (KN Z (L6 aC cK 0 Z Z Z (T.block (KN Z (KX aC Z ?_)))))));obtain⟨y30,h,hk31⟩:=Ny h;refine LE (fun e Rs=>e = [(2,.string ⟨#[]⟩),(3,jS y30)]/\Rs = [aV b7 53 (zb a0 A1 A3 A5 c2 c4 c6),aL]) ?_ ?_
 ·clear hk31;rcases jF h with⟨c32,h⟩ | ⟨c32,h⟩
  ·refine L2 Z c32 (T.region Z (KM aC 2 Z (KO Z (K9 (us := [.bool a0.MZ.MU.null,jS a0.MZ.MU.data,jI a0.MZ.Nc,jI a0.MZ.MT,.slice A5 a0.MZ.MN.length c6]) 0 Z Qj Pj Z Z Z) Z ?_)));obtain⟨x33,hx34,h⟩:=Ny h;refine Lb Z .u (.fn Tryz.call60 Z) (uW a0.MZ _ _ _ hx34) (fun _ hs=>(K7 hs (Lf (Lf hX)))) Z ?_;obtain⟨c35,h⟩:=al h;refine KO Z (Ln Z Z c35) Z (KM aC 1 Z ?_);cases h;exact TL.nil (K0 [0,0])
  refine L3 Z c32 (KN Z (KX aC Z ?_));obtain⟨y43,h,hk44⟩:=Ny h;refine LE (fun e Rs=>e = [(2,.string ⟨#[]⟩),(3,jS y43)]/\Rs = [aV b7 53 (zb a0 A1 A3 A5 c2 c4 c6),aL]) ?_ ?_
  ·clear hk44;rcases jF h with⟨c45,h⟩ | ⟨c45,h⟩
   ·refine L2 Z c45 (T.region Z ?_);obtain⟨x46,hx47,h⟩:=Ny h;refine KR aC cK 0 Z 6 Z Z (Lb Z .u (.fn Tryz.call61 Z) (vg a0.Nb _ _ a0.MQ.MY _ hx47) (fun _ hs=>(K7 hs (Lx (Lf hX)))) Z ?_);obtain⟨c48,h⟩:=al h;refine KO Z (Ln Z Z c48) Z (KM aC 1 Z ?_);cases h;exact TL.nil (K0 [0,0])
   refine L3 Z c45 (T.region Z (KR aC cK 0 Z 8 Z Z (KO Z (K9 (us:=wL9 a0.Ni A1 c2) 0 Z PX O8 Z Z Z) Z ?_)));obtain⟨x49,hx50,h⟩:=Ny h;refine Lb Z .u (.fn Tryz.call62 Z) (vc a0.MQ.M1 a0.MQ.MY a0.Ni _ _ _ hx50) (fun _ hs=>(K7 hs (Lx hX))) Z ?_;obtain⟨c51,h⟩:=al h;refine KO Z (Ln Z Z c51) Z (KM aC 1 Z ?_);cases h;exact TL.nil (K0 [0,0])
  rintro _ _ ⟨rfl,rfl⟩;clear h;have h:=hk44;clear hk44;try dsimp only at h
  cases h;exact K0 [0,0]
 rintro _ _ ⟨rfl,rfl⟩;clear h;have h:=hk31;clear hk31;refine La (X.seq (KN Z (KM aC 1 Z (KO Z (LD Z NK) Z ?_))));obtain⟨x52,hx53,h⟩:=Ny h;refine Lb Z .u (.fn Tryz.call63 Z) (bB (y30.length:Int) 4 _ hx53) rT Z ?_;obtain⟨c54,h⟩:=al h;refine KM aC 1 Z (KO Z (Ln Z Z c54) Z (KM aC 1 Z ?_));obtain rfl:=Nz h;exact KP (T.ret (KY [1] Tryz.results16 (KQ Z)))
def nh (a0:cI) (a1:cI):Option (Bool):=(if a0.MQ.M1=a1.MQ.M1 then (if a0.MQ.MY=a1.MQ.MY then (if a0.MQ.M6=a1.MQ.M6 then (if a0.MQ.MX.null=a1.MQ.MX.null then (if a0.MQ.MX.data=a1.MQ.MX.data then ((lg a0.Ni a1.Ni).bind fun x35=>if x35=true then ((jW a0.Nb a1.Nb).bind fun x38=>if x38=true then ((iX a0.MZ a1.MZ).bind fun x41=>some x41) else some false) else some false) else some false) else some false) else some false) else some false) else some false).bind fun y28=>some y28
theorem wy (a0:cI) (A1:Option Addr) (c2:Nat) (A3:Option Addr) (c4:Nat) (A5:Option Addr) (c6:Nat) (a1:cI) (A7:Option Addr) (c8:Nat) (A9:Option Addr) (c10:Nat) (A11:Option Addr) (c12:Nat) (r:Bool) (h:nh a0 a1=some r):aG Tryz.prog 17 #[.agg (zb a0 A1 A3 A5 c2 c4 c6),.agg (zb a1 A7 A9 A11 c8 c10 c12)] (RX.and (RX.of (aq 2 bh) [.slice A1 a0.Ni.MN.length c2] a0.Ni.MN) (RX.and (RX.of (aq 5 co) [.slice A3 a0.Nb.length c4] a0.Nb) (RX.and (RX.of (aq 2 bR) [.slice A5 a0.MZ.MN.length c6] a0.MZ.MN) (RX.and (RX.of (aq 2 bh) [.slice A7 a1.Ni.MN.length c8] a1.Ni.MN) (RX.and (RX.of (aq 5 co) [.slice A9 a1.Nb.length c10] a1.Nb) (RX.of (aq 2 bR) [.slice A11 a1.MZ.MN.length c12] a1.MZ.MN)))))) (aL) (fun v A' N=>v= .bool r/\A'=aL/\N = []):=by
 refine aU Tryz.func17 Z Tryz.ntmps17 Z ?_;intro F w hX;unfold nh at h;refine KN Z (TL.box Z .u Z Z (fun b13=>(TL.box Z .u Z Z (fun b14=>(KX aC Z (T.seq ?_))))));obtain⟨y28,h,hk29⟩:=Ny h;refine LE (fun e Rs=>e = [(4,.bool y28)]/\Rs = [aV b14 53 (zb a1 A7 A9 A11 c8 c10 c12),aV b13 53 (zb a0 A1 A3 A5 c2 c4 c6),aL]) ?_ ?_
 ·clear hk29;refine T.region Z (KM aC 1 Z (KO Z (K9 (us := [jI a0.MQ.M1,jI a0.MQ.MY,jI a0.MQ.M6,.bool a0.MQ.MX.null,jS a0.MQ.MX.data]) 1 Z QC P7 Z Z Z) Z (KM aC 1 Z (KO Z (K9 (us := [jI a1.MQ.M1,jI a1.MQ.MY,jI a1.MQ.M6,.bool a1.MQ.MX.null,jS a1.MQ.MX.data]) 0 Z QC P7 Z Z Z) Z ?_))));rcases jF h with⟨c30,h⟩ | ⟨c30,h⟩
  ·rcases jF h with⟨c31,h⟩ | ⟨c31,h⟩
   ·rcases jF h with⟨c32,h⟩ | ⟨c32,h⟩
    ·rcases jF h with⟨c33,h⟩ | ⟨c33,h⟩
     ·rcases jF h with⟨c34,h⟩ | ⟨c34,h⟩
      ·refine KO Z (Mf (us := [jI a0.MQ.M1,jI a0.MQ.MY,jI a0.MQ.M6,.bool a0.MQ.MX.null,jS a0.MQ.MX.data]) (vs := [jI a1.MQ.M1,jI a1.MQ.MY,jI a1.MQ.M6,.bool a1.MQ.MX.null,jS a1.MQ.MX.data]) dR Z PB Z Z Z Z (fq (pL c30) (fq (pL c31) (fq (pL c32) (fq (pM c33) (fq (tf (l:=a0.MQ.MX.data) (m:=a1.MQ.MX.data) c34) Z)))))) Z (KW aC 2 Z (TL.q Z (.g Z Z Z) (K9 (us:=wL9 a0.Ni A1 c2) 1 Z PX O8 Z Z Z) Z (KW aC 1 Z (TL.q Z (.g Z Z Z) (K9 (us:=wL9 a1.Ni A7 c8) 0 Z PX O8 Z Z Z) Z ?_))));obtain⟨x35,hx36,h⟩:=Ny h;refine Lb Z (.g Z Z Z) (.fn Tryz.call64 Z) (ww a0.Ni _ _ a1.Ni _ _ _ hx36) (fun _ hs=>(RX.reads_and (K7 hs (Lx hX)) (K7 hs (Lx (Lf (Lf (Lf hX))))))) Z ?_;rcases jF h with⟨c37,h⟩ | ⟨c37,h⟩
       ·refine KW aC 2 Z (KV 17 Z c37 (KR aC cK 1 Z 3 Z Z ?_));obtain⟨x38,hx39,h⟩:=Ny h;refine KR aC cK 0 Z 1 Z Z (Lb Z (.g Z Z Z) (.fn Tryz.call65 Z) (wx a0.Nb _ _ a1.Nb _ _ _ hx39) (fun _ hs=>(RX.reads_and (K7 hs (Lx (Lf hX))) (K7 hs (Lx (Lf (Lf (Lf (Lf hX)))))))) Z ?_);rcases jF h with⟨c40,h⟩ | ⟨c40,h⟩
        ·refine KW aC 2 Z (KV 24 Z c40 (KW aC 1 Z (TL.q Z (.g Z Z Z) (K9 (us := [.bool a0.MZ.MU.null,jS a0.MZ.MU.data,jI a0.MZ.Nc,jI a0.MZ.MT,.slice A5 a0.MZ.MN.length c6]) 1 Z Qj Pj Z Z Z) Z (KW aC 1 Z (TL.q Z (.g Z Z Z) (K9 (us := [.bool a1.MZ.MU.null,jS a1.MZ.MU.data,jI a1.MZ.Nc,jI a1.MZ.MT,.slice A11 a1.MZ.MN.length c12]) 0 Z Qj Pj Z Z Z) Z ?_)))));obtain⟨x41,hx42,h⟩:=Ny h;refine Lb Z (.g Z Z Z) (.fn Tryz.call66 Z) (wv a0.MZ _ _ a1.MZ _ _ _ hx42) (fun _ hs=>(RX.reads_and (K7 hs (Lx (Lf (Lf hX)))) (K7 hs (Lf (Lf (Lf (Lf (Lf hX)))))))) Z (KW aC 2 Z ?_);cases h;exact TL.nil (K0 [0,0,0])
        replace c40:=NF c40;refine KW aC 2 Z (KV 24 Z c40 (KW aC 7 Z ?_));cases h;exact TL.nil (K0 [0,0,0])
       replace c37:=NF c37;refine KW aC 2 Z (KV 17 Z c37 (KW aC 14 Z ?_));cases h;exact TL.nil (K0 [0,0,0])
      refine KO Z (Mf (us := [jI a0.MQ.M1,jI a0.MQ.MY,jI a0.MQ.M6,.bool a0.MQ.MX.null,jS a0.MQ.MX.data]) (vs := [jI a1.MQ.M1,jI a1.MQ.MY,jI a1.MQ.M6,.bool a1.MQ.MX.null,jS a1.MQ.MX.data]) dR Z PB Z Z Z Z (fq (pL c30) (fq (pL c31) (fq (pL c32) (fq (pM c33) (mo (sv (l:=a0.MQ.MX.data) (m:=a1.MQ.MX.data) c34))))))) Z (KW aC 22 Z ?_);cases h;exact TL.nil (K0 [0,0,0])
     refine KO Z (Mf (us := [jI a0.MQ.M1,jI a0.MQ.MY,jI a0.MQ.M6,.bool a0.MQ.MX.null,jS a0.MQ.MX.data]) (vs := [jI a1.MQ.M1,jI a1.MQ.MY,jI a1.MQ.M6,.bool a1.MQ.MX.null,jS a1.MQ.MX.data]) dR Z PB Z Z Z Z (fq (pL c30) (fq (pL c31) (fq (pL c32) (mo (ul c33)))))) Z (KW aC 22 Z ?_);cases h;exact TL.nil (K0 [0,0,0])
    refine KO Z (Mf (us := [jI a0.MQ.M1,jI a0.MQ.MY,jI a0.MQ.M6,.bool a0.MQ.MX.null,jS a0.MQ.MX.data]) (vs := [jI a1.MQ.M1,jI a1.MQ.MY,jI a1.MQ.M6,.bool a1.MQ.MX.null,jS a1.MQ.MX.data]) dR Z PB Z Z Z Z (fq (pL c30) (fq (pL c31) (mo (DI c32))))) Z (KW aC 22 Z ?_);cases h;exact TL.nil (K0 [0,0,0])
   refine KO Z (Mf (us := [jI a0.MQ.M1,jI a0.MQ.MY,jI a0.MQ.M6,.bool a0.MQ.MX.null,jS a0.MQ.MX.data]) (vs := [jI a1.MQ.M1,jI a1.MQ.MY,jI a1.MQ.M6,.bool a1.MQ.MX.null,jS a1.MQ.MX.data]) dR Z PB Z Z Z Z (fq (pL c30) (mo (DI c31)))) Z (KW aC 22 Z ?_);cases h;exact TL.nil (K0 [0,0,0])
  refine KO Z (Mf (us := [jI a0.MQ.M1,jI a0.MQ.MY,jI a0.MQ.M6,.bool a0.MQ.MX.null,jS a0.MQ.MX.data]) (vs := [jI a1.MQ.M1,jI a1.MQ.MY,jI a1.MQ.M6,.bool a1.MQ.MX.null,jS a1.MQ.MX.data]) dR Z PB Z Z Z Z (mo (DI c30))) Z (KW aC 22 Z ?_);cases h;exact TL.nil (K0 [0,0,0])
 rintro _ _ ⟨rfl,rfl⟩;clear h;have h:=hk29;clear hk29;obtain rfl:=Nz h;exact X.seq (T.ret (KY [2] Tryz.results17 (KQ Z)))
def HK:eO := [(103,0,0),(103,1,1),(103,2,2),(103,3,3),(103,4,4),(103,5,5),(103,6,6),(171,0,0),(171,1,1)]
theorem an:(HK).OK Tryz.prog:=⟨FOK.mk O2 rfl NG rfl,FOK.mk O2 rfl NG rfl,FOK.mk O2 rfl NG rfl,FOK.mk O2 rfl NG rfl,FOK.mk O2 rfl Py rfl,FOK.mk O2 rfl NG rfl,FOK.mk O2 rfl NG rfl,FOK.mk OW rfl N6 rfl,FOK.mk OW rfl Px rfl,trivial⟩
def HU:List Nat := [3,9,28,74]
theorem bQ:NOK Tryz.prog HU:=⟨NH,Oc,O7,OM,trivial⟩
theorem rl:Tryz.prog.follows .mixedOrders=true:=by kernel_rfl
theorem ze:BOK Tryz.prog 171 #[.string ⟨#[]⟩,.slice none 0 0] [(0,1),(1,1)]:=BOK.mk Tryz.zeroValue171 OW (by intro w; simp)
theorem xB:SOK Tryz.prog 28 171 1 2 #[.string ⟨#[]⟩,.slice none 0 0]:=SOK.mk NQ N5 Tryz.zeroValue171 QS QU
theorem ni:SOK Tryz.prog 74 3 1 1 #[.int .i64 0]:=SOK.mk NN NG Tryz.zeroValue3 QS QU
theorem xC:SOK Tryz.prog 78 9 1 1 #[.string ⟨#[]⟩]:=SOK.mk OU N6 Tryz.zeroValue9 QS QU
theorem qz:(Tryz.prog.info? 3).map (fun i=>(i.zero,i.size,i.bytes))=some (some (.int .i64 0),1,8):=by kernel_rfl
theorem Cc:(Tryz.prog.info? 9).map (fun i=>(i.zero,i.size,i.bytes))=some (some (.string ⟨#[]⟩),1,16):=by kernel_rfl
theorem zf:(Tryz.prog.info? 171).map (fun i=>(i.zero,i.size,i.bytes))=some (some (.agg #[.string ⟨#[]⟩,.slice none 0 0]),2,40):=by kernel_rfl
def fb:List Int->(List UInt8×Int)->Option (List UInt8×Int)
 | [],st24=>some st24
 | x29::xs,st24=>(ed st24 x29 4).bind fun st33=>fb xs st33
def fc:List Top->(List UInt8×Int)->Option (List UInt8×Int)
 | [],st6=>some st6
 | x11::xs,st6=>(oG st6 x11.MV).bind fun st19=>(ed st19 (x11.MP.length:Int) 4).bind fun st21=>(fb x11.MP st21).bind fun st36=>fc xs st36
def iM (st:List UInt8×Int) (a1:List Top):Option (List UInt8×Int):=(ed st (a1.length:Int) 4).bind fun st3=>(fc a1 st3).bind fun st38=>some st38
theorem kz (g:Nat) (st:List UInt8×Int) (a1:List Top) (A1:Option Addr) (c2:Nat) (r:List UInt8×Int) (h:iM st a1=some r):aG Tryz.prog 91 #[jP g,.slice A1 a1.length c2] (RX.of (aq 2 bh) [.slice A1 a1.length c2] a1) (bC g st) (fun v A' N=>v= .tuple #[]/\A'=bC g r/\N = []):=by
 refine aU Tryz.func91 Z Tryz.ntmps91 Z ?_;intro F w hX;unfold iM at h;refine KN Z (KM an 2 Z (KO Z (K4 Z NQ) Z ?_));obtain⟨st3,hx4,h⟩:=Ny h;refine KZ 0 Z Z .u (.fn Tryz.call51 Z) (bu g st (a1.length:Int) 4 _ hx4) sT Z Z (Ld Z (KM an 1 Z (KO Z (K4 Z NQ) Z (KX an Z (T.block ?_)))));obtain⟨E7,hE8,hO9⟩:=Ny h;have hk13len:=LG hX;refine LB (fun m e Rs=> ∃ (k5:Nat) (st6:List UInt8×Int),k5+m=a1.length/\e = [(0,jP g),(12,.slice A1 a1.length c2),(13,jI (a1.length:Int)),(14,jI (k5:Int))]/\Rs = [bC g st6]/\fc (a1.drop k5) st6=some E7) (a1.length) [0] ⟨0,st3,by simp,Z,Z,by rw[List.drop_zero]; exact hE8⟩ QW QW ?_;clear hE8 h;rintro m10 _ _ ⟨k5,st6,hk13,rfl,rfl,h⟩
 cases m10 with
 | zero =>
  rw[List.drop_of_length_le QR,fc] at h;have hk13ge: ¬ ((k5:Int)<(a1.length:Int)):=by omega
  refine KN Z (KX an Z (T.seq (Li Z (NC hk13ge) ?_)));obtain rfl:=Nz h;obtain rfl:=Nz hO9;exact T.exit (K5 (K5 (Ly (LQ [0] Tryz.results91 ⟨Z,Z,Z⟩ QW (.inr Z)))))
 | succ m10 =>
  obtain⟨x11,hxx11⟩: ∃ x,a1[k5]? = some x:=⟨_,List.getElem?_eq_getElem QR⟩;rw[bH hxx11,fc] at h;have hk13lt:(k5:Int)<(a1.length:Int):=by omega
  refine KN Z (KX an Z (T.seq (K1 Z (NB hk13lt) ?_)));obtain⟨gz14,oz14,rfl,z14cs,z14cl,z14cc,z14nf,z14r⟩:=Lm QS hX hxx11;obtain⟨z14S,z14r,z14rr⟩:=z14r;obtain⟨A15,c16,rfl,z14s0⟩:=z14r;have hX17:(RX.of (aq 1 ea) [.slice A15 x11.MP.length c16] x11.MP).reads w F:=⟨z14S,z14s0,z14rr⟩;refine K8 (T.seq (T.block (KN Z ?_)));refine KO Z (K6 (k:=k5) Z Z Z NQ N5 (ND hxx11).1) Z ?_;refine KO Z (LM (us := [jS x11.MV,.slice A15 x11.MP.length c16]) 0 Z P3 N5 z14nf z14cc Z Z Z) Z (TL.alloc Z .u Tryz.zeroValue171 Z (fun b18=>(K3 0 Z (cs':= #[jS x11.MV,.slice A15 x11.MP.length c16]) Z .u Z Z N5 Z Z Z Z Z (Ld Z ?_))));obtain⟨st19,hx20,h⟩:=Ny h;refine KR an bQ 0 Z 3 Z Z (KZ 1 Z Z .u (.fn Tryz.call88 Z) (lx g st6 x11.MV _ hx20) sT Z Z (Ld Z (KR an bQ 0 Z 3 Z Z (KO Z (K4 Z NN) Z ?_))));obtain⟨st21,hx22,h⟩:=Ny h;refine KZ 1 Z Z .u (.fn Tryz.call51 Z) (bu g st19 (x11.MP.length:Int) 4 _ hx22) sT Z Z (Ld Z (KR an bQ 0 Z 2 Z Z (KO Z (K4 Z NN) Z (KX an Z (T.block ?_)))));obtain⟨E25,hE26,hO27⟩:=Ny h;have hk31len:=LG hX17;refine LB (fun m e Rs=> ∃ (k23:Nat) (st24:List UInt8×Int),k23+m=x11.MP.length/\e = [(0,jP g),(12,.slice (some ⟨gz14,oz14,none⟩) a1.length c2),(13,jI (a1.length:Int)),(14,jI (k5:Int)),(28,.slice A15 x11.MP.length c16),(29,jI (x11.MP.length:Int)),(30,jI (k23:Int))]/\Rs = [aV b18 171 #[jS x11.MV,.slice A15 x11.MP.length c16],bC g st24]/\fb (x11.MP.drop k23) st24=some E25) (x11.MP.length) [0,0] ⟨0,st21,by simp,Z,Z,by rw[List.drop_zero]; exact hE26⟩ QW QW ?_;clear hE26 h;rintro m28 _ _ ⟨k23,st24,hk31,rfl,rfl,h⟩
  cases m28 with
  | zero =>
   rw[List.drop_of_length_le QR,fb] at h;have hk31ge: ¬ ((k23:Int)<(x11.MP.length:Int)):=by omega
   refine KN Z (KX an Z (T.seq (Li Z (NC hk31ge) ?_)));obtain rfl:=Nz h;replace h:=hO27;clear hO27;exact T.exit (K5 (K5 (Ly (La (X.seq (T.region Z (KO Z (Ex.add Z Z QR) Z (KM an 1 Z (TL.nil (X.back (m':=m10) [1] QR ⟨k5+1,st24,by omega,Z,Z,h⟩ QW QW))))))))))
  | succ m28 =>
   obtain⟨x29,hxx29⟩: ∃ x,x11.MP[k23]? = some x:=⟨_,List.getElem?_eq_getElem QR⟩;rw[bH hxx29,fb] at h;have hk31lt:(k23:Int)<(x11.MP.length:Int):=by omega
   refine KN Z (KX an Z (T.seq (K1 Z (NB hk31lt) ?_)));obtain⟨gz32,oz32,rfl,z32cs,z32cl,z32cc,z32nf,z32r⟩:=Lm QS hX17 hxx29;obtain⟨z32S,z32r,z32rr⟩:=z32r;obtain rfl:z32cs = [jI x29]:=z32r;refine K8 (T.seq (T.block (KN Z ?_)));refine KO Z (K6 (k:=k23) Z Z Z NN NG (ND hxx29).1) Z ?_;refine KO Z (Lw 0 Z NH z32nf z32cc Z Z) Z (KX an Z (T.region Z ?_));obtain⟨st33,hx34,h⟩:=Ny h;exact KM an 2 Z (KZ 1 Z Z .u (.fn Tryz.call51 Z) (bu g st24 x29 4 _ hx34) sT Z Z (TL.nil (La (X.seq (T.region Z (KO Z (Ex.add Z Z QR) Z (KM an 1 Z (TL.nil (X.back (m':=m28) [0,0] QR ⟨k23+1,st33,by omega,Z,Z,h⟩ QW QW)))))))))
def mD (a0:Int):Option (Bool):=if a0=0 then some true else (if a0>=4 then some true else some false)
theorem tu (a0:Int) (r:Bool) (h:mD a0=some r):aG Tryz.prog 145 #[jI a0] .triv (aL) (fun v A' N=>v= .bool r/\A'=aL/\N = []):=by
 refine aU Tryz.func145 Z Tryz.ntmps145 Z ?_;intro F w hX;unfold mD at h;refine KN Z (Le an Z Z ?_);rcases jF h with⟨c1,h⟩ | ⟨c1,h⟩
 ·refine KM an 3 Z (KV 5 Z (NB c1) (KW an 4 Z ?_));obtain rfl:=Nz h;exact KP (T.ret (KY [0] Tryz.results145 (KQ Z)))
 refine KM an 3 Z (KV 5 Z (NC c1) (KW an 4 Z ?_));rcases jF h with⟨c2,h⟩ | ⟨c2,h⟩
 ·obtain rfl:=Nz h;exact KP (T.ret (Ll [0] Tryz.results145 (KQ (v:= .bool true) (congrArg (fun b=>some (Value.bool b)) (NB c2))) ⟨Z,Z,Z⟩ QW (.inl Z)))
 obtain rfl:=Nz h;exact KP (T.ret (Ll [0] Tryz.results145 (KQ (v:= .bool false) (congrArg (fun b=>some (Value.bool b)) (NC c2))) ⟨Z,Z,Z⟩ QW (.inl Z)))
def cV (a0:List Int):Nat->Bool->Int->Option (Lp Bool (Bool×Int))
 | 0,_,_=>none
 | m8+1,y3,y4=>if y4<(a0.length:Int) then (if -9223372036854775808<=(y4 - 1)/\(y4 - 1)<=9223372036854775807 then (if 0<=(y4 - 1) then ((a0[(y4 - 1).toNat]?).bind fun x15=>if 0<=y4 then ((a0[y4.toNat]?).bind fun x19=>if x15>=x19 then some (Lp.ret false) else (if -9223372036854775808<=(y4+1)/\(y4+1)<=9223372036854775807 then (cV a0 m8 y3 (y4+1)) else none)) else none) else none) else none) else (some (Lp.go (y3,y4)))
def gj (a0:List Int):Option (Bool):=(cV a0 ((((a0.length:Int)) - (1)).toNat+1) false 1).bind fun e=>match e with | .ret r=>some r | .go (y24,y25)=>some true
theorem pp (a0:List Int) (A1:Option Addr) (c2:Nat) (r:Bool) (h:gj a0=some r):aG Tryz.prog 218 #[.slice A1 a0.length c2] (RX.of (aq 1 ea) [.slice A1 a0.length c2] a0) (aL) (fun v A' N=>v= .bool r/\A'=aL/\N = []):=by
 refine aU Tryz.func218 Z Tryz.ntmps218 Z ?_;intro F w hX;unfold gj at h;refine KN Z (KX an Z (T.seq (KN Z (KX an Z (T.block ?_)))));obtain⟨E5,hE6,hO7⟩:=Ny h;refine LB (fun m e Rs=> ∃ (y3:Bool) (y4:Int),e = [(0,.slice A1 a0.length c2),(2,.bool y3),(3,jI y4)]/\Rs = [aL]/\cV a0 m y3 y4=some E5) ((((a0.length:Int)) - (1)).toNat+1) [0] ⟨false,1,Z,Z,by exact hE6⟩ QW QW ?_;clear hE6 h;rintro m8 _ _ ⟨y3,y4,rfl,rfl,h⟩
 cases m8 with
 | zero =>
  rw[cV] at h;cases h
 | succ m8 =>
  rw[cV] at h;refine T.seq (KN Z (KM an 2 Z (KO Z (K4 Z NN) Z (KM an 1 Z ?_))));rcases jF h with⟨c12,h⟩ | ⟨c12,h⟩
  ·refine Lh Z c12 ?_;refine K8 (T.seq (T.block (T.seq (Ls (.q 0 (.q 1 (.q 2 (.q 3 (.q 4 (.q 5 (.q 6 (.q 7 (.q 8 (.q 9 .nil)))))))))) [0] Z rl (NoP.seq (NoP.blk (NoP.seq (NoP.seq (NoP.blk (NoP.seq bq)))))) QU ?_))));obtain⟨c13,h⟩:=al h;refine TD.run an [0,1] Z Z (KU Z (Ex.sub Z Z c13) Z ?_);obtain⟨c14,h⟩:=al h;obtain⟨x15,hx16,h⟩:=Ny h;obtain⟨gz17,oz17,rfl,z17cs,z17cl,z17cc,z17nf,z17r⟩:=Lm QS hX hx16;obtain⟨z17S,z17r,z17rr⟩:=z17r;obtain rfl:z17cs = [jI x15]:=z17r;refine KU Z (K6 (k:=(y4 - 1).toNat) Z Z ((Int.toNat_of_nonneg c14).symm) NN NG (ND hx16).1) Z ?_;refine KU Z (Lw 0 Z NH z17nf z17cc Z Z) Z ?_;obtain⟨c18,h⟩:=al h;obtain⟨x19,hx20,h⟩:=Ny h;obtain⟨z21cs,z21cl,z21cc,z21nf,z21r⟩:=Ml QS hX hx20;obtain⟨z21S,z21r,z21rr⟩:=z21r;obtain rfl:z21cs = [jI x19]:=z21r;refine TD.run an [5,6] Z Z ?_;refine KU Z (K6 (k:=y4.toNat) Z Z ((Int.toNat_of_nonneg c18).symm) NN NG (ND hx20).1) Z ?_;refine KU Z (Lw 0 Z NH z21nf z21cc Z Z) Z (TD.run an [9] Z Z ?_);rcases jF h with⟨c22,h⟩ | ⟨c22,h⟩
   ·refine LK (L2 Z c22 (KN Z (KM an 1 Z ?_)));obtain rfl:=Nz h;obtain rfl:=Nz hO7;exact KP (T.ret (K2 (KT (KT (K2 (KT (KY [0] Tryz.results218 (KQ Z))))))))
   refine LK (L3 Z c22 (T.skip (La (X.seq (T.region Z ?_)))));obtain⟨c23,h⟩:=al h;exact KM an 1 Z (KO Z (Ex.add Z Z c23) Z (KM an 1 Z (TL.nil (X.back (m':=m8) [0] QR ⟨y3,(y4+1),Z,Z,h⟩ QW QW))))
  refine Lg Z c12 ?_;obtain rfl:=Nz h;replace h:=hO7;clear hO7;refine T.exit (K5 (K5 (Ly (X.seq (KN Z (KM an 1 Z ?_))))));obtain rfl:=Nz h;exact KP (T.ret (KY [0] Tryz.results218 (KQ Z)))
def eK:List Int->Bool->Option (Lp Bool Bool)
 | [],y3=>some (Lp.go y3)
 | x9::xs,y3=>if x9<0 then some (Lp.ret false) else ((jy x9 4).bind fun x14=>if x14=true then (eK xs y3) else some (Lp.ret false))
def jM (a0:List Int):Option (Bool):=(eK a0 false).bind fun e=>match e with | .ret r=>some r | .go y17=>(if (a0.length:Int)>0 then ((gj a0).bind fun x20=>some x20) else some false)
theorem sA (a0:List Int) (A1:Option Addr) (c2:Nat) (r:Bool) (h:jM a0=some r):aG Tryz.prog 189 #[.slice A1 a0.length c2] (RX.of (aq 1 ea) [.slice A1 a0.length c2] a0) (aL) (fun v A' N=>v= .bool r/\A'=aL/\N = []):=by
 refine aU Tryz.func189 Z Tryz.ntmps189 Z ?_;intro F w hX;unfold jM at h;refine KN Z (KX an Z (T.seq (KN Z (KM an 1 Z (KO Z (K4 Z NN) Z (KX an Z (T.block ?_)))))));obtain⟨E5,hE6,hO7⟩:=Ny h;have hk11len:=LG hX;refine LB (fun m e Rs=> ∃ (y3:Bool) (k4:Nat),k4+m=a0.length/\e = [(0,.slice A1 a0.length c2),(2,.bool y3),(5,.slice A1 a0.length c2),(6,jI (a0.length:Int)),(7,jI (k4:Int))]/\Rs = [aL]/\eK (a0.drop k4) y3=some E5) (a0.length) [0] ⟨false,0,by simp,Z,Z,by rw[List.drop_zero]; exact hE6⟩ QW QW ?_;clear hE6 h;rintro m8 _ _ ⟨y3,k4,hk11,rfl,rfl,h⟩
 cases m8 with
 | zero =>
  rw[List.drop_of_length_le QR,eK] at h;have hk11ge: ¬ ((k4:Int)<(a0.length:Int)):=by omega
  refine KN Z (KX an Z (T.seq (Li Z (NC hk11ge) ?_)));obtain rfl:=Nz h;replace h:=hO7;clear hO7;refine T.exit (K5 (K5 (Ly (X.seq (KN Z (KM an 1 Z (KO Z (K4 Z NN) Z ?_)))))));rcases jF h with⟨c22,h⟩ | ⟨c22,h⟩
  ·refine KM an 2 Z (KV 22 Z (NB c22) ?_);obtain⟨x23,hx24,h⟩:=Ny h;refine KW an 1 Z (Lb Z (.g Z Z Z) (.fn Tryz.call218 Z) (pp a0 _ _ _ hx24) (fun _ hs=>(K7 hs hX)) Z (KW an 2 Z ?_));obtain rfl:=Nz h;exact KP (T.ret (KY [0] QD (KQ Z)))
  refine KM an 2 Z (KV 22 Z (NC c22) (KW an 4 Z ?_));obtain rfl:=Nz h;exact KP (T.ret (KY [0] QD (KQ Z)))
 | succ m8 =>
  obtain⟨x9,hxx9⟩: ∃ x,a0[k4]? = some x:=⟨_,List.getElem?_eq_getElem QR⟩;rw[bH hxx9,eK] at h;have hk11lt:(k4:Int)<(a0.length:Int):=by omega
  refine KN Z (KX an Z (T.seq (K1 Z (NB hk11lt) ?_)));obtain⟨gz12,oz12,rfl,z12cs,z12cl,z12cc,z12nf,z12r⟩:=Lm QS hX hxx9;obtain⟨z12S,z12r,z12rr⟩:=z12r;obtain rfl:z12cs = [jI x9]:=z12r;refine K8 (T.seq (T.block (KN Z ?_)));refine KO Z (K6 (k:=k4) Z Z Z NN NG (ND hxx9).1) Z ?_;refine KO Z (Lw 0 Z NH z12nf z12cc Z Z) Z (Le an Z Z ?_);rcases jF h with⟨c13,h⟩ | ⟨c13,h⟩
  ·refine KM an 3 Z (KV 13 Z (NB c13) (Lz an Z (K1 Z Z (KN Z (KM an 1 Z ?_)))));obtain rfl:=Nz h;obtain rfl:=Nz hO7;exact KP (T.ret (K2 (KT (KT (K2 (KT (KY [0] QD (KQ Z))))))))
  refine KM an 3 Z (KV 13 Z (NC c13) ?_);obtain⟨x14,hx15,h⟩:=Ny h;refine KW an 1 Z (Lb Z (.g Z Z Z) (.fn Tryz.call101 Z) (LL (fun w=>dI x9 4 _ hx15 w)) (fun _ _=>Lv _ _) Z (KW an 2 Z ?_));rcases jF h with⟨c16,h⟩ | ⟨c16,h⟩
  ·exact KP (Li Z (bi c16) (T.skip (La (X.seq (T.region Z (KO Z (Ex.add Z Z QR) Z (KM an 1 Z (TL.nil (X.back (m':=m8) [0] QR ⟨y3,k4+1,by omega,Z,Z,h⟩ QW QW)))))))))
  replace c16:=NF c16;refine KP (K1 Z (bF c16) (KN Z (KM an 1 Z ?_)));obtain rfl:=Nz h;obtain rfl:=Nz hO7;exact KP (T.ret (K2 (KT (KT (K2 (KT (KY [0] QD (KQ Z))))))))
def cn (a0:List (List UInt8)):Nat->Bool->Int->Option (Lp Bool (Bool×Int))
 | 0,_,_=>none
 | m8+1,y3,y4=>if y4<(a0.length:Int) then (if -9223372036854775808<=(y4 - 1)/\(y4 - 1)<=9223372036854775807 then (if 0<=(y4 - 1) then ((a0[(y4 - 1).toNat]?).bind fun x15=>if 0<=y4 then ((a0[y4.toNat]?).bind fun x19=>if (Op.bytesLess x15 x19)=true then (if -9223372036854775808<=(y4+1)/\(y4+1)<=9223372036854775807 then (cn a0 m8 y3 (y4+1)) else none) else some (Lp.ret false)) else none) else none) else none) else (some (Lp.go (y3,y4)))
def fd (a0:List (List UInt8)):Option (Bool):=(cn a0 ((((a0.length:Int)) - (1)).toNat+1) false 1).bind fun e=>match e with | .ret r=>some r | .go (y24,y25)=>some true
theorem nK (a0:List (List UInt8)) (A1:Option Addr) (c2:Nat) (r:Bool) (h:fd a0=some r):aG Tryz.prog 190 #[.slice A1 a0.length c2] (RX.of (aq 1 mW) [.slice A1 a0.length c2] a0) (aL) (fun v A' N=>v= .bool r/\A'=aL/\N = []):=by
 refine aU Tryz.func190 Z Tryz.ntmps190 Z ?_;intro F w hX;unfold fd at h;refine KN Z (KX an Z (T.seq (KN Z (KX an Z (T.block ?_)))));obtain⟨E5,hE6,hO7⟩:=Ny h;refine LB (fun m e Rs=> ∃ (y3:Bool) (y4:Int),e = [(0,.slice A1 a0.length c2),(2,.bool y3),(3,jI y4)]/\Rs = [aL]/\cn a0 m y3 y4=some E5) ((((a0.length:Int)) - (1)).toNat+1) [0] ⟨false,1,Z,Z,by exact hE6⟩ QW QW ?_;clear hE6 h;rintro m8 _ _ ⟨y3,y4,rfl,rfl,h⟩
 cases m8 with
 | zero =>
  rw[cn] at h;cases h
 | succ m8 =>
  rw[cn] at h;refine T.seq (KN Z (KM an 2 Z (KO Z (K4 Z OU) Z (KM an 1 Z ?_))));rcases jF h with⟨c12,h⟩ | ⟨c12,h⟩
  ·refine Lh Z c12 ?_;refine K8 (T.seq (T.block (T.seq (Ls (.q 0 (.q 1 (.q 2 (.q 3 (.q 4 (.q 5 (.q 6 (.q 7 (.q 8 (.q 9 .nil)))))))))) [0] Z rl (NoP.seq (NoP.blk (NoP.seq (NoP.seq (NoP.blk (NoP.seq bq)))))) QU ?_))));obtain⟨c13,h⟩:=al h;refine TD.run an [0,1] Z Z (KU Z (Ex.sub Z Z c13) Z ?_);obtain⟨c14,h⟩:=al h;obtain⟨x15,hx16,h⟩:=Ny h;obtain⟨gz17,oz17,rfl,z17cs,z17cl,z17cc,z17nf,z17r⟩:=Lm QS hX hx16;obtain⟨z17S,z17r,z17rr⟩:=z17r;obtain rfl:z17cs = [jS x15]:=z17r;refine KU Z (K6 (k:=(y4 - 1).toNat) Z Z ((Int.toNat_of_nonneg c14).symm) OU N6 (ND hx16).1) Z ?_;refine KU Z (Lw 0 Z Oc z17nf z17cc Z Z) Z ?_;obtain⟨c18,h⟩:=al h;obtain⟨x19,hx20,h⟩:=Ny h;obtain⟨z21cs,z21cl,z21cc,z21nf,z21r⟩:=Ml QS hX hx20;obtain⟨z21S,z21r,z21rr⟩:=z21r;obtain rfl:z21cs = [jS x19]:=z21r;refine TD.run an [5,6] Z Z ?_;refine KU Z (K6 (k:=y4.toNat) Z Z ((Int.toNat_of_nonneg c18).symm) OU N6 (ND hx20).1) Z ?_;refine KU Z (Lw 0 Z Oc z21nf z21cc Z Z) Z (KU Z (Ex.sGe Z Z) Z ?_);rcases jF h with⟨c22,h⟩ | ⟨c22,h⟩
   ·refine LK (Li Z (bi c22) (T.skip (La (X.seq (T.region Z ?_)))));obtain⟨c23,h⟩:=al h;exact KM an 1 Z (KO Z (Ex.add Z Z c23) Z (KM an 1 Z (TL.nil (X.back (m':=m8) [0] QR ⟨y3,(y4+1),Z,Z,h⟩ QW QW))))
   replace c22:=NF c22;refine LK (K1 Z (bF c22) (KN Z (KM an 1 Z ?_)));obtain rfl:=Nz h;obtain rfl:=Nz hO7;exact KP (T.ret (K2 (KT (KT (K2 (KT (KY [0] Tryz.results190 (KQ Z))))))))
  refine Lg Z c12 ?_;obtain rfl:=Nz h;replace h:=hO7;clear hO7;refine T.exit (K5 (K5 (Ly (X.seq (KN Z (KM an 1 Z ?_))))));obtain rfl:=Nz h;exact KP (T.ret (KY [0] Tryz.results190 (KQ Z)))
def dL:List Top->Bool->List (List UInt8)->Option (Lp Bool (Bool×List (List UInt8)))
 | [],y3,y4=>some (Lp.go (y3,y4))
 | x12::xs,y3,y4=>if x12.MV = [] then some (Lp.ret false) else (if (x12.MV.length:Int)>32767 then some (Lp.ret false) else ((jM x12.MP).bind fun x22=>if x22=true then (if (y4.length+1)*16<=140737488355328 then (dL xs y3 (y4 ++ [x12.MV])) else none) else some (Lp.ret false)))
def fe (a0:List Top):Option (Bool):=(dL a0 false []).bind fun e=>match e with | .ret r=>some r | .go (y29,y30)=>((fd y30).bind fun x34=>some x34)
theorem gH (a0:List Top) (A1:Option Addr) (c2:Nat) (r:Bool) (h:fe a0=some r):aG Tryz.prog 146 #[.slice A1 a0.length c2] (RX.of (aq 2 bh) [.slice A1 a0.length c2] a0) (aL) (fun v A' N=>v= .bool r/\A'=aL/\N = []):=by
 refine aU Tryz.func146 Z Tryz.ntmps146 Z ?_;intro F w hX;unfold fe at h;refine KN Z (Le an Z Z (KX an Z (T.seq (KN Z (KM an 1 Z (KO Z (K4 Z NQ) Z (KM an 1 Z ?_)))))));refine KP (T.block (LY 9 1 mW ?_));obtain⟨E8,hE9,hO10⟩:=Ny h;have hk14len:=LG hX;refine LB (fun m e Rs=> ∃ (y3:Bool) (y4:List (List UInt8)) (A5:Option Addr) (c6:Nat) (k7:Nat),k7+m=a0.length/\e = [(2,.bool y3),(3,.slice A5 y4.length c6),(6,.slice A1 a0.length c2),(7,jI (a0.length:Int)),(8,jI (k7:Int))]/\Rs = [bG 9 1 mW (.slice A5 y4.length c6) y4,aL]/\dL (a0.drop k7) y3 y4=some E8) (a0.length) [0,0] ⟨false,[],none,0,0,by simp,Z,Z,by rw[List.drop_zero]; exact hE9⟩ QW QW ?_;clear hE9 h;rintro m11 _ _ ⟨y3,y4,A5,c6,k7,hk14,rfl,rfl,h⟩
 cases m11 with
 | zero =>
  rw[List.drop_of_length_le QR,dL] at h;have hk14ge: ¬ ((k7:Int)<(a0.length:Int)):=by omega
  refine KN Z (KX an Z (T.seq (Li Z (NC hk14ge) ?_)));obtain rfl:=Nz h;replace h:=hO10;clear hO10;refine T.exit (K5 (K5 (Ly (X.seq (KN Z ?_)))));obtain⟨x36,hx37,h⟩:=Ny h;refine KM an 1 Z (Lb Z .u (.fn Tryz.call190 Z) (nK y4 _ _ _ hx37) (fun _ hs=>(SrcE.res 0 hs Z (fun w G h=>bX QS w G h))) Z (KM an 1 Z ?_));obtain rfl:=Nz h;exact KP (T.ret (KY [1] QE (KQ Z)))
 | succ m11 =>
  obtain⟨x12,hxx12⟩: ∃ x,a0[k7]? = some x:=⟨_,List.getElem?_eq_getElem QR⟩;rw[bH hxx12,dL] at h;have hk14lt:(k7:Int)<(a0.length:Int):=by omega
  refine KN Z (KX an Z (T.seq (K1 Z (NB hk14lt) ?_)));obtain⟨gz15,oz15,rfl,z15cs,z15cl,z15cc,z15nf,z15r⟩:=Lm QS hX hxx12;obtain⟨z15S,z15r,z15rr⟩:=z15r;obtain⟨A16,c17,rfl,z15s0⟩:=z15r;have hX18:(RX.of (aq 1 ea) [.slice A16 x12.MP.length c17] x12.MP).reads w F:=⟨z15S,z15s0,z15rr⟩;refine K8 (T.seq (T.block (KN Z ?_)));refine KO Z (K6 (k:=k7) Z Z Z NQ N5 (ND hxx12).1) Z ?_;refine KO Z (LM (us := [jS x12.MV,.slice A16 x12.MP.length c17]) 0 Z P3 N5 z15nf z15cc Z Z Z) Z (TL.alloc Z .u Tryz.zeroValue171 Z (fun b19=>(K3 0 Z (cs':= #[jS x12.MV,.slice A16 x12.MP.length c17]) Z .u Z Z N5 Z Z Z Z Z (KP (T.seq (KN Z (KR an bQ 0 Z 2 Z Z (KO Z (Ex.sEq Z (m := []) Z) Z ?_))))))));rcases jF h with⟨c20,h⟩ | ⟨c20,h⟩
  ·refine KM an 1 Z (KV 15 Z (NB c20) (Lz an Z (K1 Z Z (KN Z (KM an 1 Z ?_)))));obtain rfl:=Nz h;obtain rfl:=Nz hO10;exact KP (T.ret (KT (K2 (KT (KT (K2 (KT (KY [2] QE (KQ Z)))))))))
  refine KM an 1 Z (KV 15 Z (NC c20) (KR an bQ 0 Z 2 Z Z (TL.q Z (.g Z Z Z) (LD Z NK) Z ?_)));rcases jF h with⟨c21,h⟩ | ⟨c21,h⟩
  ·refine KW an 3 Z (KV 21 Z (NB c21) (Lz an Z (K1 Z Z (KN Z (KM an 1 Z ?_)))));obtain rfl:=Nz h;obtain rfl:=Nz hO10;exact KP (T.ret (KT (K2 (KT (KT (K2 (KT (KY [2] QE (KQ Z)))))))))
  refine KW an 3 Z (KV 21 Z (NC c21) ?_);obtain⟨x22,hx23,h⟩:=Ny h;refine KR an bQ 0 Z 2 Z Z (Lb Z (.g Z Z Z) (.fn Tryz.call189 Z) (sA x12.MP _ _ _ hx23) (fun _ hs=>(K7 hs hX18)) Z (KW an 2 Z ?_));rcases jF h with⟨c24,h⟩ | ⟨c24,h⟩
  ·refine KP (Li Z (bi c24) (K8 (T.region Z (KR an bQ 0 Z 3 Z Z (L4 (cells:= #[jS x12.MV]) Z .u xC Z QW Z (fun b25=> ?_))))));obtain⟨c26,h⟩:=al h;refine MF 1 Z .u (us := [jS x12.MV]) (u:=x12.MV) (l:=y4) (E:=mW) Tryz.underlying78 Cc Z QS Z Z Z Z Z Z (fun _ _=>Z) (by have hq:=c26; omega) (by have hq:=c26; omega) Z (fun A27 c28=> ?_);exact Lt [0,0,0] Z (KM an 1 Z (TL.nil (La (X.seq (T.region Z (KO Z (Ex.add Z Z QR) Z (KM an 1 Z (TL.nil (X.back (m':=m11) [1,1] QR ⟨y3,(y4 ++ [x12.MV]),A27,c28,k7+1,by omega,Z,Z,h⟩ QW QW)))))))))
  replace c24:=NF c24;refine KP (K1 Z (bF c24) (KN Z (KM an 1 Z ?_)));obtain rfl:=Nz h;obtain rfl:=Nz hO10;exact KP (T.ret (KT (K2 (KT (KT (K2 (KT (KY [2] QE (KQ Z)))))))))
def jN (a0:Val):Option (Int):=if a0.MO<0 then some 11 else (if a0.MR<0 then some 11 else ((jy a0.MR 2).bind fun x6=>if x6=true then (if a0.MT<0 then some 11 else ((jy a0.MT 4).bind fun x10=>if x10=true then (if a0.Nx<0 then some 11 else (if a0.Nw<(-1) then some 11 else (if a0.Nv<0 then some 12 else (if a0.Nv>=7 then some 12 else ((mD a0.Nv).bind fun x17=>if x17=true then (if (a0.MN.length:Int)=0 then (if a0.Nv=0 then (if a0.Nw=(-1) then ((fe a0.MN).bind fun x23=>if x23=true then some 0 else some 13) else some 10) else (if a0.Nw=(-1) then some 10 else ((fe a0.MN).bind fun x27=>if x27=true then some 0 else some 13))) else some 10) else (if (a0.MN.length:Int)=0 then some 10 else (if a0.Nv=0 then (if a0.Nw=(-1) then ((fe a0.MN).bind fun x33=>if x33=true then some 0 else some 13) else some 10) else (if a0.Nw=(-1) then some 10 else ((fe a0.MN).bind fun x37=>if x37=true then some 0 else some 13))))))))) else some 11)) else some 11))
theorem sB (a0:Val) (A1:Option Addr) (c2:Nat) (r:Int) (h:jN a0=some r):aG Tryz.prog 90 #[.agg #[jI a0.MO,jI a0.MR,jI a0.MT,jI a0.Nv,.slice A1 a0.MN.length c2,jI a0.Nx,jI a0.Nw]] (RX.of (aq 2 bh) [.slice A1 a0.MN.length c2] a0.MN) (aL) (fun v A' N=>v=jI r/\A'=aL/\N = []):=by
 refine aU Tryz.func90 Z Tryz.ntmps90 Z ?_;intro F w hX;unfold jN at h;refine KN Z (TL.box Z .u Z Z (fun b3=>(KX an Z (T.seq (T.block (KN Z ?_))))));rcases jF h with⟨c4,h⟩ | ⟨c4,h⟩
 ·refine KR an bQ 0 Z 4 Z Z (KV 7 Z (NB c4) (Lz an Z (K1 Z Z (KN Z (KM an 1 Z ?_)))));obtain rfl:=Nz h;exact KP (T.ret (K2 (KT (KY [1] Oo (KQ Z)))))
 refine KR an bQ 0 Z 4 Z Z (KV 7 Z (NC c4) ?_);rcases jF h with⟨c5,h⟩ | ⟨c5,h⟩
 ·refine KR an bQ 0 Z 5 Z Z (KV 12 Z (NB c5) (Lz an Z (K1 Z Z (KN Z (KM an 1 Z ?_)))));obtain rfl:=Nz h;exact KP (T.ret (K2 (KT (KY [1] Oo (KQ Z)))))
 refine KR an bQ 0 Z 5 Z Z (KV 12 Z (NC c5) ?_);obtain⟨x6,hx7,h⟩:=Ny h;refine KR an bQ 0 Z 2 Z Z (Lb Z (.g Z Z Z) (.fn Tryz.call101 Z) (LL (fun w=>dI a0.MR 2 _ hx7 w)) (fun _ _=>Lv _ _) Z ?_);rcases jF h with⟨c8,h⟩ | ⟨c8,h⟩
 ·refine KW an 3 Z (KV 18 Z (bi c8) ?_);rcases jF h with⟨c9,h⟩ | ⟨c9,h⟩
  ·refine KR an bQ 0 Z 5 Z Z (KV 23 Z (NB c9) (Lz an Z (K1 Z Z (KN Z (KM an 1 Z ?_)))));obtain rfl:=Nz h;exact KP (T.ret (K2 (KT (KY [1] Oo (KQ Z)))))
  refine KR an bQ 0 Z 5 Z Z (KV 23 Z (NC c9) ?_);obtain⟨x10,hx11,h⟩:=Ny h;refine KR an bQ 0 Z 2 Z Z (Lb Z (.g Z Z Z) (.fn Tryz.call101 Z) (LL (fun w=>dI a0.MT 4 _ hx11 w)) (fun _ _=>Lv _ _) Z ?_);rcases jF h with⟨c12,h⟩ | ⟨c12,h⟩
  ·refine KW an 3 Z (KV 29 Z (bi c12) ?_);rcases jF h with⟨c13,h⟩ | ⟨c13,h⟩
   ·refine KR an bQ 0 Z 5 Z Z (KV 34 Z (NB c13) (Lz an Z (K1 Z Z (KN Z (KM an 1 Z ?_)))));obtain rfl:=Nz h;exact KP (T.ret (K2 (KT (KY [1] Oo (KQ Z)))))
   refine KR an bQ 0 Z 5 Z Z (KV 34 Z (NC c13) (KR an bQ 0 Z 5 Z Z ?_));rcases jF h with⟨c14,h⟩ | ⟨c14,h⟩
   ·refine Lh Z c14 (KN Z (KM an 1 Z ?_));obtain rfl:=Nz h;exact KP (T.ret (K2 (KT (KY [1] Oo (KQ Z)))))
   refine Lg Z c14 (KN Z ?_);rcases jF h with⟨c15,h⟩ | ⟨c15,h⟩
   ·refine KR an bQ 0 Z 4 Z Z (KV 43 Z (NB c15) (Lz an Z (K1 Z Z (KN Z (KM an 1 Z ?_)))));obtain rfl:=Nz h;exact KP (T.ret (K2 (KT (KY [1] Oo (KQ Z)))))
   refine KR an bQ 0 Z 4 Z Z (KV 43 Z (NC c15) (KR an bQ 0 Z 5 Z Z ?_));rcases jF h with⟨c16,h⟩ | ⟨c16,h⟩
   ·refine Lh Z c16 (KN Z (KM an 1 Z ?_));obtain rfl:=Nz h;exact KP (T.ret (K2 (KT (KY [1] Oo (KQ Z)))))
   refine Lg Z c16 ?_;refine T.seq (Ls (.q 0 (.q 1 (.q 3 (.q 4 (.q 5 (.q 6 (.e 2 (.q 7 (.q 8 (.q 9 (.q 10 (.q 11 (.q 12 (.q 13 (.q 14 (.q 15 (.q 16 (.q 17 .nil)))))))))))))))))) [0,0] Z rl (NoP.seq (NoP.blk (NoP.seq bq))) QU ?_);refine TD.run an [0] Z Z (KU Z (Lc 0 Z NH Z Z) Z (TD.run an [3] Z Z (KU Z (Lc 0 Z O7 Z Z) Z (KU Z (K4 Z NQ) Z ?_))));obtain⟨x17,hx18,h⟩:=Ny h;refine TD.run an [6] Z Z (LF Z .u (.fn Tryz.call145 Z) (tu a0.Nv _ hx18) rT Z [0,0] (Z) ?_);rcases jF h with⟨c19,h⟩ | ⟨c19,h⟩
   ·rcases jF h with⟨c20,h⟩ | ⟨c20,h⟩
    ·refine KU Z (L5 Z c19 Z (NB c20) N8) Z (TD.run an [8] Z Z (TD.q Z (.g Z Z Z) (LC an Z) Z (TD.q Z (.g Z Z Z) (Lc 0 Z NH Z Z) Z ?_)));iterate 2 refine TD.q Z (.g Z Z Z) (LC an Z) Z ?_
     refine TD.q Z (.g Z Z Z) (Lc 0 Z NH Z Z) Z (TD.q Z (.g Z Z Z) (LC an Z) Z ?_);rcases jF h with⟨c21,h⟩ | ⟨c21,h⟩
     ·rcases jF h with⟨c22,h⟩ | ⟨c22,h⟩
      ·refine TD.q Z (.g Z Z Z) (L5 Z (NB c21) Z (NB c22) N8) Z (KU Z (LU Z Z Z) Z (TD.run an [17] Z Z (LK (Li Z Z (KN Z ?_)))));obtain⟨x23,hx24,h⟩:=Ny h;refine KR an bQ 0 Z 2 Z Z (Lb Z .u (.fn Tryz.call146 Z) (gH a0.MN _ _ _ hx24) (fun _ hs=>(K7 hs hX)) Z (KM an 2 Z ?_));rcases jF h with⟨c25,h⟩ | ⟨c25,h⟩
       ·refine KP (Li Z (bi c25) (T.skip (La (X.seq (KN Z (KM an 1 Z ?_))))));obtain rfl:=Nz h;exact KP (T.ret (KY [1] Oo (KQ Z)))
       replace c25:=NF c25;refine KP (K1 Z (bF c25) (KN Z (KM an 1 Z ?_)));obtain rfl:=Nz h;exact KP (T.ret (K2 (KT (KY [1] Oo (KQ Z)))))
      refine TD.q Z (.g Z Z Z) (L5 Z (NB c21) Z (NC c22) N8) Z (KU Z (LU Z Z Z) Z (TD.run an [17] Z Z (LK (K1 Z Z (KN Z (KM an 1 Z ?_))))));obtain rfl:=Nz h;exact KP (T.ret (K2 (KT (KY [1] Oo (KQ Z)))))
     rcases jF h with⟨c26,h⟩ | ⟨c26,h⟩
     ·refine TD.q Z (.g Z Z Z) (L5 Z (NC c21) Z (NB c26) N8) Z (KU Z (LU Z Z Z) Z (TD.run an [17] Z Z (LK (K1 Z Z (KN Z (KM an 1 Z ?_))))));obtain rfl:=Nz h;exact KP (T.ret (K2 (KT (KY [1] Oo (KQ Z)))))
     refine TD.q Z (.g Z Z Z) (L5 Z (NC c21) Z (NC c26) N8) Z (KU Z (LU Z Z Z) Z (TD.run an [17] Z Z (LK (Li Z Z (KN Z ?_)))));obtain⟨x27,hx28,h⟩:=Ny h;refine KR an bQ 0 Z 2 Z Z (Lb Z .u (.fn Tryz.call146 Z) (gH a0.MN _ _ _ hx28) (fun _ hs=>(K7 hs hX)) Z (KM an 2 Z ?_));rcases jF h with⟨c29,h⟩ | ⟨c29,h⟩
     ·refine KP (Li Z (bi c29) (T.skip (La (X.seq (KN Z (KM an 1 Z ?_))))));obtain rfl:=Nz h;exact KP (T.ret (KY [1] Oo (KQ Z)))
     replace c29:=NF c29;refine KP (K1 Z (bF c29) (KN Z (KM an 1 Z ?_)));obtain rfl:=Nz h;exact KP (T.ret (K2 (KT (KY [1] Oo (KQ Z)))))
    refine KU Z (L5 Z c19 Z (NC c20) N8) Z (TD.run an [8] Z Z ?_);iterate 7 refine LO Z (.gn Z Z Z) Z ?_
    refine KU Z (LX Z Z Z) Z (TD.run an [17] Z Z (LK (K1 Z Z (KN Z (KM an 1 Z ?_)))));obtain rfl:=Nz h;exact KP (T.ret (K2 (KT (KY [1] Oo (KQ Z)))))
   replace c19:=NF c19;rcases jF h with⟨c30,h⟩ | ⟨c30,h⟩
   ·refine KU Z (L5 Z c19 Z (NB c30) N8) Z (TD.run an [8] Z Z ?_);iterate 7 refine LO Z (.gn Z Z Z) Z ?_
    refine KU Z (LX Z Z Z) Z (TD.run an [17] Z Z (LK (K1 Z Z (KN Z (KM an 1 Z ?_)))));obtain rfl:=Nz h;exact KP (T.ret (K2 (KT (KY [1] Oo (KQ Z)))))
   refine KU Z (L5 Z c19 Z (NC c30) N8) Z (TD.run an [8] Z Z (TD.q Z (.g Z Z Z) (LC an Z) Z (TD.q Z (.g Z Z Z) (Lc 0 Z NH Z Z) Z ?_)));iterate 2 refine TD.q Z (.g Z Z Z) (LC an Z) Z ?_
   refine TD.q Z (.g Z Z Z) (Lc 0 Z NH Z Z) Z (TD.q Z (.g Z Z Z) (LC an Z) Z ?_);rcases jF h with⟨c31,h⟩ | ⟨c31,h⟩
   ·rcases jF h with⟨c32,h⟩ | ⟨c32,h⟩
    ·refine TD.q Z (.g Z Z Z) (L5 Z (NB c31) Z (NB c32) N8) Z (KU Z (LU Z Z Z) Z (TD.run an [17] Z Z (LK (Li Z Z (KN Z ?_)))));obtain⟨x33,hx34,h⟩:=Ny h;refine KR an bQ 0 Z 2 Z Z (Lb Z .u (.fn Tryz.call146 Z) (gH a0.MN _ _ _ hx34) (fun _ hs=>(K7 hs hX)) Z (KM an 2 Z ?_));rcases jF h with⟨c35,h⟩ | ⟨c35,h⟩
     ·refine KP (Li Z (bi c35) (T.skip (La (X.seq (KN Z (KM an 1 Z ?_))))));obtain rfl:=Nz h;exact KP (T.ret (KY [1] Oo (KQ Z)))
     replace c35:=NF c35;refine KP (K1 Z (bF c35) (KN Z (KM an 1 Z ?_)));obtain rfl:=Nz h;exact KP (T.ret (K2 (KT (KY [1] Oo (KQ Z)))))
    refine TD.q Z (.g Z Z Z) (L5 Z (NB c31) Z (NC c32) N8) Z (KU Z (LU Z Z Z) Z (TD.run an [17] Z Z (LK (K1 Z Z (KN Z (KM an 1 Z ?_))))));obtain rfl:=Nz h;exact KP (T.ret (K2 (KT (KY [1] Oo (KQ Z)))))
   rcases jF h with⟨c36,h⟩ | ⟨c36,h⟩
   ·refine TD.q Z (.g Z Z Z) (L5 Z (NC c31) Z (NB c36) N8) Z (KU Z (LU Z Z Z) Z (TD.run an [17] Z Z (LK (K1 Z Z (KN Z (KM an 1 Z ?_))))));obtain rfl:=Nz h;exact KP (T.ret (K2 (KT (KY [1] Oo (KQ Z)))))
   refine TD.q Z (.g Z Z Z) (L5 Z (NC c31) Z (NC c36) N8) Z (KU Z (LU Z Z Z) Z (TD.run an [17] Z Z (LK (Li Z Z (KN Z ?_)))));obtain⟨x37,hx38,h⟩:=Ny h;refine KR an bQ 0 Z 2 Z Z (Lb Z .u (.fn Tryz.call146 Z) (gH a0.MN _ _ _ hx38) (fun _ hs=>(K7 hs hX)) Z (KM an 2 Z ?_));rcases jF h with⟨c39,h⟩ | ⟨c39,h⟩
   ·refine KP (Li Z (bi c39) (T.skip (La (X.seq (KN Z (KM an 1 Z ?_))))));obtain rfl:=Nz h;exact KP (T.ret (KY [1] Oo (KQ Z)))
   replace c39:=NF c39;refine KP (K1 Z (bF c39) (KN Z (KM an 1 Z ?_)));obtain rfl:=Nz h;exact KP (T.ret (K2 (KT (KY [1] Oo (KQ Z)))))
  replace c12:=NF c12;refine KW an 3 Z (KV 29 Z (bF c12) (Lz an Z (K1 Z Z (KN Z (KM an 1 Z ?_)))));obtain rfl:=Nz h;exact KP (T.ret (K2 (KT (KY [1] Oo (KQ Z)))))
 replace c8:=NF c8;refine KW an 3 Z (KV 18 Z (bF c8) (Lz an Z (K1 Z Z (KN Z (KM an 1 Z ?_)))));obtain rfl:=Nz h;exact KP (T.ret (K2 (KT (KY [1] Oo (KQ Z)))))
def cR (x24:Int):Nat->Nat->List Int->I->Option (Nat×List Int×I)
 | 0,_,_,_=>none
 | m35+1,k27,y28,st31=>if (k27:Int)<x24 then ((d9 st31 4).bind fun (x40,st41)=>if (y28.length+1)*8<=140737488355328 then (if -9223372036854775808<=((k27:Int)+1)/\((k27:Int)+1)<=9223372036854775807 then (cR x24 m35 (k27+1) (y28 ++ [x40]) st41) else none) else none) else some (k27,y28,st31)
def ci (x1:Int):Nat->List Top->List Top->Nat->I->Option (Lp (List Top×I) (List Top×List Top×Nat×I))
 | 0,_,_,_,_=>none
 | m15+1,y4,y7,k10,st11=>if (k10:Int)<x1 then ((tc st11).bind fun (x20,st21)=>(jB st21 4 4).bind fun (x24,st25)=>(cR x24 ((x24).toNat+1) 0 [] st25).bind fun (k57,y58,st61)=>if (y7.length+1)*40<=140737488355328 then ((iF st61).bind fun (x66,st67)=>if x66=0 then (if -9223372036854775808<=((k10:Int)+1)/\((k10:Int)+1)<=9223372036854775807 then (ci x1 m15 y4 (y7 ++ [(⟨x20,y58⟩:Top)]) (k10+1) st67) else none) else (some (Lp.ret ([],st67)))) else none) else (some (Lp.go (y4,y7,k10,st11)))
def dW (st:I)  : Option (List Top×I):=(jB st 4 6).bind fun (x1,st2)=>(ci x1 ((x1).toNat+1) [] [] 0 st2).bind fun e=>match e with | .ret r=>some r | .go (y71,y74,k77,st78)=>some (y74,st78)
theorem ms (g:Nat) (st:I)  (r:List Top×I) (h:dW st  = some r):aG Tryz.prog 89 #[jP g] .triv (InR g st) (fun v A' N=> ∃ (A79:Option Addr) (c80:Nat),v= .slice A79 r.1.length c80/\A'=InR g r.2/\N = [RdR (aq 2 bh) [.slice A79 r.1.length c80] r.1]):=by
 refine aU Tryz.func89 Z Tryz.ntmps89 Z ?_;intro F w hX;unfold dW at h;refine KN Z (Le an Z Z (KX an Z (T.seq (KN Z ?_))));obtain⟨⟨x1,st2⟩,hx3,h⟩:=Ny h;refine KM an 1 Z (KZ 0 Z Z .u (.fn Tryz.call144 Z) (lE g st 4 6 _ hx3) sT Z Z (KX an Z (T.block ?_)));iterate 2 refine LY 171 2 bh ?_
 obtain⟨E12,hE13,hO14⟩:=Ny h;refine LB (fun m e Rs=> ∃ (y4:List Top) (A5:Option Addr) (c6:Nat) (y7:List Top) (A8:Option Addr) (c9:Nat) (k10:Nat) (st11:I),e = [(0,jP g),(2,.slice A5 y4.length c6),(3,.slice A8 y7.length c9),(6,jI x1),(7,jI (k10:Int))]/\Rs = [bG 171 2 bh (.slice A5 y4.length c6) y4,bG 171 2 bh (.slice A8 y7.length c9) y7,InR g st11]/\ci x1 m y4 y7 k10 st11=some E12) ((x1).toNat+1) [0,0,0] ⟨[],none,0,[],none,0,0,st2,Z,Z,by exact hE13⟩ QW QW ?_;clear hE13 h;rintro m15 _ _ ⟨y4,A5,c6,y7,A8,c9,k10,st11,rfl,rfl,h⟩
 cases m15 with
 | zero =>
  rw[ci] at h;cases h
 | succ m15 =>
  rw[ci] at h;refine KN Z (KM an 1 Z ?_);rcases jF h with⟨c19,h⟩ | ⟨c19,h⟩
  ·refine KP (T.seq (L2 Z c19 (K8 (T.seq (T.block (KN Z ?_))))));obtain⟨⟨x20,st21⟩,hx22,h⟩:=Ny h;refine KM an 1 Z (KZ 2 Z Z .u (.fn Tryz.call86 Z) (pg g st11 _ hx22) sT Z Z ?_);refine KO Z (Lo (cells:= #[jS x20,.slice none 0 0]) ze Z QU) Z ?_;refine TL.alloc Z .u Tryz.zeroValue171 Z (fun b23=>(K3 0 Z (cs':= #[jS x20,.slice none 0 0]) Z .u Z Z N5 Z Z Z Z Z (KP (T.seq (KN Z ?_)))));obtain⟨⟨x24,st25⟩,hx26,h⟩:=Ny h;refine KM an 1 Z (KZ 3 Z Z .u (.fn Tryz.call144 Z) (lE g st21 4 4 _ hx26) sT Z Z (KX an Z (T.block (LY 3 1 ea ?_))));obtain⟨E32,hE33,hO34⟩:=Ny h;refine LB (fun m e Rs=> ∃ (k27:Nat) (y28:List Int) (A29:Option Addr) (c30:Nat) (st31:I),e = [(0,jP g),(2,.slice A5 y4.length c6),(3,.slice A8 y7.length c9),(4,jP b23),(6,jI x1),(7,jI (k10:Int)),(13,jI x24),(14,jI (k27:Int))]/\Rs = [bG 3 1 ea (.slice A29 y28.length c30) y28,aV b23 171 #[jS x20,.slice A29 y28.length c30],bG 171 2 bh (.slice A5 y4.length c6) y4,bG 171 2 bh (.slice A8 y7.length c9) y7,InR g st31]/\cR x24 m k27 y28 st31=some E32) ((x24).toNat+1) [0,0,0,0,0] ⟨0,[],none,0,st25,Z,Z,by exact hE33⟩ QW QW ?_;clear hE33 h;rintro m35 _ _ ⟨k27,y28,A29,c30,st31,rfl,rfl,h⟩
   cases m35 with
   | zero =>
    rw[cR] at h;cases h
   | succ m35 =>
    rw[cR] at h;refine KN Z (KM an 1 Z ?_);rcases jF h with⟨c39,h⟩ | ⟨c39,h⟩
    ·refine KP (T.seq (L2 Z c39 ?_));obtain⟨⟨x40,st41⟩,hx42,h⟩:=Ny h;try dsimp only at h
     obtain⟨c44,h⟩:=al h;refine K8 (T.seq (T.block ?_));refine Mr (fun e Rs=> ∃ (b43:Nat) (A45:Option Addr) (c46:Nat),e = [(0,jP g),(2,.slice A5 y4.length c6),(3,.slice A8 y7.length c9),(4,jP b23),(6,jI x1),(7,jI (k10:Int)),(13,jI x24),(14,jI (k27:Int))]/\Rs = [bG 3 1 ea (.slice A45 (y28 ++ [x40]).length c46) (y28 ++ [x40]),aV b23 171 #[jS x20,.slice A45 (y28 ++ [x40]).length c46],bG 171 2 bh (.slice A5 y4.length c6) y4,bG 171 2 bh (.slice A8 y7.length c9) y7,InR g st41]) ?_ ?_
     ·refine Ls (.q 0 (.q 2 (.br 1 (.e 3 (.e 4 (.e 5 (.q 6 (.e 7 .nil))))) (.e 3 (.br 1 (.e 4 (.e 5 (.q 6 (.e 7 .nil)))) (.e 4 (.e 1 (.e 5 (.q 6 (.e 7 .nil)))))))))) [2,2] Z rl r8 QU ?_;refine TD.run an [0,2] Z Z ?_;refine TD.br ?_ ?_
      ·refine Mh Z .u (Lc 1 Z OM Z Z) Z [2,2] Z (LR 4 Z Z .u (.fn Tryz.call68 Z) (bz g st31 4 _ hx42) sT Z Z [2,2] (Z) (L8 (cells:= #[jI x40]) Z .u ni Z QW Z [3,3] (fun _=>Z) (fun b43=> ?_)));refine MG 0 Z .u (us := [jI x40]) (u:=x40) (l:=y28) (E:=ea) Tryz.underlying74 qz Z QS Z Z Z Z Z Z (fun _ _=>Z) (by have hq:=c44; omega) (by have hq:=c44; omega) Z [2,2] (fun _ _=>Z) (fun A45 c46=> ?_);exact LV [0,0,0,0,0] Z (TD.run an [6] Z Z (LP 1 Z (cs':= #[jS x20,.slice A45 (y28 ++ [x40]).length c46]) Z .u Z Z Px Z Z Z Z Z [2,2] (Z) (TD.nil (L9 [0,0,0,0,0] ⟨b43,A45,c46,Z,Z⟩ QW QW))))
      refine LR 4 Z Z .u (.fn Tryz.call68 Z) (bz g st31 4 _ hx42) sT Z Z [2,2] (Z) ?_;refine TD.br ?_ ?_
      ·refine Mh Z .u (Lc 1 Z OM Z Z) Z [2,2] Z (L8 (cells:= #[jI x40]) Z .u ni Z QW Z [3,3] (fun _=>Z) (fun b43=> ?_));refine MG 0 Z .u (us := [jI x40]) (u:=x40) (l:=y28) (E:=ea) Tryz.underlying74 qz Z QS Z Z Z Z Z Z (fun _ _=>Z) (by have hq:=c44; omega) (by have hq:=c44; omega) Z [2,2] (fun _ _=>Z) (fun A45 c46=> ?_);exact LV [0,0,0,0,0] Z (TD.run an [6] Z Z (LP 1 Z (cs':= #[jS x20,.slice A45 (y28 ++ [x40]).length c46]) Z .u Z Z Px Z Z Z Z Z [2,2] (Z) (TD.nil (L9 [0,0,0,0,0] ⟨b43,A45,c46,Z,Z⟩ QW QW))))
      refine L8 (cells:= #[jI x40]) Z .u ni Z QW Z [3,3] (fun _=>Z) (fun b43=>(Mh Z .u (Lc 2 Z OM Z Z) Z [3,3] Z ?_));refine MG 0 Z .u (us := [jI x40]) (u:=x40) (l:=y28) (E:=ea) Tryz.underlying74 qz Z QS Z Z Z Z Z Z (fun _ _=>Z) (by have hq:=c44; omega) (by have hq:=c44; omega) Z [2,2] (fun _ _=>Z) (fun A45 c46=> ?_);exact LV [0,0,0,0,0] Z (TD.run an [6] Z Z (LP 1 Z (cs':= #[jS x20,.slice A45 (y28 ++ [x40]).length c46]) Z .u Z Z Px Z Z Z Z Z [2,2] (Z) (TD.nil (L9 [0,0,0,0,0] ⟨b43,A45,c46,Z,Z⟩ QW QW))))
     rintro _ _ ⟨b43,A45,c46,rfl,rfl⟩;obtain⟨c47,h⟩:=al h;exact La (X.seq (T.region Z (KO Z (Ex.add Z Z c47) Z (KM an 1 Z (TL.nil (X.back (m':=m35) [0,0,0,0,0] QR ⟨k27+1,(y28 ++ [x40]),A45,c46,st41,Z,Z,h⟩ QW QW))))))
    refine KP (T.seq (L3 Z c39 ?_));obtain rfl:=Nz h;replace h:=hO34;clear hO34;refine T.exit (K5 (K5 (Ly (X.seq (KN Z (KM an 1 Z (KO Z (K9 (us := [jS x20,.slice A29 y28.length c30]) 1 Z P3 N5 Z Z Z) Z (L4 (cells:= #[jS x20,.slice A29 y28.length c30]) Z .u xB Z QW Z (fun b48=> ?_)))))))));obtain⟨c49,h⟩:=al h;refine Mw 3 0 Z .u (us := [jS x20,.slice A29 y28.length c30]) (u:=(⟨x20,y28⟩:Top)) (l:=y7) (E:=bh) Tryz.underlying28 zf Z QS Z Z Z Z Z Z Z (fun w G hG=>⟨_,_,Z,bX QS _ _ hG⟩) (by have hq:=c49; omega) (by have hq:=c49; omega) Z (fun A50 c51=> ?_);refine Lt [0,0,0,0] Z (Le an Z Z ?_);obtain⟨⟨x52,st53⟩,hx54,h⟩:=Ny h;refine KM an 1 Z (KZ 3 Z Z .u (.fn Tryz.call23 Z) (cy g st31 _ hx54) sT Z Z (KM an 1 Z ?_));rcases jF h with⟨c55,h⟩ | ⟨c55,h⟩
    ·refine Lr Z c55 ?_;obtain⟨c56,h⟩:=al h;exact T.skip (La (X.seq (T.region Z (KO Z (Ex.add Z Z c56) Z (KM an 1 Z (TL.nil (X.back (m':=m15) [2,0,1] QR ⟨y4,A5,c6,(y7 ++ [(⟨x20,y28⟩:Top)]),A50,c51,k10+1,st53,Z,Z,h⟩ QW QW)))))))
    refine Lq Z c55 (KN Z (KM an 1 Z ?_));obtain rfl:=Nz h;obtain rfl:=Nz hO14;exact KP (T.ret (K2 (KT (KT (K2 (KT (Lj 2 bh (Ll [4,0] Tryz.results89 (KQ Z) ⟨_,_,Z,Z,Z⟩ QW (.inl Z)))))))))
  refine KP (T.seq (L3 Z c19 ?_));obtain rfl:=Nz h;replace h:=hO14;clear hO14;refine T.exit (K5 (K5 (Ly (X.seq (KN Z (KM an 2 Z ?_))))));obtain rfl:=Nz h;exact KP (T.ret (Ms QS 1 Z (LJ [0,0,0] Z (Ll [2,1] Tryz.results89 (KQ Z) ⟨_,_,Z,Z,Z⟩ QW (.inl Z)))))
def ft_txn:eO := [(23,0,0),(23,1,1),(27,0,0),(27,1,2),(27,2,3),(27,3,4),(30,0,0),(30,1,1),(30,2,2),(30,3,3),(32,0,0),(32,1,1),(32,2,2),(32,3,3)]
theorem av:(ft_txn).OK Tryz.prog:=⟨FOK.mk N2 rfl Oe rfl,FOK.mk N2 rfl N6 rfl,FOK.mk OY rfl NM rfl,FOK.mk OY rfl NG rfl,FOK.mk OY rfl NG rfl,FOK.mk OY rfl NG rfl,FOK.mk OP rfl N6 rfl,FOK.mk OP rfl NG rfl,FOK.mk OP rfl NG rfl,FOK.mk OP rfl Py rfl,FOK.mk OI rfl N6 rfl,FOK.mk OI rfl NG rfl,FOK.mk OI rfl NG rfl,FOK.mk OI rfl Oe rfl,trivial⟩
def nt_txn:List Nat := [3,4,9,28]
theorem cg:NOK Tryz.prog nt_txn:=⟨NH,Oz,Oc,O7,trivial⟩
theorem tv (v : Value) (w : World) : (method (Tryz.prog.types.size + Made.depth) 30 v "Check").run Tryz.prog w = .ok (170, v) w := xq (k := Tryz.prog.types.size + Made.depth - 1) QU QU OP v w
theorem tw (v : Value) (w : World) : (method (Tryz.prog.types.size + Made.depth) 32 v "Check").run Tryz.prog w = .ok (172, v) w := xq (k := Tryz.prog.types.size + Made.depth - 1) QU QU OI v w
theorem xD:BOK Tryz.prog 27 #[.bool false,.string ⟨#[]⟩,.int .i64 0,.int .i64 0,.int .i64 0] [(0,2),(2,1),(3,1),(4,1)]:=BOK.mk Tryz.zeroValue27 OY (by intro w; simp)
theorem xE:BOK Tryz.prog 30 #[.string ⟨#[]⟩,.int .i64 0,.int .i64 0,.slice none 0 0] [(0,1),(1,1),(2,1),(3,1)]:=BOK.mk Tryz.zeroValue30 OP (by intro w; simp)
theorem xF:BOK Tryz.prog 32 #[.string ⟨#[]⟩,.int .i64 0,.int .i64 0,.bool false] [(0,1),(1,1),(2,1),(3,1)]:=BOK.mk Tryz.zeroValue32 OI (by intro w; simp)
theorem Cd:BOK Tryz.prog 103 #[.int .i64 0,.int .i64 0,.int .i64 0,.int .i64 0,.slice none 0 0,.int .i64 0,.int .i64 0] [(0,1),(1,1),(2,1),(3,1),(4,1),(5,1),(6,1)]:=BOK.mk Tryz.zeroValue103 O2 (by intro w; simp)
def nj (st:List UInt8×Int) (a1:Int):Option (Bool×(List UInt8×Int)):=(if a1=0 then some st else ((l7 st a1).bind fun st7=>some st7)).bind fun st4=>if a1=0 then some (false,st4) else some (true,st4)
theorem mc (g:Nat) (st:List UInt8×Int) (a1:Int) (r:Bool×(List UInt8×Int)) (h:nj st a1=some r):aG Tryz.prog 151 #[jP g,jI a1] .triv (bC g st) (fun v A' N=>v= .bool r.1/\A'=bC g r.2/\N = []):=by
 refine aU Tryz.func151 Z Tryz.ntmps151 Z ?_;intro F w hX;unfold nj at h;refine KN Z (KX av Z (T.seq (KN Z (KX av Z ?_))));obtain⟨st4,h,hk5⟩:=Ny h;refine LE (fun e Rs=>e = [(1,jI a1),(4,.bool false)]/\Rs = [bC g st4]) ?_ ?_
 ·clear hk5;rcases jF h with⟨c6,h⟩ | ⟨c6,h⟩
  ·refine T.nn Z c6 ?_;cases h;exact T.skip (K0 [0])
  refine T.yn Z c6 (T.region Z ?_);obtain⟨st7,hx8,h⟩:=Ny h;refine KM av 2 Z (KZ 0 Z Z .u (.fn Tryz.call94 Z) (g6 g st a1 _ hx8) sT Z Z ?_);cases h;exact TL.nil (K0 [0])
 rintro _ _ ⟨rfl,rfl⟩;clear h;have h:=hk5;clear hk5;refine X.seq (KN Z (KM av 3 Z ?_));rcases jF h with⟨c9,h⟩ | ⟨c9,h⟩
 ·obtain rfl:=Nz h;exact KP (T.ret (Ll [0] Tryz.results151 (KQ (v:= .bool false) (congrArg (fun b=>some (Value.bool b)) (bi (NB c9)))) ⟨Z,Z,Z⟩ QW (.inl Z)))
 obtain rfl:=Nz h;exact KP (T.ret (Ll [0] Tryz.results151 (KQ (v:= .bool true) (congrArg (fun b=>some (Value.bool b)) (bF (NC c9)))) ⟨Z,Z,Z⟩ QW (.inl Z)))
def km (a0:Int) (a1:Int):Option (Bool):=(if a0>=0 then (if a1>=0 then ((jy a1 2).bind fun x9=>some x9) else some false) else some false).bind fun y5=>some y5
theorem kA (a0:Int) (a1:Int) (r:Bool) (h:km a0 a1=some r):aG Tryz.prog 192 #[jI a0,jI a1] .triv (aL) (fun v A' N=>v= .bool r/\A'=aL/\N = []):=by
 refine aU Tryz.func192 Z Tryz.ntmps192 Z ?_;intro F w hX;unfold km at h;refine KN Z (KX av Z (T.seq ?_));obtain⟨y5,h,hk6⟩:=Ny h;refine LE (fun e Rs=>e = [(4,.bool y5)]/\Rs = [aL]) ?_ ?_
 ·clear hk6;refine T.region Z ?_;rcases jF h with⟨c7,h⟩ | ⟨c7,h⟩
  ·refine KM av 3 Z (KV 7 Z (NB c7) ?_);rcases jF h with⟨c8,h⟩ | ⟨c8,h⟩
   ·refine KW av 4 Z (KV 11 Z (NB c8) ?_);obtain⟨x9,hx10,h⟩:=Ny h;refine KW av 1 Z (Lb Z (.g Z Z Z) (.fn Tryz.call101 Z) (LL (fun w=>dI a1 2 _ hx10 w)) (fun _ _=>Lv _ _) Z (KW av 2 Z ?_));cases h;exact TL.nil (K0 [0])
   refine KW av 4 Z (KV 11 Z (NC c8) (KW av 4 Z ?_));cases h;exact TL.nil (K0 [0])
  refine KM av 3 Z (KV 7 Z (NC c7) (KW av 8 Z ?_));cases h;exact TL.nil (K0 [0])
 rintro _ _ ⟨rfl,rfl⟩;clear h;have h:=hk6;clear hk6;obtain rfl:=Nz h;exact X.seq (T.ret (KY [0] Tryz.results192 (KQ Z)))
def fK (a0:bd) (a1:Int):Option (Int):=(if a0.MO=(-1) then (if a0.MR=(-1) then some true else some false) else some false).bind fun y3=>((qo a0.MU).bind fun x15=>if x15=true then (if a0.MU.null=true then some false else ((nQ a0.MU.data).bind fun x19=>if x19=true then some false else some true)) else some true).bind fun y13=>if y13=true then some 4 else ((if a0.MT<0 then some true else ((jy a0.MT 4).bind fun x29=>if x29=true then some false else some true)).bind fun y26=>(if y26=true then some true else ((if y3=true then some false else (if a1>0 then ((km a0.MO a0.MR).bind fun x55=>if x55=true then some false else some true) else some true)).bind fun y51=>some y51)).bind fun y44=>if y44=true then some 11 else some 0)
theorem kR (a0:bd) (a1:Int) (r:Int) (h:fK a0 a1=some r):aG Tryz.prog 152 #[.agg #[.bool a0.MU.null,jS a0.MU.data,jI a0.MT,jI a0.MO,jI a0.MR],jI a1] .triv (aL) (fun v A' N=>v=jI r/\A'=aL/\N = []):=by
 refine aU Tryz.func152 Z Tryz.ntmps152 Z ?_;intro F w hX;unfold fK at h;refine KN Z (TL.box Z .u Z Z (fun b1=>(KX av Z (T.seq ?_))));obtain⟨y3,h,hk4⟩:=Ny h;refine LE (fun e Rs=>e = [(1,jI a1),(2,jP b1),(4,jI 0),(5,.bool y3)]/\Rs = [aV b1 27 #[.bool a0.MU.null,jS a0.MU.data,jI a0.MT,jI a0.MO,jI a0.MR],aL]) ?_ ?_
 ·clear hk4;refine T.region Z ?_;rcases jF h with⟨c5,h⟩ | ⟨c5,h⟩
  ·refine KR av cg 0 Z 4 Z Z (KV 9 Z (NB c5) (KR av cg 0 Z 5 Z Z ?_));rcases jF h with⟨c6,h⟩ | ⟨c6,h⟩
   ·cases h;exact TL.nil (LH (d:=5) (v':= .bool true) Z (congrArg Value.bool (NB c6)) (K0 [0,0]))
   cases h;exact TL.nil (LH (d:=5) (v':= .bool false) Z (congrArg Value.bool (NC c6)) (K0 [0,0]))
  refine KR av cg 0 Z 4 Z Z (KV 9 Z (NC c5) (KW av 5 Z ?_));cases h;exact TL.nil (K0 [0,0])
 rintro _ _ ⟨rfl,rfl⟩;clear h;have h:=hk4;clear hk4;refine X.seq (T.seq (T.block (T.seq ?_)));obtain⟨y13,h,hk14⟩:=Ny h;refine LE (fun e Rs=>e = [(1,jI a1),(2,jP b1),(4,jI 0),(5,.bool y3),(14,.bool y13)]/\Rs = [aV b1 27 #[.bool a0.MU.null,jS a0.MU.data,jI a0.MT,jI a0.MO,jI a0.MR],aL]) ?_ ?_
 ·clear hk14;refine T.region Z (KM av 1 Z (KO Z (K9 (us:=wL6 a0.MU) 0 Z Oa NM Z Z Z) Z ?_));obtain⟨x15,hx16,h⟩:=Ny h;refine Lb Z .u (.fn Tryz.call148 Z) (nO a0.MU _ hx16) rT Z ?_;rcases jF h with⟨c17,h⟩ | ⟨c17,h⟩
  ·refine KM av 2 Z (KV 19 Z (bi c17) ?_);rcases jF h with⟨c18,h⟩ | ⟨c18,h⟩
   ·refine KR av cg 0 Z 5 Z Z (KV 24 Z (bi c18) (KW av 8 Z ?_));cases h;exact TL.nil (K0 [0,0])
   replace c18:=NF c18;refine KR av cg 0 Z 5 Z Z (KV 24 Z (bF c18) ?_);obtain⟨x19,hx20,h⟩:=Ny h;refine KR av cg 0 Z 3 Z Z (Lb Z (.g Z Z Z) (.fn Tryz.call87 Z) (LL (fun w=>mA a0.MU.data _ hx20 w)) (fun _ _=>Lv _ _) Z (KW av 4 Z ?_));rcases jF h with⟨c21,h⟩ | ⟨c21,h⟩
   ·cases h;exact TL.nil (LH (d:=14) (v':= .bool false) Z (congrArg Value.bool (bi c21)) (K0 [0,0]))
   replace c21:=NF c21;cases h;exact TL.nil (LH (d:=14) (v':= .bool true) Z (congrArg Value.bool (bF c21)) (K0 [0,0]))
  replace c17:=NF c17;refine KM av 2 Z (KV 19 Z (bF c17) (KW av 13 Z ?_));cases h;exact TL.nil (K0 [0,0])
 rintro _ _ ⟨rfl,rfl⟩;clear h;have h:=hk14;clear hk14;try dsimp only at h
 rcases jF h with⟨c22,h⟩ | ⟨c22,h⟩
 ·refine X.seq (K1 Z c22 (KN Z (KM av 1 Z ?_)));obtain rfl:=Nz h;exact KP (T.ret (K2 (KT (KY [1] Tryz.results152 (KQ Z)))))
 replace c22:=NF c22;refine X.seq (Li Z c22 (L0 ?_));obtain⟨y26,h,hk27⟩:=Ny h;refine LE (fun e Rs=>e = [(1,jI a1),(2,jP b1),(4,jI 0),(5,.bool y3),(32,.bool y26)]/\Rs = [aV b1 27 #[.bool a0.MU.null,jS a0.MU.data,jI a0.MT,jI a0.MO,jI a0.MR],aL]) ?_ ?_
 ·clear hk27;refine T.region Z ?_;rcases jF h with⟨c28,h⟩ | ⟨c28,h⟩
  ·refine KR av cg 0 Z 4 Z Z (KV 36 Z (NB c28) (KW av 6 Z ?_));cases h;exact TL.nil (K0 [0,0])
  refine KR av cg 0 Z 4 Z Z (KV 36 Z (NC c28) ?_);obtain⟨x29,hx30,h⟩:=Ny h;refine KR av cg 0 Z 2 Z Z (Lb Z (.g Z Z Z) (.fn Tryz.call101 Z) (LL (fun w=>dI a0.MT 4 _ hx30 w)) (fun _ _=>Lv _ _) Z (KW av 3 Z ?_));rcases jF h with⟨c31,h⟩ | ⟨c31,h⟩
  ·cases h;exact TL.nil (LH (d:=32) (v':= .bool false) Z (congrArg Value.bool (bi c31)) (K0 [0,0]))
  replace c31:=NF c31;cases h;exact TL.nil (LH (d:=32) (v':= .bool true) Z (congrArg Value.bool (bF c31)) (K0 [0,0]))
 rintro _ _ ⟨rfl,rfl⟩;clear h;have h:=hk27;clear hk27;refine X.seq ?_;obtain⟨y44,h,hk45⟩:=Ny h;refine LE (fun e Rs=>e = [(4,jI 0),(32,.bool y44)]/\Rs = [aV b1 27 #[.bool a0.MU.null,jS a0.MU.data,jI a0.MT,jI a0.MO,jI a0.MR],aL]) ?_ ?_
 ·clear hk45;rcases jF h with⟨c46,h⟩ | ⟨c46,h⟩
  ·refine K1 Z c46 ?_;cases h;exact T.skip (LH (d:=32) (v':= .bool true) Z (congrArg Value.bool c46) (K0 [0,0]))
  replace c46:=NF c46;refine Li Z c46 ?_;obtain⟨y51,h,hk52⟩:=Ny h;refine LE (fun e Rs=>e = [(4,jI 0),(32,.bool y51)]/\Rs = [aV b1 27 #[.bool a0.MU.null,jS a0.MU.data,jI a0.MT,jI a0.MO,jI a0.MR],aL]) ?_ ?_
  ·clear hk52;refine T.region Z ?_;rcases jF h with⟨c53,h⟩ | ⟨c53,h⟩
   ·refine KM av 3 Z (KV 44 Z (bi c53) (KW av 12 Z ?_));cases h;exact TL.nil (K0 [0,0])
   replace c53:=NF c53;refine KM av 3 Z (KV 44 Z (bF c53) ?_);rcases jF h with⟨c54,h⟩ | ⟨c54,h⟩
   ·refine KW av 3 Z (KV 47 Z (NB c54) ?_);obtain⟨x55,hx56,h⟩:=Ny h;refine KR av cg 0 Z 4 Z Z (Lb Z (.g Z Z Z) (.fn Tryz.call192 Z) (kA a0.MO a0.MR _ hx56) rT Z (KW av 4 Z ?_));rcases jF h with⟨c57,h⟩ | ⟨c57,h⟩
    ·cases h;exact TL.nil (LH (d:=32) (v':= .bool false) Z (congrArg Value.bool (bi c57)) (K0 [0,0]))
    replace c57:=NF c57;cases h;exact TL.nil (LH (d:=32) (v':= .bool true) Z (congrArg Value.bool (bF c57)) (K0 [0,0]))
   refine KW av 3 Z (KV 47 Z (NC c54) (KW av 9 Z ?_));cases h;exact TL.nil (K0 [0,0])
  rintro _ _ ⟨rfl,rfl⟩;clear h;have h:=hk52;clear hk52;try dsimp only at h
  cases h;exact K0 [0,0]
 rintro _ _ ⟨rfl,rfl⟩;clear h;have h:=hk45;clear hk45;try dsimp only at h
 rcases jF h with⟨c58,h⟩ | ⟨c58,h⟩
 ·refine X.seq (K1 Z c58 (KN Z (KM av 1 Z ?_)));obtain rfl:=Nz h;exact KP (T.ret (K2 (KT (KY [1] Tryz.results152 (KQ Z)))))
 replace c58:=NF c58;refine X.seq (Li Z c58 (T.skip (La (X.seq (KN Z (KM av 1 Z ?_))))));obtain rfl:=Nz h;exact KP (T.ret (KY [1] Tryz.results152 (KQ Z)))
def lh (st:List UInt8×Int) (a0:bd) (a2:Int):Option (List UInt8×Int):=(fK a0 a2).bind fun x2=>(nj st x2).bind fun (x4,st5)=>if x4=true then some st5 else ((mK st5 a0.MU 2).bind fun st8=>(ed st8 a0.MT 4).bind fun st10=>(if a2>0 then ((ed st10 a0.MO 8).bind fun st20=>(ed st20 a0.MR 2).bind fun st22=>some st22) else some st10).bind fun st17=>some st17)
theorem pW (g:Nat) (st:List UInt8×Int) (a0:bd) (a2:Int) (r:List UInt8×Int) (h:lh st a0 a2=some r):aG Tryz.prog 96 #[.agg #[.bool a0.MU.null,jS a0.MU.data,jI a0.MT,jI a0.MO,jI a0.MR],jP g,jI a2] .triv (bC g st) (fun v A' N=>v= .tuple #[]/\A'=bC g r/\N = []):=by
 refine aU Tryz.func96 Z Tryz.ntmps96 Z ?_;intro F w hX;unfold lh at h;refine KN Z (TL.box Z .u Z Z (fun b1=>(KP (T.seq (KN Z (KM av 1 Z (KO Z (K9 (us := [.bool a0.MU.null,jS a0.MU.data,jI a0.MT,jI a0.MO,jI a0.MR]) 0 Z Qk O9 Z Z Z) Z ?_)))))));obtain⟨x2,hx3,h⟩:=Ny h;refine KM av 1 Z (Lb Z .u (.fn Tryz.call152 Z) (kR a0 a2 _ hx3) rT Z ?_);obtain⟨⟨x4,st5⟩,hx6,h⟩:=Ny h;refine KZ 1 Z Z .u (.fn Tryz.call151 Z) (mc g st x2 _ hx6) sT Z Z ?_;rcases jF h with⟨c7,h⟩ | ⟨c7,h⟩
 ·refine KP (K1 Z c7 ?_);obtain rfl:=Nz h;exact T.ret (KT (LQ [1] Tryz.results96 ⟨Z,Z,Z⟩ QW (.inl Z)))
 replace c7:=NF c7;refine KP (Li Z c7 (Lk Z (KM av 2 Z (KO Z (K9 (us:=wL6 a0.MU) 0 Z Oa NM Z Z Z) Z ?_))));obtain⟨st8,hx9,h⟩:=Ny h;refine KZ 1 Z Z .u (.fn Tryz.call95 Z) (kr g st5 a0.MU 2 _ hx9) sT Z Z (Ld Z ?_);obtain⟨st10,hx11,h⟩:=Ny h;refine KR av cg 0 Z 3 Z Z (KZ 1 Z Z .u (.fn Tryz.call51 Z) (bu g st8 a0.MT 4 _ hx11) sT Z Z (Ld Z (KX av Z ?_)));obtain⟨st17,h,hk18⟩:=Ny h;refine LE (fun e Rs=>e = []/\Rs = [aV b1 27 #[.bool a0.MU.null,jS a0.MU.data,jI a0.MT,jI a0.MO,jI a0.MR],bC g st17]) ?_ ?_
 ·clear hk18;rcases jF h with⟨c19,h⟩ | ⟨c19,h⟩
  ·refine L2 Z c19 (KN Z ?_);obtain⟨st20,hx21,h⟩:=Ny h;refine KR av cg 0 Z 3 Z Z (KZ 1 Z Z .u (.fn Tryz.call51 Z) (bu g st10 a0.MO 8 _ hx21) sT Z Z (KP (T.region Z ?_)));obtain⟨st22,hx23,h⟩:=Ny h;refine KR av cg 0 Z 3 Z Z (KZ 1 Z Z .u (.fn Tryz.call51 Z) (bu g st20 a0.MR 2 _ hx23) sT Z Z ?_);cases h;exact TL.nil (K0 [0,0])
  refine L3 Z c19 ?_;cases h;exact T.skip (K0 [0,0])
 rintro _ _ ⟨rfl,rfl⟩;clear h;have h:=hk18;clear hk18;obtain rfl:=Nz h;exact LQ [1] Tryz.results96 ⟨Z,Z,Z⟩ QW (.inr Z)
def li (a0:List Top):Option (Int):=if (a0.length:Int)=0 then some 10 else ((jN (⟨0,0,0,1,a0,0,0⟩:Val)).bind fun x5=>some x5)
theorem pN (a0:List Top) (A1:Option Addr) (c2:Nat) (r:Int) (h:li a0=some r):aG Tryz.prog 210 #[.slice A1 a0.length c2] (RX.of (aq 2 bh) [.slice A1 a0.length c2] a0) (aL) (fun v A' N=>v=jI r/\A'=aL/\N = []):=by
 refine aU Tryz.func210 Z Tryz.ntmps210 Z ?_;intro F w hX;unfold li at h;refine KN Z (KX av Z (T.seq (KN Z (KM av 1 Z (KO Z (K4 Z NQ) Z (KM av 1 Z ?_))))));rcases jF h with⟨c3,h⟩ | ⟨c3,h⟩
 ·refine Lh Z c3 (KN Z (KM av 1 Z ?_));obtain rfl:=Nz h;exact KP (T.ret (KT (KY [0] Tryz.results210 (KQ Z))))
 refine Lg Z c3 (Lk Z (KM av 1 Z ?_));refine KO Z (Lo (cells:= #[jI 0,jI 0,jI 0,jI 1,.slice A1 a0.length c2,jI 0,jI 0]) Cd Z QU) Z ?_;refine TL.alloc Z .u Tryz.zeroValue103 Z (fun b4=>(K3 0 Z (cs':= #[jI 0,jI 0,jI 0,jI 1,.slice A1 a0.length c2,jI 0,jI 0]) Z .u Z Z Tryz.sizeOf103 Z Z Z Z Z (Ld Z (KO Z (K9 (us := [jI 0,jI 0,jI 0,jI 1,.slice A1 a0.length c2,jI 0,jI 0]) 0 Z Tryz.isAgg103 Tryz.sizeOf103 Z Z Z) Z ?_))));obtain⟨x5,hx6,h⟩:=Ny h;refine Lb Z .u (.fn Tryz.call90 Z) (sB (⟨0,0,0,1,a0,0,0⟩:Val) _ _ _ hx6) (fun _ hs=>(K7 hs hX)) Z (KM av 1 Z ?_);obtain rfl:=Nz h;exact KP (T.ret (KY [1] Tryz.results210 (KQ Z)))
def gP (a0:bZ):Option (Int):=(nQ a0.MU).bind fun x4=>if x4=true then ((km a0.MO a0.MR).bind fun x7=>if x7=true then ((li a0.MN).bind fun x10=>some x10) else some 11) else some 4
theorem mu (a0:bZ) (A1:Option Addr) (c2:Nat) (r:Int) (h:gP a0=some r):aG Tryz.prog 170 #[.agg (wA11 a0 A1 c2)] (RX.of (aq 2 bh) [.slice A1 a0.MN.length c2] a0.MN) (aL) (fun v A' N=>v=jI r/\A'=aL/\N = []):=by
 refine aU Tryz.func170 Z Tryz.ntmps170 Z ?_;intro F w hX;unfold gP at h;refine KN Z (TL.box Z .u Z Z (fun b3=>(KX av Z (T.seq (T.block (KN Z ?_))))));obtain⟨x4,hx5,h⟩:=Ny h;refine KR av cg 0 Z 2 Z Z (Lb Z .u (.fn Tryz.call87 Z) (LL (fun w=>mA a0.MU _ hx5 w)) (fun _ _=>Lv _ _) Z (KM av 2 Z ?_));rcases jF h with⟨c6,h⟩ | ⟨c6,h⟩
 ·refine KP (Li Z (bi c6) (KN Z ?_));obtain⟨x7,hx8,h⟩:=Ny h;refine KR av cg 0 Z 4 Z Z (Lb Z .u (.fn Tryz.call192 Z) (kA a0.MO a0.MR _ hx8) rT Z (KM av 2 Z ?_));rcases jF h with⟨c9,h⟩ | ⟨c9,h⟩
  ·refine KP (Li Z (bi c9) (T.skip (La (X.seq (KN Z ?_)))));obtain⟨x10,hx11,h⟩:=Ny h;refine KR av cg 0 Z 2 Z Z (Lb Z .u (.fn Tryz.call210 Z) (pN a0.MN _ _ _ hx11) (fun _ hs=>(K7 hs hX)) Z (KM av 1 Z ?_));obtain rfl:=Nz h;exact KP (T.ret (KY [1] Tryz.results170 (KQ Z)))
  replace c9:=NF c9;refine KP (K1 Z (bF c9) (KN Z (KM av 1 Z ?_)));obtain rfl:=Nz h;exact KP (T.ret (K2 (KT (KY [1] Tryz.results170 (KQ Z)))))
 replace c6:=NF c6;refine KP (K1 Z (bF c6) (KN Z (KM av 1 Z ?_)));obtain rfl:=Nz h;exact KP (T.ret (K2 (KT (KY [1] Tryz.results170 (KQ Z)))))
def jX (st:List UInt8×Int) (a1:bZ):Option (Bool×(List UInt8×Int)):=(gP a1).bind fun x3=>(nj st x3).bind fun (x5,st6)=>some (x5,st6)
theorem oW (g:Nat) (st:List UInt8×Int) (a1:bZ) (A1:Option Addr) (c2:Nat) (r:Bool×(List UInt8×Int)) (h:jX st a1=some r):aG Tryz.prog 153 #[jP g,.iface 30 (.agg (wA11 a1 A1 c2))] (RX.of (aq 2 bh) [.slice A1 a1.MN.length c2] a1.MN) (bC g st) (fun v A' N=>v= .bool r.1/\A'=bC g r.2/\N = []):=by
 refine aU Tryz.func153 Z Tryz.ntmps153 Z ?_;intro F w hX;unfold jX at h;refine KN Z (Le av Z Z ?_);obtain⟨x3,hx4,h⟩:=Ny h;refine KM av 2 Z (Lb Z .u (.inv Z (tv _) Tryz.call170 Z) (mu a1 _ _ _ hx4) (fun _ hs=>(K7 hs hX)) Z ?_);obtain⟨⟨x5,st6⟩,hx7,h⟩:=Ny h;refine KZ 0 Z Z .u (.fn Tryz.call151 Z) (mc g st x3 _ hx7) sT Z Z (KM av 1 Z ?_);obtain rfl:=Nz h;exact KP (T.ret (KY [0] Tryz.results153 (KQ Z)))
def nk (st:List UInt8×Int) (a0:bZ):Option (List UInt8×Int):=(jX st a0).bind fun (x4,st5)=>if x4=true then some st5 else ((oG st5 a0.MU).bind fun st8=>(ed st8 a0.MO 8).bind fun st10=>(ed st10 a0.MR 2).bind fun st12=>(iM st12 a0.MN).bind fun st14=>some st14)
theorem rG (g:Nat) (st:List UInt8×Int) (a0:bZ) (A1:Option Addr) (c2:Nat) (r:List UInt8×Int) (h:nk st a0=some r):aG Tryz.prog 97 #[.agg (wA11 a0 A1 c2),jP g] (RX.of (aq 2 bh) [.slice A1 a0.MN.length c2] a0.MN) (bC g st) (fun v A' N=>v= .tuple #[]/\A'=bC g r/\N = []):=by
 refine aU Tryz.func97 Z Tryz.ntmps97 Z ?_;intro F w hX;unfold nk at h;refine KN Z (TL.box Z .u Z Z (fun b3=>(KP (T.seq (KN Z (KM av 1 Z (KO Z (K9 (us:=wL12 a0 A1 c2) 0 Z Ql Pa Z Z Z) Z (KO Z (Ex.mkI Z OP) Z ?_))))))));obtain⟨⟨x4,st5⟩,hx6,h⟩:=Ny h;refine KZ 1 Z Z .u (.fn Tryz.call153 Z) (oW g st a0 _ _ _ hx6) (fun _ hs=>(Mk hs hX)) Z Z ?_;rcases jF h with⟨c7,h⟩ | ⟨c7,h⟩
 ·refine KP (K1 Z c7 ?_);obtain rfl:=Nz h;exact T.ret (KT (LQ [1] Tryz.results97 ⟨Z,Z,Z⟩ QW (.inl Z)))
 replace c7:=NF c7;refine KP (Li Z c7 (Lk Z ?_));obtain⟨st8,hx9,h⟩:=Ny h;refine KR av cg 0 Z 3 Z Z (KZ 1 Z Z .u (.fn Tryz.call88 Z) (lx g st5 a0.MU _ hx9) sT Z Z (Ld Z ?_));obtain⟨st10,hx11,h⟩:=Ny h;refine KR av cg 0 Z 3 Z Z (KZ 1 Z Z .u (.fn Tryz.call51 Z) (bu g st8 a0.MO 8 _ hx11) sT Z Z (Ld Z ?_));obtain⟨st12,hx13,h⟩:=Ny h;refine KR av cg 0 Z 3 Z Z (KZ 1 Z Z .u (.fn Tryz.call51 Z) (bu g st10 a0.MR 2 _ hx13) sT Z Z (KP (T.region Z ?_)));obtain⟨st14,hx15,h⟩:=Ny h;refine KR av cg 0 Z 3 Z Z (KZ 1 Z Z .u (.fn Tryz.call91 Z) (kz g st12 a0.MN _ _ _ hx15) (fun _ hs=>(Mk hs hX)) Z Z ?_);obtain rfl:=Nz h;exact TL.nil (LQ [1] Tryz.results97 ⟨Z,Z,Z⟩ QW (.inr Z))
def ly (st:List UInt8×Int) (a1:Bool):Option (List UInt8×Int):=(if a1=true then ((xe st 1).bind fun st9=>some st9) else ((xe st 0).bind fun st11=>some st11)).bind fun st6=>some st6
theorem nl (g:Nat) (st:List UInt8×Int) (a1:Bool) (r:List UInt8×Int) (h:ly st a1=some r):aG Tryz.prog 154 #[jP g,.bool a1] .triv (bC g st) (fun v A' N=>v= .tuple #[]/\A'=bC g r/\N = []):=by
 refine aU Tryz.func154 Z Tryz.ntmps154 Z ?_;intro F w hX;unfold ly at h;refine KN Z (KX av Z ?_);obtain⟨st6,h,hk7⟩:=Ny h;refine LE (fun e Rs=>e = []/\Rs = [bC g st6]) ?_ ?_
 ·clear hk7;rcases jF h with⟨c8,h⟩ | ⟨c8,h⟩
  ·refine K1 Z c8 (T.region Z ?_);obtain⟨st9,hx10,h⟩:=Ny h;refine KM av 1 Z (KZ 0 Z Z .u (.fn Tryz.call102 Z) (qn g st 1 _ hx10) sT Z Z ?_);cases h;exact TL.nil (K0 [0])
  replace c8:=NF c8;refine Li Z c8 (T.region Z ?_);obtain⟨st11,hx12,h⟩:=Ny h;refine KM av 1 Z (KZ 0 Z Z .u (.fn Tryz.call102 Z) (qn g st 0 _ hx12) sT Z Z ?_);cases h;exact TL.nil (K0 [0])
 rintro _ _ ⟨rfl,rfl⟩;clear h;have h:=hk7;clear hk7;obtain rfl:=Nz h;exact LQ [0] Tryz.results154 ⟨Z,Z,Z⟩ QW (.inr Z)
def gQ (a0:bY):Option (Int):=(nQ a0.MU).bind fun x2=>if x2=true then ((km a0.MO a0.MR).bind fun x5=>if x5=true then some 0 else some 11) else some 4
theorem mv (a0:bY) (r:Int) (h:gQ a0=some r):aG Tryz.prog 172 #[.agg (wA13 a0)] .triv (aL) (fun v A' N=>v=jI r/\A'=aL/\N = []):=by
 refine aU Tryz.func172 Z Tryz.ntmps172 Z ?_;intro F w hX;unfold gQ at h;refine KN Z (TL.box Z .u Z Z (fun b1=>(KX av Z (T.seq (T.block (KN Z ?_))))));obtain⟨x2,hx3,h⟩:=Ny h;refine KR av cg 0 Z 2 Z Z (Lb Z .u (.fn Tryz.call87 Z) (LL (fun w=>mA a0.MU _ hx3 w)) (fun _ _=>Lv _ _) Z (KM av 2 Z ?_));rcases jF h with⟨c4,h⟩ | ⟨c4,h⟩
 ·refine KP (Li Z (bi c4) (KN Z ?_));obtain⟨x5,hx6,h⟩:=Ny h;refine KR av cg 0 Z 4 Z Z (Lb Z .u (.fn Tryz.call192 Z) (kA a0.MO a0.MR _ hx6) rT Z (KM av 2 Z ?_));rcases jF h with⟨c7,h⟩ | ⟨c7,h⟩
  ·refine KP (Li Z (bi c7) (T.skip (La (X.seq (KN Z (KM av 1 Z ?_))))));obtain rfl:=Nz h;exact KP (T.ret (KY [1] Tryz.results172 (KQ Z)))
  replace c7:=NF c7;refine KP (K1 Z (bF c7) (KN Z (KM av 1 Z ?_)));obtain rfl:=Nz h;exact KP (T.ret (K2 (KT (KY [1] Tryz.results172 (KQ Z)))))
 replace c4:=NF c4;refine KP (K1 Z (bF c4) (KN Z (KM av 1 Z ?_)));obtain rfl:=Nz h;exact KP (T.ret (K2 (KT (KY [1] Tryz.results172 (KQ Z)))))
def jY (st:List UInt8×Int) (a1:bY):Option (Bool×(List UInt8×Int)):=(gQ a1).bind fun x1=>(nj st x1).bind fun (x3,st4)=>some (x3,st4)
theorem oX (g:Nat) (st:List UInt8×Int) (a1:bY) (r:Bool×(List UInt8×Int)) (h:jY st a1=some r):aG Tryz.prog 153 #[jP g,.iface 32 (.agg (wA13 a1))] .triv (bC g st) (fun v A' N=>v= .bool r.1/\A'=bC g r.2/\N = []):=by
 refine aU Tryz.func153 Z Tryz.ntmps153 Z ?_;intro F w hX;unfold jY at h;refine KN Z (Le av Z Z ?_);obtain⟨x1,hx2,h⟩:=Ny h;refine KM av 2 Z (Lb Z .u (.inv Z (tw _) Tryz.call172 Z) (mv a1 _ hx2) rT Z ?_);obtain⟨⟨x3,st4⟩,hx5,h⟩:=Ny h;refine KZ 0 Z Z .u (.fn Tryz.call151 Z) (mc g st x1 _ hx5) sT Z Z (KM av 1 Z ?_);obtain rfl:=Nz h;exact KP (T.ret (KY [0] Tryz.results153 (KQ Z)))
def np (st:List UInt8×Int) (a0:bY):Option (List UInt8×Int):=(jY st a0).bind fun (x2,st3)=>if x2=true then some st3 else ((oG st3 a0.MU).bind fun st6=>(ed st6 a0.MO 8).bind fun st8=>(ed st8 a0.MR 2).bind fun st10=>(ly st10 a0.M7).bind fun st12=>some st12)
theorem rH (g:Nat) (st:List UInt8×Int) (a0:bY) (r:List UInt8×Int) (h:np st a0=some r):aG Tryz.prog 98 #[.agg (wA13 a0),jP g] .triv (bC g st) (fun v A' N=>v= .tuple #[]/\A'=bC g r/\N = []):=by
 refine aU Tryz.func98 Z Tryz.ntmps98 Z ?_;intro F w hX;unfold np at h;refine KN Z (TL.box Z .u Z Z (fun b1=>(KP (T.seq (KN Z (KM av 1 Z (KO Z (K9 (us:=wL14 a0) 0 Z Qm Pb Z Z Z) Z (KO Z (Ex.mkI Z OI) Z ?_))))))));obtain⟨⟨x2,st3⟩,hx4,h⟩:=Ny h;refine KZ 1 Z Z .u (.fn Tryz.call153 Z) (oX g st a0 _ hx4) sT Z Z ?_;rcases jF h with⟨c5,h⟩ | ⟨c5,h⟩
 ·refine KP (K1 Z c5 ?_);obtain rfl:=Nz h;exact T.ret (KT (LQ [1] Tryz.results98 ⟨Z,Z,Z⟩ QW (.inl Z)))
 replace c5:=NF c5;refine KP (Li Z c5 (Lk Z ?_));obtain⟨st6,hx7,h⟩:=Ny h;refine KR av cg 0 Z 3 Z Z (KZ 1 Z Z .u (.fn Tryz.call88 Z) (lx g st3 a0.MU _ hx7) sT Z Z (Ld Z ?_));obtain⟨st8,hx9,h⟩:=Ny h;refine KR av cg 0 Z 3 Z Z (KZ 1 Z Z .u (.fn Tryz.call51 Z) (bu g st6 a0.MO 8 _ hx9) sT Z Z (Ld Z ?_));obtain⟨st10,hx11,h⟩:=Ny h;refine KR av cg 0 Z 3 Z Z (KZ 1 Z Z .u (.fn Tryz.call51 Z) (bu g st8 a0.MR 2 _ hx11) sT Z Z (KP (T.region Z ?_)));obtain⟨st12,hx13,h⟩:=Ny h;refine KR av cg 0 Z 3 Z Z (KZ 1 Z Z .u (.fn Tryz.call154 Z) (nl g st10 a0.M7 _ hx13) sT Z Z ?_);obtain rfl:=Nz h;exact TL.nil (LQ [1] Tryz.results98 ⟨Z,Z,Z⟩ QW (.inr Z))
def ij (a0:bd) (a1:Int):Option (Int):=(fK a0 a1).bind fun x1=>some x1
theorem oY (a0:bd) (ba0:Nat) (a1:Int) (ba1:Nat) (r:Int) (h:ij a0 a1=some r):aG Tryz.prog 169 #[jP ba0,jP ba1] (RX.and (RX.blk ba0 27 #[.bool a0.MU.null,jS a0.MU.data,jI a0.MT,jI a0.MO,jI a0.MR]) (RX.blk ba1 3 #[jI a1])) (aL) (fun v A' N=>v=jI r/\A'=aL/\N = []):=by
 refine aU Tryz.func169 Z Tryz.ntmps169 Z ?_;intro F w hX;unfold ij at h;refine KN Z (Le av Z Z (KO Z (Ex.xbS (us := [.bool a0.MU.null,jS a0.MU.data,jI a0.MT,jI a0.MO,jI a0.MR]) (Lx hX) Z Qk O9 Z Z) Z (KO Z (Ex.xb1 (Lf hX) Z NH Z) Z ?_)));obtain⟨x1,hx2,h⟩:=Ny h;refine Lb Z .u (.fn Tryz.call152 Z) (kR a0 a1 _ hx2) rT Z (KM av 1 Z ?_);obtain rfl:=Nz h;exact KP (T.ret (KY [0] Tryz.results169 (KQ Z)))
def cH (st:I) (a1_0:bd) (a1_1:Int):Option (Bool×I):=(iF st).bind fun (x1,st2)=>if x1=0 then ((ij a1_0 a1_1).bind fun x5=>if x5=0 then some (true,st2) else ((ck st2 x5).bind fun st8=>some (false,st8))) else some (false,st2)
theorem kB (g:Nat) (st:I) (a1_0:bd) (ba1_0:Nat) (a1_1:Int) (ba1_1:Nat) (r:Bool×I) (h:cH st a1_0 a1_1=some r):aG Tryz.prog 168 #[jP g,.func (.func 169) #[] #[jP ba1_0,jP ba1_1]] (RX.and (RX.blk ba1_0 27 #[.bool a1_0.MU.null,jS a1_0.MU.data,jI a1_0.MT,jI a1_0.MO,jI a1_0.MR]) (RX.blk ba1_1 3 #[jI a1_1])) (InR g st) (fun v A' N=>v= .bool r.1/\A'=InR g r.2/\N = []):=by
 refine aU Tryz.func168 Z Tryz.ntmps168 Z ?_;intro F w hX;unfold cH at h;refine KN Z (KX av Z (T.seq (KN Z ?_)));obtain⟨⟨x1,st2⟩,hx3,h⟩:=Ny h;refine KM av 1 Z (KZ 0 Z Z .u (.fn Tryz.call23 Z) (cy g st _ hx3) sT Z Z (KM av 1 Z ?_));rcases jF h with⟨c4,h⟩ | ⟨c4,h⟩
 ·refine Lr Z c4 (K8 (T.seq (KN Z ?_)));obtain⟨x5,hx6,h⟩:=Ny h;refine KM av 1 Z (Lb Z .u (.val Z Tryz.call169 Z Z) (oY a1_0 ba1_0 a1_1 ba1_1 _ hx6) (fun _ hs=>(RX.reads_and (K7 hs (Lx hX)) (K7 hs (Lf hX)))) Z (Le av Z Z (KM av 2 Z ?_)));rcases jF h with⟨c7,h⟩ | ⟨c7,h⟩
  ·refine Lr Z c7 (Lk Z (KM av 1 Z ?_));obtain rfl:=Nz h;exact KP (T.ret (KY [0] Po (KQ Z)))
  refine Lq Z c7 (KN Z ?_);obtain⟨st8,hx9,h⟩:=Ny h;refine KM av 2 Z (KZ 0 Z Z .u (.fn Tryz.call70 Z) (bK g st2 x5 _ hx9) sT Z Z (Ld Z (KM av 1 Z ?_)));obtain rfl:=Nz h;exact KP (T.ret (KT (KY [0] Po (KQ Z))))
 refine Lq Z c4 (KN Z (KM av 1 Z ?_));obtain rfl:=Nz h;exact KP (T.ret (KT (KY [0] Po (KQ Z))))
def eG (st:I) (a1:Int):Option (bd×I):=(kW st 2).bind fun (x3,st4)=>(d9 st4 4).bind fun (x6,st7)=>(if a1>0 then ((d9 st7 8).bind fun (x22,st23)=>(d9 st23 2).bind fun (x25,st26)=>some (x22,x25,st26)) else ((some (-1,-1,st7):Option (Int×Int×I)))).bind fun (y17,y18,st19)=>(cH st19 (⟨x3,x6,y17,y18⟩:bd) a1).bind fun (x28,st29)=>if x28=true then (some ((⟨x3,x6,y17,y18⟩:bd),st29)) else (some ((⟨(⟨false,[]⟩:Bl),0,0,0⟩:bd),st29))
theorem qA (g:Nat) (st:I) (a1:Int) (r:bd×I) (h:eG st a1=some r):aG Tryz.prog 116 #[jP g,jI a1] .triv (InR g st) (fun v A' N=>v= .agg #[.bool r.1.MU.null,jS r.1.MU.data,jI r.1.MT,jI r.1.MO,jI r.1.MR]/\A'=InR g r.2/\N = []):=by
 refine aU Tryz.func116 Z Tryz.ntmps116 Z ?_;intro F w hX;unfold eG at h;refine KN Z (TL.box Z .u Z Z (fun b1=>(TL.alloc Z .u Tryz.zeroValue27 Z (fun b2=>(Ld Z ?_)))));obtain⟨⟨x3,st4⟩,hx5,h⟩:=Ny h;refine KM av 1 Z (KZ 2 Z Z .u (.fn Tryz.call142 Z) (j9 g st 2 _ hx5) sT Z Z ?_);obtain⟨⟨x6,st7⟩,hx8,h⟩:=Ny h;refine KM av 1 Z (KZ 2 Z Z .u (.fn Tryz.call68 Z) (bz g st4 4 _ hx8) sT Z Z ?_);refine KO Z (Lo (cells:= #[.bool x3.null,jS x3.data,jI x6,jI (-1),jI (-1)]) xD Z QU) Z ?_;refine TL.alloc Z .u Tryz.zeroValue27 Z (fun b9=>(K3 0 Z (cs':= #[.bool x3.null,jS x3.data,jI x6,jI (-1),jI (-1)]) Z .u Z Z O9 Z Z Z Z Z (KP (T.seq (KN Z (L6 av cg 2 Z Z Z ?_))))));obtain⟨⟨y17,y18,st19⟩,h,hk20⟩:=Ny h;refine LE (fun e Rs=>e = [(0,jP g),(3,jP b1),(4,jP b2),(5,jP b9)]/\Rs = [aV b9 27 (vA1 x6 y17 y18 x3),aV b2 27 vA2,aV b1 3 #[jI a1],InR g st19]) ?_ ?_
 ·clear hk20;rcases jF h with⟨c21,h⟩ | ⟨c21,h⟩
  ·refine L2 Z c21 (T.region Z ?_);obtain⟨⟨x22,st23⟩,hx24,h⟩:=Ny h;refine KM av 1 Z (KZ 3 Z Z .u (.fn Tryz.call68 Z) (bz g st7 8 _ hx24) sT Z Z ?_);obtain⟨⟨x25,st26⟩,hx27,h⟩:=Ny h;refine KM av 1 Z (KZ 3 Z Z .u (.fn Tryz.call68 Z) (bz g st23 2 _ hx27) sT Z Z (KM av 1 Z (K3 0 Z (cs':= #[.bool x3.null,jS x3.data,jI x6,jI x22,jI (-1)]) Z .u Z Z NG Z Z Z Z Z (KM av 1 Z (K3 0 Z (cs':=vA1 x6 x22 x25 x3) Z .u Z Z NG Z Z Z Z Z ?_)))));cases h;exact TL.nil (K0 [0,0,0,0])
  refine L3 Z c21 ?_;cases h;exact T.skip (K0 [0,0,0,0])
 rintro _ _ ⟨rfl,rfl⟩;clear h;have h:=hk20;clear hk20;refine X.seq (T.seq (KN Z (KM av 1 Z (KO Z (Ex.mkF Z Z (fun _=>Z)) Z ?_))));obtain⟨⟨x28,st29⟩,hx30,h⟩:=Ny h;refine KZ 3 Z Z .u (.fn Tryz.call168 Z) (kB g st19 (⟨x3,x6,y17,y18⟩:bd) b9 a1 b1 _ hx30) (fun _ hs=>(Src.and (Src.res 0 Z zC) (Src.res 2 Z zC))) Z Z (KM av 1 Z ?_);rcases jF h with⟨c31,h⟩ | ⟨c31,h⟩
 ·refine KP (Li Z (bi c31) (Lk Z (KO Z (K9 (us := [.bool x3.null,jS x3.data,jI x6,jI y17,jI y18]) 0 Z Qk O9 Z Z Z) Z (K3 1 Z (cs':=vA1 x6 y17 y18 x3) Z .u Z Z O9 Z Z Z Z Z ?_))));obtain rfl:=Nz h;exact KP (T.ret (KY [3] Tryz.results116 (LI (us:=vA1 x6 y17 y18 x3) 1 Z Qk O9 Z Z)))
 replace c31:=NF c31;refine KP (K1 Z (bF c31) (KN Z ?_));refine KO Z (Lo (cells:=vA2) xD Z QU) Z ?_;refine K3 1 Z (cs':=vA2) Z .u Z Z O9 Z Z Z Z Z ?_;obtain rfl:=Nz h;exact KP (T.ret (KT (KY [3] Tryz.results116 (LI (us:=vA2) 1 Z Qk O9 Z Z))))
def cW (st:I) (a1_0:bZ):Option (Bool×I):=(iF st).bind fun (x3,st4)=>if x3=0 then ((gP a1_0).bind fun x7=>if x7=0 then some (true,st4) else ((ck st4 x7).bind fun st10=>some (false,st10))) else some (false,st4)
theorem lj (g:Nat) (st:I) (a1_0:bZ) (A1:Option Addr) (c2:Nat) (r:Bool×I) (h:cW st a1_0=some r):aG Tryz.prog 168 #[jP g,.func (.func 170) #[.agg (wA11 a1_0 A1 c2)] #[]] (RX.of (aq 2 bh) [.slice A1 a1_0.MN.length c2] a1_0.MN) (InR g st) (fun v A' N=>v= .bool r.1/\A'=InR g r.2/\N = []):=by
 refine aU Tryz.func168 Z Tryz.ntmps168 Z ?_;intro F w hX;unfold cW at h;refine KN Z (KX av Z (T.seq (KN Z ?_)));obtain⟨⟨x3,st4⟩,hx5,h⟩:=Ny h;refine KM av 1 Z (KZ 0 Z Z .u (.fn Tryz.call23 Z) (cy g st _ hx5) sT Z Z (KM av 1 Z ?_));rcases jF h with⟨c6,h⟩ | ⟨c6,h⟩
 ·refine Lr Z c6 (K8 (T.seq (KN Z ?_)));obtain⟨x7,hx8,h⟩:=Ny h;refine KM av 1 Z (Lb Z .u (.val Z Tryz.call170 Z Z) (mu a1_0 _ _ _ hx8) (fun _ hs=>(K7 hs hX)) Z (Le av Z Z (KM av 2 Z ?_)));rcases jF h with⟨c9,h⟩ | ⟨c9,h⟩
  ·refine Lr Z c9 (Lk Z (KM av 1 Z ?_));obtain rfl:=Nz h;exact KP (T.ret (KY [0] Po (KQ Z)))
  refine Lq Z c9 (KN Z ?_);obtain⟨st10,hx11,h⟩:=Ny h;refine KM av 2 Z (KZ 0 Z Z .u (.fn Tryz.call70 Z) (bK g st4 x7 _ hx11) sT Z Z (Ld Z (KM av 1 Z ?_)));obtain rfl:=Nz h;exact KP (T.ret (KT (KY [0] Po (KQ Z))))
 refine Lq Z c6 (KN Z (KM av 1 Z ?_));obtain rfl:=Nz h;exact KP (T.ret (KT (KY [0] Po (KQ Z))))
def lz (st:I)  : Option (bZ×I):=(tc st).bind fun (x2,st3)=>(d9 st3 8).bind fun (x5,st6)=>(d9 st6 2).bind fun (x8,st9)=>(dW st9).bind fun (x12,st15)=>(cW st15 (⟨x2,x5,x8,x12⟩:bZ)).bind fun (x17,st18)=>if x17=true then (some ((⟨x2,x5,x8,x12⟩:bZ),st18)) else (some ((⟨[],0,0,[]⟩:bZ),st18))
theorem sC (g:Nat) (st:I)  (r:bZ×I) (h:lz st  = some r):aG Tryz.prog 117 #[jP g] .triv (InR g st) (fun v A' N=> ∃ (A21:Option Addr) (c22:Nat),v= .agg #[jS r.1.MU,jI r.1.MO,jI r.1.MR,.slice A21 r.1.MN.length c22]/\A'=InR g r.2/\N = [RdR (aq 2 bh) [.slice A21 r.1.MN.length c22] r.1.MN]):=by
 refine aU Tryz.func117 Z Tryz.ntmps117 Z ?_;intro F w hX;unfold lz at h;refine KN Z (TL.alloc Z .u Tryz.zeroValue30 Z (fun b1=>(Ld Z ?_)));obtain⟨⟨x2,st3⟩,hx4,h⟩:=Ny h;refine KM av 1 Z (KZ 1 Z Z .u (.fn Tryz.call86 Z) (pg g st _ hx4) sT Z Z ?_);obtain⟨⟨x5,st6⟩,hx7,h⟩:=Ny h;refine KM av 1 Z (KZ 1 Z Z .u (.fn Tryz.call68 Z) (bz g st3 8 _ hx7) sT Z Z ?_);obtain⟨⟨x8,st9⟩,hx10,h⟩:=Ny h;refine KM av 1 Z (KZ 1 Z Z .u (.fn Tryz.call68 Z) (bz g st6 2 _ hx10) sT Z Z ?_);refine KO Z (Lo (cells:= #[jS x2,jI x5,jI x8,.slice none 0 0]) xE Z QU) Z ?_;refine TL.alloc Z .u Tryz.zeroValue30 Z (fun b11=>(K3 0 Z (cs':= #[jS x2,jI x5,jI x8,.slice none 0 0]) Z .u Z Z Pa Z Z Z Z Z (Ld Z ?_)));obtain⟨⟨x12,st15⟩,hx16,h⟩:=Ny h;refine KM av 1 Z (TL.cg2 Z .u (.fn Tryz.call89 Z) (ms g st9 _ hx16) sT Z ?_);rintro _ _ _ ⟨A13,c14,rfl,rfl,rfl⟩;refine Lt [0,0,0,0] Z (KM av 1 Z (K3 1 Z (cs':= #[jS x2,jI x5,jI x8,.slice A13 x12.length c14]) Z .u Z Z Py Z Z Z Z Z (KP (T.seq (KN Z (KM av 1 Z (KO Z (K9 (us := [jS x2,jI x5,jI x8,.slice A13 x12.length c14]) 1 Z Ql Pa Z Z Z) Z (KO Z (Ex.mkF Z Z (fun _=>Z)) Z ?_))))))));obtain⟨⟨x17,st18⟩,hx19,h⟩:=Ny h;refine KZ 3 Z Z .u (.fn Tryz.call168 Z) (lj g st15 (⟨x2,x5,x8,x12⟩:bZ) _ _ _ hx19) (fun _ hs=>(Src.res 0 Z (fun w G h=>xm w G h))) Z Z (KM av 1 Z ?_);rcases jF h with⟨c20,h⟩ | ⟨c20,h⟩
 ·refine KP (Li Z (bi c20) (Lk Z (KO Z (K9 (us := [jS x2,jI x5,jI x8,.slice A13 x12.length c14]) 1 Z Ql Pa Z Z Z) Z (K3 2 Z (cs':= #[jS x2,jI x5,jI x8,.slice A13 x12.length c14]) Z .u Z Z Pa Z Z Z Z Z ?_))));obtain rfl:=Nz h;exact KP (T.ret (Ll [3,0] Tryz.results117 (LI (us:= #[jS x2,jI x5,jI x8,.slice A13 x12.length c14]) 2 Z Ql Pa Z Z) ⟨_,_,Z,Z,Z⟩ QW (.inl Z)))
 replace c20:=NF c20;refine KP (K1 Z (bF c20) (KN Z ?_));refine KO Z (Lo (cells:=vA3) xE Z QU) Z ?_;refine K3 2 Z (cs':=vA3) Z .u Z Z Pa Z Z Z Z Z ?_;obtain rfl:=Nz h;exact KP (T.ret (KT (Lj 2 bh (Ll [4,0] Tryz.results117 (LI (us:=vA3) 3 Z Ql Pa Z Z) ⟨_,_,Z,Z,Z⟩ QW (.inl Z)))))
def gy (st:I)  : Option (Bool×I):=(d9 st 1).bind fun (x1,st2)=>(if x1=0 then some false else (if x1=1 then some false else some true)).bind fun y5=>(if y5=true then ((ck st2 11).bind fun st15=>some st15) else some st2).bind fun st12=>if x1=1 then some (true,st12) else some (false,st12)
theorem pO (g:Nat) (st:I)  (r:Bool×I) (h:gy st  = some r):aG Tryz.prog 171 #[jP g] .triv (InR g st) (fun v A' N=>v= .bool r.1/\A'=InR g r.2/\N = []):=by
 refine aU Tryz.func171 Z Tryz.ntmps171 Z ?_;intro F w hX;unfold gy at h;refine KN Z (Le av Z Z ?_);obtain⟨⟨x1,st2⟩,hx3,h⟩:=Ny h;refine KM av 1 Z (KZ 0 Z Z .u (.fn Tryz.call68 Z) (bz g st 1 _ hx3) sT Z Z (KX av Z (L0 ?_)));obtain⟨y5,h,hk6⟩:=Ny h;refine LE (fun e Rs=>e = [(0,jP g),(2,.bool false),(3,jI x1),(11,.bool y5)]/\Rs = [InR g st2]) ?_ ?_
 ·clear hk6;refine T.region Z ?_;rcases jF h with⟨c7,h⟩ | ⟨c7,h⟩
  ·refine KM av 3 Z (KV 8 Z (bi (NB c7)) (KW av 3 Z ?_));cases h;exact TL.nil (K0 [0])
  refine KM av 3 Z (KV 8 Z (bF (NC c7)) (KW av 3 Z ?_));rcases jF h with⟨c8,h⟩ | ⟨c8,h⟩
  ·cases h;exact TL.nil (LH (d:=11) (v':= .bool false) Z (congrArg Value.bool (bi (NB c8))) (K0 [0]))
  cases h;exact TL.nil (LH (d:=11) (v':= .bool true) Z (congrArg Value.bool (bF (NC c8))) (K0 [0]))
 rintro _ _ ⟨rfl,rfl⟩;clear h;have h:=hk6;clear hk6;refine X.seq ?_;obtain⟨st12,h,hk13⟩:=Ny h;refine LE (fun e Rs=>e = [(2,.bool false),(3,jI x1)]/\Rs = [InR g st12]) ?_ ?_
 ·clear hk13;rcases jF h with⟨c14,h⟩ | ⟨c14,h⟩
  ·refine K1 Z c14 (T.region Z ?_);obtain⟨st15,hx16,h⟩:=Ny h;refine KM av 1 Z (KZ 0 Z Z .u (.fn Tryz.call70 Z) (bK g st2 11 _ hx16) sT Z Z ?_);cases h;exact TL.nil (K0 [0])
  replace c14:=NF c14;refine Li Z c14 ?_;cases h;exact T.skip (K0 [0])
 rintro _ _ ⟨rfl,rfl⟩;clear h;have h:=hk13;clear hk13;refine X.seq (KN Z (KM av 3 Z ?_));rcases jF h with⟨c17,h⟩ | ⟨c17,h⟩
 ·obtain rfl:=Nz h;exact KP (T.ret (Ll [0] Tryz.results171 (KQ (v:= .bool true) (congrArg (fun b=>some (Value.bool b)) (NB c17))) ⟨Z,Z,Z⟩ QW (.inl Z)))
 obtain rfl:=Nz h;exact KP (T.ret (Ll [0] Tryz.results171 (KQ (v:= .bool false) (congrArg (fun b=>some (Value.bool b)) (NC c17))) ⟨Z,Z,Z⟩ QW (.inl Z)))
def cX (st:I) (a1_0:bY):Option (Bool×I):=(iF st).bind fun (x1,st2)=>if x1=0 then ((gQ a1_0).bind fun x5=>if x5=0 then some (true,st2) else ((ck st2 x5).bind fun st8=>some (false,st8))) else some (false,st2)
theorem lk (g:Nat) (st:I) (a1_0:bY) (r:Bool×I) (h:cX st a1_0=some r):aG Tryz.prog 168 #[jP g,.func (.func 172) #[.agg (wA13 a1_0)] #[]] .triv (InR g st) (fun v A' N=>v= .bool r.1/\A'=InR g r.2/\N = []):=by
 refine aU Tryz.func168 Z Tryz.ntmps168 Z ?_;intro F w hX;unfold cX at h;refine KN Z (KX av Z (T.seq (KN Z ?_)));obtain⟨⟨x1,st2⟩,hx3,h⟩:=Ny h;refine KM av 1 Z (KZ 0 Z Z .u (.fn Tryz.call23 Z) (cy g st _ hx3) sT Z Z (KM av 1 Z ?_));rcases jF h with⟨c4,h⟩ | ⟨c4,h⟩
 ·refine Lr Z c4 (K8 (T.seq (KN Z ?_)));obtain⟨x5,hx6,h⟩:=Ny h;refine KM av 1 Z (Lb Z .u (.val Z Tryz.call172 Z Z) (mv a1_0 _ hx6) rT Z (Le av Z Z (KM av 2 Z ?_)));rcases jF h with⟨c7,h⟩ | ⟨c7,h⟩
  ·refine Lr Z c7 (Lk Z (KM av 1 Z ?_));obtain rfl:=Nz h;exact KP (T.ret (KY [0] Po (KQ Z)))
  refine Lq Z c7 (KN Z ?_);obtain⟨st8,hx9,h⟩:=Ny h;refine KM av 2 Z (KZ 0 Z Z .u (.fn Tryz.call70 Z) (bK g st2 x5 _ hx9) sT Z Z (Ld Z (KM av 1 Z ?_)));obtain rfl:=Nz h;exact KP (T.ret (KT (KY [0] Po (KQ Z))))
 refine Lq Z c4 (KN Z (KM av 1 Z ?_));obtain rfl:=Nz h;exact KP (T.ret (KT (KY [0] Po (KQ Z))))
def lA (st:I)  : Option (bY×I):=(tc st).bind fun (x2,st3)=>(d9 st3 8).bind fun (x5,st6)=>(d9 st6 2).bind fun (x8,st9)=>(gy st9).bind fun (x12,st13)=>(cX st13 (⟨x2,x5,x8,x12⟩:bY)).bind fun (x15,st16)=>if x15=true then (some ((⟨x2,x5,x8,x12⟩:bY),st16)) else (some ((⟨[],0,0,false⟩:bY),st16))
theorem sD (g:Nat) (st:I)  (r:bY×I) (h:lA st  = some r):aG Tryz.prog 118 #[jP g] .triv (InR g st) (fun v A' N=>v= .agg #[jS r.1.MU,jI r.1.MO,jI r.1.MR,.bool r.1.M7]/\A'=InR g r.2/\N = []):=by
 refine aU Tryz.func118 Z Tryz.ntmps118 Z ?_;intro F w hX;unfold lA at h;refine KN Z (TL.alloc Z .u Tryz.zeroValue32 Z (fun b1=>(Ld Z ?_)));obtain⟨⟨x2,st3⟩,hx4,h⟩:=Ny h;refine KM av 1 Z (KZ 1 Z Z .u (.fn Tryz.call86 Z) (pg g st _ hx4) sT Z Z ?_);obtain⟨⟨x5,st6⟩,hx7,h⟩:=Ny h;refine KM av 1 Z (KZ 1 Z Z .u (.fn Tryz.call68 Z) (bz g st3 8 _ hx7) sT Z Z ?_);obtain⟨⟨x8,st9⟩,hx10,h⟩:=Ny h;refine KM av 1 Z (KZ 1 Z Z .u (.fn Tryz.call68 Z) (bz g st6 2 _ hx10) sT Z Z ?_);refine KO Z (Lo (cells:= #[jS x2,jI x5,jI x8,.bool false]) xF Z QU) Z ?_;refine TL.alloc Z .u Tryz.zeroValue32 Z (fun b11=>(K3 0 Z (cs':= #[jS x2,jI x5,jI x8,.bool false]) Z .u Z Z Pb Z Z Z Z Z (Ld Z ?_)));obtain⟨⟨x12,st13⟩,hx14,h⟩:=Ny h;refine KM av 1 Z (KZ 2 Z Z .u (.fn Tryz.call171 Z) (pO g st9 _ hx14) sT Z Z (KM av 1 Z (K3 0 Z (cs':= #[jS x2,jI x5,jI x8,.bool x12]) Z .u Z Z Oe Z Z Z Z Z (KP (T.seq (KN Z (KM av 1 Z (KO Z (K9 (us := [jS x2,jI x5,jI x8,.bool x12]) 0 Z Qm Pb Z Z Z) Z (KO Z (Ex.mkF Z Z (fun _=>Z)) Z ?_)))))))));obtain⟨⟨x15,st16⟩,hx17,h⟩:=Ny h;refine KZ 2 Z Z .u (.fn Tryz.call168 Z) (lk g st13 (⟨x2,x5,x8,x12⟩:bY) _ hx17) sT Z Z (KM av 1 Z ?_);rcases jF h with⟨c18,h⟩ | ⟨c18,h⟩
 ·refine KP (Li Z (bi c18) (Lk Z (KO Z (K9 (us := [jS x2,jI x5,jI x8,.bool x12]) 0 Z Qm Pb Z Z Z) Z (K3 1 Z (cs':= #[jS x2,jI x5,jI x8,.bool x12]) Z .u Z Z Pb Z Z Z Z Z ?_))));obtain rfl:=Nz h;exact KP (T.ret (Ll [2] Tryz.results118 (LI (us:= #[jS x2,jI x5,jI x8,.bool x12]) 1 Z Qm Pb Z Z) ⟨Z,Z,Z⟩ QW (.inl Z)))
 replace c18:=NF c18;refine KP (K1 Z (bF c18) (KN Z ?_));refine KO Z (Lo (cells:=vA4) xF Z QU) Z ?_;refine K3 1 Z (cs':=vA4) Z .u Z Z Pb Z Z Z Z Z ?_;obtain rfl:=Nz h;exact KP (T.ret (KT (KY [2] Tryz.results118 (LI (us:=vA4) 1 Z Qm Pb Z Z))))
def JY:eO := [(173,0,0),(173,1,1),(173,2,2),(173,3,3),(173,4,4)]
theorem aQ:(JY).OK Tryz.prog:=⟨FOK.mk Pf rfl NG rfl,FOK.mk Pf rfl NG rfl,FOK.mk Pf rfl Oe rfl,FOK.mk Pf rfl Py rfl,FOK.mk Pf rfl NG rfl,trivial⟩
def JZ:List Nat := [3,4,28]
theorem fR:NOK Tryz.prog JZ:=⟨NH,Oz,O7,trivial⟩
theorem AZ:BOK Tryz.prog 173 #[.int .i64 0,.int .i64 0,.bool false,.slice none 0 0,.int .i64 0] [(0,1),(1,1),(2,1),(3,1),(4,1)]:=BOK.mk Tryz.zeroValue173 Pf (by intro w; simp)
theorem zg:SOK Tryz.prog 33 173 1 5 #[.int .i64 0,.int .i64 0,.bool false,.slice none 0 0,.int .i64 0]:=SOK.mk OH OJ Tryz.zeroValue173 QS QU
theorem Ba:(Tryz.prog.info? 173).map (fun i=>(i.zero,i.size,i.bytes))=some (some (.agg #[.int .i64 0,.int .i64 0,.bool false,.slice none 0 0,.int .i64 0]),5,56):=by kernel_rfl
def gR (a0:aR) (a1:Int):Option (Int):=((km a0.MO a0.MR).bind fun x14=>if x14=true then (if a0.M0<0 then some true else ((jy a0.M0 4).bind fun x18=>if x18=true then (if a1=0 then (if a0.M0>0 then some true else some false) else some false) else some true)) else some true).bind fun y12=>if y12=true then some 11 else ((li a0.MN).bind fun x24=>some x24)
theorem pX (a0:aR) (A1:Option Addr) (c2:Nat) (a1:Int) (r:Int) (h:gR a0 a1=some r):aG Tryz.prog 193 #[.agg #[jI a0.MO,jI a0.MR,.bool a0.M7,.slice A1 a0.MN.length c2,jI a0.M0],jI a1] (RX.of (aq 2 bh) [.slice A1 a0.MN.length c2] a0.MN) (aL) (fun v A' N=>v=jI r/\A'=aL/\N = []):=by
 refine aU Tryz.func193 Z Tryz.ntmps193 Z ?_;intro F w hX;unfold gR at h;refine KN Z (TL.box Z .u Z Z (fun b3=>(KX aQ Z (L0 ?_))));obtain⟨y12,h,hk13⟩:=Ny h;refine LE (fun e Rs=>e = [(2,jP b3),(4,jI 0),(30,.bool y12)]/\Rs = [aV b3 173 #[jI a0.MO,jI a0.MR,.bool a0.M7,.slice A1 a0.MN.length c2,jI a0.M0],aL]) ?_ ?_
 ·clear hk13;refine T.region Z ?_;obtain⟨x14,hx15,h⟩:=Ny h;refine KR aQ fR 0 Z 4 Z Z (Lb Z .u (.fn Tryz.call192 Z) (kA a0.MO a0.MR _ hx15) rT Z ?_);rcases jF h with⟨c16,h⟩ | ⟨c16,h⟩
  ·refine KM aQ 2 Z (KV 11 Z (bi c16) ?_);rcases jF h with⟨c17,h⟩ | ⟨c17,h⟩
   ·refine KR aQ fR 0 Z 5 Z Z (KV 16 Z (NB c17) (KW aQ 14 Z ?_));cases h;exact TL.nil (K0 [0,0])
   refine KR aQ fR 0 Z 5 Z Z (KV 16 Z (NC c17) ?_);obtain⟨x18,hx19,h⟩:=Ny h;refine KR aQ fR 0 Z 2 Z Z (Lb Z (.g Z Z Z) (.fn Tryz.call101 Z) (LL (fun w=>dI a0.M0 4 _ hx19 w)) (fun _ _=>Lv _ _) Z ?_);rcases jF h with⟨c20,h⟩ | ⟨c20,h⟩
   ·refine KW aQ 3 Z (KV 22 Z (bi c20) ?_);rcases jF h with⟨c21,h⟩ | ⟨c21,h⟩
    ·refine KW aQ 3 Z (KV 25 Z (NB c21) (KR aQ fR 0 Z 5 Z Z ?_));rcases jF h with⟨c22,h⟩ | ⟨c22,h⟩
     ·cases h;exact TL.nil (LH (d:=30) (v':= .bool true) Z (congrArg Value.bool (NB c22)) (K0 [0,0]))
     cases h;exact TL.nil (LH (d:=30) (v':= .bool false) Z (congrArg Value.bool (NC c22)) (K0 [0,0]))
    refine KW aQ 3 Z (KV 25 Z (NC c21) (KW aQ 5 Z ?_));cases h;exact TL.nil (K0 [0,0])
   replace c20:=NF c20;refine KW aQ 3 Z (KV 22 Z (bF c20) (KW aQ 8 Z ?_));cases h;exact TL.nil (K0 [0,0])
  replace c16:=NF c16;refine KM aQ 2 Z (KV 11 Z (bF c16) (KW aQ 19 Z ?_));cases h;exact TL.nil (K0 [0,0])
 rintro _ _ ⟨rfl,rfl⟩;clear h;have h:=hk13;clear hk13;try dsimp only at h
 rcases jF h with⟨c23,h⟩ | ⟨c23,h⟩
 ·refine X.seq (K1 Z c23 (KN Z (KM aQ 1 Z ?_)));obtain rfl:=Nz h;exact KP (T.ret (KT (KY [1] Tryz.results193 (KQ Z))))
 replace c23:=NF c23;refine X.seq (Li Z c23 (Lk Z ?_));obtain⟨x24,hx25,h⟩:=Ny h;refine KR aQ fR 0 Z 2 Z Z (Lb Z .u (.fn Tryz.call210 Z) (pN a0.MN _ _ _ hx25) (fun _ hs=>(K7 hs hX)) Z (KM aQ 1 Z ?_));obtain rfl:=Nz h;exact KP (T.ret (KY [1] Tryz.results193 (KQ Z)))
def fo (a1:Int):List aR->Int->Option (Lp Int Int)
 | [],y4=>some (Lp.go y4)
 | x10::xs,y4=>(gR x10 a1).bind fun x18=>if x18=0 then (fo a1 xs y4) else some (Lp.ret x18)
def jp (a0:List aR) (a1:Int):Option (Int):=if (a0.length:Int)=0 then some 10 else ((fo a1 a0 0).bind fun e=>match e with | .ret r=>some r | .go y21=>some 0)
theorem nY (a0:List aR) (A1:Option Addr) (c2:Nat) (a1:Int) (r:Int) (h:jp a0 a1=some r):aG Tryz.prog 155 #[.slice A1 a0.length c2,jI a1] (RX.of (aq 5 bf) [.slice A1 a0.length c2] a0) (aL) (fun v A' N=>v=jI r/\A'=aL/\N = []):=by
 refine aU Tryz.func155 Z Tryz.ntmps155 Z ?_;intro F w hX;unfold jp at h;refine KN Z (KX aQ Z (T.seq (KN Z (KM aQ 1 Z (KO Z (K4 Z OH) Z (KM aQ 1 Z ?_))))));rcases jF h with⟨c3,h⟩ | ⟨c3,h⟩
 ·refine Lh Z c3 (KN Z (KM aQ 1 Z ?_));obtain rfl:=Nz h;exact KP (T.ret (KT (KY [0] Tryz.results155 (KQ Z))))
 refine Lg Z c3 (K8 (T.seq (KN Z (KM aQ 1 Z (KO Z (K4 Z OH) Z (KX aQ Z (T.block ?_)))))));obtain⟨E6,hE7,hO8⟩:=Ny h;have hk12len:=LG hX;refine LB (fun m e Rs=> ∃ (y4:Int) (k5:Nat),k5+m=a0.length/\e = [(1,jI a1),(4,jI y4),(11,.slice A1 a0.length c2),(12,jI (a0.length:Int)),(13,jI (k5:Int))]/\Rs = [aL]/\fo a1 (a0.drop k5) y4=some E6) (a0.length) [0] ⟨0,0,by simp,Z,Z,by rw[List.drop_zero]; exact hE7⟩ QW QW ?_;clear hE7 h;rintro m9 _ _ ⟨y4,k5,hk12,rfl,rfl,h⟩
 cases m9 with
 | zero =>
  rw[List.drop_of_length_le QR,fo] at h;have hk12ge: ¬ ((k5:Int)<(a0.length:Int)):=by omega
  refine KN Z (KX aQ Z (T.seq (Li Z (NC hk12ge) ?_)));obtain rfl:=Nz h;replace h:=hO8;clear hO8;refine T.exit (K5 (K5 (Ly (X.seq (KN Z (KM aQ 1 Z ?_))))));obtain rfl:=Nz h;exact KP (T.ret (KY [0] Tryz.results155 (KQ Z)))
 | succ m9 =>
  obtain⟨x10,hxx10⟩: ∃ x,a0[k5]? = some x:=⟨_,List.getElem?_eq_getElem QR⟩;rw[bH hxx10,fo] at h;have hk12lt:(k5:Int)<(a0.length:Int):=by omega
  refine KN Z (KX aQ Z (T.seq (K1 Z (NB hk12lt) ?_)));obtain⟨gz13,oz13,rfl,z13cs,z13cl,z13cc,z13nf,z13r⟩:=Lm QS hX hxx10;obtain⟨z13S,z13r,z13rr⟩:=z13r;obtain⟨A14,c15,rfl,z13s0⟩:=z13r;have hX16:(RX.of (aq 2 bh) [.slice A14 x10.MN.length c15] x10.MN).reads w F:=⟨z13S,z13s0,z13rr⟩;refine K8 (T.seq (T.block (KN Z ?_)));refine KO Z (K6 (k:=k5) Z Z Z OH OJ (ND hxx10).1) Z ?_;refine KO Z (LM (us := [jI x10.MO,jI x10.MR,.bool x10.M7,.slice A14 x10.MN.length c15,jI x10.M0]) 0 Z PK OJ z13nf z13cc Z Z Z) Z (TL.alloc Z .u Tryz.zeroValue173 Z (fun b17=>(K3 0 Z (cs':= #[jI x10.MO,jI x10.MR,.bool x10.M7,.slice A14 x10.MN.length c15,jI x10.M0]) Z .u Z Z OJ Z Z Z Z Z (Ld Z (KO Z (K9 (us := [jI x10.MO,jI x10.MR,.bool x10.M7,.slice A14 x10.MN.length c15,jI x10.M0]) 0 Z PK OJ Z Z Z) Z ?_)))));obtain⟨x18,hx19,h⟩:=Ny h;refine KM aQ 1 Z (Lb Z .u (.fn Tryz.call193 Z) (pX x10 _ _ a1 _ hx19) (fun _ hs=>(K7 hs hX16)) Z (Le aQ Z Z (KM aQ 2 Z ?_)));rcases jF h with⟨c20,h⟩ | ⟨c20,h⟩
  ·exact Lr Z c20 (T.skip (La (X.seq (T.region Z (KO Z (Ex.add Z Z QR) Z (KM aQ 1 Z (TL.nil (X.back (m':=m9) [1] QR ⟨y4,k5+1,by omega,Z,Z,h⟩ QW QW))))))))
  refine Lq Z c20 (KN Z (KM aQ 2 Z ?_));obtain rfl:=Nz h;obtain rfl:=Nz hO8;exact KP (T.ret (K2 (KT (KT (K2 (KT (KY [1] Tryz.results155 (KQ Z))))))))
def iu (a2:Int):List aR->(List UInt8×Int)->Option (List UInt8×Int)
 | [],st9=>some st9
 | x14::xs,st9=>(ed st9 x14.MO 8).bind fun st22=>(ed st22 x14.MR 2).bind fun st24=>(ly st24 x14.M7).bind fun st26=>(iM st26 x14.MN).bind fun st28=>(if a2>0 then ((ed st28 x14.M0 4).bind fun st36=>some st36) else some st28).bind fun st33=>iu a2 xs st33
def pt (st:List UInt8×Int) (a1:List aR) (a2:Int):Option (List UInt8×Int):=(jp a1 a2).bind fun x3=>if x3=0 then ((ed st (a1.length:Int) 4).bind fun st6=>(iu a2 a1 st6).bind fun st39=>some st39) else ((l7 st x3).bind fun st40=>some st40)
theorem tz (g:Nat) (st:List UInt8×Int) (a1:List aR) (A1:Option Addr) (c2:Nat) (a2:Int) (r:List UInt8×Int) (h:pt st a1 a2=some r):aG Tryz.prog 99 #[jP g,.slice A1 a1.length c2,jI a2] (RX.of (aq 5 bf) [.slice A1 a1.length c2] a1) (bC g st) (fun v A' N=>v= .tuple #[]/\A'=bC g r/\N = []):=by
 refine aU Tryz.func99 Z Tryz.ntmps99 Z ?_;intro F w hX;unfold pt at h;refine T.seq (KN Z ?_);obtain⟨x3,hx4,h⟩:=Ny h;refine KM aQ 2 Z (Lb Z .u (.fn Tryz.call155 Z) (nY a1 _ _ a2 _ hx4) (fun _ hs=>(K7 hs hX)) Z (Le aQ Z Z (KM aQ 2 Z ?_)));rcases jF h with⟨c5,h⟩ | ⟨c5,h⟩
 ·refine Lr Z c5 (Lk Z (KM aQ 2 Z (KO Z (K4 Z OH) Z ?_)));obtain⟨st6,hx7,h⟩:=Ny h;refine KZ 0 Z Z .u (.fn Tryz.call51 Z) (bu g st (a1.length:Int) 4 _ hx7) sT Z Z (Ld Z (KM aQ 1 Z (KO Z (K4 Z OH) Z (KX aQ Z (T.block ?_)))));obtain⟨E10,hE11,hO12⟩:=Ny h;have hk16len:=LG hX;refine LB (fun m e Rs=> ∃ (k8:Nat) (st9:List UInt8×Int),k8+m=a1.length/\e = [(0,jP g),(2,jI a2),(21,.slice A1 a1.length c2),(22,jI (a1.length:Int)),(23,jI (k8:Int))]/\Rs = [bC g st9]/\iu a2 (a1.drop k8) st9=some E10) (a1.length) [0] ⟨0,st6,by simp,Z,Z,by rw[List.drop_zero]; exact hE11⟩ QW QW ?_;clear hE11 h;rintro m13 _ _ ⟨k8,st9,hk16,rfl,rfl,h⟩
  cases m13 with
  | zero =>
   rw[List.drop_of_length_le QR,iu] at h;have hk16ge: ¬ ((k8:Int)<(a1.length:Int)):=by omega
   refine KN Z (KX aQ Z (T.seq (Li Z (NC hk16ge) ?_)));obtain rfl:=Nz h;obtain rfl:=Nz hO12;exact T.exit (K5 (K5 (Ly (LQ [0] Tryz.results99 ⟨Z,Z,Z⟩ QW (.inr Z)))))
  | succ m13 =>
   obtain⟨x14,hxx14⟩: ∃ x,a1[k8]? = some x:=⟨_,List.getElem?_eq_getElem QR⟩;rw[bH hxx14,iu] at h;have hk16lt:(k8:Int)<(a1.length:Int):=by omega
   refine KN Z (KX aQ Z (T.seq (K1 Z (NB hk16lt) ?_)));obtain⟨gz17,oz17,rfl,z17cs,z17cl,z17cc,z17nf,z17r⟩:=Lm QS hX hxx14;obtain⟨z17S,z17r,z17rr⟩:=z17r;obtain⟨A18,c19,rfl,z17s0⟩:=z17r;have hX20:(RX.of (aq 2 bh) [.slice A18 x14.MN.length c19] x14.MN).reads w F:=⟨z17S,z17s0,z17rr⟩;refine K8 (T.seq (T.block (KN Z ?_)));refine KO Z (K6 (k:=k8) Z Z Z OH OJ (ND hxx14).1) Z ?_;refine KO Z (LM (us := [jI x14.MO,jI x14.MR,.bool x14.M7,.slice A18 x14.MN.length c19,jI x14.M0]) 0 Z PK OJ z17nf z17cc Z Z Z) Z (TL.alloc Z .u Tryz.zeroValue173 Z (fun b21=>(K3 0 Z (cs':= #[jI x14.MO,jI x14.MR,.bool x14.M7,.slice A18 x14.MN.length c19,jI x14.M0]) Z .u Z Z OJ Z Z Z Z Z (Ld Z ?_))));obtain⟨st22,hx23,h⟩:=Ny h;refine KR aQ fR 0 Z 3 Z Z (KZ 1 Z Z .u (.fn Tryz.call51 Z) (bu g st9 x14.MO 8 _ hx23) sT Z Z (Ld Z ?_));obtain⟨st24,hx25,h⟩:=Ny h;refine KR aQ fR 0 Z 3 Z Z (KZ 1 Z Z .u (.fn Tryz.call51 Z) (bu g st22 x14.MR 2 _ hx25) sT Z Z (Ld Z ?_));obtain⟨st26,hx27,h⟩:=Ny h;refine KR aQ fR 0 Z 3 Z Z (KZ 1 Z Z .u (.fn Tryz.call154 Z) (nl g st24 x14.M7 _ hx27) sT Z Z (Ld Z ?_));obtain⟨st28,hx29,h⟩:=Ny h;refine KR aQ fR 0 Z 3 Z Z (KZ 1 Z Z .u (.fn Tryz.call91 Z) (kz g st26 x14.MN _ _ _ hx29) (fun _ hs=>(Mk hs hX20)) Z Z (Ld Z (KX aQ Z ?_)));obtain⟨st33,h,hk34⟩:=Ny h;refine LE (fun e Rs=>e = [(0,jP g),(2,jI a2),(21,.slice (some ⟨gz17,oz17,none⟩) a1.length c2),(22,jI (a1.length:Int)),(23,jI (k8:Int))]/\Rs = [aV b21 173 #[jI x14.MO,jI x14.MR,.bool x14.M7,.slice A18 x14.MN.length c19,jI x14.M0],bC g st33]) ?_ ?_
   ·clear hk34;rcases jF h with⟨c35,h⟩ | ⟨c35,h⟩
    ·refine L2 Z c35 (T.region Z ?_);obtain⟨st36,hx37,h⟩:=Ny h;refine KR aQ fR 0 Z 3 Z Z (KZ 1 Z Z .u (.fn Tryz.call51 Z) (bu g st28 x14.M0 4 _ hx37) sT Z Z ?_);cases h;exact TL.nil (K0 [0,0])
    refine L3 Z c35 ?_;cases h;exact T.skip (K0 [0,0])
   rintro _ _ ⟨rfl,rfl⟩;clear h;have h:=hk34;clear hk34;exact La (X.seq (T.region Z (KO Z (Ex.add Z Z QR) Z (KM aQ 1 Z (TL.nil (X.back (m':=m13) [1] QR ⟨k8+1,st33,by omega,Z,Z,h⟩ QW QW))))))
 refine Lq Z c5 (KN Z ?_);obtain⟨st40,hx41,h⟩:=Ny h;refine KM aQ 2 Z (KZ 0 Z Z .u (.fn Tryz.call94 Z) (g6 g st x3 _ hx41) sT Z Z ?_);obtain rfl:=Nz h;exact KP (T.ret (KT (LQ [0] Tryz.results99 ⟨Z,Z,Z⟩ QW (.inl Z))))
def dt (a1:Int) (x1:Int):Nat->List aR->List aR->Nat->I->Option (Lp (List aR×I) (List aR×List aR×Nat×I))
 | 0,_,_,_,_=>none
 | m15+1,y4,y7,k10,st11=>if (k10:Int)<x1 then ((d9 st11 8).bind fun (x20,st21)=>(d9 st21 2).bind fun (x23,st24)=>(gy st24).bind fun (x26,st27)=>(dW st27).bind fun (x30,st33)=>(if a1>0 then ((d9 st33 4).bind fun (x43,st44)=>some (x43,st44)) else ((some (0,st33):Option (Int×I)))).bind fun (y39,st40)=>(iF st40).bind fun (x46,st47)=>if x46=0 then (if (y7.length+1)*56<=140737488355328 then (if -9223372036854775808<=((k10:Int)+1)/\((k10:Int)+1)<=9223372036854775807 then (dt a1 x1 m15 y4 (y7 ++ [(⟨x20,x23,x26,x30,y39⟩:aR)]) (k10+1) st47) else none) else none) else (some (Lp.ret ([],st47)))) else (some (Lp.go (y4,y7,k10,st11)))
def gk (st:I) (a1:Int):Option (List aR×I):=(jB st 4 15).bind fun (x1,st2)=>(dt a1 x1 ((x1).toNat+1) [] [] 0 st2).bind fun e=>match e with | .ret r=>some r | .go (y64,y67,k70,st71)=>((iF st71).bind fun (x72,st73)=>if x72=0 then ((jp y67 a1).bind fun x76=>if x76=0 then some (y67,st73) else ((ck st73 x76).bind fun st79=>some ([],st79))) else some ([],st73))
theorem vk (g:Nat) (st:I) (a1:Int) (r:List aR×I) (h:gk st a1=some r):aG Tryz.prog 119 #[jP g,jI a1] .triv (InR g st) (fun v A' N=> ∃ (A81:Option Addr) (c82:Nat),v= .slice A81 r.1.length c82/\A'=InR g r.2/\N = [RdR (aq 5 bf) [.slice A81 r.1.length c82] r.1]):=by
 refine aU Tryz.func119 Z Tryz.ntmps119 Z ?_;intro F w hX;unfold gk at h;refine KN Z (Le aQ Z Z (KX aQ Z (T.seq (KN Z ?_))));obtain⟨⟨x1,st2⟩,hx3,h⟩:=Ny h;refine KM aQ 1 Z (KZ 0 Z Z .u (.fn Tryz.call144 Z) (lE g st 4 15 _ hx3) sT Z Z (KX aQ Z (T.block ?_)));iterate 2 refine LY 173 5 bf ?_
 obtain⟨E12,hE13,hO14⟩:=Ny h;refine LB (fun m e Rs=> ∃ (y4:List aR) (A5:Option Addr) (c6:Nat) (y7:List aR) (A8:Option Addr) (c9:Nat) (k10:Nat) (st11:I),e = [(0,jP g),(1,jI a1),(4,.slice A5 y4.length c6),(5,.slice A8 y7.length c9),(9,jI x1),(10,jI (k10:Int))]/\Rs = [bG 173 5 bf (.slice A5 y4.length c6) y4,bG 173 5 bf (.slice A8 y7.length c9) y7,InR g st11]/\dt a1 x1 m y4 y7 k10 st11=some E12) ((x1).toNat+1) [0,0,0] ⟨[],none,0,[],none,0,0,st2,Z,Z,by exact hE13⟩ QW QW ?_;clear hE13 h;rintro m15 _ _ ⟨y4,A5,c6,y7,A8,c9,k10,st11,rfl,rfl,h⟩
 cases m15 with
 | zero =>
  rw[dt] at h;cases h
 | succ m15 =>
  rw[dt] at h;refine KN Z (KM aQ 1 Z ?_);rcases jF h with⟨c19,h⟩ | ⟨c19,h⟩
  ·refine KP (T.seq (L2 Z c19 (K8 (T.seq (T.block (KN Z ?_))))));obtain⟨⟨x20,st21⟩,hx22,h⟩:=Ny h;refine KM aQ 1 Z (KZ 2 Z Z .u (.fn Tryz.call68 Z) (bz g st11 8 _ hx22) sT Z Z ?_);obtain⟨⟨x23,st24⟩,hx25,h⟩:=Ny h;refine KM aQ 1 Z (KZ 2 Z Z .u (.fn Tryz.call68 Z) (bz g st21 2 _ hx25) sT Z Z ?_);obtain⟨⟨x26,st27⟩,hx28,h⟩:=Ny h;refine KM aQ 1 Z (KZ 2 Z Z .u (.fn Tryz.call171 Z) (pO g st24 _ hx28) sT Z Z ?_);refine KO Z (Lo (cells:= #[jI x20,jI x23,.bool x26,.slice none 0 0,jI 0]) AZ Z QU) Z ?_;refine TL.alloc Z .u Tryz.zeroValue173 Z (fun b29=>(K3 0 Z (cs':= #[jI x20,jI x23,.bool x26,.slice none 0 0,jI 0]) Z .u Z Z OJ Z Z Z Z Z (Ld Z ?_)));obtain⟨⟨x30,st33⟩,hx34,h⟩:=Ny h;refine KM aQ 1 Z (TL.cg3 Z .u (.fn Tryz.call89 Z) (ms g st27 _ hx34) sT Z ?_);rintro _ _ _ ⟨A31,c32,rfl,rfl,rfl⟩;refine Lt [0,0,0,0,0] Z (KM aQ 1 Z (K3 1 Z (cs':= #[jI x20,jI x23,.bool x26,.slice A31 x30.length c32,jI 0]) Z .u Z Z Py Z Z Z Z Z (KP (T.seq (KN Z (KX aQ Z ?_))))));obtain⟨⟨y39,st40⟩,h,hk41⟩:=Ny h;refine LE (fun e Rs=>e = [(0,jP g),(1,jI a1),(4,.slice A5 y4.length c6),(5,.slice A8 y7.length c9),(6,jP b29),(9,jI x1),(10,jI (k10:Int))]/\Rs = [RdR (aq 2 bh) [.slice A31 x30.length c32] x30,aV b29 173 #[jI x20,jI x23,.bool x26,.slice A31 x30.length c32,jI y39],bG 173 5 bf (.slice A5 y4.length c6) y4,bG 173 5 bf (.slice A8 y7.length c9) y7,InR g st40]) ?_ ?_
   ·clear hk41;rcases jF h with⟨c42,h⟩ | ⟨c42,h⟩
    ·refine L2 Z c42 (T.region Z ?_);obtain⟨⟨x43,st44⟩,hx45,h⟩:=Ny h;refine KM aQ 1 Z (KZ 4 Z Z .u (.fn Tryz.call68 Z) (bz g st33 4 _ hx45) sT Z Z (KM aQ 1 Z (K3 1 Z (cs':= #[jI x20,jI x23,.bool x26,.slice A31 x30.length c32,jI x43]) Z .u Z Z NG Z Z Z Z Z ?_)));cases h;exact TL.nil (K0 [0,0,0,0,0])
    refine L3 Z c42 ?_;cases h;exact T.skip (K0 [0,0,0,0,0])
   rintro _ _ ⟨rfl,rfl⟩;clear h;have h:=hk41;clear hk41;refine X.seq (T.seq (KN Z ?_));obtain⟨⟨x46,st47⟩,hx48,h⟩:=Ny h;refine KM aQ 1 Z (KZ 4 Z Z .u (.fn Tryz.call23 Z) (cy g st40 _ hx48) sT Z Z (KM aQ 1 Z ?_));rcases jF h with⟨c49,h⟩ | ⟨c49,h⟩
   ·refine Lr Z c49 (K8 (T.region Z (KM aQ 1 Z (KO Z (K9 (us := [jI x20,jI x23,.bool x26,.slice A31 x30.length c32,jI y39]) 1 Z PK OJ Z Z Z) Z ?_))));refine L4 (cells:= #[jI x20,jI x23,.bool x26,.slice A31 x30.length c32,jI y39]) Z .u zg Z QU Z (fun b50=> ?_);obtain⟨c51,h⟩:=al h;refine Mw 3 0 Z .u (us := [jI x20,jI x23,.bool x26,.slice A31 x30.length c32,jI y39]) (u:=(⟨x20,x23,x26,x30,y39⟩:aR)) (l:=y7) (E:=bf) Tryz.underlying33 Ba Z QS Z Z Z Z Z Z Z (fun w G hG=>⟨_,_,Z,hG.1⟩) (by have hq:=c51; omega) (by have hq:=c51; omega) Z (fun A52 c53=> ?_);refine Lt [0,0,0,0] Z (KM aQ 1 Z ?_);obtain⟨c54,h⟩:=al h;exact TL.nil (La (X.seq (T.region Z (KO Z (Ex.add Z Z c54) Z (KM aQ 1 Z (TL.nil (X.back (m':=m15) [2,0,1] QR ⟨y4,A5,c6,(y7 ++ [(⟨x20,x23,x26,x30,y39⟩:aR)]),A52,c53,k10+1,st47,Z,Z,h⟩ QW QW)))))))
   refine Lq Z c49 (KN Z (KM aQ 1 Z ?_));obtain rfl:=Nz h;obtain rfl:=Nz hO14;exact KP (T.ret (KT (K2 (KT (KT (K2 (KT (Lj 5 bf (Ll [5,0] QF (KQ Z) ⟨_,_,Z,Z,Z⟩ QW (.inl Z))))))))))
  refine KP (T.seq (L3 Z c19 ?_));obtain rfl:=Nz h;replace h:=hO14;clear hO14;refine T.exit (K5 (K5 (Ly (X.seq (T.seq (KN Z ?_))))));obtain⟨⟨x55,st56⟩,hx57,h⟩:=Ny h;refine KM aQ 1 Z (KZ 2 Z Z .u (.fn Tryz.call23 Z) (cy g st11 _ hx57) sT Z Z (KM aQ 1 Z ?_));rcases jF h with⟨c58,h⟩ | ⟨c58,h⟩
  ·refine Lr Z c58 (K8 (T.seq (KN Z ?_)));obtain⟨x59,hx60,h⟩:=Ny h;refine KM aQ 2 Z (Lb Z .u (.fn Tryz.call155 Z) (nY y7 _ _ a1 _ hx60) (fun _ hs=>(SrcE.res 1 hs Z (fun w G h=>bX QS w G h))) Z (Le aQ Z Z (KM aQ 2 Z ?_)));rcases jF h with⟨c61,h⟩ | ⟨c61,h⟩
   ·refine Lr Z c61 (Lk Z (KM aQ 2 Z ?_));obtain rfl:=Nz h;exact KP (T.ret (Ms QS 1 Z (LJ [0,0,0] Z (Ll [2,1] QF (KQ Z) ⟨_,_,Z,Z,Z⟩ QW (.inl Z)))))
   refine Lq Z c61 (KN Z ?_);obtain⟨st62,hx63,h⟩:=Ny h;refine KM aQ 2 Z (KZ 2 Z Z .u (.fn Tryz.call70 Z) (bK g st56 x59 _ hx63) sT Z Z (Ld Z (KM aQ 1 Z ?_)));obtain rfl:=Nz h;exact KP (T.ret (KT (Lj 5 bf (Ll [3,0] QF (KQ Z) ⟨_,_,Z,Z,Z⟩ QW (.inl Z)))))
  refine Lq Z c58 (KN Z (KM aQ 1 Z ?_));obtain rfl:=Nz h;exact KP (T.ret (KT (Lj 5 bf (Ll [3,0] QF (KQ Z) ⟨_,_,Z,Z,Z⟩ QW (.inl Z)))))
def fj (n:Int) (i:Nat):Bool:=decide (n / 2 ^ i % 2=1)
theorem Bb (n:Int) (m:Nat) (hm:m<9223372036854775808):bits .and .i64 n m=(((n % 18446744073709551616).toNat &&& m:Nat):Int):=by
 have e1:(BitVec.ofInt 64 n).toNat=(n % 18446744073709551616).toNat:=by simp[BitVec.toNat_ofInt]
 have e2:(BitVec.ofInt 64 (m:Int)).toNat=m:=by
  rw[BitVec.ofInt_natCast,BitVec.toNat_ofNat,Nat.mod_eq_of_lt QR]
 show IntKind.i64.wrap (((BitVec.ofInt 64 n) &&& (BitVec.ofInt 64 (m:Int))).toNat:Int)= _;rw[BitVec.toNat_and,e1,e2];have h:(n % 18446744073709551616).toNat &&& m<=m:=Nat.and_le_right;rw[IntKind.wrap_i64];omega
theorem J0 (n:Int) (i:Nat) (hi:i<64):(n % 18446744073709551616).toNat.testBit i=fj n i:=by
 have hs:(18446744073709551616:Int)=2 ^ i*2 ^ (64 - i):=by
  rw[<- Int.pow_add,show i+(64 - i)=64 by omega];rfl
 have h2:(2:Int) ^ (64 - i)=2*2 ^ (63 - i):=by
  rw[show 64 - i=1+(63 - i) by omega,Int.pow_add];rfl
 rw[Nat.testBit_eq_decide_div_mod_eq,fj];have hp:(0:Int)<2 ^ i:=Int.pow_pos QS;have h4:n % 18446744073709551616 / 2 ^ i=n / 2 ^ i % 2 ^ (64 - i):=by
  have e:n % 18446744073709551616=n - 2 ^ i*(2 ^ (64 - i)*(n / 18446744073709551616)):=by
   have:=Int.emod_def n 18446744073709551616;rw[this,hs,Int.mul_assoc]
  rw[e,Int.sub_mul_ediv_left _ _ QR,Int.emod_def,Int.ediv_ediv_of_nonneg (Int.le_of_lt hp),<- hs]
 have h5:n / 2 ^ i % 2 ^ (64 - i) % 2=n / 2 ^ i % 2:=by
  rw[h2];exact Int.emod_emod_of_dvd _ ⟨_,rfl⟩
 have h6:(((n % 18446744073709551616).toNat / 2 ^ i % 2:Nat):Int)=n / 2 ^ i % 2:=by
  have e:((n % 18446744073709551616).toNat:Int)=n % 18446744073709551616:=by omega
  rw[Int.natCast_emod,Int.natCast_ediv,e,Int.natCast_pow];show n % 18446744073709551616 / 2 ^ i % 2= _;rw[h4,h5]
 congr 1;apply propext;omega
theorem Bc (n:Int) (i:Nat) (hi:i<63):(bits .and .i64 n ((2 ^ i:Nat):Int) != 0)=fj n i:=by
 have hm:2 ^ i<9223372036854775808:=Nat.lt_of_lt_of_eq (Nat.pow_lt_pow_right QS hi) (show 2 ^ 63=9223372036854775808 by decide);rw[Bb n _ hm,<- J0 n i QR];generalize (n % 18446744073709551616).toNat=a
 cases h:a.testBit i with
 | true =>
  have:(a &&& 2 ^ i)≠0:=by
   intro h0;have:=congrArg (fun x=>Nat.testBit x i) h0;simp[h,Nat.testBit_two_pow_self] at this
  simp; omega
 | false =>
  have:(a &&& 2 ^ i)=0:=by
   apply Nat.eq_of_testBit_eq;intro j;rw[Nat.testBit_and,Nat.testBit_two_pow];by_cases hj:i=j
   ·subst hj; simp[h]
   ·simp[hj]
  simp[this]
theorem Gh (n:Int):(bits .and .i64 n 7 != 0)=decide (n % 8≠0):=by
 have h:=Bb n 7 QS;rw[show ((7:Nat):Int)=7 from rfl] at h;rw[h,Nat.and_two_pow_sub_one_eq_mod _ 3];rw[Bool.eq_iff_iff];simp;omega
theorem Gi (n:Int) (h8:n % 8=0) (h0: -9223372036854775808<=n) (h1:n<=9223372036854775807):(bits .andNot .i64 n 56 != 0)=decide (n<0\/63<n):=by
 have e1:(BitVec.ofInt 64 n).toNat=(n % 18446744073709551616).toNat:=by simp[BitVec.toNat_ofInt]
 have e2:(~~~ BitVec.ofInt 64 (56:Int)).toNat=18446744073709551559:=by decide
 have e3:bits .andNot .i64 n 56=IntKind.i64.wrap (((BitVec.ofInt 64 n) &&& ~~~ (BitVec.ofInt 64 (56:Int))).toNat:Int):=rfl;rw[e3,BitVec.toNat_and,e1,e2];have ha:(n % 18446744073709551616).toNat % 8=0:=by omega
 have hb:(n % 18446744073709551616).toNat<64 ↔ ¬ (n<0\/63<n):=by omega
 have hc:(n % 18446744073709551616).toNat<18446744073709551616:=by omega
 generalize (n % 18446744073709551616).toNat=a at *;have hw: ∀ x:Nat,x<18446744073709551616->((IntKind.i64.wrap (x:Int) != 0)=decide (x≠0)):=by
  intro x hx;rw[IntKind.wrap_i64,Bool.eq_iff_iff];simp;omega
 rw[hw _ (Nat.lt_of_le_of_lt Nat.and_le_left hc)];by_cases h:a<64
 ·have:a=0\/a=8\/a=16\/a=24\/a=32\/a=40\/a=48\/a=56:=by omega
  have hz:a &&& 18446744073709551559=0:=by rcases this with rfl | rfl | rfl | rfl | rfl | rfl | rfl | rfl <;> decide
  simp[hz,hb.1 h]
 ·have hz:a &&& 18446744073709551559≠0:=by
   intro h0;have h2:=congrArg (fun x=>x >>> 6) h0;simp only[Nat.shiftRight_and_distrib] at h2;rw[show 18446744073709551559 >>> 6=2 ^ 58 - 1 from rfl,Nat.and_two_pow_sub_one_eq_mod,Nat.shiftRight_eq_div_pow] at h2;simp at h2;omega
  have:n<0\/63<n:=by
   rcases Classical.em (n<0\/63<n) with h2 | h2
   ·exact h2
   ·exact absurd (hb.2 h2) h
  simp[hz,this]
theorem and_8 (n:Int):(bits .and .i64 n 8 != 0)=fj n 3:=Bc n 3 QS
theorem HX (n:Int):(bits .and .i64 n 16 != 0)=fj n 4:=Bc n 4 QS
theorem HY (n:Int):(bits .and .i64 n 32 != 0)=fj n 5:=Bc n 5 QS
theorem HZ {a b:Int} {c:Bool} (h:(a != b)=c):(a == b)= !c:=by rw[<- h,bne,Bool.not_not]
theorem Gj (n:Int) (w:World) :
 Calls Tryz.prog 186 #[.int .i64 n] w fun e w'=>e= .returned (.tuple #[.bool (fj n 3),.bool (fj n 4),.bool (fj n 5)])/\w=w':=by
 have H1:=Lib.hid (and_8 n);have H2:=Lib.hid (HX n);have H3:=Lib.hid (HY n);go_enter Tryz.func186,Tryz.ntmps186
 go_wp2
 go_ret3
 exact⟨congrArg Ending.returned (show (Value.tuple #[.bool (bits .and .i64 n 8 != 0),.bool (bits .and .i64 n 16 != 0),.bool (bits .and .i64 n 32 != 0)])= _ by rw[H1.out,H2.out,H3.out]),rfl⟩
def fp (n:Int):Int:=if n % 8≠0 then 9 else if n<0\/63<n\/(fj n 5=true/\fj n 4=false) then 8 else 0
theorem DQ (n:Int) (h0: -9223372036854775808<=n) (h1:n<=9223372036854775807) (w:World) :
 Calls Tryz.prog 185 #[.int .i64 n] w fun e w'=>e= .returned (.int .i64 (fp n))/\w=w':=by
 have h7:=Gh n;by_cases h8:n % 8=0
 ·have ha:=Gi n h8 h0 h1;have h32:=HY n;have h16:=HZ (HX n);have H8:=Lib.hid h8;simp only[h8] at h7;by_cases hr:n<0\/63<n
  ·have HA:=Lib.hid (show fp n=8 by simp only[fp,h8]; rcases hr with h | h <;> simp[h]);simp only[hr] at ha;clear hr h8 h32 h16;go_enter QG,Qt
   go_wp2
   go_ret
   exact⟨ko (by rw[HA.out]),rfl⟩
  ·simp only[hr] at ha;have HR:=Lib.hid hr;clear hr h8
   cases b5:fj n 5 with
   | true =>
    cases b4:fj n 4 with
    | true =>
     have HA:=Lib.hid (show fp n=0 by have:=HR.out; simp[fp,H8.out,b5,b4]; omega);rw[b5] at h32;rw[b4] at h16;clear b5 b4;go_enter QG,Qt
     go_wp2
     go_ret
     exact⟨ko (by rw[HA.out]),rfl⟩
    | false =>
     have HA:=Lib.hid (show fp n=8 by simp[fp,H8.out,b5,b4]);rw[b5] at h32;rw[b4] at h16;clear b5 b4;go_enter QG,Qt
     go_wp2
     go_ret
     exact⟨ko (by rw[HA.out]),rfl⟩
   | false =>
    have HA:=Lib.hid (show fp n=0 by have:=HR.out; simp[fp,H8.out,b5]; omega);rw[b5] at h32;clear b5 h16;go_enter QG,Qt
    go_wp2
    go_ret
    exact⟨ko (by rw[HA.out]),rfl⟩
 ·have HA:=Lib.hid (show fp n=9 by simp[fp,h8]);simp only[ne_eq,h8] at h7;clear h8;go_enter QG,Qt
  go_wp2
  go_ret
  exact⟨ko (by rw[HA.out]),rfl⟩
def jC (a t c:Bool):Int:=(if a then 8 else 0)+(if t then 16 else 0)+(if c then 32 else 0)
theorem Ce {w W:World} (h:Below w.heap.size w W) (o:Obj):Below w.heap.size w (W.alloc o):=h.alloc h.size o
theorem Of_any (i0 i1 i5 i6 i7 i8 i9 i10:Int) (a t c:Bool) (A:Option Addr) (n k:Nat) (w:World) :
 Calls Tryz.prog 82 #[.agg #[.int .i64 i0,.int .i64 i1,.bool a,.bool t,.bool c,.int .i64 i5,.int .i64 i6,.int .i64 i7,.int .i64 i8,.int .i64 i9,.int .i64 i10,.slice A n k]] w fun e w' =>
  e= .returned (.int .i64 (jC a t c))/\Below w.heap.size w w':=by
 have ix: ∀ (x0 x1 x2 x3 x4 x5: Value),(∀ w:World,(Instr.index 231 (.agg #[x0,x1,x2,x3,x4,x5]) (.int .i64 0)).run Tryz.prog w= .ok (.agg #[x0,x1]) w)/\(∀ w:World,(Instr.index 231 (.agg #[x0,x1,x2,x3,x4,x5]) (.int .i64 1)).run Tryz.prog w= .ok (.agg #[x2,x3]) w)/\(∀ w:World,(Instr.index 231 (.agg #[x0,x1,x2,x3,x4,x5]) (.int .i64 2)).run Tryz.prog w= .ok (.agg #[x4,x5]) w):=fun _ _ _ _ _ _=>⟨fun _=>by kernel_rfl,fun _=>by kernel_rfl,fun _=>by kernel_rfl⟩;cases a <;> cases t <;> cases c <;>
 ·go_enter Tryz.func82,Tryz.ntmps82
  go_wp2_with fail
  refine wp_loop_rounds 4 ?_;rw[rounds_succ];go_wp2_with fail
  rw[rounds_succ];go_wp2_with fail
  rw[rounds_succ];go_wp2_with fail
  rw[rounds_succ];go_wp2_with fail
  go_ret
  exact⟨rfl,by repeat (first | exact Below.refl _ _ | refine Ce ?_ _)⟩
theorem J1 (i0 i1 i5 i6 i7 i8 i9 i10:Int) (a t c:Bool) (A:Option Addr) (n k:Nat) :
 j7 Tryz.prog 82 #[.agg #[.int .i64 i0,.int .i64 i1,.bool a,.bool t,.bool c,.int .i64 i5,.int .i64 i6,.int .i64 i7,.int .i64 i8,.int .i64 i9,.int .i64 i10,.slice A n k]] (fun v N=>v= .int .i64 (jC a t c)/\N = []):=by
 intro w;refine (Of_any i0 i1 i5 i6 i7 i8 i9 i10 a t c A n k w).mono ?_;rintro e w' ⟨rfl,hb⟩;exact⟨_,_,rfl,⟨rfl,rfl⟩,Mm hb,trivial⟩
def DR (n:Int):Option (Bool×Bool×Bool):=some (fj n 3,fj n 4,fj n 5)
theorem Gk (n:Int):DR n=some (fj n 3,fj n 4,fj n 5):=rfl
theorem Cf (n:Int) (r:Bool×Bool×Bool) (h:DR n=some r) (w:World):Calls Tryz.prog 186 #[.int .i64 n] w fun e w'=>e= .returned (.tuple #[.bool r.1,.bool r.2.1,.bool r.2.2])/\w=w':=by
 obtain rfl:=Nz h;exact Gj n w
def Bd (n:Int):Option Int:=if -9223372036854775808<=n/\n<=9223372036854775807 then some (fp n) else none
theorem DS (n:Int) (h: -9223372036854775808<=n/\n<=9223372036854775807):Bd n=some (fp n):=QX h
theorem Be (n:Int) (r:Int) (h:Bd n=some r) (w:World):Calls Tryz.prog 185 #[.int .i64 n] w fun e w'=>e= .returned (.int .i64 r)/\w=w':=by
 obtain⟨h1,h⟩:=al h;obtain rfl:=Nz h;exact DQ n h1.1 h1.2 w
def gAOf (b:Bat):Option Int:=some (jC b.Nq b.Ni b.Nl)
theorem zJ (b:Bat) (A:Option Addr) (c:Nat) (r:Int) (h:gAOf b=some r):aG Tryz.prog 82 #[.agg #[.int .i64 b.Ng,.int .i64 b.M9,.bool b.Nq,.bool b.Ni,.bool b.Nl,.int .i64 b.Nf,.int .i64 b.M4,.int .i64 b.Nn,.int .i64 b.MO,.int .i64 b.MR,.int .i64 b.M5,.slice A b.MS.length c]]
 (RX.of (aq 7 cZ) [.slice A b.MS.length c] b.MS) aL (fun u A' N=>u= .int .i64 r/\A'=aL/\N = []):=by
 obtain rfl:=Nz h;exact LT (J1 _ _ _ _ _ _ _ _ _ _ _ _ _ _)
end Go.Proofs.YtheikonlgjdopaaGreat.Sl
