/- frameEncodes_holds: part 5. -/
import Derived.Test.YtheikonlgjdopaaGreatK4
set_option maxRecDepth 100000
set_option maxHeartbeats 4000000
set_option linter.defProp false
namespace Go.Proofs.YtheikonlgjdopaaGreat.Sl
open Go.RowKit
set_option linter.unusedVariables false
set_option linter.unusedSimpArgs false
def Oe := @Tryz.results90
def Oy := @Tryz.runUnderlying32
def OC := @Tryz.sizeOf32
def OG := @Tryz.runUnderlying30
def OM := @Tryz.runUnderlying27
def OR := @Tryz.sizeOf27
def OU := @Tryz.runUnderlying103
def OY := @Tryz.runUnderlying53
def O1 := @Tryz.sizeOf30
def O6 := @Tryz.isAgg32
def Pg := @Tryz.runUnderlying78
def Pi := @Tryz.results168
def Pu := @Tryz.eqGuardType45
def PE := @Tryz.isAgg27
def P0 := @Tryz.sizeOf45
def Qd := @Tryz.isAgg30
def Qk := @Tryz.ntmps185
def Qt := @Tryz.isAgg45
def Qu := @Tryz.results189
def Qv := @Tryz.results146
def Qw := @Tryz.results119
def Qx := @Tryz.func185
def QD := @Tryz.results13
def uR:fg := [(45,0,0),(45,1,1),(53,0,0),(53,1,5),(53,2,12),(53,3,13)]
theorem aC:(uR).OK Tryz.prog:=⟨FOK.mk Po rfl Ny rfl,FOK.mk Po rfl Ny rfl,FOK.mk OY rfl P0 rfl,FOK.mk OY rfl O0 rfl,FOK.mk OY rfl Tryz.sizeOf48 rfl,FOK.mk OY rfl Pb rfl,trivial⟩
def uS:List Nat := [3,48]
theorem cK:NOK Tryz.prog uS:=⟨Nz,Tryz.isAgg48,trivial⟩
theorem dP:fu Tryz.prog 3 45 [.int .i64,.int .i64,.int .i64,.bool,.string] true:=(fu.struct Qt P0 rfl Tryz.underlying45 Tryz.stoodInHeld45 ⟨by decide,rfl,[.int .i64],[.int .i64,.int .i64,.bool,.string],false,rfl,((LK Nz Ny Tryz.underlying3).mono QH),⟨by decide,rfl,[.int .i64],[.int .i64,.bool,.string],false,rfl,((LK Nz Ny Tryz.underlying3).mono QH),⟨by decide,rfl,[.int .i64],[.bool,.string],false,rfl,((LK Nz Ny Tryz.underlying3).mono QH),⟨by decide,rfl,[.bool,.string],[],true,rfl,(fu.struct N0 ND rfl Tryz.underlying23 Tryz.stoodInHeld23 ⟨by decide,rfl,[.bool],[.string],false,rfl,(LK Ok N5 Tryz.underlying4),⟨by decide,rfl,[.string],[],false,rfl,(LK N4 NZ Tryz.underlying9),rfl⟩⟩),rfl⟩⟩⟩⟩)
def lZ (a0:eJ):Option (Int):=(lX a0.MI).bind fun x8=>if x8=0 then (if a0.MI.MS=0 then ((kp a0.MN a0.MI.MR).bind fun x12=>some x12) else (if a0.MI.MS=27 then ((kt a0.M0 a0.MI.MR).bind fun x15=>some x15) else ((kr a0.MI.MS a0.MI.MR a0.Nd).bind fun x17=>some x17))) else some x8
theorem uT (a0:eJ) (A1:Option Addr) (c2:Nat) (A3:Option Addr) (c4:Nat) (A5:Option Addr) (c6:Nat) (r:Int) (h:lZ a0=some r):aH Tryz.prog 13 #[.agg (AC a0 A1 A3 A5 c2 c4 c6)] (RX.and (RX.of (aq 2 bc) [.slice A1 a0.Nd.MF.length c2] a0.Nd.MF) (RX.and (RX.of (aq 5 cZ) [.slice A3 a0.M0.length c4] a0.M0) (RX.of (aq 2 ca) [.slice A5 a0.MN.MF.length c6] a0.MN.MF))) (aK) (fun v A' N=>v=jI r∧A'=aK∧N = []):=by
 refine aU Tryz.func13 Z Tryz.ntmps13 Z ?_
 intro F w hX
 unfold lZ at h
 refine KG Z (TL.box Z .u Z Z (fun b7=>(K8 aC Z Z (KF aC 1 Z (KH Z (KY (us := [jI a0.MI.MS,jI a0.MI.MR,jI a0.MI.MY,.bool a0.MI.MQ.null,jS a0.MI.MQ.data]) 0 Z Qt P0 Z Z Z) Z ?_)))))
 obtain⟨x8,hx9,h⟩:=Np h
 refine K2 Z .u (.fn Tryz.call53 Z) (uH a0.MI _ hx9) rT Z (KP aC Z (T.seq (KG Z (KF aC 2 Z ?_))))
 rcases jF h with⟨c10,h⟩ | ⟨c10,h⟩
 ·refine Lj Z c10 (K3 (T.seq (KG Z (LT aC cK 0 Z Z Z (T.block (KG Z (KF aC 2 Z ?_)))))))
  rcases jF h with⟨c11,h⟩ | ⟨c11,h⟩
  ·refine La Z c11 (KG Z (KF aC 1 Z (KH Z (KY (us := [.bool a0.MN.MM.null,jS a0.MN.MM.data,jI a0.MN.M5,jI a0.MN.ML,.slice A5 a0.MN.MF.length c6]) 0 Z Qc Pb Z Z Z) Z ?_)))
   obtain⟨x12,hx13,h⟩:=Np h
   refine KK aC cK 0 Z 3 Z Z (K2 Z .u (.fn Tryz.call54 Z) (uD a0.MN _ _ a0.MI.MR _ hx13) (fun _ hs=>(K0 hs (K6 (K6 hX)))) Z (KF aC 1 Z ?_))
   obtain rfl:=Nq h
   exact KI (T.ret (KU (KL (KQ [1] QD (KJ Z)))))
  refine K9 Z c11 (KG Z (KF aC 2 Z ?_))
  rcases jF h with⟨c14,h⟩ | ⟨c14,h⟩
  ·refine La Z c14 (KG Z ?_)
   obtain⟨x15,hx16,h⟩:=Np h
   refine KK aC cK 0 Z 5 Z Z (K2 Z .u (.fn Tryz.call55 Z) (uP a0.M0 _ _ a0.MI.MR _ hx16) (fun _ hs=>(K0 hs (Ll (K6 hX)))) Z (KF aC 1 Z ?_))
   obtain rfl:=Nq h
   exact KI (T.ret (KU (KL (KQ [1] QD (KJ Z)))))
  refine K9 Z c14 (T.skip (K4 (X.seq (KG Z (KK aC cK 0 Z 7 Z Z (KH Z (KY (us:=wL9 a0.Nd A1 c2) 0 Z PS O0 Z Z Z) Z ?_))))))
  obtain⟨x17,hx18,h⟩:=Np h
  refine K2 Z .u (.fn Tryz.call56 Z) (uL a0.MI.MS a0.MI.MR a0.Nd _ _ _ hx18) (fun _ hs=>(K0 hs (Ll hX))) Z (KF aC 1 Z ?_)
  obtain rfl:=Nq h
  exact KI (T.ret (KQ [1] QD (KJ Z)))
 refine Li Z c10 (KG Z (KF aC 2 Z ?_))
 obtain rfl:=Nq h
 exact KI (T.ret (KL (KQ [1] QD (KJ Z))))
def kH (a0:eJ):Option (List UInt8):=(lY a0.MI).bind fun x8=>(if a0.MI.MS=0 then ((jh a0.MN).bind fun x33=>if x8.length+x33.length≤9223372036854775807 then some (x8++x33) else none) else ((if a0.MI.MS=27 then ((jl a0.M0 a0.MI.MR).bind fun x46=>if x8.length+x46.length≤9223372036854775807 then some (x8++x46) else none) else ((jk a0.MI.MS a0.MI.MR a0.Nd).bind fun x49=>if x8.length+x49.length≤9223372036854775807 then some (x8++x49) else none)).bind fun y43=>some y43)).bind fun y30=>(cN (y30.length:Int) 4).bind fun x52=>if x52.length+y30.length≤9223372036854775807 then some (x52++y30) else none
theorem s8 (a0:eJ) (A1:Option Addr) (c2:Nat) (A3:Option Addr) (c4:Nat) (A5:Option Addr) (c6:Nat) (r:List UInt8) (h:kH a0=some r):aH Tryz.prog 16 #[.agg (AC a0 A1 A3 A5 c2 c4 c6)] (RX.and (RX.of (aq 2 bc) [.slice A1 a0.Nd.MF.length c2] a0.Nd.MF) (RX.and (RX.of (aq 5 cZ) [.slice A3 a0.M0.length c4] a0.M0) (RX.of (aq 2 ca) [.slice A5 a0.MN.MF.length c6] a0.MN.MF))) (aK) (fun v A' N=>v=jS r∧A'=aK∧N = []):=by
 refine aU Tryz.func16 Z Tryz.ntmps16 Z ?_
 intro F w hX
 unfold kH at h
 refine KG Z (TL.box Z .u Z Z (fun b7=>(K8 aC Z Z (KF aC 1 Z (KH Z (KY (us := [jI a0.MI.MS,jI a0.MI.MR,jI a0.MI.MY,.bool a0.MI.MQ.null,jS a0.MI.MQ.data]) 0 Z Qt P0 Z Z Z) Z ?_)))))
 obtain⟨x8,hx9,h⟩:=Np h
 refine K2 Z .u (.fn Tryz.call59 Z) (uI a0.MI _ hx9) rT Z (KP aC Z (T.seq (KG Z (LT aC cK 0 Z Z Z (T.block (KG Z (KP aC Z ?_)))))))
 obtain⟨y30,h,hk31⟩:=Np h
 refine Lz (fun e Rs=>e = [(2,.string ⟨#[]⟩),(3,jS y30)]∧Rs = [aW b7 53 (AC a0 A1 A3 A5 c2 c4 c6),aK]) ?_ ?_
 ·clear hk31
  rcases jF h with⟨c32,h⟩ | ⟨c32,h⟩
  ·refine LU Z c32 (T.region Z (KF aC 2 Z (KH Z (KY (us := [.bool a0.MN.MM.null,jS a0.MN.MM.data,jI a0.MN.M5,jI a0.MN.ML,.slice A5 a0.MN.MF.length c6]) 0 Z Qc Pb Z Z Z) Z ?_)))
   obtain⟨x33,hx34,h⟩:=Np h
   refine K2 Z .u (.fn Tryz.call60 Z) (uE a0.MN _ _ _ hx34) (fun _ hs=>(K0 hs (K6 (K6 hX)))) Z ?_
   obtain⟨c35,h⟩:=ao h
   refine KH Z (Lh Z Z c35) Z (KF aC 1 Z ?_)
   cases h
   exact TL.nil (KR [0,0])
  refine LX Z c32 (KG Z (KP aC Z ?_))
  obtain⟨y43,h,hk44⟩:=Np h
  refine Lz (fun e Rs=>e = [(2,.string ⟨#[]⟩),(3,jS y43)]∧Rs = [aW b7 53 (AC a0 A1 A3 A5 c2 c4 c6),aK]) ?_ ?_
  ·clear hk44
   rcases jF h with⟨c45,h⟩ | ⟨c45,h⟩
   ·refine LU Z c45 (T.region Z ?_)
    obtain⟨x46,hx47,h⟩:=Np h
    refine KK aC cK 0 Z 6 Z Z (K2 Z .u (.fn Tryz.call61 Z) (uQ a0.M0 _ _ a0.MI.MR _ hx47) (fun _ hs=>(K0 hs (Ll (K6 hX)))) Z ?_)
    obtain⟨c48,h⟩:=ao h
    refine KH Z (Lh Z Z c48) Z (KF aC 1 Z ?_)
    cases h
    exact TL.nil (KR [0,0])
   refine LX Z c45 (T.region Z (KK aC cK 0 Z 8 Z Z (KH Z (KY (us:=wL9 a0.Nd A1 c2) 0 Z PS O0 Z Z Z) Z ?_)))
   obtain⟨x49,hx50,h⟩:=Np h
   refine K2 Z .u (.fn Tryz.call62 Z) (uM a0.MI.MS a0.MI.MR a0.Nd _ _ _ hx50) (fun _ hs=>(K0 hs (Ll hX))) Z ?_
   obtain⟨c51,h⟩:=ao h
   refine KH Z (Lh Z Z c51) Z (KF aC 1 Z ?_)
   cases h
   exact TL.nil (KR [0,0])
  rintro _ _ ⟨rfl,rfl⟩
  clear h
  have h:=hk44
  clear hk44
  try dsimp only at h
  cases h
  exact KR [0,0]
 rintro _ _ ⟨rfl,rfl⟩
 clear h
 have h:=hk31
 clear hk31
 refine K4 (X.seq (KG Z (KF aC 1 Z (KH Z (Lx Z NE) Z ?_))))
 obtain⟨x52,hx53,h⟩:=Np h
 refine K2 Z .u (.fn Tryz.call63 Z) (bA (y30.length:Int) 4 _ hx53) rT Z ?_
 obtain⟨c54,h⟩:=ao h
 refine KF aC 1 Z (KH Z (Lh Z Z c54) Z (KF aC 1 Z ?_))
 obtain rfl:=Nq h
 exact KI (T.ret (KQ [1] Tryz.results16 (KJ Z)))
def nl (a0:eJ) (a1:eJ):Option (Bool):=(if a0.MI.MS=a1.MI.MS then (if a0.MI.MR=a1.MI.MR then (if a0.MI.MY=a1.MI.MY then (if a0.MI.MQ.null=a1.MI.MQ.null then (if a0.MI.MQ.data=a1.MI.MQ.data then ((lv a0.Nd a1.Nd).bind fun x35=>if x35=true then ((j9 a0.M0 a1.M0).bind fun x38=>if x38=true then ((et a0.MN a1.MN).bind fun x41=>some x41) else some false) else some false) else some false) else some false) else some false) else some false) else some false).bind fun y28=>some y28
theorem v9 (a0:eJ) (A1:Option Addr) (c2:Nat) (A3:Option Addr) (c4:Nat) (A5:Option Addr) (c6:Nat) (a1:eJ) (A7:Option Addr) (c8:Nat) (A9:Option Addr) (c10:Nat) (A11:Option Addr) (c12:Nat) (r:Bool) (h:nl a0 a1=some r):aH Tryz.prog 17 #[.agg (AC a0 A1 A3 A5 c2 c4 c6),.agg (AC a1 A7 A9 A11 c8 c10 c12)] (RX.and (RX.of (aq 2 bc) [.slice A1 a0.Nd.MF.length c2] a0.Nd.MF) (RX.and (RX.of (aq 5 cZ) [.slice A3 a0.M0.length c4] a0.M0) (RX.and (RX.of (aq 2 ca) [.slice A5 a0.MN.MF.length c6] a0.MN.MF) (RX.and (RX.of (aq 2 bc) [.slice A7 a1.Nd.MF.length c8] a1.Nd.MF) (RX.and (RX.of (aq 5 cZ) [.slice A9 a1.M0.length c10] a1.M0) (RX.of (aq 2 ca) [.slice A11 a1.MN.MF.length c12] a1.MN.MF)))))) (aK) (fun v A' N=>v= .bool r∧A'=aK∧N = []):=by
 refine aU Tryz.func17 Z Tryz.ntmps17 Z ?_
 intro F w hX
 unfold nl at h
 refine KG Z (TL.box Z .u Z Z (fun b13=>(TL.box Z .u Z Z (fun b14=>(KP aC Z (T.seq ?_))))))
 obtain⟨y28,h,hk29⟩:=Np h
 refine Lz (fun e Rs=>e = [(4,.bool y28)]∧Rs = [aW b14 53 (AC a1 A7 A9 A11 c8 c10 c12),aW b13 53 (AC a0 A1 A3 A5 c2 c4 c6),aK]) ?_ ?_
 ·clear hk29
  refine T.region Z (KF aC 1 Z (KH Z (KY (us := [jI a0.MI.MS,jI a0.MI.MR,jI a0.MI.MY,.bool a0.MI.MQ.null,jS a0.MI.MQ.data]) 1 Z Qt P0 Z Z Z) Z (KF aC 1 Z (KH Z (KY (us := [jI a1.MI.MS,jI a1.MI.MR,jI a1.MI.MY,.bool a1.MI.MQ.null,jS a1.MI.MQ.data]) 0 Z Qt P0 Z Z Z) Z ?_))))
  rcases jF h with⟨c30,h⟩ | ⟨c30,h⟩
  ·rcases jF h with⟨c31,h⟩ | ⟨c31,h⟩
   ·rcases jF h with⟨c32,h⟩ | ⟨c32,h⟩
    ·rcases jF h with⟨c33,h⟩ | ⟨c33,h⟩
     ·rcases jF h with⟨c34,h⟩ | ⟨c34,h⟩
      ·refine KH Z (LG (us := [jI a0.MI.MS,jI a0.MI.MR,jI a0.MI.MY,.bool a0.MI.MQ.null,jS a0.MI.MQ.data]) (vs := [jI a1.MI.MS,jI a1.MI.MR,jI a1.MI.MY,.bool a1.MI.MQ.null,jS a1.MI.MQ.data]) dP Z Pu Z Z Z Z (bE (eD c30) (bE (eD c31) (bE (eD c32) (bE (jX c33) (bE (gj (l:=a0.MI.MQ.data) (m:=a1.MI.MQ.data) c34) Z)))))) Z (KM aC 2 Z (TL.q Z (.g Z Z Z) (KY (us:=wL9 a0.Nd A1 c2) 1 Z PS O0 Z Z Z) Z (KM aC 1 Z (TL.q Z (.g Z Z Z) (KY (us:=wL9 a1.Nd A7 c8) 0 Z PS O0 Z Z Z) Z ?_))))
       obtain⟨x35,hx36,h⟩:=Np h
       refine K2 Z (.g Z Z Z) (.fn Tryz.call64 Z) (v7 a0.Nd _ _ a1.Nd _ _ _ hx36) (fun _ hs=>(RX.reads_and (K0 hs (Ll hX)) (K0 hs (Ll (K6 (K6 (K6 hX))))))) Z ?_
       rcases jF h with⟨c37,h⟩ | ⟨c37,h⟩
       ·refine KM aC 2 Z (KN 17 Z c37 (KK aC cK 1 Z 3 Z Z ?_))
        obtain⟨x38,hx39,h⟩:=Np h
        refine KK aC cK 0 Z 1 Z Z (K2 Z (.g Z Z Z) (.fn Tryz.call65 Z) (v8 a0.M0 _ _ a1.M0 _ _ _ hx39) (fun _ hs=>(RX.reads_and (K0 hs (Ll (K6 hX))) (K0 hs (Ll (K6 (K6 (K6 (K6 hX)))))))) Z ?_)
        rcases jF h with⟨c40,h⟩ | ⟨c40,h⟩
        ·refine KM aC 2 Z (KN 24 Z c40 (KM aC 1 Z (TL.q Z (.g Z Z Z) (KY (us := [.bool a0.MN.MM.null,jS a0.MN.MM.data,jI a0.MN.M5,jI a0.MN.ML,.slice A5 a0.MN.MF.length c6]) 1 Z Qc Pb Z Z Z) Z (KM aC 1 Z (TL.q Z (.g Z Z Z) (KY (us := [.bool a1.MN.MM.null,jS a1.MN.MM.data,jI a1.MN.M5,jI a1.MN.ML,.slice A11 a1.MN.MF.length c12]) 0 Z Qc Pb Z Z Z) Z ?_)))))
         obtain⟨x41,hx42,h⟩:=Np h
         refine K2 Z (.g Z Z Z) (.fn Tryz.call66 Z) (ge a0.MN _ _ a1.MN _ _ _ hx42) (fun _ hs=>(RX.reads_and (K0 hs (Ll (K6 (K6 hX)))) (K0 hs (K6 (K6 (K6 (K6 (K6 hX)))))))) Z (KM aC 2 Z ?_)
         cases h
         exact TL.nil (KR [0,0,0])
        replace c40:=Nx c40
        refine KM aC 2 Z (KN 24 Z c40 (KM aC 7 Z ?_))
        cases h
        exact TL.nil (KR [0,0,0])
       replace c37:=Nx c37
       refine KM aC 2 Z (KN 17 Z c37 (KM aC 14 Z ?_))
       cases h
       exact TL.nil (KR [0,0,0])
      refine KH Z (LG (us := [jI a0.MI.MS,jI a0.MI.MR,jI a0.MI.MY,.bool a0.MI.MQ.null,jS a0.MI.MQ.data]) (vs := [jI a1.MI.MS,jI a1.MI.MR,jI a1.MI.MY,.bool a1.MI.MQ.null,jS a1.MI.MQ.data]) dP Z Pu Z Z Z Z (bE (eD c30) (bE (eD c31) (bE (eD c32) (bE (jX c33) (eK (mj (l:=a0.MI.MQ.data) (m:=a1.MI.MQ.data) c34))))))) Z (KM aC 22 Z ?_)
      cases h
      exact TL.nil (KR [0,0,0])
     refine KH Z (LG (us := [jI a0.MI.MS,jI a0.MI.MR,jI a0.MI.MY,.bool a0.MI.MQ.null,jS a0.MI.MQ.data]) (vs := [jI a1.MI.MS,jI a1.MI.MR,jI a1.MI.MY,.bool a1.MI.MQ.null,jS a1.MI.MQ.data]) dP Z Pu Z Z Z Z (bE (eD c30) (bE (eD c31) (bE (eD c32) (eK (nb c33)))))) Z (KM aC 22 Z ?_)
     cases h
     exact TL.nil (KR [0,0,0])
    refine KH Z (LG (us := [jI a0.MI.MS,jI a0.MI.MR,jI a0.MI.MY,.bool a0.MI.MQ.null,jS a0.MI.MQ.data]) (vs := [jI a1.MI.MS,jI a1.MI.MR,jI a1.MI.MY,.bool a1.MI.MQ.null,jS a1.MI.MQ.data]) dP Z Pu Z Z Z Z (bE (eD c30) (bE (eD c31) (eK (kD c32))))) Z (KM aC 22 Z ?_)
    cases h
    exact TL.nil (KR [0,0,0])
   refine KH Z (LG (us := [jI a0.MI.MS,jI a0.MI.MR,jI a0.MI.MY,.bool a0.MI.MQ.null,jS a0.MI.MQ.data]) (vs := [jI a1.MI.MS,jI a1.MI.MR,jI a1.MI.MY,.bool a1.MI.MQ.null,jS a1.MI.MQ.data]) dP Z Pu Z Z Z Z (bE (eD c30) (eK (kD c31)))) Z (KM aC 22 Z ?_)
   cases h
   exact TL.nil (KR [0,0,0])
  refine KH Z (LG (us := [jI a0.MI.MS,jI a0.MI.MR,jI a0.MI.MY,.bool a0.MI.MQ.null,jS a0.MI.MQ.data]) (vs := [jI a1.MI.MS,jI a1.MI.MR,jI a1.MI.MY,.bool a1.MI.MQ.null,jS a1.MI.MQ.data]) dP Z Pu Z Z Z Z (eK (kD c30))) Z (KM aC 22 Z ?_)
  cases h
  exact TL.nil (KR [0,0,0])
 rintro _ _ ⟨rfl,rfl⟩
 clear h
 have h:=hk29
 clear hk29
 obtain rfl:=Nq h
 exact X.seq (T.ret (KQ [2] Tryz.results17 (KJ Z)))
def HU:fg := [(103,0,0),(103,1,1),(103,2,2),(103,3,3),(103,4,4),(103,5,5),(103,6,6),(171,0,0),(171,1,1)]
theorem am:(HU).OK Tryz.prog:=⟨FOK.mk OU rfl Ny rfl,FOK.mk OU rfl Ny rfl,FOK.mk OU rfl Ny rfl,FOK.mk OU rfl Ny rfl,FOK.mk OU rfl Pq rfl,FOK.mk OU rfl Ny rfl,FOK.mk OU rfl Ny rfl,FOK.mk OQ rfl NZ rfl,FOK.mk OQ rfl Pp rfl,trivial⟩
def HX:List Nat := [3,9,28,74]
theorem bM:NOK Tryz.prog HX:=⟨Nz,N4,OZ,OD,trivial⟩
theorem ra:Tryz.prog.follows .mixedOrders=true:=by kernel_rfl
theorem yR:BOK Tryz.prog 171 #[.string ⟨#[]⟩,.slice none 0 0] [(0,1),(1,1)]:=BOK.mk Tryz.zeroValue171 OQ (by intro w; simp)
theorem xg:SOK Tryz.prog 28 171 1 2 #[.string ⟨#[]⟩,.slice none 0 0]:=SOK.mk NH NV Tryz.zeroValue171 QH QI
theorem np:SOK Tryz.prog 74 3 1 1 #[.int .i64 0]:=SOK.mk NF Ny Tryz.zeroValue3 QH QI
theorem xh:SOK Tryz.prog 78 9 1 1 #[.string ⟨#[]⟩]:=SOK.mk Pg NZ Tryz.zeroValue9 QH QI
theorem qw:(Tryz.prog.info? 3).map (fun i=>(i.zero,i.size,i.bytes))=some (some (.int .i64 0),1,8):=by kernel_rfl
theorem B5:(Tryz.prog.info? 9).map (fun i=>(i.zero,i.size,i.bytes))=some (some (.string ⟨#[]⟩),1,16):=by kernel_rfl
theorem yS:(Tryz.prog.info? 171).map (fun i=>(i.zero,i.size,i.bytes))=some (some (.agg #[.string ⟨#[]⟩,.slice none 0 0]),2,40):=by kernel_rfl
def cT:List Int→(List UInt8×Int)→Option (List UInt8×Int)
 | [],st24=>some st24
 | x29::xs,st24=>(d8 st24 x29 4).bind fun st33=>cT xs st33
def cU:List Top→(List UInt8×Int)→Option (List UInt8×Int)
 | [],st6=>some st6
 | x11::xs,st6=>(kC st6 x11.MO).bind fun st19=>(d8 st19 (x11.MH.length:Int) 4).bind fun st21=>(cT x11.MH st21).bind fun st36=>cU xs st36
def fk (st:List UInt8×Int) (a1:List Top):Option (List UInt8×Int):=(d8 st (a1.length:Int) 4).bind fun st3=>(cU a1 st3).bind fun st38=>some st38
theorem kI (g:Nat) (st:List UInt8×Int) (a1:List Top) (A1:Option Addr) (c2:Nat) (r:List UInt8×Int) (h:fk st a1=some r):aH Tryz.prog 91 #[jP g,.slice A1 a1.length c2] (RX.of (aq 2 bc) [.slice A1 a1.length c2] a1) (bB g st) (fun v A' N=>v= .tuple #[]∧A'=bB g r∧N = []):=by
 refine aU Tryz.func91 Z Tryz.ntmps91 Z ?_
 intro F w hX
 unfold fk at h
 refine KG Z (KF am 2 Z (KH Z (KX Z NH) Z ?_))
 obtain⟨st3,hx4,h⟩:=Np h
 refine KT 0 Z Z .u (.fn Tryz.call51 Z) (bt g st (a1.length:Int) 4 _ hx4) sT Z Z (K7 Z (KF am 1 Z (KH Z (KX Z NH) Z (KP am Z (T.block ?_)))))
 obtain⟨E7,hE8,hO9⟩:=Np h
 have hk13len:=LA hX
 refine Lv (fun m e Rs=> ∃ (k5:Nat) (st6:List UInt8×Int),k5+m=a1.length∧e = [(0,jP g),(12,.slice A1 a1.length c2),(13,jI (a1.length:Int)),(14,jI (k5:Int))]∧Rs = [bB g st6]∧cU (a1.drop k5) st6=some E7) (a1.length) [0] ⟨0,st3,by simp,Z,Z,by rw[List.drop_zero]; exact hE8⟩ QJ QJ ?_
 clear hE8 h
 rintro m10 _ _ ⟨k5,st6,hk13,rfl,rfl,h⟩
 cases m10 with
 | zero =>
  rw[List.drop_of_length_le QG,cU] at h
  have hk13ge: ¬ ((k5:Int)<(a1.length:Int)):=by omega
  refine KG Z (KP am Z (T.seq (Lb Z (Nu hk13ge) ?_)))
  obtain rfl:=Nq h
  obtain rfl:=Nq hO9
  exact T.exit (KZ (KZ (Lu (LQ [0] Tryz.results91 ⟨Z,Z,Z⟩ QJ (.inr Z)))))
 | succ m10 =>
  obtain⟨x11,hxx11⟩: ∃ x,a1[k5]? = some x:=⟨_,List.getElem?_eq_getElem QG⟩
  rw[bJ hxx11,cU] at h
  have hk13lt:(k5:Int)<(a1.length:Int):=by omega
  refine KG Z (KP am Z (T.seq (KV Z (Nt hk13lt) ?_)))
  obtain⟨gz14,oz14,rfl,z14cs,z14cl,z14cc,z14nf,z14r⟩:=Lf QH hX hxx11
  obtain⟨z14S,z14r,z14rr⟩:=z14r
  obtain⟨A15,c16,rfl,z14s0⟩:=z14r
  have hX17:(RX.of (aq 1 fh) [.slice A15 x11.MH.length c16] x11.MH).reads w F:=⟨z14S,z14s0,z14rr⟩
  refine K3 (T.seq (T.block (KG Z ?_)))
  refine KH Z (K1 (k:=k5) Z Z Z NH NV (Nw hxx11).1) Z ?_
  refine KH Z (LI (us := [jS x11.MO,.slice A15 x11.MH.length c16]) 0 Z PW NV z14nf z14cc Z Z Z) Z (TL.alloc Z .u Tryz.zeroValue171 Z (fun b18=>(KW 0 Z (cs':= #[jS x11.MO,.slice A15 x11.MH.length c16]) Z .u Z Z NV Z Z Z Z Z (K7 Z ?_))))
  obtain⟨st19,hx20,h⟩:=Np h
  refine KK am bM 0 Z 3 Z Z (KT 1 Z Z .u (.fn Tryz.call88 Z) (lG g st6 x11.MO _ hx20) sT Z Z (K7 Z (KK am bM 0 Z 3 Z Z (KH Z (KX Z NF) Z ?_))))
  obtain⟨st21,hx22,h⟩:=Np h
  refine KT 1 Z Z .u (.fn Tryz.call51 Z) (bt g st19 (x11.MH.length:Int) 4 _ hx22) sT Z Z (K7 Z (KK am bM 0 Z 2 Z Z (KH Z (KX Z NF) Z (KP am Z (T.block ?_)))))
  obtain⟨E25,hE26,hO27⟩:=Np h
  have hk31len:=LA hX17
  refine Lv (fun m e Rs=> ∃ (k23:Nat) (st24:List UInt8×Int),k23+m=x11.MH.length∧e = [(0,jP g),(12,.slice (some ⟨gz14,oz14,none⟩) a1.length c2),(13,jI (a1.length:Int)),(14,jI (k5:Int)),(28,.slice A15 x11.MH.length c16),(29,jI (x11.MH.length:Int)),(30,jI (k23:Int))]∧Rs = [aW b18 171 #[jS x11.MO,.slice A15 x11.MH.length c16],bB g st24]∧cT (x11.MH.drop k23) st24=some E25) (x11.MH.length) [0,0] ⟨0,st21,by simp,Z,Z,by rw[List.drop_zero]; exact hE26⟩ QJ QJ ?_
  clear hE26 h
  rintro m28 _ _ ⟨k23,st24,hk31,rfl,rfl,h⟩
  cases m28 with
  | zero =>
   rw[List.drop_of_length_le QG,cT] at h
   have hk31ge: ¬ ((k23:Int)<(x11.MH.length:Int)):=by omega
   refine KG Z (KP am Z (T.seq (Lb Z (Nu hk31ge) ?_)))
   obtain rfl:=Nq h
   replace h:=hO27
   clear hO27
   exact T.exit (KZ (KZ (Lu (K4 (X.seq (T.region Z (KH Z (Ex.add Z Z QG) Z (KF am 1 Z (TL.nil (X.back (m':=m10) [1] QG ⟨k5+1,st24,by omega,Z,Z,h⟩ QJ QJ))))))))))
  | succ m28 =>
   obtain⟨x29,hxx29⟩: ∃ x,x11.MH[k23]? = some x:=⟨_,List.getElem?_eq_getElem QG⟩
   rw[bJ hxx29,cT] at h
   have hk31lt:(k23:Int)<(x11.MH.length:Int):=by omega
   refine KG Z (KP am Z (T.seq (KV Z (Nt hk31lt) ?_)))
   obtain⟨gz32,oz32,rfl,z32cs,z32cl,z32cc,z32nf,z32r⟩:=Lf QH hX17 hxx29
   obtain⟨z32S,z32r,z32rr⟩:=z32r
   obtain rfl:z32cs = [jI x29]:=z32r
   refine K3 (T.seq (T.block (KG Z ?_)))
   refine KH Z (K1 (k:=k23) Z Z Z NF Ny (Nw hxx29).1) Z ?_
   refine KH Z (Ln 0 Z Nz z32nf z32cc Z Z) Z (KP am Z (T.region Z ?_))
   obtain⟨st33,hx34,h⟩:=Np h
   exact KF am 2 Z (KT 1 Z Z .u (.fn Tryz.call51 Z) (bt g st24 x29 4 _ hx34) sT Z Z (TL.nil (K4 (X.seq (T.region Z (KH Z (Ex.add Z Z QG) Z (KF am 1 Z (TL.nil (X.back (m':=m28) [0,0] QG ⟨k23+1,st33,by omega,Z,Z,h⟩ QJ QJ)))))))))
def mG (a0:Int):Option (Bool):=if a0=0 then some true else (if a0≥4 then some true else some false)
theorem s9 (a0:Int) (r:Bool) (h:mG a0=some r):aH Tryz.prog 145 #[jI a0] .triv (aK) (fun v A' N=>v= .bool r∧A'=aK∧N = []):=by
 refine aU Tryz.func145 Z Tryz.ntmps145 Z ?_
 intro F w hX
 unfold mG at h
 refine KG Z (K8 am Z Z ?_)
 rcases jF h with⟨c1,h⟩ | ⟨c1,h⟩
 ·refine KF am 3 Z (KN 5 Z (Nt c1) (KM am 4 Z ?_))
  obtain rfl:=Nq h
  exact KI (T.ret (KQ [0] Tryz.results145 (KJ Z)))
 refine KF am 3 Z (KN 5 Z (Nu c1) (KM am 4 Z ?_))
 rcases jF h with⟨c2,h⟩ | ⟨c2,h⟩
 ·obtain rfl:=Nq h
  exact KI (T.ret (Le [0] Tryz.results145 (KJ (v:= .bool true) (congrArg (fun b=>some (Value.bool b)) (Nt c2))) ⟨Z,Z,Z⟩ QJ (.inl Z)))
 obtain rfl:=Nq h
 exact KI (T.ret (Le [0] Tryz.results145 (KJ (v:= .bool false) (congrArg (fun b=>some (Value.bool b)) (Nu c2))) ⟨Z,Z,Z⟩ QJ (.inl Z)))
def cV (a0:List Int):Nat→Bool→Int→Option (Lp Bool (Bool×Int))
 | 0,_,_=>none
 | m8+1,y3,y4=>if y4<(a0.length:Int) then (if -9223372036854775808≤(y4 - 1)∧(y4 - 1)≤9223372036854775807 then (if 0≤(y4 - 1) then ((a0[(y4 - 1).toNat]?).bind fun x15=>if 0≤y4 then ((a0[y4.toNat]?).bind fun x19=>if x15≥x19 then some (Lp.ret false) else (if -9223372036854775808≤(y4+1)∧(y4+1)≤9223372036854775807 then (cV a0 m8 y3 (y4+1)) else none)) else none) else none) else none) else (some (Lp.go (y3,y4)))
def gx (a0:List Int):Option (Bool):=(cV a0 ((((a0.length:Int)) - (1)).toNat+1) false 1).bind fun e=>match e with | .ret r=>some r | .go (y24,y25)=>some true
theorem pw (a0:List Int) (A1:Option Addr) (c2:Nat) (r:Bool) (h:gx a0=some r):aH Tryz.prog 218 #[.slice A1 a0.length c2] (RX.of (aq 1 fh) [.slice A1 a0.length c2] a0) (aK) (fun v A' N=>v= .bool r∧A'=aK∧N = []):=by
 refine aU Tryz.func218 Z Tryz.ntmps218 Z ?_
 intro F w hX
 unfold gx at h
 refine KG Z (KP am Z (T.seq (KG Z (KP am Z (T.block ?_)))))
 obtain⟨E5,hE6,hO7⟩:=Np h
 refine Lv (fun m e Rs=> ∃ (y3:Bool) (y4:Int),e = [(0,.slice A1 a0.length c2),(2,.bool y3),(3,jI y4)]∧Rs = [aK]∧cV a0 m y3 y4=some E5) ((((a0.length:Int)) - (1)).toNat+1) [0] ⟨false,1,Z,Z,by exact hE6⟩ QJ QJ ?_
 clear hE6 h
 rintro m8 _ _ ⟨y3,y4,rfl,rfl,h⟩
 cases m8 with
 | zero =>
  rw[cV] at h
  cases h
 | succ m8 =>
  rw[cV] at h
  refine T.seq (KG Z (KF am 2 Z (KH Z (KX Z NF) Z (KF am 1 Z ?_))))
  rcases jF h with⟨c12,h⟩ | ⟨c12,h⟩
  ·refine La Z c12 ?_
   refine K3 (T.seq (T.block (T.seq (Lm (.q 0 (.q 1 (.q 2 (.q 3 (.q 4 (.q 5 (.q 6 (.q 7 (.q 8 (.q 9 .nil)))))))))) [0] Z ra (NoP.seq (NoP.blk (NoP.seq (NoP.seq (NoP.blk (NoP.seq bu)))))) QI ?_))))
   obtain⟨c13,h⟩:=ao h
   refine TD.run am [0,1] Z Z (KO Z (Ex.sub Z Z c13) Z ?_)
   obtain⟨c14,h⟩:=ao h
   obtain⟨x15,hx16,h⟩:=Np h
   obtain⟨gz17,oz17,rfl,z17cs,z17cl,z17cc,z17nf,z17r⟩:=Lf QH hX hx16
   obtain⟨z17S,z17r,z17rr⟩:=z17r
   obtain rfl:z17cs = [jI x15]:=z17r
   refine KO Z (K1 (k:=(y4 - 1).toNat) Z Z ((Int.toNat_of_nonneg c14).symm) NF Ny (Nw hx16).1) Z ?_
   refine KO Z (Ln 0 Z Nz z17nf z17cc Z Z) Z ?_
   obtain⟨c18,h⟩:=ao h
   obtain⟨x19,hx20,h⟩:=Np h
   obtain⟨z21cs,z21cl,z21cc,z21nf,z21r⟩:=Mc QH hX hx20
   obtain⟨z21S,z21r,z21rr⟩:=z21r
   obtain rfl:z21cs = [jI x19]:=z21r
   refine TD.run am [5,6] Z Z ?_
   refine KO Z (K1 (k:=y4.toNat) Z Z ((Int.toNat_of_nonneg c18).symm) NF Ny (Nw hx20).1) Z ?_
   refine KO Z (Ln 0 Z Nz z21nf z21cc Z Z) Z (TD.run am [9] Z Z ?_)
   rcases jF h with⟨c22,h⟩ | ⟨c22,h⟩
   ·refine LF (LU Z c22 (KG Z (KF am 1 Z ?_)))
    obtain rfl:=Nq h
    obtain rfl:=Nq hO7
    exact KI (T.ret (KU (KL (KL (KU (KL (KQ [0] Tryz.results218 (KJ Z))))))))
   refine LF (LX Z c22 (T.skip (K4 (X.seq (T.region Z ?_)))))
   obtain⟨c23,h⟩:=ao h
   exact KF am 1 Z (KH Z (Ex.add Z Z c23) Z (KF am 1 Z (TL.nil (X.back (m':=m8) [0] QG ⟨y3,(y4+1),Z,Z,h⟩ QJ QJ))))
  refine K9 Z c12 ?_
  obtain rfl:=Nq h
  replace h:=hO7
  clear hO7
  refine T.exit (KZ (KZ (Lu (X.seq (KG Z (KF am 1 Z ?_))))))
  obtain rfl:=Nq h
  exact KI (T.ret (KQ [0] Tryz.results218 (KJ Z)))
def eM:List Int→Bool→Option (Lp Bool Bool)
 | [],y3=>some (Lp.go y3)
 | x9::xs,y3=>if x9<0 then some (Lp.ret false) else ((jM x9 4).bind fun x14=>if x14=true then (eM xs y3) else some (Lp.ret false))
def jZ (a0:List Int):Option (Bool):=(eM a0 false).bind fun e=>match e with | .ret r=>some r | .go y17=>(if (a0.length:Int)>0 then ((gx a0).bind fun x20=>some x20) else some false)
theorem r8 (a0:List Int) (A1:Option Addr) (c2:Nat) (r:Bool) (h:jZ a0=some r):aH Tryz.prog 189 #[.slice A1 a0.length c2] (RX.of (aq 1 fh) [.slice A1 a0.length c2] a0) (aK) (fun v A' N=>v= .bool r∧A'=aK∧N = []):=by
 refine aU Tryz.func189 Z Tryz.ntmps189 Z ?_
 intro F w hX
 unfold jZ at h
 refine KG Z (KP am Z (T.seq (KG Z (KF am 1 Z (KH Z (KX Z NF) Z (KP am Z (T.block ?_)))))))
 obtain⟨E5,hE6,hO7⟩:=Np h
 have hk11len:=LA hX
 refine Lv (fun m e Rs=> ∃ (y3:Bool) (k4:Nat),k4+m=a0.length∧e = [(0,.slice A1 a0.length c2),(2,.bool y3),(5,.slice A1 a0.length c2),(6,jI (a0.length:Int)),(7,jI (k4:Int))]∧Rs = [aK]∧eM (a0.drop k4) y3=some E5) (a0.length) [0] ⟨false,0,by simp,Z,Z,by rw[List.drop_zero]; exact hE6⟩ QJ QJ ?_
 clear hE6 h
 rintro m8 _ _ ⟨y3,k4,hk11,rfl,rfl,h⟩
 cases m8 with
 | zero =>
  rw[List.drop_of_length_le QG,eM] at h
  have hk11ge: ¬ ((k4:Int)<(a0.length:Int)):=by omega
  refine KG Z (KP am Z (T.seq (Lb Z (Nu hk11ge) ?_)))
  obtain rfl:=Nq h
  replace h:=hO7
  clear hO7
  refine T.exit (KZ (KZ (Lu (X.seq (KG Z (KF am 1 Z (KH Z (KX Z NF) Z ?_)))))))
  rcases jF h with⟨c22,h⟩ | ⟨c22,h⟩
  ·refine KF am 2 Z (KN 22 Z (Nt c22) ?_)
   obtain⟨x23,hx24,h⟩:=Np h
   refine KM am 1 Z (K2 Z (.g Z Z Z) (.fn Tryz.call218 Z) (pw a0 _ _ _ hx24) (fun _ hs=>(K0 hs hX)) Z (KM am 2 Z ?_))
   obtain rfl:=Nq h
   exact KI (T.ret (KQ [0] Qu (KJ Z)))
  refine KF am 2 Z (KN 22 Z (Nu c22) (KM am 4 Z ?_))
  obtain rfl:=Nq h
  exact KI (T.ret (KQ [0] Qu (KJ Z)))
 | succ m8 =>
  obtain⟨x9,hxx9⟩: ∃ x,a0[k4]? = some x:=⟨_,List.getElem?_eq_getElem QG⟩
  rw[bJ hxx9,eM] at h
  have hk11lt:(k4:Int)<(a0.length:Int):=by omega
  refine KG Z (KP am Z (T.seq (KV Z (Nt hk11lt) ?_)))
  obtain⟨gz12,oz12,rfl,z12cs,z12cl,z12cc,z12nf,z12r⟩:=Lf QH hX hxx9
  obtain⟨z12S,z12r,z12rr⟩:=z12r
  obtain rfl:z12cs = [jI x9]:=z12r
  refine K3 (T.seq (T.block (KG Z ?_)))
  refine KH Z (K1 (k:=k4) Z Z Z NF Ny (Nw hxx9).1) Z ?_
  refine KH Z (Ln 0 Z Nz z12nf z12cc Z Z) Z (K8 am Z Z ?_)
  rcases jF h with⟨c13,h⟩ | ⟨c13,h⟩
  ·refine KF am 3 Z (KN 13 Z (Nt c13) (Lq am Z (KV Z Z (KG Z (KF am 1 Z ?_)))))
   obtain rfl:=Nq h
   obtain rfl:=Nq hO7
   exact KI (T.ret (KU (KL (KL (KU (KL (KQ [0] Qu (KJ Z))))))))
  refine KF am 3 Z (KN 13 Z (Nu c13) ?_)
  obtain⟨x14,hx15,h⟩:=Np h
  refine KM am 1 Z (K2 Z (.g Z Z Z) (.fn Tryz.call101 Z) (LB (fun w=>dF x9 4 _ hx15 w)) (fun _ _=>Lk _ _) Z (KM am 2 Z ?_))
  rcases jF h with⟨c16,h⟩ | ⟨c16,h⟩
  ·exact KI (Lb Z (bf c16) (T.skip (K4 (X.seq (T.region Z (KH Z (Ex.add Z Z QG) Z (KF am 1 Z (TL.nil (X.back (m':=m8) [0] QG ⟨y3,k4+1,by omega,Z,Z,h⟩ QJ QJ)))))))))
  replace c16:=Nx c16
  refine KI (KV Z (bG c16) (KG Z (KF am 1 Z ?_)))
  obtain rfl:=Nq h
  obtain rfl:=Nq hO7
  exact KI (T.ret (KU (KL (KL (KU (KL (KQ [0] Qu (KJ Z))))))))
def cn (a0:List (List UInt8)):Nat→Bool→Int→Option (Lp Bool (Bool×Int))
 | 0,_,_=>none
 | m8+1,y3,y4=>if y4<(a0.length:Int) then (if -9223372036854775808≤(y4 - 1)∧(y4 - 1)≤9223372036854775807 then (if 0≤(y4 - 1) then ((a0[(y4 - 1).toNat]?).bind fun x15=>if 0≤y4 then ((a0[y4.toNat]?).bind fun x19=>if (Op.bytesLess x15 x19)=true then (if -9223372036854775808≤(y4+1)∧(y4+1)≤9223372036854775807 then (cn a0 m8 y3 (y4+1)) else none) else some (Lp.ret false)) else none) else none) else none) else (some (Lp.go (y3,y4)))
def fc (a0:List (List UInt8)):Option (Bool):=(cn a0 ((((a0.length:Int)) - (1)).toNat+1) false 1).bind fun e=>match e with | .ret r=>some r | .go (y24,y25)=>some true
theorem nN (a0:List (List UInt8)) (A1:Option Addr) (c2:Nat) (r:Bool) (h:fc a0=some r):aH Tryz.prog 190 #[.slice A1 a0.length c2] (RX.of (aq 1 tX) [.slice A1 a0.length c2] a0) (aK) (fun v A' N=>v= .bool r∧A'=aK∧N = []):=by
 refine aU Tryz.func190 Z Tryz.ntmps190 Z ?_
 intro F w hX
 unfold fc at h
 refine KG Z (KP am Z (T.seq (KG Z (KP am Z (T.block ?_)))))
 obtain⟨E5,hE6,hO7⟩:=Np h
 refine Lv (fun m e Rs=> ∃ (y3:Bool) (y4:Int),e = [(0,.slice A1 a0.length c2),(2,.bool y3),(3,jI y4)]∧Rs = [aK]∧cn a0 m y3 y4=some E5) ((((a0.length:Int)) - (1)).toNat+1) [0] ⟨false,1,Z,Z,by exact hE6⟩ QJ QJ ?_
 clear hE6 h
 rintro m8 _ _ ⟨y3,y4,rfl,rfl,h⟩
 cases m8 with
 | zero =>
  rw[cn] at h
  cases h
 | succ m8 =>
  rw[cn] at h
  refine T.seq (KG Z (KF am 2 Z (KH Z (KX Z Pg) Z (KF am 1 Z ?_))))
  rcases jF h with⟨c12,h⟩ | ⟨c12,h⟩
  ·refine La Z c12 ?_
   refine K3 (T.seq (T.block (T.seq (Lm (.q 0 (.q 1 (.q 2 (.q 3 (.q 4 (.q 5 (.q 6 (.q 7 (.q 8 (.q 9 .nil)))))))))) [0] Z ra (NoP.seq (NoP.blk (NoP.seq (NoP.seq (NoP.blk (NoP.seq bu)))))) QI ?_))))
   obtain⟨c13,h⟩:=ao h
   refine TD.run am [0,1] Z Z (KO Z (Ex.sub Z Z c13) Z ?_)
   obtain⟨c14,h⟩:=ao h
   obtain⟨x15,hx16,h⟩:=Np h
   obtain⟨gz17,oz17,rfl,z17cs,z17cl,z17cc,z17nf,z17r⟩:=Lf QH hX hx16
   obtain⟨z17S,z17r,z17rr⟩:=z17r
   obtain rfl:z17cs = [jS x15]:=z17r
   refine KO Z (K1 (k:=(y4 - 1).toNat) Z Z ((Int.toNat_of_nonneg c14).symm) Pg NZ (Nw hx16).1) Z ?_
   refine KO Z (Ln 0 Z N4 z17nf z17cc Z Z) Z ?_
   obtain⟨c18,h⟩:=ao h
   obtain⟨x19,hx20,h⟩:=Np h
   obtain⟨z21cs,z21cl,z21cc,z21nf,z21r⟩:=Mc QH hX hx20
   obtain⟨z21S,z21r,z21rr⟩:=z21r
   obtain rfl:z21cs = [jS x19]:=z21r
   refine TD.run am [5,6] Z Z ?_
   refine KO Z (K1 (k:=y4.toNat) Z Z ((Int.toNat_of_nonneg c18).symm) Pg NZ (Nw hx20).1) Z ?_
   refine KO Z (Ln 0 Z N4 z21nf z21cc Z Z) Z (KO Z (Ex.sGe Z Z) Z ?_)
   rcases jF h with⟨c22,h⟩ | ⟨c22,h⟩
   ·refine LF (Lb Z (bf c22) (T.skip (K4 (X.seq (T.region Z ?_)))))
    obtain⟨c23,h⟩:=ao h
    exact KF am 1 Z (KH Z (Ex.add Z Z c23) Z (KF am 1 Z (TL.nil (X.back (m':=m8) [0] QG ⟨y3,(y4+1),Z,Z,h⟩ QJ QJ))))
   replace c22:=Nx c22
   refine LF (KV Z (bG c22) (KG Z (KF am 1 Z ?_)))
   obtain rfl:=Nq h
   obtain rfl:=Nq hO7
   exact KI (T.ret (KU (KL (KL (KU (KL (KQ [0] Tryz.results190 (KJ Z))))))))
  refine K9 Z c12 ?_
  obtain rfl:=Nq h
  replace h:=hO7
  clear hO7
  refine T.exit (KZ (KZ (Lu (X.seq (KG Z (KF am 1 Z ?_))))))
  obtain rfl:=Nq h
  exact KI (T.ret (KQ [0] Tryz.results190 (KJ Z)))
def dI:List Top→Bool→List (List UInt8)→Option (Lp Bool (Bool×List (List UInt8)))
 | [],y3,y4=>some (Lp.go (y3,y4))
 | x12::xs,y3,y4=>if x12.MO = [] then some (Lp.ret false) else (if (x12.MO.length:Int)>32767 then some (Lp.ret false) else ((jZ x12.MH).bind fun x22=>if x22=true then (if (y4.length+1)*16≤140737488355328 then (dI xs y3 (y4 ++ [x12.MO])) else none) else some (Lp.ret false)))
def fd (a0:List Top):Option (Bool):=(dI a0 false []).bind fun e=>match e with | .ret r=>some r | .go (y29,y30)=>((fc y30).bind fun x34=>some x34)
theorem gQ (a0:List Top) (A1:Option Addr) (c2:Nat) (r:Bool) (h:fd a0=some r):aH Tryz.prog 146 #[.slice A1 a0.length c2] (RX.of (aq 2 bc) [.slice A1 a0.length c2] a0) (aK) (fun v A' N=>v= .bool r∧A'=aK∧N = []):=by
 refine aU Tryz.func146 Z Tryz.ntmps146 Z ?_
 intro F w hX
 unfold fd at h
 refine KG Z (K8 am Z Z (KP am Z (T.seq (KG Z (KF am 1 Z (KH Z (KX Z NH) Z (KF am 1 Z ?_)))))))
 refine KI (T.block (LZ 9 1 tX ?_))
 obtain⟨E8,hE9,hO10⟩:=Np h
 have hk14len:=LA hX
 refine Lv (fun m e Rs=> ∃ (y3:Bool) (y4:List (List UInt8)) (A5:Option Addr) (c6:Nat) (k7:Nat),k7+m=a0.length∧e = [(2,.bool y3),(3,.slice A5 y4.length c6),(6,.slice A1 a0.length c2),(7,jI (a0.length:Int)),(8,jI (k7:Int))]∧Rs = [bU 9 1 tX (.slice A5 y4.length c6) y4,aK]∧dI (a0.drop k7) y3 y4=some E8) (a0.length) [0,0] ⟨false,[],none,0,0,by simp,Z,Z,by rw[List.drop_zero]; exact hE9⟩ QJ QJ ?_
 clear hE9 h
 rintro m11 _ _ ⟨y3,y4,A5,c6,k7,hk14,rfl,rfl,h⟩
 cases m11 with
 | zero =>
  rw[List.drop_of_length_le QG,dI] at h
  have hk14ge: ¬ ((k7:Int)<(a0.length:Int)):=by omega
  refine KG Z (KP am Z (T.seq (Lb Z (Nu hk14ge) ?_)))
  obtain rfl:=Nq h
  replace h:=hO10
  clear hO10
  refine T.exit (KZ (KZ (Lu (X.seq (KG Z ?_)))))
  obtain⟨x36,hx37,h⟩:=Np h
  refine KF am 1 Z (K2 Z .u (.fn Tryz.call190 Z) (nN y4 _ _ _ hx37) (fun _ hs=>(SrcE.res 0 hs Z (fun w G h=>cm QH w G h))) Z (KF am 1 Z ?_))
  obtain rfl:=Nq h
  exact KI (T.ret (KQ [1] Qv (KJ Z)))
 | succ m11 =>
  obtain⟨x12,hxx12⟩: ∃ x,a0[k7]? = some x:=⟨_,List.getElem?_eq_getElem QG⟩
  rw[bJ hxx12,dI] at h
  have hk14lt:(k7:Int)<(a0.length:Int):=by omega
  refine KG Z (KP am Z (T.seq (KV Z (Nt hk14lt) ?_)))
  obtain⟨gz15,oz15,rfl,z15cs,z15cl,z15cc,z15nf,z15r⟩:=Lf QH hX hxx12
  obtain⟨z15S,z15r,z15rr⟩:=z15r
  obtain⟨A16,c17,rfl,z15s0⟩:=z15r
  have hX18:(RX.of (aq 1 fh) [.slice A16 x12.MH.length c17] x12.MH).reads w F:=⟨z15S,z15s0,z15rr⟩
  refine K3 (T.seq (T.block (KG Z ?_)))
  refine KH Z (K1 (k:=k7) Z Z Z NH NV (Nw hxx12).1) Z ?_
  refine KH Z (LI (us := [jS x12.MO,.slice A16 x12.MH.length c17]) 0 Z PW NV z15nf z15cc Z Z Z) Z (TL.alloc Z .u Tryz.zeroValue171 Z (fun b19=>(KW 0 Z (cs':= #[jS x12.MO,.slice A16 x12.MH.length c17]) Z .u Z Z NV Z Z Z Z Z (KI (T.seq (KG Z (KK am bM 0 Z 2 Z Z (KH Z (Ex.sEq Z (m := []) Z) Z ?_))))))))
  rcases jF h with⟨c20,h⟩ | ⟨c20,h⟩
  ·refine KF am 1 Z (KN 15 Z (Nt c20) (Lq am Z (KV Z Z (KG Z (KF am 1 Z ?_)))))
   obtain rfl:=Nq h
   obtain rfl:=Nq hO10
   exact KI (T.ret (KL (KU (KL (KL (KU (KL (KQ [2] Qv (KJ Z)))))))))
  refine KF am 1 Z (KN 15 Z (Nu c20) (KK am bM 0 Z 2 Z Z (TL.q Z (.g Z Z Z) (Lx Z NE) Z ?_)))
  rcases jF h with⟨c21,h⟩ | ⟨c21,h⟩
  ·refine KM am 3 Z (KN 21 Z (Nt c21) (Lq am Z (KV Z Z (KG Z (KF am 1 Z ?_)))))
   obtain rfl:=Nq h
   obtain rfl:=Nq hO10
   exact KI (T.ret (KL (KU (KL (KL (KU (KL (KQ [2] Qv (KJ Z)))))))))
  refine KM am 3 Z (KN 21 Z (Nu c21) ?_)
  obtain⟨x22,hx23,h⟩:=Np h
  refine KK am bM 0 Z 2 Z Z (K2 Z (.g Z Z Z) (.fn Tryz.call189 Z) (r8 x12.MH _ _ _ hx23) (fun _ hs=>(K0 hs hX18)) Z (KM am 2 Z ?_))
  rcases jF h with⟨c24,h⟩ | ⟨c24,h⟩
  ·refine KI (Lb Z (bf c24) (K3 (T.region Z (KK am bM 0 Z 3 Z Z (L7 (cells:= #[jS x12.MO]) Z .u xh Z QJ Z (fun b25=> ?_))))))
   obtain⟨c26,h⟩:=ao h
   refine TL.app1 1 Z .u (us := [jS x12.MO]) (u:=x12.MO) (l:=y4) (E:=tX) Tryz.underlying78 B5 Z QH Z Z Z Z Z Z (fun _ _=>Z) (by have hq:=c26; omega) (by have hq:=c26; omega) Z (fun A27 c28=> ?_)
   exact Lt [0,0,0] Z (KF am 1 Z (TL.nil (K4 (X.seq (T.region Z (KH Z (Ex.add Z Z QG) Z (KF am 1 Z (TL.nil (X.back (m':=m11) [1,1] QG ⟨y3,(y4 ++ [x12.MO]),A27,c28,k7+1,by omega,Z,Z,h⟩ QJ QJ)))))))))
  replace c24:=Nx c24
  refine KI (KV Z (bG c24) (KG Z (KF am 1 Z ?_)))
  obtain rfl:=Nq h
  obtain rfl:=Nq hO10
  exact KI (T.ret (KL (KU (KL (KL (KU (KL (KQ [2] Qv (KJ Z)))))))))
def j0 (a0:Val):Option (Int):=if a0.MG<0 then some 11 else (if a0.MJ<0 then some 11 else ((jM a0.MJ 2).bind fun x6=>if x6=true then (if a0.ML<0 then some 11 else ((jM a0.ML 4).bind fun x10=>if x10=true then (if a0.Nn<0 then some 11 else (if a0.Nm<(-1) then some 11 else (if a0.Nl<0 then some 12 else (if a0.Nl≥7 then some 12 else ((mG a0.Nl).bind fun x17=>if x17=true then (if (a0.MF.length:Int)=0 then (if a0.Nl=0 then (if a0.Nm=(-1) then ((fd a0.MF).bind fun x23=>if x23=true then some 0 else some 13) else some 10) else (if a0.Nm=(-1) then some 10 else ((fd a0.MF).bind fun x27=>if x27=true then some 0 else some 13))) else some 10) else (if (a0.MF.length:Int)=0 then some 10 else (if a0.Nl=0 then (if a0.Nm=(-1) then ((fd a0.MF).bind fun x33=>if x33=true then some 0 else some 13) else some 10) else (if a0.Nm=(-1) then some 10 else ((fd a0.MF).bind fun x37=>if x37=true then some 0 else some 13))))))))) else some 11)) else some 11))
theorem r9 (a0:Val) (A1:Option Addr) (c2:Nat) (r:Int) (h:j0 a0=some r):aH Tryz.prog 90 #[.agg #[jI a0.MG,jI a0.MJ,jI a0.ML,jI a0.Nl,.slice A1 a0.MF.length c2,jI a0.Nn,jI a0.Nm]] (RX.of (aq 2 bc) [.slice A1 a0.MF.length c2] a0.MF) (aK) (fun v A' N=>v=jI r∧A'=aK∧N = []):=by
 refine aU Tryz.func90 Z Tryz.ntmps90 Z ?_
 intro F w hX
 unfold j0 at h
 refine KG Z (TL.box Z .u Z Z (fun b3=>(KP am Z (T.seq (T.block (KG Z ?_))))))
 rcases jF h with⟨c4,h⟩ | ⟨c4,h⟩
 ·refine KK am bM 0 Z 4 Z Z (KN 7 Z (Nt c4) (Lq am Z (KV Z Z (KG Z (KF am 1 Z ?_)))))
  obtain rfl:=Nq h
  exact KI (T.ret (KU (KL (KQ [1] Oe (KJ Z)))))
 refine KK am bM 0 Z 4 Z Z (KN 7 Z (Nu c4) ?_)
 rcases jF h with⟨c5,h⟩ | ⟨c5,h⟩
 ·refine KK am bM 0 Z 5 Z Z (KN 12 Z (Nt c5) (Lq am Z (KV Z Z (KG Z (KF am 1 Z ?_)))))
  obtain rfl:=Nq h
  exact KI (T.ret (KU (KL (KQ [1] Oe (KJ Z)))))
 refine KK am bM 0 Z 5 Z Z (KN 12 Z (Nu c5) ?_)
 obtain⟨x6,hx7,h⟩:=Np h
 refine KK am bM 0 Z 2 Z Z (K2 Z (.g Z Z Z) (.fn Tryz.call101 Z) (LB (fun w=>dF a0.MJ 2 _ hx7 w)) (fun _ _=>Lk _ _) Z ?_)
 rcases jF h with⟨c8,h⟩ | ⟨c8,h⟩
 ·refine KM am 3 Z (KN 18 Z (bf c8) ?_)
  rcases jF h with⟨c9,h⟩ | ⟨c9,h⟩
  ·refine KK am bM 0 Z 5 Z Z (KN 23 Z (Nt c9) (Lq am Z (KV Z Z (KG Z (KF am 1 Z ?_)))))
   obtain rfl:=Nq h
   exact KI (T.ret (KU (KL (KQ [1] Oe (KJ Z)))))
  refine KK am bM 0 Z 5 Z Z (KN 23 Z (Nu c9) ?_)
  obtain⟨x10,hx11,h⟩:=Np h
  refine KK am bM 0 Z 2 Z Z (K2 Z (.g Z Z Z) (.fn Tryz.call101 Z) (LB (fun w=>dF a0.ML 4 _ hx11 w)) (fun _ _=>Lk _ _) Z ?_)
  rcases jF h with⟨c12,h⟩ | ⟨c12,h⟩
  ·refine KM am 3 Z (KN 29 Z (bf c12) ?_)
   rcases jF h with⟨c13,h⟩ | ⟨c13,h⟩
   ·refine KK am bM 0 Z 5 Z Z (KN 34 Z (Nt c13) (Lq am Z (KV Z Z (KG Z (KF am 1 Z ?_)))))
    obtain rfl:=Nq h
    exact KI (T.ret (KU (KL (KQ [1] Oe (KJ Z)))))
   refine KK am bM 0 Z 5 Z Z (KN 34 Z (Nu c13) (KK am bM 0 Z 5 Z Z ?_))
   rcases jF h with⟨c14,h⟩ | ⟨c14,h⟩
   ·refine La Z c14 (KG Z (KF am 1 Z ?_))
    obtain rfl:=Nq h
    exact KI (T.ret (KU (KL (KQ [1] Oe (KJ Z)))))
   refine K9 Z c14 (KG Z ?_)
   rcases jF h with⟨c15,h⟩ | ⟨c15,h⟩
   ·refine KK am bM 0 Z 4 Z Z (KN 43 Z (Nt c15) (Lq am Z (KV Z Z (KG Z (KF am 1 Z ?_)))))
    obtain rfl:=Nq h
    exact KI (T.ret (KU (KL (KQ [1] Oe (KJ Z)))))
   refine KK am bM 0 Z 4 Z Z (KN 43 Z (Nu c15) (KK am bM 0 Z 5 Z Z ?_))
   rcases jF h with⟨c16,h⟩ | ⟨c16,h⟩
   ·refine La Z c16 (KG Z (KF am 1 Z ?_))
    obtain rfl:=Nq h
    exact KI (T.ret (KU (KL (KQ [1] Oe (KJ Z)))))
   refine K9 Z c16 ?_
   refine T.seq (Lm (.q 0 (.q 1 (.q 3 (.q 4 (.q 5 (.q 6 (.e 2 (.q 7 (.q 8 (.q 9 (.q 10 (.q 11 (.q 12 (.q 13 (.q 14 (.q 15 (.q 16 (.q 17 .nil)))))))))))))))))) [0,0] Z ra (NoP.seq (NoP.blk (NoP.seq bu))) QI ?_)
   refine TD.run am [0] Z Z (KO Z (K5 0 Z Nz Z Z) Z (TD.run am [3] Z Z (KO Z (K5 0 Z OZ Z Z) Z (KO Z (KX Z NH) Z ?_))))
   obtain⟨x17,hx18,h⟩:=Np h
   refine TD.run am [6] Z Z (Lw Z .u (.fn Tryz.call145 Z) (s9 a0.Nl _ hx18) rT Z [0,0] (Z) ?_)
   rcases jF h with⟨c19,h⟩ | ⟨c19,h⟩
   ·rcases jF h with⟨c20,h⟩ | ⟨c20,h⟩
    ·refine KO Z (LV Z c19 Z (Nt c20) N1) Z (TD.run am [8] Z Z (TD.q Z (.g Z Z Z) (Ls am Z) Z (TD.q Z (.g Z Z Z) (K5 0 Z Nz Z Z) Z ?_)))
     iterate 2 refine TD.q Z (.g Z Z Z) (Ls am Z) Z ?_
     refine TD.q Z (.g Z Z Z) (K5 0 Z Nz Z Z) Z (TD.q Z (.g Z Z Z) (Ls am Z) Z ?_)
     rcases jF h with⟨c21,h⟩ | ⟨c21,h⟩
     ·rcases jF h with⟨c22,h⟩ | ⟨c22,h⟩
      ·refine TD.q Z (.g Z Z Z) (LV Z (Nt c21) Z (Nt c22) N1) Z (KO Z (LL Z Z Z) Z (TD.run am [17] Z Z (LF (Lb Z Z (KG Z ?_)))))
       obtain⟨x23,hx24,h⟩:=Np h
       refine KK am bM 0 Z 2 Z Z (K2 Z .u (.fn Tryz.call146 Z) (gQ a0.MF _ _ _ hx24) (fun _ hs=>(K0 hs hX)) Z (KF am 2 Z ?_))
       rcases jF h with⟨c25,h⟩ | ⟨c25,h⟩
       ·refine KI (Lb Z (bf c25) (T.skip (K4 (X.seq (KG Z (KF am 1 Z ?_))))))
        obtain rfl:=Nq h
        exact KI (T.ret (KQ [1] Oe (KJ Z)))
       replace c25:=Nx c25
       refine KI (KV Z (bG c25) (KG Z (KF am 1 Z ?_)))
       obtain rfl:=Nq h
       exact KI (T.ret (KU (KL (KQ [1] Oe (KJ Z)))))
      refine TD.q Z (.g Z Z Z) (LV Z (Nt c21) Z (Nu c22) N1) Z (KO Z (LL Z Z Z) Z (TD.run am [17] Z Z (LF (KV Z Z (KG Z (KF am 1 Z ?_))))))
      obtain rfl:=Nq h
      exact KI (T.ret (KU (KL (KQ [1] Oe (KJ Z)))))
     rcases jF h with⟨c26,h⟩ | ⟨c26,h⟩
     ·refine TD.q Z (.g Z Z Z) (LV Z (Nu c21) Z (Nt c26) N1) Z (KO Z (LL Z Z Z) Z (TD.run am [17] Z Z (LF (KV Z Z (KG Z (KF am 1 Z ?_))))))
      obtain rfl:=Nq h
      exact KI (T.ret (KU (KL (KQ [1] Oe (KJ Z)))))
     refine TD.q Z (.g Z Z Z) (LV Z (Nu c21) Z (Nu c26) N1) Z (KO Z (LL Z Z Z) Z (TD.run am [17] Z Z (LF (Lb Z Z (KG Z ?_)))))
     obtain⟨x27,hx28,h⟩:=Np h
     refine KK am bM 0 Z 2 Z Z (K2 Z .u (.fn Tryz.call146 Z) (gQ a0.MF _ _ _ hx28) (fun _ hs=>(K0 hs hX)) Z (KF am 2 Z ?_))
     rcases jF h with⟨c29,h⟩ | ⟨c29,h⟩
     ·refine KI (Lb Z (bf c29) (T.skip (K4 (X.seq (KG Z (KF am 1 Z ?_))))))
      obtain rfl:=Nq h
      exact KI (T.ret (KQ [1] Oe (KJ Z)))
     replace c29:=Nx c29
     refine KI (KV Z (bG c29) (KG Z (KF am 1 Z ?_)))
     obtain rfl:=Nq h
     exact KI (T.ret (KU (KL (KQ [1] Oe (KJ Z)))))
    refine KO Z (LV Z c19 Z (Nu c20) N1) Z (TD.run am [8] Z Z ?_)
    iterate 7 refine LD Z (.gn Z Z Z) Z ?_
    refine KO Z (LN Z Z Z) Z (TD.run am [17] Z Z (LF (KV Z Z (KG Z (KF am 1 Z ?_)))))
    obtain rfl:=Nq h
    exact KI (T.ret (KU (KL (KQ [1] Oe (KJ Z)))))
   replace c19:=Nx c19
   rcases jF h with⟨c30,h⟩ | ⟨c30,h⟩
   ·refine KO Z (LV Z c19 Z (Nt c30) N1) Z (TD.run am [8] Z Z ?_)
    iterate 7 refine LD Z (.gn Z Z Z) Z ?_
    refine KO Z (LN Z Z Z) Z (TD.run am [17] Z Z (LF (KV Z Z (KG Z (KF am 1 Z ?_)))))
    obtain rfl:=Nq h
    exact KI (T.ret (KU (KL (KQ [1] Oe (KJ Z)))))
   refine KO Z (LV Z c19 Z (Nu c30) N1) Z (TD.run am [8] Z Z (TD.q Z (.g Z Z Z) (Ls am Z) Z (TD.q Z (.g Z Z Z) (K5 0 Z Nz Z Z) Z ?_)))
   iterate 2 refine TD.q Z (.g Z Z Z) (Ls am Z) Z ?_
   refine TD.q Z (.g Z Z Z) (K5 0 Z Nz Z Z) Z (TD.q Z (.g Z Z Z) (Ls am Z) Z ?_)
   rcases jF h with⟨c31,h⟩ | ⟨c31,h⟩
   ·rcases jF h with⟨c32,h⟩ | ⟨c32,h⟩
    ·refine TD.q Z (.g Z Z Z) (LV Z (Nt c31) Z (Nt c32) N1) Z (KO Z (LL Z Z Z) Z (TD.run am [17] Z Z (LF (Lb Z Z (KG Z ?_)))))
     obtain⟨x33,hx34,h⟩:=Np h
     refine KK am bM 0 Z 2 Z Z (K2 Z .u (.fn Tryz.call146 Z) (gQ a0.MF _ _ _ hx34) (fun _ hs=>(K0 hs hX)) Z (KF am 2 Z ?_))
     rcases jF h with⟨c35,h⟩ | ⟨c35,h⟩
     ·refine KI (Lb Z (bf c35) (T.skip (K4 (X.seq (KG Z (KF am 1 Z ?_))))))
      obtain rfl:=Nq h
      exact KI (T.ret (KQ [1] Oe (KJ Z)))
     replace c35:=Nx c35
     refine KI (KV Z (bG c35) (KG Z (KF am 1 Z ?_)))
     obtain rfl:=Nq h
     exact KI (T.ret (KU (KL (KQ [1] Oe (KJ Z)))))
    refine TD.q Z (.g Z Z Z) (LV Z (Nt c31) Z (Nu c32) N1) Z (KO Z (LL Z Z Z) Z (TD.run am [17] Z Z (LF (KV Z Z (KG Z (KF am 1 Z ?_))))))
    obtain rfl:=Nq h
    exact KI (T.ret (KU (KL (KQ [1] Oe (KJ Z)))))
   rcases jF h with⟨c36,h⟩ | ⟨c36,h⟩
   ·refine TD.q Z (.g Z Z Z) (LV Z (Nu c31) Z (Nt c36) N1) Z (KO Z (LL Z Z Z) Z (TD.run am [17] Z Z (LF (KV Z Z (KG Z (KF am 1 Z ?_))))))
    obtain rfl:=Nq h
    exact KI (T.ret (KU (KL (KQ [1] Oe (KJ Z)))))
   refine TD.q Z (.g Z Z Z) (LV Z (Nu c31) Z (Nu c36) N1) Z (KO Z (LL Z Z Z) Z (TD.run am [17] Z Z (LF (Lb Z Z (KG Z ?_)))))
   obtain⟨x37,hx38,h⟩:=Np h
   refine KK am bM 0 Z 2 Z Z (K2 Z .u (.fn Tryz.call146 Z) (gQ a0.MF _ _ _ hx38) (fun _ hs=>(K0 hs hX)) Z (KF am 2 Z ?_))
   rcases jF h with⟨c39,h⟩ | ⟨c39,h⟩
   ·refine KI (Lb Z (bf c39) (T.skip (K4 (X.seq (KG Z (KF am 1 Z ?_))))))
    obtain rfl:=Nq h
    exact KI (T.ret (KQ [1] Oe (KJ Z)))
   replace c39:=Nx c39
   refine KI (KV Z (bG c39) (KG Z (KF am 1 Z ?_)))
   obtain rfl:=Nq h
   exact KI (T.ret (KU (KL (KQ [1] Oe (KJ Z)))))
  replace c12:=Nx c12
  refine KM am 3 Z (KN 29 Z (bG c12) (Lq am Z (KV Z Z (KG Z (KF am 1 Z ?_)))))
  obtain rfl:=Nq h
  exact KI (T.ret (KU (KL (KQ [1] Oe (KJ Z)))))
 replace c8:=Nx c8
 refine KM am 3 Z (KN 18 Z (bG c8) (Lq am Z (KV Z Z (KG Z (KF am 1 Z ?_)))))
 obtain rfl:=Nq h
 exact KI (T.ret (KU (KL (KQ [1] Oe (KJ Z)))))
def cP (x24:Int):Nat→Nat→List Int→I→Option (Nat×List Int×I)
 | 0,_,_,_=>none
 | m35+1,k27,y28,st31=>if (k27:Int)<x24 then ((ed st31 4).bind fun (x40,st41)=>if (y28.length+1)*8≤140737488355328 then (if -9223372036854775808≤((k27:Int)+1)∧((k27:Int)+1)≤9223372036854775807 then (cP x24 m35 (k27+1) (y28 ++ [x40]) st41) else none) else none) else some (k27,y28,st31)
def cg (x1:Int):Nat→List Top→List Top→Nat→I→Option (Lp (List Top×I) (List Top×List Top×Nat×I))
 | 0,_,_,_,_=>none
 | m15+1,y4,y7,k10,st11=>if (k10:Int)<x1 then ((sO st11).bind fun (x20,st21)=>(jO st21 4 4).bind fun (x24,st25)=>(cP x24 ((x24).toNat+1) 0 [] st25).bind fun (k57,y58,st61)=>if (y7.length+1)*40≤140737488355328 then ((iQ st61).bind fun (x66,st67)=>if x66=0 then (if -9223372036854775808≤((k10:Int)+1)∧((k10:Int)+1)≤9223372036854775807 then (cg x1 m15 y4 (y7 ++ [(⟨x20,y58⟩:Top)]) (k10+1) st67) else none) else (some (Lp.ret ([],st67)))) else none) else (some (Lp.go (y4,y7,k10,st11)))
def dU (st:I)  : Option (List Top×I):=(jO st 4 6).bind fun (x1,st2)=>(cg x1 ((x1).toNat+1) [] [] 0 st2).bind fun e=>match e with | .ret r=>some r | .go (y71,y74,k77,st78)=>some (y74,st78)
theorem my (g:Nat) (st:I)  (r:List Top×I) (h:dU st  = some r):aH Tryz.prog 89 #[jP g] .triv (InR g st) (fun v A' N=> ∃ (A79:Option Addr) (c80:Nat),v= .slice A79 r.1.length c80∧A'=InR g r.2∧N = [RdR (aq 2 bc) [.slice A79 r.1.length c80] r.1]):=by
 refine aU Tryz.func89 Z Tryz.ntmps89 Z ?_
 intro F w hX
 unfold dU at h
 refine KG Z (K8 am Z Z (KP am Z (T.seq (KG Z ?_))))
 obtain⟨⟨x1,st2⟩,hx3,h⟩:=Np h
 refine KF am 1 Z (KT 0 Z Z .u (.fn Tryz.call144 Z) (lN g st 4 6 _ hx3) sT Z Z (KP am Z (T.block ?_)))
 iterate 2 refine LZ 171 2 bc ?_
 obtain⟨E12,hE13,hO14⟩:=Np h
 refine Lv (fun m e Rs=> ∃ (y4:List Top) (A5:Option Addr) (c6:Nat) (y7:List Top) (A8:Option Addr) (c9:Nat) (k10:Nat) (st11:I),e = [(0,jP g),(2,.slice A5 y4.length c6),(3,.slice A8 y7.length c9),(6,jI x1),(7,jI (k10:Int))]∧Rs = [bU 171 2 bc (.slice A5 y4.length c6) y4,bU 171 2 bc (.slice A8 y7.length c9) y7,InR g st11]∧cg x1 m y4 y7 k10 st11=some E12) ((x1).toNat+1) [0,0,0] ⟨[],none,0,[],none,0,0,st2,Z,Z,by exact hE13⟩ QJ QJ ?_
 clear hE13 h
 rintro m15 _ _ ⟨y4,A5,c6,y7,A8,c9,k10,st11,rfl,rfl,h⟩
 cases m15 with
 | zero =>
  rw[cg] at h
  cases h
 | succ m15 =>
  rw[cg] at h
  refine KG Z (KF am 1 Z ?_)
  rcases jF h with⟨c19,h⟩ | ⟨c19,h⟩
  ·refine KI (T.seq (LU Z c19 (K3 (T.seq (T.block (KG Z ?_))))))
   obtain⟨⟨x20,st21⟩,hx22,h⟩:=Np h
   refine KF am 1 Z (KT 2 Z Z .u (.fn Tryz.call86 Z) (pm g st11 _ hx22) sT Z Z ?_)
   refine KH Z (Ld (cells:= #[jS x20,.slice none 0 0]) yR Z QI) Z ?_
   refine TL.alloc Z .u Tryz.zeroValue171 Z (fun b23=>(KW 0 Z (cs':= #[jS x20,.slice none 0 0]) Z .u Z Z NV Z Z Z Z Z (KI (T.seq (KG Z ?_)))))
   obtain⟨⟨x24,st25⟩,hx26,h⟩:=Np h
   refine KF am 1 Z (KT 3 Z Z .u (.fn Tryz.call144 Z) (lN g st21 4 4 _ hx26) sT Z Z (KP am Z (T.block (LZ 3 1 fh ?_))))
   obtain⟨E32,hE33,hO34⟩:=Np h
   refine Lv (fun m e Rs=> ∃ (k27:Nat) (y28:List Int) (A29:Option Addr) (c30:Nat) (st31:I),e = [(0,jP g),(2,.slice A5 y4.length c6),(3,.slice A8 y7.length c9),(4,jP b23),(6,jI x1),(7,jI (k10:Int)),(13,jI x24),(14,jI (k27:Int))]∧Rs = [bU 3 1 fh (.slice A29 y28.length c30) y28,aW b23 171 #[jS x20,.slice A29 y28.length c30],bU 171 2 bc (.slice A5 y4.length c6) y4,bU 171 2 bc (.slice A8 y7.length c9) y7,InR g st31]∧cP x24 m k27 y28 st31=some E32) ((x24).toNat+1) [0,0,0,0,0] ⟨0,[],none,0,st25,Z,Z,by exact hE33⟩ QJ QJ ?_
   clear hE33 h
   rintro m35 _ _ ⟨k27,y28,A29,c30,st31,rfl,rfl,h⟩
   cases m35 with
   | zero =>
    rw[cP] at h
    cases h
   | succ m35 =>
    rw[cP] at h
    refine KG Z (KF am 1 Z ?_)
    rcases jF h with⟨c39,h⟩ | ⟨c39,h⟩
    ·refine KI (T.seq (LU Z c39 ?_))
     obtain⟨⟨x40,st41⟩,hx42,h⟩:=Np h
     try dsimp only at h
     obtain⟨c44,h⟩:=ao h
     refine K3 (T.seq (T.block ?_))
     refine Ml (fun e Rs=> ∃ (b43:Nat) (A45:Option Addr) (c46:Nat),e = [(0,jP g),(2,.slice A5 y4.length c6),(3,.slice A8 y7.length c9),(4,jP b23),(6,jI x1),(7,jI (k10:Int)),(13,jI x24),(14,jI (k27:Int))]∧Rs = [bU 3 1 fh (.slice A45 (y28 ++ [x40]).length c46) (y28 ++ [x40]),aW b23 171 #[jS x20,.slice A45 (y28 ++ [x40]).length c46],bU 171 2 bc (.slice A5 y4.length c6) y4,bU 171 2 bc (.slice A8 y7.length c9) y7,InR g st41]) ?_ ?_
     ·refine Lm (.q 0 (.q 2 (.br 1 (.e 3 (.e 4 (.e 5 (.q 6 (.e 7 .nil))))) (.e 3 (.br 1 (.e 4 (.e 5 (.q 6 (.e 7 .nil)))) (.e 4 (.e 1 (.e 5 (.q 6 (.e 7 .nil)))))))))) [2,2] Z ra sP QI ?_
      refine TD.run am [0,2] Z Z ?_
      refine TD.br ?_ ?_
      ·refine Mg Z .u (K5 1 Z OD Z Z) Z [2,2] Z (LO 4 Z Z .u (.fn Tryz.call68 Z) (bx g st31 4 _ hx42) sT Z Z [2,2] (Z) (LY (cells:= #[jI x40]) Z .u np Z QJ Z [3,3] (fun _=>Z) (fun b43=> ?_)))
       refine TD.app1 0 Z .u (us := [jI x40]) (u:=x40) (l:=y28) (E:=fh) Tryz.underlying74 qw Z QH Z Z Z Z Z Z (fun _ _=>Z) (by have hq:=c44; omega) (by have hq:=c44; omega) Z [2,2] (fun _ _=>Z) (fun A45 c46=> ?_)
       exact LM [0,0,0,0,0] Z (TD.run am [6] Z Z (LS 1 Z (cs':= #[jS x20,.slice A45 (y28 ++ [x40]).length c46]) Z .u Z Z Pp Z Z Z Z Z [2,2] (Z) (TD.nil (L5 [0,0,0,0,0] ⟨b43,A45,c46,Z,Z⟩ QJ QJ))))
      refine LO 4 Z Z .u (.fn Tryz.call68 Z) (bx g st31 4 _ hx42) sT Z Z [2,2] (Z) ?_
      refine TD.br ?_ ?_
      ·refine Mg Z .u (K5 1 Z OD Z Z) Z [2,2] Z (LY (cells:= #[jI x40]) Z .u np Z QJ Z [3,3] (fun _=>Z) (fun b43=> ?_))
       refine TD.app1 0 Z .u (us := [jI x40]) (u:=x40) (l:=y28) (E:=fh) Tryz.underlying74 qw Z QH Z Z Z Z Z Z (fun _ _=>Z) (by have hq:=c44; omega) (by have hq:=c44; omega) Z [2,2] (fun _ _=>Z) (fun A45 c46=> ?_)
       exact LM [0,0,0,0,0] Z (TD.run am [6] Z Z (LS 1 Z (cs':= #[jS x20,.slice A45 (y28 ++ [x40]).length c46]) Z .u Z Z Pp Z Z Z Z Z [2,2] (Z) (TD.nil (L5 [0,0,0,0,0] ⟨b43,A45,c46,Z,Z⟩ QJ QJ))))
      refine LY (cells:= #[jI x40]) Z .u np Z QJ Z [3,3] (fun _=>Z) (fun b43=>(Mg Z .u (K5 2 Z OD Z Z) Z [3,3] Z ?_))
      refine TD.app1 0 Z .u (us := [jI x40]) (u:=x40) (l:=y28) (E:=fh) Tryz.underlying74 qw Z QH Z Z Z Z Z Z (fun _ _=>Z) (by have hq:=c44; omega) (by have hq:=c44; omega) Z [2,2] (fun _ _=>Z) (fun A45 c46=> ?_)
      exact LM [0,0,0,0,0] Z (TD.run am [6] Z Z (LS 1 Z (cs':= #[jS x20,.slice A45 (y28 ++ [x40]).length c46]) Z .u Z Z Pp Z Z Z Z Z [2,2] (Z) (TD.nil (L5 [0,0,0,0,0] ⟨b43,A45,c46,Z,Z⟩ QJ QJ))))
     rintro _ _ ⟨b43,A45,c46,rfl,rfl⟩
     obtain⟨c47,h⟩:=ao h
     exact K4 (X.seq (T.region Z (KH Z (Ex.add Z Z c47) Z (KF am 1 Z (TL.nil (X.back (m':=m35) [0,0,0,0,0] QG ⟨k27+1,(y28 ++ [x40]),A45,c46,st41,Z,Z,h⟩ QJ QJ))))))
    refine KI (T.seq (LX Z c39 ?_))
    obtain rfl:=Nq h
    replace h:=hO34
    clear hO34
    refine T.exit (KZ (KZ (Lu (X.seq (KG Z (KF am 1 Z (KH Z (KY (us := [jS x20,.slice A29 y28.length c30]) 1 Z PW NV Z Z Z) Z (L7 (cells:= #[jS x20,.slice A29 y28.length c30]) Z .u xg Z QJ Z (fun b48=> ?_)))))))))
    obtain⟨c49,h⟩:=ao h
    refine Ms 3 0 Z .u (us := [jS x20,.slice A29 y28.length c30]) (u:=(⟨x20,y28⟩:Top)) (l:=y7) (E:=bc) Tryz.underlying28 yS Z QH Z Z Z Z Z Z Z (fun w G hG=>⟨_,_,Z,cm QH _ _ hG⟩) (by have hq:=c49; omega) (by have hq:=c49; omega) Z (fun A50 c51=> ?_)
    refine Lt [0,0,0,0] Z (K8 am Z Z ?_)
    obtain⟨⟨x52,st53⟩,hx54,h⟩:=Np h
    refine KF am 1 Z (KT 3 Z Z .u (.fn Tryz.call23 Z) (cy g st31 _ hx54) sT Z Z (KF am 1 Z ?_))
    rcases jF h with⟨c55,h⟩ | ⟨c55,h⟩
    ·refine Lj Z c55 ?_
     obtain⟨c56,h⟩:=ao h
     exact T.skip (K4 (X.seq (T.region Z (KH Z (Ex.add Z Z c56) Z (KF am 1 Z (TL.nil (X.back (m':=m15) [2,0,1] QG ⟨y4,A5,c6,(y7 ++ [(⟨x20,y28⟩:Top)]),A50,c51,k10+1,st53,Z,Z,h⟩ QJ QJ)))))))
    refine Li Z c55 (KG Z (KF am 1 Z ?_))
    obtain rfl:=Nq h
    obtain rfl:=Nq hO14
    exact KI (T.ret (KU (KL (KL (KU (KL (Lc 2 bc (Le [4,0] Tryz.results89 (KJ Z) ⟨_,_,Z,Z,Z⟩ QJ (.inl Z)))))))))
  refine KI (T.seq (LX Z c19 ?_))
  obtain rfl:=Nq h
  replace h:=hO14
  clear hO14
  refine T.exit (KZ (KZ (Lu (X.seq (KG Z (KF am 2 Z ?_))))))
  obtain rfl:=Nq h
  exact KI (T.ret (Mz QH 1 Z (LC [0,0,0] Z (Le [2,1] Tryz.results89 (KJ Z) ⟨_,_,Z,Z,Z⟩ QJ (.inl Z)))))
def ft_txn:fg := [(23,0,0),(23,1,1),(27,0,0),(27,1,2),(27,2,3),(27,3,4),(30,0,0),(30,1,1),(30,2,2),(30,3,3),(32,0,0),(32,1,1),(32,2,2),(32,3,3)]
theorem aw:(ft_txn).OK Tryz.prog:=⟨FOK.mk NS rfl N5 rfl,FOK.mk NS rfl NZ rfl,FOK.mk OM rfl ND rfl,FOK.mk OM rfl Ny rfl,FOK.mk OM rfl Ny rfl,FOK.mk OM rfl Ny rfl,FOK.mk OG rfl NZ rfl,FOK.mk OG rfl Ny rfl,FOK.mk OG rfl Ny rfl,FOK.mk OG rfl Pq rfl,FOK.mk Oy rfl NZ rfl,FOK.mk Oy rfl Ny rfl,FOK.mk Oy rfl Ny rfl,FOK.mk Oy rfl N5 rfl,trivial⟩
def nt_txn:List Nat := [3,4,9,28]
theorem cf:NOK Tryz.prog nt_txn:=⟨Nz,Ok,N4,OZ,trivial⟩
theorem ta (v : Value) (w : World) : (method (Tryz.prog.types.size + Made.depth) 30 v "Check").run Tryz.prog w = .ok (170, v) w := wW (k := Tryz.prog.types.size + Made.depth - 1) QI QI OG v w
theorem tb (v : Value) (w : World) : (method (Tryz.prog.types.size + Made.depth) 32 v "Check").run Tryz.prog w = .ok (172, v) w := wW (k := Tryz.prog.types.size + Made.depth - 1) QI QI Oy v w
theorem xi:BOK Tryz.prog 27 #[.bool false,.string ⟨#[]⟩,.int .i64 0,.int .i64 0,.int .i64 0] [(0,2),(2,1),(3,1),(4,1)]:=BOK.mk Tryz.zeroValue27 OM (by intro w; simp)
theorem xj:BOK Tryz.prog 30 #[.string ⟨#[]⟩,.int .i64 0,.int .i64 0,.slice none 0 0] [(0,1),(1,1),(2,1),(3,1)]:=BOK.mk Tryz.zeroValue30 OG (by intro w; simp)
theorem xk:BOK Tryz.prog 32 #[.string ⟨#[]⟩,.int .i64 0,.int .i64 0,.bool false] [(0,1),(1,1),(2,1),(3,1)]:=BOK.mk Tryz.zeroValue32 Oy (by intro w; simp)
theorem B6:BOK Tryz.prog 103 #[.int .i64 0,.int .i64 0,.int .i64 0,.int .i64 0,.slice none 0 0,.int .i64 0,.int .i64 0] [(0,1),(1,1),(2,1),(3,1),(4,1),(5,1),(6,1)]:=BOK.mk Tryz.zeroValue103 OU (by intro w; simp)
def ka (st:List UInt8×Int) (a1:Int):Option (Bool×(List UInt8×Int)):=(if a1=0 then some st else ((li st a1).bind fun st7=>some st7)).bind fun st4=>if a1=0 then some (false,st4) else some (true,st4)
theorem mn (g:Nat) (st:List UInt8×Int) (a1:Int) (r:Bool×(List UInt8×Int)) (h:ka st a1=some r):aH Tryz.prog 151 #[jP g,jI a1] .triv (bB g st) (fun v A' N=>v= .bool r.1∧A'=bB g r.2∧N = []):=by
 refine aU Tryz.func151 Z Tryz.ntmps151 Z ?_
 intro F w hX
 unfold ka at h
 refine KG Z (KP aw Z (T.seq (KG Z (KP aw Z ?_))))
 obtain⟨st4,h,hk5⟩:=Np h
 refine Lz (fun e Rs=>e = [(1,jI a1),(4,.bool false)]∧Rs = [bB g st4]) ?_ ?_
 ·clear hk5
  rcases jF h with⟨c6,h⟩ | ⟨c6,h⟩
  ·refine T.nn Z c6 ?_
   cases h
   exact T.skip (KR [0])
  refine T.yn Z c6 (T.region Z ?_)
  obtain⟨st7,hx8,h⟩:=Np h
  refine KF aw 2 Z (KT 0 Z Z .u (.fn Tryz.call94 Z) (ib g st a1 _ hx8) sT Z Z ?_)
  cases h
  exact TL.nil (KR [0])
 rintro _ _ ⟨rfl,rfl⟩
 clear h
 have h:=hk5
 clear hk5
 refine X.seq (KG Z (KF aw 3 Z ?_))
 rcases jF h with⟨c9,h⟩ | ⟨c9,h⟩
 ·obtain rfl:=Nq h
  exact KI (T.ret (Le [0] Tryz.results151 (KJ (v:= .bool false) (congrArg (fun b=>some (Value.bool b)) (bf (Nt c9)))) ⟨Z,Z,Z⟩ QJ (.inl Z)))
 obtain rfl:=Nq h
 exact KI (T.ret (Le [0] Tryz.results151 (KJ (v:= .bool true) (congrArg (fun b=>some (Value.bool b)) (bG (Nu c9)))) ⟨Z,Z,Z⟩ QJ (.inl Z)))
def ku (a0:Int) (a1:Int):Option (Bool):=(if a0≥0 then (if a1≥0 then ((jM a1 2).bind fun x9=>some x9) else some false) else some false).bind fun y5=>some y5
theorem kJ (a0:Int) (a1:Int) (r:Bool) (h:ku a0 a1=some r):aH Tryz.prog 192 #[jI a0,jI a1] .triv (aK) (fun v A' N=>v= .bool r∧A'=aK∧N = []):=by
 refine aU Tryz.func192 Z Tryz.ntmps192 Z ?_
 intro F w hX
 unfold ku at h
 refine KG Z (KP aw Z (T.seq ?_))
 obtain⟨y5,h,hk6⟩:=Np h
 refine Lz (fun e Rs=>e = [(4,.bool y5)]∧Rs = [aK]) ?_ ?_
 ·clear hk6
  refine T.region Z ?_
  rcases jF h with⟨c7,h⟩ | ⟨c7,h⟩
  ·refine KF aw 3 Z (KN 7 Z (Nt c7) ?_)
   rcases jF h with⟨c8,h⟩ | ⟨c8,h⟩
   ·refine KM aw 4 Z (KN 11 Z (Nt c8) ?_)
    obtain⟨x9,hx10,h⟩:=Np h
    refine KM aw 1 Z (K2 Z (.g Z Z Z) (.fn Tryz.call101 Z) (LB (fun w=>dF a1 2 _ hx10 w)) (fun _ _=>Lk _ _) Z (KM aw 2 Z ?_))
    cases h
    exact TL.nil (KR [0])
   refine KM aw 4 Z (KN 11 Z (Nu c8) (KM aw 4 Z ?_))
   cases h
   exact TL.nil (KR [0])
  refine KF aw 3 Z (KN 7 Z (Nu c7) (KM aw 8 Z ?_))
  cases h
  exact TL.nil (KR [0])
 rintro _ _ ⟨rfl,rfl⟩
 clear h
 have h:=hk6
 clear hk6
 obtain rfl:=Nq h
 exact X.seq (T.ret (KQ [0] Tryz.results192 (KJ Z)))
def fP (a0:bb) (a1:Int):Option (Int):=(if a0.MG=(-1) then (if a0.MJ=(-1) then some true else some false) else some false).bind fun y3=>((ql a0.MM).bind fun x15=>if x15=true then (if a0.MM.null=true then some false else ((nR a0.MM.data).bind fun x19=>if x19=true then some false else some true)) else some true).bind fun y13=>if y13=true then some 4 else ((if a0.ML<0 then some true else ((jM a0.ML 4).bind fun x29=>if x29=true then some false else some true)).bind fun y26=>(if y26=true then some true else ((if y3=true then some false else (if a1>0 then ((ku a0.MG a0.MJ).bind fun x55=>if x55=true then some false else some true) else some true)).bind fun y51=>some y51)).bind fun y44=>if y44=true then some 11 else some 0)
theorem le (a0:bb) (a1:Int) (r:Int) (h:fP a0 a1=some r):aH Tryz.prog 152 #[.agg #[.bool a0.MM.null,jS a0.MM.data,jI a0.ML,jI a0.MG,jI a0.MJ],jI a1] .triv (aK) (fun v A' N=>v=jI r∧A'=aK∧N = []):=by
 refine aU Tryz.func152 Z Tryz.ntmps152 Z ?_
 intro F w hX
 unfold fP at h
 refine KG Z (TL.box Z .u Z Z (fun b1=>(KP aw Z (T.seq ?_))))
 obtain⟨y3,h,hk4⟩:=Np h
 refine Lz (fun e Rs=>e = [(1,jI a1),(2,jP b1),(4,jI 0),(5,.bool y3)]∧Rs = [aW b1 27 #[.bool a0.MM.null,jS a0.MM.data,jI a0.ML,jI a0.MG,jI a0.MJ],aK]) ?_ ?_
 ·clear hk4
  refine T.region Z ?_
  rcases jF h with⟨c5,h⟩ | ⟨c5,h⟩
  ·refine KK aw cf 0 Z 4 Z Z (KN 9 Z (Nt c5) (KK aw cf 0 Z 5 Z Z ?_))
   rcases jF h with⟨c6,h⟩ | ⟨c6,h⟩
   ·cases h
    exact TL.nil (LE (d:=5) (v':= .bool true) Z (congrArg Value.bool (Nt c6)) (KR [0,0]))
   cases h
   exact TL.nil (LE (d:=5) (v':= .bool false) Z (congrArg Value.bool (Nu c6)) (KR [0,0]))
  refine KK aw cf 0 Z 4 Z Z (KN 9 Z (Nu c5) (KM aw 5 Z ?_))
  cases h
  exact TL.nil (KR [0,0])
 rintro _ _ ⟨rfl,rfl⟩
 clear h
 have h:=hk4
 clear hk4
 refine X.seq (T.seq (T.block (T.seq ?_)))
 obtain⟨y13,h,hk14⟩:=Np h
 refine Lz (fun e Rs=>e = [(1,jI a1),(2,jP b1),(4,jI 0),(5,.bool y3),(14,.bool y13)]∧Rs = [aW b1 27 #[.bool a0.MM.null,jS a0.MM.data,jI a0.ML,jI a0.MG,jI a0.MJ],aK]) ?_ ?_
 ·clear hk14
  refine T.region Z (KF aw 1 Z (KH Z (KY (us:=wL6 a0.MM) 0 Z N0 ND Z Z Z) Z ?_))
  obtain⟨x15,hx16,h⟩:=Np h
  refine K2 Z .u (.fn Tryz.call148 Z) (nQ a0.MM _ hx16) rT Z ?_
  rcases jF h with⟨c17,h⟩ | ⟨c17,h⟩
  ·refine KF aw 2 Z (KN 19 Z (bf c17) ?_)
   rcases jF h with⟨c18,h⟩ | ⟨c18,h⟩
   ·refine KK aw cf 0 Z 5 Z Z (KN 24 Z (bf c18) (KM aw 8 Z ?_))
    cases h
    exact TL.nil (KR [0,0])
   replace c18:=Nx c18
   refine KK aw cf 0 Z 5 Z Z (KN 24 Z (bG c18) ?_)
   obtain⟨x19,hx20,h⟩:=Np h
   refine KK aw cf 0 Z 3 Z Z (K2 Z (.g Z Z Z) (.fn Tryz.call87 Z) (LB (fun w=>mD a0.MM.data _ hx20 w)) (fun _ _=>Lk _ _) Z (KM aw 4 Z ?_))
   rcases jF h with⟨c21,h⟩ | ⟨c21,h⟩
   ·cases h
    exact TL.nil (LE (d:=14) (v':= .bool false) Z (congrArg Value.bool (bf c21)) (KR [0,0]))
   replace c21:=Nx c21
   cases h
   exact TL.nil (LE (d:=14) (v':= .bool true) Z (congrArg Value.bool (bG c21)) (KR [0,0]))
  replace c17:=Nx c17
  refine KF aw 2 Z (KN 19 Z (bG c17) (KM aw 13 Z ?_))
  cases h
  exact TL.nil (KR [0,0])
 rintro _ _ ⟨rfl,rfl⟩
 clear h
 have h:=hk14
 clear hk14
 try dsimp only at h
 rcases jF h with⟨c22,h⟩ | ⟨c22,h⟩
 ·refine X.seq (KV Z c22 (KG Z (KF aw 1 Z ?_)))
  obtain rfl:=Nq h
  exact KI (T.ret (KU (KL (KQ [1] Tryz.results152 (KJ Z)))))
 replace c22:=Nx c22
 refine X.seq (Lb Z c22 (L3 ?_))
 obtain⟨y26,h,hk27⟩:=Np h
 refine Lz (fun e Rs=>e = [(1,jI a1),(2,jP b1),(4,jI 0),(5,.bool y3),(32,.bool y26)]∧Rs = [aW b1 27 #[.bool a0.MM.null,jS a0.MM.data,jI a0.ML,jI a0.MG,jI a0.MJ],aK]) ?_ ?_
 ·clear hk27
  refine T.region Z ?_
  rcases jF h with⟨c28,h⟩ | ⟨c28,h⟩
  ·refine KK aw cf 0 Z 4 Z Z (KN 36 Z (Nt c28) (KM aw 6 Z ?_))
   cases h
   exact TL.nil (KR [0,0])
  refine KK aw cf 0 Z 4 Z Z (KN 36 Z (Nu c28) ?_)
  obtain⟨x29,hx30,h⟩:=Np h
  refine KK aw cf 0 Z 2 Z Z (K2 Z (.g Z Z Z) (.fn Tryz.call101 Z) (LB (fun w=>dF a0.ML 4 _ hx30 w)) (fun _ _=>Lk _ _) Z (KM aw 3 Z ?_))
  rcases jF h with⟨c31,h⟩ | ⟨c31,h⟩
  ·cases h
   exact TL.nil (LE (d:=32) (v':= .bool false) Z (congrArg Value.bool (bf c31)) (KR [0,0]))
  replace c31:=Nx c31
  cases h
  exact TL.nil (LE (d:=32) (v':= .bool true) Z (congrArg Value.bool (bG c31)) (KR [0,0]))
 rintro _ _ ⟨rfl,rfl⟩
 clear h
 have h:=hk27
 clear hk27
 refine X.seq ?_
 obtain⟨y44,h,hk45⟩:=Np h
 refine Lz (fun e Rs=>e = [(4,jI 0),(32,.bool y44)]∧Rs = [aW b1 27 #[.bool a0.MM.null,jS a0.MM.data,jI a0.ML,jI a0.MG,jI a0.MJ],aK]) ?_ ?_
 ·clear hk45
  rcases jF h with⟨c46,h⟩ | ⟨c46,h⟩
  ·refine KV Z c46 ?_
   cases h
   exact T.skip (LE (d:=32) (v':= .bool true) Z (congrArg Value.bool c46) (KR [0,0]))
  replace c46:=Nx c46
  refine Lb Z c46 ?_
  obtain⟨y51,h,hk52⟩:=Np h
  refine Lz (fun e Rs=>e = [(4,jI 0),(32,.bool y51)]∧Rs = [aW b1 27 #[.bool a0.MM.null,jS a0.MM.data,jI a0.ML,jI a0.MG,jI a0.MJ],aK]) ?_ ?_
  ·clear hk52
   refine T.region Z ?_
   rcases jF h with⟨c53,h⟩ | ⟨c53,h⟩
   ·refine KF aw 3 Z (KN 44 Z (bf c53) (KM aw 12 Z ?_))
    cases h
    exact TL.nil (KR [0,0])
   replace c53:=Nx c53
   refine KF aw 3 Z (KN 44 Z (bG c53) ?_)
   rcases jF h with⟨c54,h⟩ | ⟨c54,h⟩
   ·refine KM aw 3 Z (KN 47 Z (Nt c54) ?_)
    obtain⟨x55,hx56,h⟩:=Np h
    refine KK aw cf 0 Z 4 Z Z (K2 Z (.g Z Z Z) (.fn Tryz.call192 Z) (kJ a0.MG a0.MJ _ hx56) rT Z (KM aw 4 Z ?_))
    rcases jF h with⟨c57,h⟩ | ⟨c57,h⟩
    ·cases h
     exact TL.nil (LE (d:=32) (v':= .bool false) Z (congrArg Value.bool (bf c57)) (KR [0,0]))
    replace c57:=Nx c57
    cases h
    exact TL.nil (LE (d:=32) (v':= .bool true) Z (congrArg Value.bool (bG c57)) (KR [0,0]))
   refine KM aw 3 Z (KN 47 Z (Nu c54) (KM aw 9 Z ?_))
   cases h
   exact TL.nil (KR [0,0])
  rintro _ _ ⟨rfl,rfl⟩
  clear h
  have h:=hk52
  clear hk52
  try dsimp only at h
  cases h
  exact KR [0,0]
 rintro _ _ ⟨rfl,rfl⟩
 clear h
 have h:=hk45
 clear hk45
 try dsimp only at h
 rcases jF h with⟨c58,h⟩ | ⟨c58,h⟩
 ·refine X.seq (KV Z c58 (KG Z (KF aw 1 Z ?_)))
  obtain rfl:=Nq h
  exact KI (T.ret (KU (KL (KQ [1] Tryz.results152 (KJ Z)))))
 replace c58:=Nx c58
 refine X.seq (Lb Z c58 (T.skip (K4 (X.seq (KG Z (KF aw 1 Z ?_))))))
 obtain rfl:=Nq h
 exact KI (T.ret (KQ [1] Tryz.results152 (KJ Z)))
def gY (st:List UInt8×Int) (a0:bb) (a2:Int):Option (List UInt8×Int):=(fP a0 a2).bind fun x2=>(ka st x2).bind fun (x4,st5)=>if x4=true then some st5 else ((kf st5 a0.MM 2).bind fun st8=>(d8 st8 a0.ML 4).bind fun st10=>(if a2>0 then ((d8 st10 a0.MG 8).bind fun st20=>(d8 st20 a0.MJ 2).bind fun st22=>some st22) else some st10).bind fun st17=>some st17)
theorem pW (g:Nat) (st:List UInt8×Int) (a0:bb) (a2:Int) (r:List UInt8×Int) (h:gY st a0 a2=some r):aH Tryz.prog 96 #[.agg #[.bool a0.MM.null,jS a0.MM.data,jI a0.ML,jI a0.MG,jI a0.MJ],jP g,jI a2] .triv (bB g st) (fun v A' N=>v= .tuple #[]∧A'=bB g r∧N = []):=by
 refine aU Tryz.func96 Z Tryz.ntmps96 Z ?_
 intro F w hX
 unfold gY at h
 refine KG Z (TL.box Z .u Z Z (fun b1=>(KI (T.seq (KG Z (KF aw 1 Z (KH Z (KY (us := [.bool a0.MM.null,jS a0.MM.data,jI a0.ML,jI a0.MG,jI a0.MJ]) 0 Z PE OR Z Z Z) Z ?_)))))))
 obtain⟨x2,hx3,h⟩:=Np h
 refine KF aw 1 Z (K2 Z .u (.fn Tryz.call152 Z) (le a0 a2 _ hx3) rT Z ?_)
 obtain⟨⟨x4,st5⟩,hx6,h⟩:=Np h
 refine KT 1 Z Z .u (.fn Tryz.call151 Z) (mn g st x2 _ hx6) sT Z Z ?_
 rcases jF h with⟨c7,h⟩ | ⟨c7,h⟩
 ·refine KI (KV Z c7 ?_)
  obtain rfl:=Nq h
  exact T.ret (KL (LQ [1] Tryz.results96 ⟨Z,Z,Z⟩ QJ (.inl Z)))
 replace c7:=Nx c7
 refine KI (Lb Z c7 (Lg Z (KF aw 2 Z (KH Z (KY (us:=wL6 a0.MM) 0 Z N0 ND Z Z Z) Z ?_))))
 obtain⟨st8,hx9,h⟩:=Np h
 refine KT 1 Z Z .u (.fn Tryz.call95 Z) (kB g st5 a0.MM 2 _ hx9) sT Z Z (K7 Z ?_)
 obtain⟨st10,hx11,h⟩:=Np h
 refine KK aw cf 0 Z 3 Z Z (KT 1 Z Z .u (.fn Tryz.call51 Z) (bt g st8 a0.ML 4 _ hx11) sT Z Z (K7 Z (KP aw Z ?_)))
 obtain⟨st17,h,hk18⟩:=Np h
 refine Lz (fun e Rs=>e = []∧Rs = [aW b1 27 #[.bool a0.MM.null,jS a0.MM.data,jI a0.ML,jI a0.MG,jI a0.MJ],bB g st17]) ?_ ?_
 ·clear hk18
  rcases jF h with⟨c19,h⟩ | ⟨c19,h⟩
  ·refine LU Z c19 (KG Z ?_)
   obtain⟨st20,hx21,h⟩:=Np h
   refine KK aw cf 0 Z 3 Z Z (KT 1 Z Z .u (.fn Tryz.call51 Z) (bt g st10 a0.MG 8 _ hx21) sT Z Z (KI (T.region Z ?_)))
   obtain⟨st22,hx23,h⟩:=Np h
   refine KK aw cf 0 Z 3 Z Z (KT 1 Z Z .u (.fn Tryz.call51 Z) (bt g st20 a0.MJ 2 _ hx23) sT Z Z ?_)
   cases h
   exact TL.nil (KR [0,0])
  refine LX Z c19 ?_
  cases h
  exact T.skip (KR [0,0])
 rintro _ _ ⟨rfl,rfl⟩
 clear h
 have h:=hk18
 clear hk18
 obtain rfl:=Nq h
 exact LQ [1] Tryz.results96 ⟨Z,Z,Z⟩ QJ (.inr Z)
def lw (a0:List Top):Option (Int):=if (a0.length:Int)=0 then some 10 else ((j0 (⟨0,0,0,1,a0,0,0⟩:Val)).bind fun x5=>some x5)
theorem pM (a0:List Top) (A1:Option Addr) (c2:Nat) (r:Int) (h:lw a0=some r):aH Tryz.prog 210 #[.slice A1 a0.length c2] (RX.of (aq 2 bc) [.slice A1 a0.length c2] a0) (aK) (fun v A' N=>v=jI r∧A'=aK∧N = []):=by
 refine aU Tryz.func210 Z Tryz.ntmps210 Z ?_
 intro F w hX
 unfold lw at h
 refine KG Z (KP aw Z (T.seq (KG Z (KF aw 1 Z (KH Z (KX Z NH) Z (KF aw 1 Z ?_))))))
 rcases jF h with⟨c3,h⟩ | ⟨c3,h⟩
 ·refine La Z c3 (KG Z (KF aw 1 Z ?_))
  obtain rfl:=Nq h
  exact KI (T.ret (KL (KQ [0] Tryz.results210 (KJ Z))))
 refine K9 Z c3 (Lg Z (KF aw 1 Z ?_))
 refine KH Z (Ld (cells:= #[jI 0,jI 0,jI 0,jI 1,.slice A1 a0.length c2,jI 0,jI 0]) B6 Z QI) Z ?_
 refine TL.alloc Z .u Tryz.zeroValue103 Z (fun b4=>(KW 0 Z (cs':= #[jI 0,jI 0,jI 0,jI 1,.slice A1 a0.length c2,jI 0,jI 0]) Z .u Z Z Tryz.sizeOf103 Z Z Z Z Z (K7 Z (KH Z (KY (us := [jI 0,jI 0,jI 0,jI 1,.slice A1 a0.length c2,jI 0,jI 0]) 0 Z Tryz.isAgg103 Tryz.sizeOf103 Z Z Z) Z ?_))))
 obtain⟨x5,hx6,h⟩:=Np h
 refine K2 Z .u (.fn Tryz.call90 Z) (r9 (⟨0,0,0,1,a0,0,0⟩:Val) _ _ _ hx6) (fun _ hs=>(K0 hs hX)) Z (KF aw 1 Z ?_)
 obtain rfl:=Nq h
 exact KI (T.ret (KQ [1] Tryz.results210 (KJ Z)))
def gZ (a0:bT):Option (Int):=(nR a0.MM).bind fun x4=>if x4=true then ((ku a0.MG a0.MJ).bind fun x7=>if x7=true then ((lw a0.MF).bind fun x10=>some x10) else some 11) else some 4
theorem mz (a0:bT) (A1:Option Addr) (c2:Nat) (r:Int) (h:gZ a0=some r):aH Tryz.prog 170 #[.agg (wA11 a0 A1 c2)] (RX.of (aq 2 bc) [.slice A1 a0.MF.length c2] a0.MF) (aK) (fun v A' N=>v=jI r∧A'=aK∧N = []):=by
 refine aU Tryz.func170 Z Tryz.ntmps170 Z ?_
 intro F w hX
 unfold gZ at h
 refine KG Z (TL.box Z .u Z Z (fun b3=>(KP aw Z (T.seq (T.block (KG Z ?_))))))
 obtain⟨x4,hx5,h⟩:=Np h
 refine KK aw cf 0 Z 2 Z Z (K2 Z .u (.fn Tryz.call87 Z) (LB (fun w=>mD a0.MM _ hx5 w)) (fun _ _=>Lk _ _) Z (KF aw 2 Z ?_))
 rcases jF h with⟨c6,h⟩ | ⟨c6,h⟩
 ·refine KI (Lb Z (bf c6) (KG Z ?_))
  obtain⟨x7,hx8,h⟩:=Np h
  refine KK aw cf 0 Z 4 Z Z (K2 Z .u (.fn Tryz.call192 Z) (kJ a0.MG a0.MJ _ hx8) rT Z (KF aw 2 Z ?_))
  rcases jF h with⟨c9,h⟩ | ⟨c9,h⟩
  ·refine KI (Lb Z (bf c9) (T.skip (K4 (X.seq (KG Z ?_)))))
   obtain⟨x10,hx11,h⟩:=Np h
   refine KK aw cf 0 Z 2 Z Z (K2 Z .u (.fn Tryz.call210 Z) (pM a0.MF _ _ _ hx11) (fun _ hs=>(K0 hs hX)) Z (KF aw 1 Z ?_))
   obtain rfl:=Nq h
   exact KI (T.ret (KQ [1] Tryz.results170 (KJ Z)))
  replace c9:=Nx c9
  refine KI (KV Z (bG c9) (KG Z (KF aw 1 Z ?_)))
  obtain rfl:=Nq h
  exact KI (T.ret (KU (KL (KQ [1] Tryz.results170 (KJ Z)))))
 replace c6:=Nx c6
 refine KI (KV Z (bG c6) (KG Z (KF aw 1 Z ?_)))
 obtain rfl:=Nq h
 exact KI (T.ret (KU (KL (KQ [1] Tryz.results170 (KJ Z)))))
def iw (st:List UInt8×Int) (a1:bT):Option (Bool×(List UInt8×Int)):=(gZ a1).bind fun x3=>(ka st x3).bind fun (x5,st6)=>some (x5,st6)
theorem oY (g:Nat) (st:List UInt8×Int) (a1:bT) (A1:Option Addr) (c2:Nat) (r:Bool×(List UInt8×Int)) (h:iw st a1=some r):aH Tryz.prog 153 #[jP g,.iface 30 (.agg (wA11 a1 A1 c2))] (RX.of (aq 2 bc) [.slice A1 a1.MF.length c2] a1.MF) (bB g st) (fun v A' N=>v= .bool r.1∧A'=bB g r.2∧N = []):=by
 refine aU Tryz.func153 Z Tryz.ntmps153 Z ?_
 intro F w hX
 unfold iw at h
 refine KG Z (K8 aw Z Z ?_)
 obtain⟨x3,hx4,h⟩:=Np h
 refine KF aw 2 Z (K2 Z .u (.inv Z (ta _) Tryz.call170 Z) (mz a1 _ _ _ hx4) (fun _ hs=>(K0 hs hX)) Z ?_)
 obtain⟨⟨x5,st6⟩,hx7,h⟩:=Np h
 refine KT 0 Z Z .u (.fn Tryz.call151 Z) (mn g st x3 _ hx7) sT Z Z (KF aw 1 Z ?_)
 obtain rfl:=Nq h
 exact KI (T.ret (KQ [0] Tryz.results153 (KJ Z)))
def jm (st:List UInt8×Int) (a0:bT):Option (List UInt8×Int):=(iw st a0).bind fun (x4,st5)=>if x4=true then some st5 else ((kC st5 a0.MM).bind fun st8=>(d8 st8 a0.MG 8).bind fun st10=>(d8 st10 a0.MJ 2).bind fun st12=>(fk st12 a0.MF).bind fun st14=>some st14)
theorem rq (g:Nat) (st:List UInt8×Int) (a0:bT) (A1:Option Addr) (c2:Nat) (r:List UInt8×Int) (h:jm st a0=some r):aH Tryz.prog 97 #[.agg (wA11 a0 A1 c2),jP g] (RX.of (aq 2 bc) [.slice A1 a0.MF.length c2] a0.MF) (bB g st) (fun v A' N=>v= .tuple #[]∧A'=bB g r∧N = []):=by
 refine aU Tryz.func97 Z Tryz.ntmps97 Z ?_
 intro F w hX
 unfold jm at h
 refine KG Z (TL.box Z .u Z Z (fun b3=>(KI (T.seq (KG Z (KF aw 1 Z (KH Z (KY (us:=wL12 a0 A1 c2) 0 Z Qd O1 Z Z Z) Z (KH Z (Ex.mkI Z OG) Z ?_))))))))
 obtain⟨⟨x4,st5⟩,hx6,h⟩:=Np h
 refine KT 1 Z Z .u (.fn Tryz.call153 Z) (oY g st a0 _ _ _ hx6) (fun _ hs=>(Mb hs hX)) Z Z ?_
 rcases jF h with⟨c7,h⟩ | ⟨c7,h⟩
 ·refine KI (KV Z c7 ?_)
  obtain rfl:=Nq h
  exact T.ret (KL (LQ [1] Tryz.results97 ⟨Z,Z,Z⟩ QJ (.inl Z)))
 replace c7:=Nx c7
 refine KI (Lb Z c7 (Lg Z ?_))
 obtain⟨st8,hx9,h⟩:=Np h
 refine KK aw cf 0 Z 3 Z Z (KT 1 Z Z .u (.fn Tryz.call88 Z) (lG g st5 a0.MM _ hx9) sT Z Z (K7 Z ?_))
 obtain⟨st10,hx11,h⟩:=Np h
 refine KK aw cf 0 Z 3 Z Z (KT 1 Z Z .u (.fn Tryz.call51 Z) (bt g st8 a0.MG 8 _ hx11) sT Z Z (K7 Z ?_))
 obtain⟨st12,hx13,h⟩:=Np h
 refine KK aw cf 0 Z 3 Z Z (KT 1 Z Z .u (.fn Tryz.call51 Z) (bt g st10 a0.MJ 2 _ hx13) sT Z Z (KI (T.region Z ?_)))
 obtain⟨st14,hx15,h⟩:=Np h
 refine KK aw cf 0 Z 3 Z Z (KT 1 Z Z .u (.fn Tryz.call91 Z) (kI g st12 a0.MF _ _ _ hx15) (fun _ hs=>(Mb hs hX)) Z Z ?_)
 obtain rfl:=Nq h
 exact TL.nil (LQ [1] Tryz.results97 ⟨Z,Z,Z⟩ QJ (.inr Z))
def iO (st:List UInt8×Int) (a1:Bool):Option (List UInt8×Int):=(if a1=true then ((tS st 1).bind fun st9=>some st9) else ((tS st 0).bind fun st11=>some st11)).bind fun st6=>some st6
theorem nq (g:Nat) (st:List UInt8×Int) (a1:Bool) (r:List UInt8×Int) (h:iO st a1=some r):aH Tryz.prog 154 #[jP g,.bool a1] .triv (bB g st) (fun v A' N=>v= .tuple #[]∧A'=bB g r∧N = []):=by
 refine aU Tryz.func154 Z Tryz.ntmps154 Z ?_
 intro F w hX
 unfold iO at h
 refine KG Z (KP aw Z ?_)
 obtain⟨st6,h,hk7⟩:=Np h
 refine Lz (fun e Rs=>e = []∧Rs = [bB g st6]) ?_ ?_
 ·clear hk7
  rcases jF h with⟨c8,h⟩ | ⟨c8,h⟩
  ·refine KV Z c8 (T.region Z ?_)
   obtain⟨st9,hx10,h⟩:=Np h
   refine KF aw 1 Z (KT 0 Z Z .u (.fn Tryz.call102 Z) (qk g st 1 _ hx10) sT Z Z ?_)
   cases h
   exact TL.nil (KR [0])
  replace c8:=Nx c8
  refine Lb Z c8 (T.region Z ?_)
  obtain⟨st11,hx12,h⟩:=Np h
  refine KF aw 1 Z (KT 0 Z Z .u (.fn Tryz.call102 Z) (qk g st 0 _ hx12) sT Z Z ?_)
  cases h
  exact TL.nil (KR [0])
 rintro _ _ ⟨rfl,rfl⟩
 clear h
 have h:=hk7
 clear hk7
 obtain rfl:=Nq h
 exact LQ [0] Tryz.results154 ⟨Z,Z,Z⟩ QJ (.inr Z)
def g6 (a0:bR):Option (Int):=(nR a0.MM).bind fun x2=>if x2=true then ((ku a0.MG a0.MJ).bind fun x5=>if x5=true then some 0 else some 11) else some 4
theorem mA (a0:bR) (r:Int) (h:g6 a0=some r):aH Tryz.prog 172 #[.agg (wA13 a0)] .triv (aK) (fun v A' N=>v=jI r∧A'=aK∧N = []):=by
 refine aU Tryz.func172 Z Tryz.ntmps172 Z ?_
 intro F w hX
 unfold g6 at h
 refine KG Z (TL.box Z .u Z Z (fun b1=>(KP aw Z (T.seq (T.block (KG Z ?_))))))
 obtain⟨x2,hx3,h⟩:=Np h
 refine KK aw cf 0 Z 2 Z Z (K2 Z .u (.fn Tryz.call87 Z) (LB (fun w=>mD a0.MM _ hx3 w)) (fun _ _=>Lk _ _) Z (KF aw 2 Z ?_))
 rcases jF h with⟨c4,h⟩ | ⟨c4,h⟩
 ·refine KI (Lb Z (bf c4) (KG Z ?_))
  obtain⟨x5,hx6,h⟩:=Np h
  refine KK aw cf 0 Z 4 Z Z (K2 Z .u (.fn Tryz.call192 Z) (kJ a0.MG a0.MJ _ hx6) rT Z (KF aw 2 Z ?_))
  rcases jF h with⟨c7,h⟩ | ⟨c7,h⟩
  ·refine KI (Lb Z (bf c7) (T.skip (K4 (X.seq (KG Z (KF aw 1 Z ?_))))))
   obtain rfl:=Nq h
   exact KI (T.ret (KQ [1] Tryz.results172 (KJ Z)))
  replace c7:=Nx c7
  refine KI (KV Z (bG c7) (KG Z (KF aw 1 Z ?_)))
  obtain rfl:=Nq h
  exact KI (T.ret (KU (KL (KQ [1] Tryz.results172 (KJ Z)))))
 replace c4:=Nx c4
 refine KI (KV Z (bG c4) (KG Z (KF aw 1 Z ?_)))
 obtain rfl:=Nq h
 exact KI (T.ret (KU (KL (KQ [1] Tryz.results172 (KJ Z)))))
def iy (st:List UInt8×Int) (a1:bR):Option (Bool×(List UInt8×Int)):=(g6 a1).bind fun x1=>(ka st x1).bind fun (x3,st4)=>some (x3,st4)
theorem oZ (g:Nat) (st:List UInt8×Int) (a1:bR) (r:Bool×(List UInt8×Int)) (h:iy st a1=some r):aH Tryz.prog 153 #[jP g,.iface 32 (.agg (wA13 a1))] .triv (bB g st) (fun v A' N=>v= .bool r.1∧A'=bB g r.2∧N = []):=by
 refine aU Tryz.func153 Z Tryz.ntmps153 Z ?_
 intro F w hX
 unfold iy at h
 refine KG Z (K8 aw Z Z ?_)
 obtain⟨x1,hx2,h⟩:=Np h
 refine KF aw 2 Z (K2 Z .u (.inv Z (tb _) Tryz.call172 Z) (mA a1 _ hx2) rT Z ?_)
 obtain⟨⟨x3,st4⟩,hx5,h⟩:=Np h
 refine KT 0 Z Z .u (.fn Tryz.call151 Z) (mn g st x1 _ hx5) sT Z Z (KF aw 1 Z ?_)
 obtain rfl:=Nq h
 exact KI (T.ret (KQ [0] Tryz.results153 (KJ Z)))
def jo (st:List UInt8×Int) (a0:bR):Option (List UInt8×Int):=(iy st a0).bind fun (x2,st3)=>if x2=true then some st3 else ((kC st3 a0.MM).bind fun st6=>(d8 st6 a0.MG 8).bind fun st8=>(d8 st8 a0.MJ 2).bind fun st10=>(iO st10 a0.MZ).bind fun st12=>some st12)
theorem rr (g:Nat) (st:List UInt8×Int) (a0:bR) (r:List UInt8×Int) (h:jo st a0=some r):aH Tryz.prog 98 #[.agg (wA13 a0),jP g] .triv (bB g st) (fun v A' N=>v= .tuple #[]∧A'=bB g r∧N = []):=by
 refine aU Tryz.func98 Z Tryz.ntmps98 Z ?_
 intro F w hX
 unfold jo at h
 refine KG Z (TL.box Z .u Z Z (fun b1=>(KI (T.seq (KG Z (KF aw 1 Z (KH Z (KY (us:=lP a0) 0 Z O6 OC Z Z Z) Z (KH Z (Ex.mkI Z Oy) Z ?_))))))))
 obtain⟨⟨x2,st3⟩,hx4,h⟩:=Np h
 refine KT 1 Z Z .u (.fn Tryz.call153 Z) (oZ g st a0 _ hx4) sT Z Z ?_
 rcases jF h with⟨c5,h⟩ | ⟨c5,h⟩
 ·refine KI (KV Z c5 ?_)
  obtain rfl:=Nq h
  exact T.ret (KL (LQ [1] Tryz.results98 ⟨Z,Z,Z⟩ QJ (.inl Z)))
 replace c5:=Nx c5
 refine KI (Lb Z c5 (Lg Z ?_))
 obtain⟨st6,hx7,h⟩:=Np h
 refine KK aw cf 0 Z 3 Z Z (KT 1 Z Z .u (.fn Tryz.call88 Z) (lG g st3 a0.MM _ hx7) sT Z Z (K7 Z ?_))
 obtain⟨st8,hx9,h⟩:=Np h
 refine KK aw cf 0 Z 3 Z Z (KT 1 Z Z .u (.fn Tryz.call51 Z) (bt g st6 a0.MG 8 _ hx9) sT Z Z (K7 Z ?_))
 obtain⟨st10,hx11,h⟩:=Np h
 refine KK aw cf 0 Z 3 Z Z (KT 1 Z Z .u (.fn Tryz.call51 Z) (bt g st8 a0.MJ 2 _ hx11) sT Z Z (KI (T.region Z ?_)))
 obtain⟨st12,hx13,h⟩:=Np h
 refine KK aw cf 0 Z 3 Z Z (KT 1 Z Z .u (.fn Tryz.call154 Z) (nq g st10 a0.MZ _ hx13) sT Z Z ?_)
 obtain rfl:=Nq h
 exact TL.nil (LQ [1] Tryz.results98 ⟨Z,Z,Z⟩ QJ (.inr Z))
def iz (a0:bb) (a1:Int):Option (Int):=(fP a0 a1).bind fun x1=>some x1
theorem o5 (a0:bb) (ba0:Nat) (a1:Int) (ba1:Nat) (r:Int) (h:iz a0 a1=some r):aH Tryz.prog 169 #[jP ba0,jP ba1] (RX.and (RX.blk ba0 27 #[.bool a0.MM.null,jS a0.MM.data,jI a0.ML,jI a0.MG,jI a0.MJ]) (RX.blk ba1 3 #[jI a1])) (aK) (fun v A' N=>v=jI r∧A'=aK∧N = []):=by
 refine aU Tryz.func169 Z Tryz.ntmps169 Z ?_
 intro F w hX
 unfold iz at h
 refine KG Z (K8 aw Z Z (KH Z (Ex.xbS (us := [.bool a0.MM.null,jS a0.MM.data,jI a0.ML,jI a0.MG,jI a0.MJ]) (Ll hX) Z PE OR Z Z) Z (KH Z (Ex.xb1 (K6 hX) Z Nz Z) Z ?_)))
 obtain⟨x1,hx2,h⟩:=Np h
 refine K2 Z .u (.fn Tryz.call152 Z) (le a0 a1 _ hx2) rT Z (KF aw 1 Z ?_)
 obtain rfl:=Nq h
 exact KI (T.ret (KQ [0] Tryz.results169 (KJ Z)))
def cH (st:I) (a1_0:bb) (a1_1:Int):Option (Bool×I):=(iQ st).bind fun (x1,st2)=>if x1=0 then ((iz a1_0 a1_1).bind fun x5=>if x5=0 then some (true,st2) else ((cj st2 x5).bind fun st8=>some (false,st8))) else some (false,st2)
theorem kK (g:Nat) (st:I) (a1_0:bb) (ba1_0:Nat) (a1_1:Int) (ba1_1:Nat) (r:Bool×I) (h:cH st a1_0 a1_1=some r):aH Tryz.prog 168 #[jP g,.func (.func 169) #[] #[jP ba1_0,jP ba1_1]] (RX.and (RX.blk ba1_0 27 #[.bool a1_0.MM.null,jS a1_0.MM.data,jI a1_0.ML,jI a1_0.MG,jI a1_0.MJ]) (RX.blk ba1_1 3 #[jI a1_1])) (InR g st) (fun v A' N=>v= .bool r.1∧A'=InR g r.2∧N = []):=by
 refine aU Tryz.func168 Z Tryz.ntmps168 Z ?_
 intro F w hX
 unfold cH at h
 refine KG Z (KP aw Z (T.seq (KG Z ?_)))
 obtain⟨⟨x1,st2⟩,hx3,h⟩:=Np h
 refine KF aw 1 Z (KT 0 Z Z .u (.fn Tryz.call23 Z) (cy g st _ hx3) sT Z Z (KF aw 1 Z ?_))
 rcases jF h with⟨c4,h⟩ | ⟨c4,h⟩
 ·refine Lj Z c4 (K3 (T.seq (KG Z ?_)))
  obtain⟨x5,hx6,h⟩:=Np h
  refine KF aw 1 Z (K2 Z .u (.val Z Tryz.call169 Z Z) (o5 a1_0 ba1_0 a1_1 ba1_1 _ hx6) (fun _ hs=>(RX.reads_and (K0 hs (Ll hX)) (K0 hs (K6 hX)))) Z (K8 aw Z Z (KF aw 2 Z ?_)))
  rcases jF h with⟨c7,h⟩ | ⟨c7,h⟩
  ·refine Lj Z c7 (Lg Z (KF aw 1 Z ?_))
   obtain rfl:=Nq h
   exact KI (T.ret (KQ [0] Pi (KJ Z)))
  refine Li Z c7 (KG Z ?_)
  obtain⟨st8,hx9,h⟩:=Np h
  refine KF aw 2 Z (KT 0 Z Z .u (.fn Tryz.call70 Z) (bH g st2 x5 _ hx9) sT Z Z (K7 Z (KF aw 1 Z ?_)))
  obtain rfl:=Nq h
  exact KI (T.ret (KL (KQ [0] Pi (KJ Z))))
 refine Li Z c4 (KG Z (KF aw 1 Z ?_))
 obtain rfl:=Nq h
 exact KI (T.ret (KL (KQ [0] Pi (KJ Z))))
def eH (st:I) (a1:Int):Option (bb×I):=(lk st 2).bind fun (x3,st4)=>(ed st4 4).bind fun (x6,st7)=>(if a1>0 then ((ed st7 8).bind fun (x22,st23)=>(ed st23 2).bind fun (x25,st26)=>some (x22,x25,st26)) else ((some (-1,-1,st7):Option (Int×Int×I)))).bind fun (y17,y18,st19)=>(cH st19 (⟨x3,x6,y17,y18⟩:bb) a1).bind fun (x28,st29)=>if x28=true then (some ((⟨x3,x6,y17,y18⟩:bb),st29)) else (some ((⟨(⟨false,[]⟩:Bl),0,0,0⟩:bb),st29))
theorem qx (g:Nat) (st:I) (a1:Int) (r:bb×I) (h:eH st a1=some r):aH Tryz.prog 116 #[jP g,jI a1] .triv (InR g st) (fun v A' N=>v= .agg #[.bool r.1.MM.null,jS r.1.MM.data,jI r.1.ML,jI r.1.MG,jI r.1.MJ]∧A'=InR g r.2∧N = []):=by
 refine aU Tryz.func116 Z Tryz.ntmps116 Z ?_
 intro F w hX
 unfold eH at h
 refine KG Z (TL.box Z .u Z Z (fun b1=>(TL.alloc Z .u Tryz.zeroValue27 Z (fun b2=>(K7 Z ?_)))))
 obtain⟨⟨x3,st4⟩,hx5,h⟩:=Np h
 refine KF aw 1 Z (KT 2 Z Z .u (.fn Tryz.call142 Z) (kg g st 2 _ hx5) sT Z Z ?_)
 obtain⟨⟨x6,st7⟩,hx8,h⟩:=Np h
 refine KF aw 1 Z (KT 2 Z Z .u (.fn Tryz.call68 Z) (bx g st4 4 _ hx8) sT Z Z ?_)
 refine KH Z (Ld (cells:= #[.bool x3.null,jS x3.data,jI x6,jI (-1),jI (-1)]) xi Z QI) Z ?_
 refine TL.alloc Z .u Tryz.zeroValue27 Z (fun b9=>(KW 0 Z (cs':= #[.bool x3.null,jS x3.data,jI x6,jI (-1),jI (-1)]) Z .u Z Z OR Z Z Z Z Z (KI (T.seq (KG Z (LT aw cf 2 Z Z Z ?_))))))
 obtain⟨⟨y17,y18,st19⟩,h,hk20⟩:=Np h
 refine Lz (fun e Rs=>e = [(0,jP g),(3,jP b1),(4,jP b2),(5,jP b9)]∧Rs = [aW b9 27 (vA1 x6 y17 y18 x3),aW b2 27 vA2,aW b1 3 #[jI a1],InR g st19]) ?_ ?_
 ·clear hk20
  rcases jF h with⟨c21,h⟩ | ⟨c21,h⟩
  ·refine LU Z c21 (T.region Z ?_)
   obtain⟨⟨x22,st23⟩,hx24,h⟩:=Np h
   refine KF aw 1 Z (KT 3 Z Z .u (.fn Tryz.call68 Z) (bx g st7 8 _ hx24) sT Z Z ?_)
   obtain⟨⟨x25,st26⟩,hx27,h⟩:=Np h
   refine KF aw 1 Z (KT 3 Z Z .u (.fn Tryz.call68 Z) (bx g st23 2 _ hx27) sT Z Z (KF aw 1 Z (KW 0 Z (cs':= #[.bool x3.null,jS x3.data,jI x6,jI x22,jI (-1)]) Z .u Z Z Ny Z Z Z Z Z (KF aw 1 Z (KW 0 Z (cs':=vA1 x6 x22 x25 x3) Z .u Z Z Ny Z Z Z Z Z ?_)))))
   cases h
   exact TL.nil (KR [0,0,0,0])
  refine LX Z c21 ?_
  cases h
  exact T.skip (KR [0,0,0,0])
 rintro _ _ ⟨rfl,rfl⟩
 clear h
 have h:=hk20
 clear hk20
 refine X.seq (T.seq (KG Z (KF aw 1 Z (KH Z (Ex.mkF Z Z (fun _=>Z)) Z ?_))))
 obtain⟨⟨x28,st29⟩,hx30,h⟩:=Np h
 refine KT 3 Z Z .u (.fn Tryz.call168 Z) (kK g st19 (⟨x3,x6,y17,y18⟩:bb) b9 a1 b1 _ hx30) (fun _ hs=>(Src.and (Src.res 0 Z zm) (Src.res 2 Z zm))) Z Z (KF aw 1 Z ?_)
 rcases jF h with⟨c31,h⟩ | ⟨c31,h⟩
 ·refine KI (Lb Z (bf c31) (Lg Z (KH Z (KY (us := [.bool x3.null,jS x3.data,jI x6,jI y17,jI y18]) 0 Z PE OR Z Z Z) Z (KW 1 Z (cs':=vA1 x6 y17 y18 x3) Z .u Z Z OR Z Z Z Z Z ?_))))
  obtain rfl:=Nq h
  exact KI (T.ret (KQ [3] Tryz.results116 (Ly (us:=vA1 x6 y17 y18 x3) 1 Z PE OR Z Z)))
 replace c31:=Nx c31
 refine KI (KV Z (bG c31) (KG Z ?_))
 refine KH Z (Ld (cells:=vA2) xi Z QI) Z ?_
 refine KW 1 Z (cs':=vA2) Z .u Z Z OR Z Z Z Z Z ?_
 obtain rfl:=Nq h
 exact KI (T.ret (KL (KQ [3] Tryz.results116 (Ly (us:=vA2) 1 Z PE OR Z Z))))
def cW (st:I) (a1_0:bT):Option (Bool×I):=(iQ st).bind fun (x3,st4)=>if x3=0 then ((gZ a1_0).bind fun x7=>if x7=0 then some (true,st4) else ((cj st4 x7).bind fun st10=>some (false,st10))) else some (false,st4)
theorem lx (g:Nat) (st:I) (a1_0:bT) (A1:Option Addr) (c2:Nat) (r:Bool×I) (h:cW st a1_0=some r):aH Tryz.prog 168 #[jP g,.func (.func 170) #[.agg (wA11 a1_0 A1 c2)] #[]] (RX.of (aq 2 bc) [.slice A1 a1_0.MF.length c2] a1_0.MF) (InR g st) (fun v A' N=>v= .bool r.1∧A'=InR g r.2∧N = []):=by
 refine aU Tryz.func168 Z Tryz.ntmps168 Z ?_
 intro F w hX
 unfold cW at h
 refine KG Z (KP aw Z (T.seq (KG Z ?_)))
 obtain⟨⟨x3,st4⟩,hx5,h⟩:=Np h
 refine KF aw 1 Z (KT 0 Z Z .u (.fn Tryz.call23 Z) (cy g st _ hx5) sT Z Z (KF aw 1 Z ?_))
 rcases jF h with⟨c6,h⟩ | ⟨c6,h⟩
 ·refine Lj Z c6 (K3 (T.seq (KG Z ?_)))
  obtain⟨x7,hx8,h⟩:=Np h
  refine KF aw 1 Z (K2 Z .u (.val Z Tryz.call170 Z Z) (mz a1_0 _ _ _ hx8) (fun _ hs=>(K0 hs hX)) Z (K8 aw Z Z (KF aw 2 Z ?_)))
  rcases jF h with⟨c9,h⟩ | ⟨c9,h⟩
  ·refine Lj Z c9 (Lg Z (KF aw 1 Z ?_))
   obtain rfl:=Nq h
   exact KI (T.ret (KQ [0] Pi (KJ Z)))
  refine Li Z c9 (KG Z ?_)
  obtain⟨st10,hx11,h⟩:=Np h
  refine KF aw 2 Z (KT 0 Z Z .u (.fn Tryz.call70 Z) (bH g st4 x7 _ hx11) sT Z Z (K7 Z (KF aw 1 Z ?_)))
  obtain rfl:=Nq h
  exact KI (T.ret (KL (KQ [0] Pi (KJ Z))))
 refine Li Z c6 (KG Z (KF aw 1 Z ?_))
 obtain rfl:=Nq h
 exact KI (T.ret (KL (KQ [0] Pi (KJ Z))))
def lH (st:I)  : Option (bT×I):=(sO st).bind fun (x2,st3)=>(ed st3 8).bind fun (x5,st6)=>(ed st6 2).bind fun (x8,st9)=>(dU st9).bind fun (x12,st15)=>(cW st15 (⟨x2,x5,x8,x12⟩:bT)).bind fun (x17,st18)=>if x17=true then (some ((⟨x2,x5,x8,x12⟩:bT),st18)) else (some ((⟨[],0,0,[]⟩:bT),st18))
theorem sa (g:Nat) (st:I)  (r:bT×I) (h:lH st  = some r):aH Tryz.prog 117 #[jP g] .triv (InR g st) (fun v A' N=> ∃ (A21:Option Addr) (c22:Nat),v= .agg #[jS r.1.MM,jI r.1.MG,jI r.1.MJ,.slice A21 r.1.MF.length c22]∧A'=InR g r.2∧N = [RdR (aq 2 bc) [.slice A21 r.1.MF.length c22] r.1.MF]):=by
 refine aU Tryz.func117 Z Tryz.ntmps117 Z ?_
 intro F w hX
 unfold lH at h
 refine KG Z (TL.alloc Z .u Tryz.zeroValue30 Z (fun b1=>(K7 Z ?_)))
 obtain⟨⟨x2,st3⟩,hx4,h⟩:=Np h
 refine KF aw 1 Z (KT 1 Z Z .u (.fn Tryz.call86 Z) (pm g st _ hx4) sT Z Z ?_)
 obtain⟨⟨x5,st6⟩,hx7,h⟩:=Np h
 refine KF aw 1 Z (KT 1 Z Z .u (.fn Tryz.call68 Z) (bx g st3 8 _ hx7) sT Z Z ?_)
 obtain⟨⟨x8,st9⟩,hx10,h⟩:=Np h
 refine KF aw 1 Z (KT 1 Z Z .u (.fn Tryz.call68 Z) (bx g st6 2 _ hx10) sT Z Z ?_)
 refine KH Z (Ld (cells:= #[jS x2,jI x5,jI x8,.slice none 0 0]) xj Z QI) Z ?_
 refine TL.alloc Z .u Tryz.zeroValue30 Z (fun b11=>(KW 0 Z (cs':= #[jS x2,jI x5,jI x8,.slice none 0 0]) Z .u Z Z O1 Z Z Z Z Z (K7 Z ?_)))
 obtain⟨⟨x12,st15⟩,hx16,h⟩:=Np h
 refine KF aw 1 Z (TL.cg2 Z .u (.fn Tryz.call89 Z) (my g st9 _ hx16) sT Z ?_)
 rintro _ _ _ ⟨A13,c14,rfl,rfl,rfl⟩
 refine Lt [0,0,0,0] Z (KF aw 1 Z (KW 1 Z (cs':= #[jS x2,jI x5,jI x8,.slice A13 x12.length c14]) Z .u Z Z Pq Z Z Z Z Z (KI (T.seq (KG Z (KF aw 1 Z (KH Z (KY (us := [jS x2,jI x5,jI x8,.slice A13 x12.length c14]) 1 Z Qd O1 Z Z Z) Z (KH Z (Ex.mkF Z Z (fun _=>Z)) Z ?_))))))))
 obtain⟨⟨x17,st18⟩,hx19,h⟩:=Np h
 refine KT 3 Z Z .u (.fn Tryz.call168 Z) (lx g st15 (⟨x2,x5,x8,x12⟩:bT) _ _ _ hx19) (fun _ hs=>(Src.res 0 Z (fun w G h=>mZ w G h))) Z Z (KF aw 1 Z ?_)
 rcases jF h with⟨c20,h⟩ | ⟨c20,h⟩
 ·refine KI (Lb Z (bf c20) (Lg Z (KH Z (KY (us := [jS x2,jI x5,jI x8,.slice A13 x12.length c14]) 1 Z Qd O1 Z Z Z) Z (KW 2 Z (cs':= #[jS x2,jI x5,jI x8,.slice A13 x12.length c14]) Z .u Z Z O1 Z Z Z Z Z ?_))))
  obtain rfl:=Nq h
  exact KI (T.ret (Le [3,0] Tryz.results117 (Ly (us:= #[jS x2,jI x5,jI x8,.slice A13 x12.length c14]) 2 Z Qd O1 Z Z) ⟨_,_,Z,Z,Z⟩ QJ (.inl Z)))
 replace c20:=Nx c20
 refine KI (KV Z (bG c20) (KG Z ?_))
 refine KH Z (Ld (cells:=vA3) xj Z QI) Z ?_
 refine KW 2 Z (cs':=vA3) Z .u Z Z O1 Z Z Z Z Z ?_
 obtain rfl:=Nq h
 exact KI (T.ret (KL (Lc 2 bc (Le [4,0] Tryz.results117 (Ly (us:=vA3) 3 Z Qd O1 Z Z) ⟨_,_,Z,Z,Z⟩ QJ (.inl Z)))))
def gM (st:I)  : Option (Bool×I):=(ed st 1).bind fun (x1,st2)=>(if x1=0 then some false else (if x1=1 then some false else some true)).bind fun y5=>(if y5=true then ((cj st2 11).bind fun st15=>some st15) else some st2).bind fun st12=>if x1=1 then some (true,st12) else some (false,st12)
theorem pN (g:Nat) (st:I)  (r:Bool×I) (h:gM st  = some r):aH Tryz.prog 171 #[jP g] .triv (InR g st) (fun v A' N=>v= .bool r.1∧A'=InR g r.2∧N = []):=by
 refine aU Tryz.func171 Z Tryz.ntmps171 Z ?_
 intro F w hX
 unfold gM at h
 refine KG Z (K8 aw Z Z ?_)
 obtain⟨⟨x1,st2⟩,hx3,h⟩:=Np h
 refine KF aw 1 Z (KT 0 Z Z .u (.fn Tryz.call68 Z) (bx g st 1 _ hx3) sT Z Z (KP aw Z (L3 ?_)))
 obtain⟨y5,h,hk6⟩:=Np h
 refine Lz (fun e Rs=>e = [(0,jP g),(2,.bool false),(3,jI x1),(11,.bool y5)]∧Rs = [InR g st2]) ?_ ?_
 ·clear hk6
  refine T.region Z ?_
  rcases jF h with⟨c7,h⟩ | ⟨c7,h⟩
  ·refine KF aw 3 Z (KN 8 Z (bf (Nt c7)) (KM aw 3 Z ?_))
   cases h
   exact TL.nil (KR [0])
  refine KF aw 3 Z (KN 8 Z (bG (Nu c7)) (KM aw 3 Z ?_))
  rcases jF h with⟨c8,h⟩ | ⟨c8,h⟩
  ·cases h
   exact TL.nil (LE (d:=11) (v':= .bool false) Z (congrArg Value.bool (bf (Nt c8))) (KR [0]))
  cases h
  exact TL.nil (LE (d:=11) (v':= .bool true) Z (congrArg Value.bool (bG (Nu c8))) (KR [0]))
 rintro _ _ ⟨rfl,rfl⟩
 clear h
 have h:=hk6
 clear hk6
 refine X.seq ?_
 obtain⟨st12,h,hk13⟩:=Np h
 refine Lz (fun e Rs=>e = [(2,.bool false),(3,jI x1)]∧Rs = [InR g st12]) ?_ ?_
 ·clear hk13
  rcases jF h with⟨c14,h⟩ | ⟨c14,h⟩
  ·refine KV Z c14 (T.region Z ?_)
   obtain⟨st15,hx16,h⟩:=Np h
   refine KF aw 1 Z (KT 0 Z Z .u (.fn Tryz.call70 Z) (bH g st2 11 _ hx16) sT Z Z ?_)
   cases h
   exact TL.nil (KR [0])
  replace c14:=Nx c14
  refine Lb Z c14 ?_
  cases h
  exact T.skip (KR [0])
 rintro _ _ ⟨rfl,rfl⟩
 clear h
 have h:=hk13
 clear hk13
 refine X.seq (KG Z (KF aw 3 Z ?_))
 rcases jF h with⟨c17,h⟩ | ⟨c17,h⟩
 ·obtain rfl:=Nq h
  exact KI (T.ret (Le [0] Tryz.results171 (KJ (v:= .bool true) (congrArg (fun b=>some (Value.bool b)) (Nt c17))) ⟨Z,Z,Z⟩ QJ (.inl Z)))
 obtain rfl:=Nq h
 exact KI (T.ret (Le [0] Tryz.results171 (KJ (v:= .bool false) (congrArg (fun b=>some (Value.bool b)) (Nu c17))) ⟨Z,Z,Z⟩ QJ (.inl Z)))
def cX (st:I) (a1_0:bR):Option (Bool×I):=(iQ st).bind fun (x1,st2)=>if x1=0 then ((g6 a1_0).bind fun x5=>if x5=0 then some (true,st2) else ((cj st2 x5).bind fun st8=>some (false,st8))) else some (false,st2)
theorem ly (g:Nat) (st:I) (a1_0:bR) (r:Bool×I) (h:cX st a1_0=some r):aH Tryz.prog 168 #[jP g,.func (.func 172) #[.agg (wA13 a1_0)] #[]] .triv (InR g st) (fun v A' N=>v= .bool r.1∧A'=InR g r.2∧N = []):=by
 refine aU Tryz.func168 Z Tryz.ntmps168 Z ?_
 intro F w hX
 unfold cX at h
 refine KG Z (KP aw Z (T.seq (KG Z ?_)))
 obtain⟨⟨x1,st2⟩,hx3,h⟩:=Np h
 refine KF aw 1 Z (KT 0 Z Z .u (.fn Tryz.call23 Z) (cy g st _ hx3) sT Z Z (KF aw 1 Z ?_))
 rcases jF h with⟨c4,h⟩ | ⟨c4,h⟩
 ·refine Lj Z c4 (K3 (T.seq (KG Z ?_)))
  obtain⟨x5,hx6,h⟩:=Np h
  refine KF aw 1 Z (K2 Z .u (.val Z Tryz.call172 Z Z) (mA a1_0 _ hx6) rT Z (K8 aw Z Z (KF aw 2 Z ?_)))
  rcases jF h with⟨c7,h⟩ | ⟨c7,h⟩
  ·refine Lj Z c7 (Lg Z (KF aw 1 Z ?_))
   obtain rfl:=Nq h
   exact KI (T.ret (KQ [0] Pi (KJ Z)))
  refine Li Z c7 (KG Z ?_)
  obtain⟨st8,hx9,h⟩:=Np h
  refine KF aw 2 Z (KT 0 Z Z .u (.fn Tryz.call70 Z) (bH g st2 x5 _ hx9) sT Z Z (K7 Z (KF aw 1 Z ?_)))
  obtain rfl:=Nq h
  exact KI (T.ret (KL (KQ [0] Pi (KJ Z))))
 refine Li Z c4 (KG Z (KF aw 1 Z ?_))
 obtain rfl:=Nq h
 exact KI (T.ret (KL (KQ [0] Pi (KJ Z))))
def lI (st:I)  : Option (bR×I):=(sO st).bind fun (x2,st3)=>(ed st3 8).bind fun (x5,st6)=>(ed st6 2).bind fun (x8,st9)=>(gM st9).bind fun (x12,st13)=>(cX st13 (⟨x2,x5,x8,x12⟩:bR)).bind fun (x15,st16)=>if x15=true then (some ((⟨x2,x5,x8,x12⟩:bR),st16)) else (some ((⟨[],0,0,false⟩:bR),st16))
theorem sb (g:Nat) (st:I)  (r:bR×I) (h:lI st  = some r):aH Tryz.prog 118 #[jP g] .triv (InR g st) (fun v A' N=>v= .agg #[jS r.1.MM,jI r.1.MG,jI r.1.MJ,.bool r.1.MZ]∧A'=InR g r.2∧N = []):=by
 refine aU Tryz.func118 Z Tryz.ntmps118 Z ?_
 intro F w hX
 unfold lI at h
 refine KG Z (TL.alloc Z .u Tryz.zeroValue32 Z (fun b1=>(K7 Z ?_)))
 obtain⟨⟨x2,st3⟩,hx4,h⟩:=Np h
 refine KF aw 1 Z (KT 1 Z Z .u (.fn Tryz.call86 Z) (pm g st _ hx4) sT Z Z ?_)
 obtain⟨⟨x5,st6⟩,hx7,h⟩:=Np h
 refine KF aw 1 Z (KT 1 Z Z .u (.fn Tryz.call68 Z) (bx g st3 8 _ hx7) sT Z Z ?_)
 obtain⟨⟨x8,st9⟩,hx10,h⟩:=Np h
 refine KF aw 1 Z (KT 1 Z Z .u (.fn Tryz.call68 Z) (bx g st6 2 _ hx10) sT Z Z ?_)
 refine KH Z (Ld (cells:= #[jS x2,jI x5,jI x8,.bool false]) xk Z QI) Z ?_
 refine TL.alloc Z .u Tryz.zeroValue32 Z (fun b11=>(KW 0 Z (cs':= #[jS x2,jI x5,jI x8,.bool false]) Z .u Z Z OC Z Z Z Z Z (K7 Z ?_)))
 obtain⟨⟨x12,st13⟩,hx14,h⟩:=Np h
 refine KF aw 1 Z (KT 2 Z Z .u (.fn Tryz.call171 Z) (pN g st9 _ hx14) sT Z Z (KF aw 1 Z (KW 0 Z (cs':= #[jS x2,jI x5,jI x8,.bool x12]) Z .u Z Z N5 Z Z Z Z Z (KI (T.seq (KG Z (KF aw 1 Z (KH Z (KY (us := [jS x2,jI x5,jI x8,.bool x12]) 0 Z O6 OC Z Z Z) Z (KH Z (Ex.mkF Z Z (fun _=>Z)) Z ?_)))))))))
 obtain⟨⟨x15,st16⟩,hx17,h⟩:=Np h
 refine KT 2 Z Z .u (.fn Tryz.call168 Z) (ly g st13 (⟨x2,x5,x8,x12⟩:bR) _ hx17) sT Z Z (KF aw 1 Z ?_)
 rcases jF h with⟨c18,h⟩ | ⟨c18,h⟩
 ·refine KI (Lb Z (bf c18) (Lg Z (KH Z (KY (us := [jS x2,jI x5,jI x8,.bool x12]) 0 Z O6 OC Z Z Z) Z (KW 1 Z (cs':= #[jS x2,jI x5,jI x8,.bool x12]) Z .u Z Z OC Z Z Z Z Z ?_))))
  obtain rfl:=Nq h
  exact KI (T.ret (Le [2] Tryz.results118 (Ly (us:= #[jS x2,jI x5,jI x8,.bool x12]) 1 Z O6 OC Z Z) ⟨Z,Z,Z⟩ QJ (.inl Z)))
 replace c18:=Nx c18
 refine KI (KV Z (bG c18) (KG Z ?_))
 refine KH Z (Ld (cells:=vA4) xk Z QI) Z ?_
 refine KW 1 Z (cs':=vA4) Z .u Z Z OC Z Z Z Z Z ?_
 obtain rfl:=Nq h
 exact KI (T.ret (KL (KQ [2] Tryz.results118 (Ly (us:=vA4) 1 Z O6 OC Z Z))))
def JX:fg := [(173,0,0),(173,1,1),(173,2,2),(173,3,3),(173,4,4)]
theorem aP:(JX).OK Tryz.prog:=⟨FOK.mk O5 rfl Ny rfl,FOK.mk O5 rfl Ny rfl,FOK.mk O5 rfl N5 rfl,FOK.mk O5 rfl Pq rfl,FOK.mk O5 rfl Ny rfl,trivial⟩
def JY:List Nat := [3,4,28]
theorem fU:NOK Tryz.prog JY:=⟨Nz,Ok,OZ,trivial⟩
theorem AH:BOK Tryz.prog 173 #[.int .i64 0,.int .i64 0,.bool false,.slice none 0 0,.int .i64 0] [(0,1),(1,1),(2,1),(3,1),(4,1)]:=BOK.mk Tryz.zeroValue173 O5 (by intro w; simp)
theorem yT:SOK Tryz.prog 33 173 1 5 #[.int .i64 0,.int .i64 0,.bool false,.slice none 0 0,.int .i64 0]:=SOK.mk Of OA Tryz.zeroValue173 QH QI
theorem AJ:(Tryz.prog.info? 173).map (fun i=>(i.zero,i.size,i.bytes))=some (some (.agg #[.int .i64 0,.int .i64 0,.bool false,.slice none 0 0,.int .i64 0]),5,56):=by kernel_rfl
def g7 (a0:aQ) (a1:Int):Option (Int):=((ku a0.MG a0.MJ).bind fun x14=>if x14=true then (if a0.MT<0 then some true else ((jM a0.MT 4).bind fun x18=>if x18=true then (if a1=0 then (if a0.MT>0 then some true else some false) else some false) else some true)) else some true).bind fun y12=>if y12=true then some 11 else ((lw a0.MF).bind fun x24=>some x24)
theorem pX (a0:aQ) (A1:Option Addr) (c2:Nat) (a1:Int) (r:Int) (h:g7 a0 a1=some r):aH Tryz.prog 193 #[.agg #[jI a0.MG,jI a0.MJ,.bool a0.MZ,.slice A1 a0.MF.length c2,jI a0.MT],jI a1] (RX.of (aq 2 bc) [.slice A1 a0.MF.length c2] a0.MF) (aK) (fun v A' N=>v=jI r∧A'=aK∧N = []):=by
 refine aU Tryz.func193 Z Tryz.ntmps193 Z ?_
 intro F w hX
 unfold g7 at h
 refine KG Z (TL.box Z .u Z Z (fun b3=>(KP aP Z (L3 ?_))))
 obtain⟨y12,h,hk13⟩:=Np h
 refine Lz (fun e Rs=>e = [(2,jP b3),(4,jI 0),(30,.bool y12)]∧Rs = [aW b3 173 #[jI a0.MG,jI a0.MJ,.bool a0.MZ,.slice A1 a0.MF.length c2,jI a0.MT],aK]) ?_ ?_
 ·clear hk13
  refine T.region Z ?_
  obtain⟨x14,hx15,h⟩:=Np h
  refine KK aP fU 0 Z 4 Z Z (K2 Z .u (.fn Tryz.call192 Z) (kJ a0.MG a0.MJ _ hx15) rT Z ?_)
  rcases jF h with⟨c16,h⟩ | ⟨c16,h⟩
  ·refine KF aP 2 Z (KN 11 Z (bf c16) ?_)
   rcases jF h with⟨c17,h⟩ | ⟨c17,h⟩
   ·refine KK aP fU 0 Z 5 Z Z (KN 16 Z (Nt c17) (KM aP 14 Z ?_))
    cases h
    exact TL.nil (KR [0,0])
   refine KK aP fU 0 Z 5 Z Z (KN 16 Z (Nu c17) ?_)
   obtain⟨x18,hx19,h⟩:=Np h
   refine KK aP fU 0 Z 2 Z Z (K2 Z (.g Z Z Z) (.fn Tryz.call101 Z) (LB (fun w=>dF a0.MT 4 _ hx19 w)) (fun _ _=>Lk _ _) Z ?_)
   rcases jF h with⟨c20,h⟩ | ⟨c20,h⟩
   ·refine KM aP 3 Z (KN 22 Z (bf c20) ?_)
    rcases jF h with⟨c21,h⟩ | ⟨c21,h⟩
    ·refine KM aP 3 Z (KN 25 Z (Nt c21) (KK aP fU 0 Z 5 Z Z ?_))
     rcases jF h with⟨c22,h⟩ | ⟨c22,h⟩
     ·cases h
      exact TL.nil (LE (d:=30) (v':= .bool true) Z (congrArg Value.bool (Nt c22)) (KR [0,0]))
     cases h
     exact TL.nil (LE (d:=30) (v':= .bool false) Z (congrArg Value.bool (Nu c22)) (KR [0,0]))
    refine KM aP 3 Z (KN 25 Z (Nu c21) (KM aP 5 Z ?_))
    cases h
    exact TL.nil (KR [0,0])
   replace c20:=Nx c20
   refine KM aP 3 Z (KN 22 Z (bG c20) (KM aP 8 Z ?_))
   cases h
   exact TL.nil (KR [0,0])
  replace c16:=Nx c16
  refine KF aP 2 Z (KN 11 Z (bG c16) (KM aP 19 Z ?_))
  cases h
  exact TL.nil (KR [0,0])
 rintro _ _ ⟨rfl,rfl⟩
 clear h
 have h:=hk13
 clear hk13
 try dsimp only at h
 rcases jF h with⟨c23,h⟩ | ⟨c23,h⟩
 ·refine X.seq (KV Z c23 (KG Z (KF aP 1 Z ?_)))
  obtain rfl:=Nq h
  exact KI (T.ret (KL (KQ [1] Tryz.results193 (KJ Z))))
 replace c23:=Nx c23
 refine X.seq (Lb Z c23 (Lg Z ?_))
 obtain⟨x24,hx25,h⟩:=Np h
 refine KK aP fU 0 Z 2 Z Z (K2 Z .u (.fn Tryz.call210 Z) (pM a0.MF _ _ _ hx25) (fun _ hs=>(K0 hs hX)) Z (KF aP 1 Z ?_))
 obtain rfl:=Nq h
 exact KI (T.ret (KQ [1] Tryz.results193 (KJ Z)))
def fv (a1:Int):List aQ→Int→Option (Lp Int Int)
 | [],y4=>some (Lp.go y4)
 | x10::xs,y4=>(g7 x10 a1).bind fun x18=>if x18=0 then (fv a1 xs y4) else some (Lp.ret x18)
def jC (a0:List aQ) (a1:Int):Option (Int):=if (a0.length:Int)=0 then some 10 else ((fv a1 a0 0).bind fun e=>match e with | .ret r=>some r | .go y21=>some 0)
theorem nZ (a0:List aQ) (A1:Option Addr) (c2:Nat) (a1:Int) (r:Int) (h:jC a0 a1=some r):aH Tryz.prog 155 #[.slice A1 a0.length c2,jI a1] (RX.of (aq 5 aY) [.slice A1 a0.length c2] a0) (aK) (fun v A' N=>v=jI r∧A'=aK∧N = []):=by
 refine aU Tryz.func155 Z Tryz.ntmps155 Z ?_
 intro F w hX
 unfold jC at h
 refine KG Z (KP aP Z (T.seq (KG Z (KF aP 1 Z (KH Z (KX Z Of) Z (KF aP 1 Z ?_))))))
 rcases jF h with⟨c3,h⟩ | ⟨c3,h⟩
 ·refine La Z c3 (KG Z (KF aP 1 Z ?_))
  obtain rfl:=Nq h
  exact KI (T.ret (KL (KQ [0] Tryz.results155 (KJ Z))))
 refine K9 Z c3 (K3 (T.seq (KG Z (KF aP 1 Z (KH Z (KX Z Of) Z (KP aP Z (T.block ?_)))))))
 obtain⟨E6,hE7,hO8⟩:=Np h
 have hk12len:=LA hX
 refine Lv (fun m e Rs=> ∃ (y4:Int) (k5:Nat),k5+m=a0.length∧e = [(1,jI a1),(4,jI y4),(11,.slice A1 a0.length c2),(12,jI (a0.length:Int)),(13,jI (k5:Int))]∧Rs = [aK]∧fv a1 (a0.drop k5) y4=some E6) (a0.length) [0] ⟨0,0,by simp,Z,Z,by rw[List.drop_zero]; exact hE7⟩ QJ QJ ?_
 clear hE7 h
 rintro m9 _ _ ⟨y4,k5,hk12,rfl,rfl,h⟩
 cases m9 with
 | zero =>
  rw[List.drop_of_length_le QG,fv] at h
  have hk12ge: ¬ ((k5:Int)<(a0.length:Int)):=by omega
  refine KG Z (KP aP Z (T.seq (Lb Z (Nu hk12ge) ?_)))
  obtain rfl:=Nq h
  replace h:=hO8
  clear hO8
  refine T.exit (KZ (KZ (Lu (X.seq (KG Z (KF aP 1 Z ?_))))))
  obtain rfl:=Nq h
  exact KI (T.ret (KQ [0] Tryz.results155 (KJ Z)))
 | succ m9 =>
  obtain⟨x10,hxx10⟩: ∃ x,a0[k5]? = some x:=⟨_,List.getElem?_eq_getElem QG⟩
  rw[bJ hxx10,fv] at h
  have hk12lt:(k5:Int)<(a0.length:Int):=by omega
  refine KG Z (KP aP Z (T.seq (KV Z (Nt hk12lt) ?_)))
  obtain⟨gz13,oz13,rfl,z13cs,z13cl,z13cc,z13nf,z13r⟩:=Lf QH hX hxx10
  obtain⟨z13S,z13r,z13rr⟩:=z13r
  obtain⟨A14,c15,rfl,z13s0⟩:=z13r
  have hX16:(RX.of (aq 2 bc) [.slice A14 x10.MF.length c15] x10.MF).reads w F:=⟨z13S,z13s0,z13rr⟩
  refine K3 (T.seq (T.block (KG Z ?_)))
  refine KH Z (K1 (k:=k5) Z Z Z Of OA (Nw hxx10).1) Z ?_
  refine KH Z (LI (us := [jI x10.MG,jI x10.MJ,.bool x10.MZ,.slice A14 x10.MF.length c15,jI x10.MT]) 0 Z PF OA z13nf z13cc Z Z Z) Z (TL.alloc Z .u Tryz.zeroValue173 Z (fun b17=>(KW 0 Z (cs':= #[jI x10.MG,jI x10.MJ,.bool x10.MZ,.slice A14 x10.MF.length c15,jI x10.MT]) Z .u Z Z OA Z Z Z Z Z (K7 Z (KH Z (KY (us := [jI x10.MG,jI x10.MJ,.bool x10.MZ,.slice A14 x10.MF.length c15,jI x10.MT]) 0 Z PF OA Z Z Z) Z ?_)))))
  obtain⟨x18,hx19,h⟩:=Np h
  refine KF aP 1 Z (K2 Z .u (.fn Tryz.call193 Z) (pX x10 _ _ a1 _ hx19) (fun _ hs=>(K0 hs hX16)) Z (K8 aP Z Z (KF aP 2 Z ?_)))
  rcases jF h with⟨c20,h⟩ | ⟨c20,h⟩
  ·exact Lj Z c20 (T.skip (K4 (X.seq (T.region Z (KH Z (Ex.add Z Z QG) Z (KF aP 1 Z (TL.nil (X.back (m':=m9) [1] QG ⟨y4,k5+1,by omega,Z,Z,h⟩ QJ QJ))))))))
  refine Li Z c20 (KG Z (KF aP 2 Z ?_))
  obtain rfl:=Nq h
  obtain rfl:=Nq hO8
  exact KI (T.ret (KU (KL (KL (KU (KL (KQ [1] Tryz.results155 (KJ Z))))))))
def eI (a2:Int):List aQ→(List UInt8×Int)→Option (List UInt8×Int)
 | [],st9=>some st9
 | x14::xs,st9=>(d8 st9 x14.MG 8).bind fun st22=>(d8 st22 x14.MJ 2).bind fun st24=>(iO st24 x14.MZ).bind fun st26=>(fk st26 x14.MF).bind fun st28=>(if a2>0 then ((d8 st28 x14.MT 4).bind fun st36=>some st36) else some st28).bind fun st33=>eI a2 xs st33
def jD (st:List UInt8×Int) (a1:List aQ) (a2:Int):Option (List UInt8×Int):=(jC a1 a2).bind fun x3=>if x3=0 then ((d8 st (a1.length:Int) 4).bind fun st6=>(eI a2 a1 st6).bind fun st39=>some st39) else ((li st x3).bind fun st40=>some st40)
theorem tc (g:Nat) (st:List UInt8×Int) (a1:List aQ) (A1:Option Addr) (c2:Nat) (a2:Int) (r:List UInt8×Int) (h:jD st a1 a2=some r):aH Tryz.prog 99 #[jP g,.slice A1 a1.length c2,jI a2] (RX.of (aq 5 aY) [.slice A1 a1.length c2] a1) (bB g st) (fun v A' N=>v= .tuple #[]∧A'=bB g r∧N = []):=by
 refine aU Tryz.func99 Z Tryz.ntmps99 Z ?_
 intro F w hX
 unfold jD at h
 refine T.seq (KG Z ?_)
 obtain⟨x3,hx4,h⟩:=Np h
 refine KF aP 2 Z (K2 Z .u (.fn Tryz.call155 Z) (nZ a1 _ _ a2 _ hx4) (fun _ hs=>(K0 hs hX)) Z (K8 aP Z Z (KF aP 2 Z ?_)))
 rcases jF h with⟨c5,h⟩ | ⟨c5,h⟩
 ·refine Lj Z c5 (Lg Z (KF aP 2 Z (KH Z (KX Z Of) Z ?_)))
  obtain⟨st6,hx7,h⟩:=Np h
  refine KT 0 Z Z .u (.fn Tryz.call51 Z) (bt g st (a1.length:Int) 4 _ hx7) sT Z Z (K7 Z (KF aP 1 Z (KH Z (KX Z Of) Z (KP aP Z (T.block ?_)))))
  obtain⟨E10,hE11,hO12⟩:=Np h
  have hk16len:=LA hX
  refine Lv (fun m e Rs=> ∃ (k8:Nat) (st9:List UInt8×Int),k8+m=a1.length∧e = [(0,jP g),(2,jI a2),(21,.slice A1 a1.length c2),(22,jI (a1.length:Int)),(23,jI (k8:Int))]∧Rs = [bB g st9]∧eI a2 (a1.drop k8) st9=some E10) (a1.length) [0] ⟨0,st6,by simp,Z,Z,by rw[List.drop_zero]; exact hE11⟩ QJ QJ ?_
  clear hE11 h
  rintro m13 _ _ ⟨k8,st9,hk16,rfl,rfl,h⟩
  cases m13 with
  | zero =>
   rw[List.drop_of_length_le QG,eI] at h
   have hk16ge: ¬ ((k8:Int)<(a1.length:Int)):=by omega
   refine KG Z (KP aP Z (T.seq (Lb Z (Nu hk16ge) ?_)))
   obtain rfl:=Nq h
   obtain rfl:=Nq hO12
   exact T.exit (KZ (KZ (Lu (LQ [0] Tryz.results99 ⟨Z,Z,Z⟩ QJ (.inr Z)))))
  | succ m13 =>
   obtain⟨x14,hxx14⟩: ∃ x,a1[k8]? = some x:=⟨_,List.getElem?_eq_getElem QG⟩
   rw[bJ hxx14,eI] at h
   have hk16lt:(k8:Int)<(a1.length:Int):=by omega
   refine KG Z (KP aP Z (T.seq (KV Z (Nt hk16lt) ?_)))
   obtain⟨gz17,oz17,rfl,z17cs,z17cl,z17cc,z17nf,z17r⟩:=Lf QH hX hxx14
   obtain⟨z17S,z17r,z17rr⟩:=z17r
   obtain⟨A18,c19,rfl,z17s0⟩:=z17r
   have hX20:(RX.of (aq 2 bc) [.slice A18 x14.MF.length c19] x14.MF).reads w F:=⟨z17S,z17s0,z17rr⟩
   refine K3 (T.seq (T.block (KG Z ?_)))
   refine KH Z (K1 (k:=k8) Z Z Z Of OA (Nw hxx14).1) Z ?_
   refine KH Z (LI (us := [jI x14.MG,jI x14.MJ,.bool x14.MZ,.slice A18 x14.MF.length c19,jI x14.MT]) 0 Z PF OA z17nf z17cc Z Z Z) Z (TL.alloc Z .u Tryz.zeroValue173 Z (fun b21=>(KW 0 Z (cs':= #[jI x14.MG,jI x14.MJ,.bool x14.MZ,.slice A18 x14.MF.length c19,jI x14.MT]) Z .u Z Z OA Z Z Z Z Z (K7 Z ?_))))
   obtain⟨st22,hx23,h⟩:=Np h
   refine KK aP fU 0 Z 3 Z Z (KT 1 Z Z .u (.fn Tryz.call51 Z) (bt g st9 x14.MG 8 _ hx23) sT Z Z (K7 Z ?_))
   obtain⟨st24,hx25,h⟩:=Np h
   refine KK aP fU 0 Z 3 Z Z (KT 1 Z Z .u (.fn Tryz.call51 Z) (bt g st22 x14.MJ 2 _ hx25) sT Z Z (K7 Z ?_))
   obtain⟨st26,hx27,h⟩:=Np h
   refine KK aP fU 0 Z 3 Z Z (KT 1 Z Z .u (.fn Tryz.call154 Z) (nq g st24 x14.MZ _ hx27) sT Z Z (K7 Z ?_))
   obtain⟨st28,hx29,h⟩:=Np h
   refine KK aP fU 0 Z 3 Z Z (KT 1 Z Z .u (.fn Tryz.call91 Z) (kI g st26 x14.MF _ _ _ hx29) (fun _ hs=>(Mb hs hX20)) Z Z (K7 Z (KP aP Z ?_)))
   obtain⟨st33,h,hk34⟩:=Np h
   refine Lz (fun e Rs=>e = [(0,jP g),(2,jI a2),(21,.slice (some ⟨gz17,oz17,none⟩) a1.length c2),(22,jI (a1.length:Int)),(23,jI (k8:Int))]∧Rs = [aW b21 173 #[jI x14.MG,jI x14.MJ,.bool x14.MZ,.slice A18 x14.MF.length c19,jI x14.MT],bB g st33]) ?_ ?_
   ·clear hk34
    rcases jF h with⟨c35,h⟩ | ⟨c35,h⟩
    ·refine LU Z c35 (T.region Z ?_)
     obtain⟨st36,hx37,h⟩:=Np h
     refine KK aP fU 0 Z 3 Z Z (KT 1 Z Z .u (.fn Tryz.call51 Z) (bt g st28 x14.MT 4 _ hx37) sT Z Z ?_)
     cases h
     exact TL.nil (KR [0,0])
    refine LX Z c35 ?_
    cases h
    exact T.skip (KR [0,0])
   rintro _ _ ⟨rfl,rfl⟩
   clear h
   have h:=hk34
   clear hk34
   exact K4 (X.seq (T.region Z (KH Z (Ex.add Z Z QG) Z (KF aP 1 Z (TL.nil (X.back (m':=m13) [1] QG ⟨k8+1,st33,by omega,Z,Z,h⟩ QJ QJ))))))
 refine Li Z c5 (KG Z ?_)
 obtain⟨st40,hx41,h⟩:=Np h
 refine KF aP 2 Z (KT 0 Z Z .u (.fn Tryz.call94 Z) (ib g st x3 _ hx41) sT Z Z ?_)
 obtain rfl:=Nq h
 exact KI (T.ret (KL (LQ [0] Tryz.results99 ⟨Z,Z,Z⟩ QJ (.inl Z))))
def dv (a1:Int) (x1:Int):Nat→List aQ→List aQ→Nat→I→Option (Lp (List aQ×I) (List aQ×List aQ×Nat×I))
 | 0,_,_,_,_=>none
 | m15+1,y4,y7,k10,st11=>if (k10:Int)<x1 then ((ed st11 8).bind fun (x20,st21)=>(ed st21 2).bind fun (x23,st24)=>(gM st24).bind fun (x26,st27)=>(dU st27).bind fun (x30,st33)=>(if a1>0 then ((ed st33 4).bind fun (x43,st44)=>some (x43,st44)) else ((some (0,st33):Option (Int×I)))).bind fun (y39,st40)=>(iQ st40).bind fun (x46,st47)=>if x46=0 then (if (y7.length+1)*56≤140737488355328 then (if -9223372036854775808≤((k10:Int)+1)∧((k10:Int)+1)≤9223372036854775807 then (dv a1 x1 m15 y4 (y7 ++ [(⟨x20,x23,x26,x30,y39⟩:aQ)]) (k10+1) st47) else none) else none) else (some (Lp.ret ([],st47)))) else (some (Lp.go (y4,y7,k10,st11)))
def gy (st:I) (a1:Int):Option (List aQ×I):=(jO st 4 15).bind fun (x1,st2)=>(dv a1 x1 ((x1).toNat+1) [] [] 0 st2).bind fun e=>match e with | .ret r=>some r | .go (y64,y67,k70,st71)=>((iQ st71).bind fun (x72,st73)=>if x72=0 then ((jC y67 a1).bind fun x76=>if x76=0 then some (y67,st73) else ((cj st73 x76).bind fun st79=>some ([],st79))) else some ([],st73))
theorem uU (g:Nat) (st:I) (a1:Int) (r:List aQ×I) (h:gy st a1=some r):aH Tryz.prog 119 #[jP g,jI a1] .triv (InR g st) (fun v A' N=> ∃ (A81:Option Addr) (c82:Nat),v= .slice A81 r.1.length c82∧A'=InR g r.2∧N = [RdR (aq 5 aY) [.slice A81 r.1.length c82] r.1]):=by
 refine aU Tryz.func119 Z Tryz.ntmps119 Z ?_
 intro F w hX
 unfold gy at h
 refine KG Z (K8 aP Z Z (KP aP Z (T.seq (KG Z ?_))))
 obtain⟨⟨x1,st2⟩,hx3,h⟩:=Np h
 refine KF aP 1 Z (KT 0 Z Z .u (.fn Tryz.call144 Z) (lN g st 4 15 _ hx3) sT Z Z (KP aP Z (T.block ?_)))
 iterate 2 refine LZ 173 5 aY ?_
 obtain⟨E12,hE13,hO14⟩:=Np h
 refine Lv (fun m e Rs=> ∃ (y4:List aQ) (A5:Option Addr) (c6:Nat) (y7:List aQ) (A8:Option Addr) (c9:Nat) (k10:Nat) (st11:I),e = [(0,jP g),(1,jI a1),(4,.slice A5 y4.length c6),(5,.slice A8 y7.length c9),(9,jI x1),(10,jI (k10:Int))]∧Rs = [bU 173 5 aY (.slice A5 y4.length c6) y4,bU 173 5 aY (.slice A8 y7.length c9) y7,InR g st11]∧dv a1 x1 m y4 y7 k10 st11=some E12) ((x1).toNat+1) [0,0,0] ⟨[],none,0,[],none,0,0,st2,Z,Z,by exact hE13⟩ QJ QJ ?_
 clear hE13 h
 rintro m15 _ _ ⟨y4,A5,c6,y7,A8,c9,k10,st11,rfl,rfl,h⟩
 cases m15 with
 | zero =>
  rw[dv] at h
  cases h
 | succ m15 =>
  rw[dv] at h
  refine KG Z (KF aP 1 Z ?_)
  rcases jF h with⟨c19,h⟩ | ⟨c19,h⟩
  ·refine KI (T.seq (LU Z c19 (K3 (T.seq (T.block (KG Z ?_))))))
   obtain⟨⟨x20,st21⟩,hx22,h⟩:=Np h
   refine KF aP 1 Z (KT 2 Z Z .u (.fn Tryz.call68 Z) (bx g st11 8 _ hx22) sT Z Z ?_)
   obtain⟨⟨x23,st24⟩,hx25,h⟩:=Np h
   refine KF aP 1 Z (KT 2 Z Z .u (.fn Tryz.call68 Z) (bx g st21 2 _ hx25) sT Z Z ?_)
   obtain⟨⟨x26,st27⟩,hx28,h⟩:=Np h
   refine KF aP 1 Z (KT 2 Z Z .u (.fn Tryz.call171 Z) (pN g st24 _ hx28) sT Z Z ?_)
   refine KH Z (Ld (cells:= #[jI x20,jI x23,.bool x26,.slice none 0 0,jI 0]) AH Z QI) Z ?_
   refine TL.alloc Z .u Tryz.zeroValue173 Z (fun b29=>(KW 0 Z (cs':= #[jI x20,jI x23,.bool x26,.slice none 0 0,jI 0]) Z .u Z Z OA Z Z Z Z Z (K7 Z ?_)))
   obtain⟨⟨x30,st33⟩,hx34,h⟩:=Np h
   refine KF aP 1 Z (TL.cg3 Z .u (.fn Tryz.call89 Z) (my g st27 _ hx34) sT Z ?_)
   rintro _ _ _ ⟨A31,c32,rfl,rfl,rfl⟩
   refine Lt [0,0,0,0,0] Z (KF aP 1 Z (KW 1 Z (cs':= #[jI x20,jI x23,.bool x26,.slice A31 x30.length c32,jI 0]) Z .u Z Z Pq Z Z Z Z Z (KI (T.seq (KG Z (KP aP Z ?_))))))
   obtain⟨⟨y39,st40⟩,h,hk41⟩:=Np h
   refine Lz (fun e Rs=>e = [(0,jP g),(1,jI a1),(4,.slice A5 y4.length c6),(5,.slice A8 y7.length c9),(6,jP b29),(9,jI x1),(10,jI (k10:Int))]∧Rs = [RdR (aq 2 bc) [.slice A31 x30.length c32] x30,aW b29 173 #[jI x20,jI x23,.bool x26,.slice A31 x30.length c32,jI y39],bU 173 5 aY (.slice A5 y4.length c6) y4,bU 173 5 aY (.slice A8 y7.length c9) y7,InR g st40]) ?_ ?_
   ·clear hk41
    rcases jF h with⟨c42,h⟩ | ⟨c42,h⟩
    ·refine LU Z c42 (T.region Z ?_)
     obtain⟨⟨x43,st44⟩,hx45,h⟩:=Np h
     refine KF aP 1 Z (KT 4 Z Z .u (.fn Tryz.call68 Z) (bx g st33 4 _ hx45) sT Z Z (KF aP 1 Z (KW 1 Z (cs':= #[jI x20,jI x23,.bool x26,.slice A31 x30.length c32,jI x43]) Z .u Z Z Ny Z Z Z Z Z ?_)))
     cases h
     exact TL.nil (KR [0,0,0,0,0])
    refine LX Z c42 ?_
    cases h
    exact T.skip (KR [0,0,0,0,0])
   rintro _ _ ⟨rfl,rfl⟩
   clear h
   have h:=hk41
   clear hk41
   refine X.seq (T.seq (KG Z ?_))
   obtain⟨⟨x46,st47⟩,hx48,h⟩:=Np h
   refine KF aP 1 Z (KT 4 Z Z .u (.fn Tryz.call23 Z) (cy g st40 _ hx48) sT Z Z (KF aP 1 Z ?_))
   rcases jF h with⟨c49,h⟩ | ⟨c49,h⟩
   ·refine Lj Z c49 (K3 (T.region Z (KF aP 1 Z (KH Z (KY (us := [jI x20,jI x23,.bool x26,.slice A31 x30.length c32,jI y39]) 1 Z PF OA Z Z Z) Z ?_))))
    refine L7 (cells:= #[jI x20,jI x23,.bool x26,.slice A31 x30.length c32,jI y39]) Z .u yT Z QI Z (fun b50=> ?_)
    obtain⟨c51,h⟩:=ao h
    refine Ms 3 0 Z .u (us := [jI x20,jI x23,.bool x26,.slice A31 x30.length c32,jI y39]) (u:=(⟨x20,x23,x26,x30,y39⟩:aQ)) (l:=y7) (E:=aY) Tryz.underlying33 AJ Z QH Z Z Z Z Z Z Z (fun w G hG=>⟨_,_,Z,hG.1⟩) (by have hq:=c51; omega) (by have hq:=c51; omega) Z (fun A52 c53=> ?_)
    refine Lt [0,0,0,0] Z (KF aP 1 Z ?_)
    obtain⟨c54,h⟩:=ao h
    exact TL.nil (K4 (X.seq (T.region Z (KH Z (Ex.add Z Z c54) Z (KF aP 1 Z (TL.nil (X.back (m':=m15) [2,0,1] QG ⟨y4,A5,c6,(y7 ++ [(⟨x20,x23,x26,x30,y39⟩:aQ)]),A52,c53,k10+1,st47,Z,Z,h⟩ QJ QJ)))))))
   refine Li Z c49 (KG Z (KF aP 1 Z ?_))
   obtain rfl:=Nq h
   obtain rfl:=Nq hO14
   exact KI (T.ret (KL (KU (KL (KL (KU (KL (Lc 5 aY (Le [5,0] Qw (KJ Z) ⟨_,_,Z,Z,Z⟩ QJ (.inl Z))))))))))
  refine KI (T.seq (LX Z c19 ?_))
  obtain rfl:=Nq h
  replace h:=hO14
  clear hO14
  refine T.exit (KZ (KZ (Lu (X.seq (T.seq (KG Z ?_))))))
  obtain⟨⟨x55,st56⟩,hx57,h⟩:=Np h
  refine KF aP 1 Z (KT 2 Z Z .u (.fn Tryz.call23 Z) (cy g st11 _ hx57) sT Z Z (KF aP 1 Z ?_))
  rcases jF h with⟨c58,h⟩ | ⟨c58,h⟩
  ·refine Lj Z c58 (K3 (T.seq (KG Z ?_)))
   obtain⟨x59,hx60,h⟩:=Np h
   refine KF aP 2 Z (K2 Z .u (.fn Tryz.call155 Z) (nZ y7 _ _ a1 _ hx60) (fun _ hs=>(SrcE.res 1 hs Z (fun w G h=>cm QH w G h))) Z (K8 aP Z Z (KF aP 2 Z ?_)))
   rcases jF h with⟨c61,h⟩ | ⟨c61,h⟩
   ·refine Lj Z c61 (Lg Z (KF aP 2 Z ?_))
    obtain rfl:=Nq h
    exact KI (T.ret (Mz QH 1 Z (LC [0,0,0] Z (Le [2,1] Qw (KJ Z) ⟨_,_,Z,Z,Z⟩ QJ (.inl Z)))))
   refine Li Z c61 (KG Z ?_)
   obtain⟨st62,hx63,h⟩:=Np h
   refine KF aP 2 Z (KT 2 Z Z .u (.fn Tryz.call70 Z) (bH g st56 x59 _ hx63) sT Z Z (K7 Z (KF aP 1 Z ?_)))
   obtain rfl:=Nq h
   exact KI (T.ret (KL (Lc 5 aY (Le [3,0] Qw (KJ Z) ⟨_,_,Z,Z,Z⟩ QJ (.inl Z)))))
  refine Li Z c58 (KG Z (KF aP 1 Z ?_))
  obtain rfl:=Nq h
  exact KI (T.ret (KL (Lc 5 aY (Le [3,0] Qw (KJ Z) ⟨_,_,Z,Z,Z⟩ QJ (.inl Z)))))
def fm (n:Int) (i:Nat):Bool:=decide (n / 2 ^ i % 2=1)
theorem AK (n:Int) (m:Nat) (hm:m<9223372036854775808):bits .and .i64 n m=(((n % 18446744073709551616).toNat &&& m:Nat):Int):=by
 have e1:(BitVec.ofInt 64 n).toNat=(n % 18446744073709551616).toNat:=by simp[BitVec.toNat_ofInt]
 have e2:(BitVec.ofInt 64 (m:Int)).toNat=m:=by
  rw[BitVec.ofInt_natCast,BitVec.toNat_ofNat,Nat.mod_eq_of_lt QG]
 show IntKind.i64.wrap (((BitVec.ofInt 64 n) &&& (BitVec.ofInt 64 (m:Int))).toNat:Int)= _
 rw[BitVec.toNat_and,e1,e2]
 have h:(n % 18446744073709551616).toNat &&& m≤m:=Nat.and_le_right
 rw[IntKind.wrap_i64]
 omega
theorem JZ (n:Int) (i:Nat) (hi:i<64):(n % 18446744073709551616).toNat.testBit i=fm n i:=by
 have hs:(18446744073709551616:Int)=2 ^ i*2 ^ (64 - i):=by
  rw[← Int.pow_add,show i+(64 - i)=64 by omega]
  rfl
 have h2:(2:Int) ^ (64 - i)=2*2 ^ (63 - i):=by
  rw[show 64 - i=1+(63 - i) by omega,Int.pow_add]
  rfl
 rw[Nat.testBit_eq_decide_div_mod_eq,fm]
 have hp:(0:Int)<2 ^ i:=Int.pow_pos QH
 have h4:n % 18446744073709551616 / 2 ^ i=n / 2 ^ i % 2 ^ (64 - i):=by
  have e:n % 18446744073709551616=n - 2 ^ i*(2 ^ (64 - i)*(n / 18446744073709551616)):=by
   have:=Int.emod_def n 18446744073709551616
   rw[this,hs,Int.mul_assoc]
  rw[e,Int.sub_mul_ediv_left _ _ QG,Int.emod_def,Int.ediv_ediv_of_nonneg (Int.le_of_lt hp),← hs]
 have h5:n / 2 ^ i % 2 ^ (64 - i) % 2=n / 2 ^ i % 2:=by
  rw[h2]
  exact Int.emod_emod_of_dvd _ ⟨_,rfl⟩
 have h6:(((n % 18446744073709551616).toNat / 2 ^ i % 2:Nat):Int)=n / 2 ^ i % 2:=by
  have e:((n % 18446744073709551616).toNat:Int)=n % 18446744073709551616:=by omega
  rw[Int.natCast_emod,Int.natCast_ediv,e,Int.natCast_pow]
  show n % 18446744073709551616 / 2 ^ i % 2= _
  rw[h4,h5]
 congr 1
 apply propext
 omega
theorem AL (n:Int) (i:Nat) (hi:i<63):(bits .and .i64 n ((2 ^ i:Nat):Int) != 0)=fm n i:=by
 have hm:2 ^ i<9223372036854775808:=Nat.lt_of_lt_of_eq (Nat.pow_lt_pow_right QH hi) (show 2 ^ 63=9223372036854775808 by decide)
 rw[AK n _ hm,← JZ n i QG]
 generalize (n % 18446744073709551616).toNat=a
 cases h:a.testBit i with
 | true =>
  have:(a &&& 2 ^ i)≠0:=by
   intro h0
   have:=congrArg (fun x=>Nat.testBit x i) h0
   simp[h,Nat.testBit_two_pow_self] at this
  simp; omega
 | false =>
  have:(a &&& 2 ^ i)=0:=by
   apply Nat.eq_of_testBit_eq
   intro j
   rw[Nat.testBit_and,Nat.testBit_two_pow]
   by_cases hj:i=j
   ·subst hj; simp[h]
   ·simp[hj]
  simp[this]
theorem Gf (n:Int):(bits .and .i64 n 7 != 0)=decide (n % 8≠0):=by
 have h:=AK n 7 QH
 rw[show ((7:Nat):Int)=7 from rfl] at h
 rw[h,Nat.and_two_pow_sub_one_eq_mod _ 3]
 rw[Bool.eq_iff_iff]
 simp
 omega
theorem Gg (n:Int) (h8:n % 8=0) (h0: -9223372036854775808≤n) (h1:n≤9223372036854775807):(bits .andNot .i64 n 56 != 0)=decide (n<0∨63<n):=by
 have e1:(BitVec.ofInt 64 n).toNat=(n % 18446744073709551616).toNat:=by simp[BitVec.toNat_ofInt]
 have e2:(~~~ BitVec.ofInt 64 (56:Int)).toNat=18446744073709551559:=by decide
 have e3:bits .andNot .i64 n 56=IntKind.i64.wrap (((BitVec.ofInt 64 n) &&& ~~~ (BitVec.ofInt 64 (56:Int))).toNat:Int):=rfl
 rw[e3,BitVec.toNat_and,e1,e2]
 have ha:(n % 18446744073709551616).toNat % 8=0:=by omega
 have hb:(n % 18446744073709551616).toNat<64 ↔ ¬ (n<0∨63<n):=by omega
 have hc:(n % 18446744073709551616).toNat<18446744073709551616:=by omega
 generalize (n % 18446744073709551616).toNat=a at *
 have hw: ∀ x:Nat,x<18446744073709551616→((IntKind.i64.wrap (x:Int) != 0)=decide (x≠0)):=by
  intro x hx
  rw[IntKind.wrap_i64,Bool.eq_iff_iff]
  simp
  omega
 rw[hw _ (Nat.lt_of_le_of_lt Nat.and_le_left hc)]
 by_cases h:a<64
 ·have:a=0∨a=8∨a=16∨a=24∨a=32∨a=40∨a=48∨a=56:=by omega
  have hz:a &&& 18446744073709551559=0:=by rcases this with rfl | rfl | rfl | rfl | rfl | rfl | rfl | rfl <;> decide
  simp[hz,hb.1 h]
 ·have hz:a &&& 18446744073709551559≠0:=by
   intro h0
   have h2:=congrArg (fun x=>x >>> 6) h0
   simp only[Nat.shiftRight_and_distrib] at h2
   rw[show 18446744073709551559 >>> 6=2 ^ 58 - 1 from rfl,Nat.and_two_pow_sub_one_eq_mod,Nat.shiftRight_eq_div_pow] at h2
   simp at h2
   omega
  have:n<0∨63<n:=by
   rcases Classical.em (n<0∨63<n) with h2 | h2
   ·exact h2
   ·exact absurd (hb.2 h2) h
  simp[hz,this]
theorem and_8 (n:Int):(bits .and .i64 n 8 != 0)=fm n 3:=AL n 3 QH
theorem HY (n:Int):(bits .and .i64 n 16 != 0)=fm n 4:=AL n 4 QH
theorem HZ (n:Int):(bits .and .i64 n 32 != 0)=fm n 5:=AL n 5 QH
theorem H5 {a b:Int} {c:Bool} (h:(a != b)=c):(a == b)= !c:=by rw[← h,bne,Bool.not_not]
theorem Gh (n:Int) (w:World) :
 Calls Tryz.prog 186 #[.int .i64 n] w fun e w'=>e= .returned (.tuple #[.bool (fm n 3),.bool (fm n 4),.bool (fm n 5)])∧w=w':=by
 have H1:=Lib.hid (and_8 n)
 have H2:=Lib.hid (HY n)
 have H3:=Lib.hid (HZ n)
 go_enter Tryz.func186,Tryz.ntmps186
 go_wp2
 go_ret3
 exact⟨congrArg Ending.returned (show (Value.tuple #[.bool (bits .and .i64 n 8 != 0),.bool (bits .and .i64 n 16 != 0),.bool (bits .and .i64 n 32 != 0)])= _ by rw[H1.out,H2.out,H3.out]),rfl⟩
def fw (n:Int):Int:=if n % 8≠0 then 9 else if n<0∨63<n∨(fm n 5=true∧fm n 4=false) then 8 else 0
theorem DI (n:Int) (h0: -9223372036854775808≤n) (h1:n≤9223372036854775807) (w:World) :
 Calls Tryz.prog 185 #[.int .i64 n] w fun e w'=>e= .returned (.int .i64 (fw n))∧w=w':=by
 have h7:=Gf n
 by_cases h8:n % 8=0
 ·have ha:=Gg n h8 h0 h1
  have h32:=HZ n
  have h16:=H5 (HY n)
  have H8:=Lib.hid h8
  simp only[h8] at h7
  by_cases hr:n<0∨63<n
  ·have HA:=Lib.hid (show fw n=8 by simp only[fw,h8]; rcases hr with h | h <;> simp[h])
   simp only[hr] at ha
   clear hr h8 h32 h16
   go_enter Qx,Qk
   go_wp2
   go_ret
   exact⟨kz (by rw[HA.out]),rfl⟩
  ·simp only[hr] at ha
   have HR:=Lib.hid hr
   clear hr h8
   cases b5:fm n 5 with
   | true =>
    cases b4:fm n 4 with
    | true =>
     have HA:=Lib.hid (show fw n=0 by have:=HR.out; simp[fw,H8.out,b5,b4]; omega)
     rw[b5] at h32
     rw[b4] at h16
     clear b5 b4
     go_enter Qx,Qk
     go_wp2
     go_ret
     exact⟨kz (by rw[HA.out]),rfl⟩
    | false =>
     have HA:=Lib.hid (show fw n=8 by simp[fw,H8.out,b5,b4])
     rw[b5] at h32
     rw[b4] at h16
     clear b5 b4
     go_enter Qx,Qk
     go_wp2
     go_ret
     exact⟨kz (by rw[HA.out]),rfl⟩
   | false =>
    have HA:=Lib.hid (show fw n=0 by have:=HR.out; simp[fw,H8.out,b5]; omega)
    rw[b5] at h32
    clear b5 h16
    go_enter Qx,Qk
    go_wp2
    go_ret
    exact⟨kz (by rw[HA.out]),rfl⟩
 ·have HA:=Lib.hid (show fw n=9 by simp[fw,h8])
  simp only[ne_eq,h8] at h7
  clear h8
  go_enter Qx,Qk
  go_wp2
  go_ret
  exact⟨kz (by rw[HA.out]),rfl⟩
def iA (a t c:Bool):Int:=(if a then 8 else 0)+(if t then 16 else 0)+(if c then 32 else 0)
theorem B7 {w W:World} (h:Below w.heap.size w W) (o:Obj):Below w.heap.size w (W.alloc o):=h.alloc h.size o
theorem Of_any (i0 i1 i5 i6 i7 i8 i9 i10:Int) (a t c:Bool) (A:Option Addr) (n k:Nat) (w:World) :
 Calls Tryz.prog 82 #[.agg #[.int .i64 i0,.int .i64 i1,.bool a,.bool t,.bool c,.int .i64 i5,.int .i64 i6,.int .i64 i7,.int .i64 i8,.int .i64 i9,.int .i64 i10,.slice A n k]] w fun e w' =>
  e= .returned (.int .i64 (iA a t c))∧Below w.heap.size w w':=by
 have ix: ∀ (x0 x1 x2 x3 x4 x5: Value),(∀ w:World,(Instr.index 231 (.agg #[x0,x1,x2,x3,x4,x5]) (.int .i64 0)).run Tryz.prog w= .ok (.agg #[x0,x1]) w)∧(∀ w:World,(Instr.index 231 (.agg #[x0,x1,x2,x3,x4,x5]) (.int .i64 1)).run Tryz.prog w= .ok (.agg #[x2,x3]) w)∧(∀ w:World,(Instr.index 231 (.agg #[x0,x1,x2,x3,x4,x5]) (.int .i64 2)).run Tryz.prog w= .ok (.agg #[x4,x5]) w):=fun _ _ _ _ _ _=>⟨fun _=>by kernel_rfl,fun _=>by kernel_rfl,fun _=>by kernel_rfl⟩
 cases a <;> cases t <;> cases c <;>
 ·go_enter Tryz.func82,Tryz.ntmps82
  go_wp2_with fail
  refine wp_loop_rounds 4 ?_
  rw[rounds_succ]
  go_wp2_with fail
  rw[rounds_succ]
  go_wp2_with fail
  rw[rounds_succ]
  go_wp2_with fail
  rw[rounds_succ]
  go_wp2_with fail
  go_ret
  exact⟨rfl,by repeat (first | exact Below.refl _ _ | refine B7 ?_ _)⟩
theorem J0 (i0 i1 i5 i6 i7 i8 i9 i10:Int) (a t c:Bool) (A:Option Addr) (n k:Nat) :
 ke Tryz.prog 82 #[.agg #[.int .i64 i0,.int .i64 i1,.bool a,.bool t,.bool c,.int .i64 i5,.int .i64 i6,.int .i64 i7,.int .i64 i8,.int .i64 i9,.int .i64 i10,.slice A n k]] (fun v N=>v= .int .i64 (iA a t c)∧N = []):=by
 intro w
 refine (Of_any i0 i1 i5 i6 i7 i8 i9 i10 a t c A n k w).mono ?_
 rintro e w' ⟨rfl,hb⟩
 exact⟨_,_,rfl,⟨rfl,rfl⟩,Md hb,trivial⟩
def DJ (n:Int):Option (Bool×Bool×Bool):=some (fm n 3,fm n 4,fm n 5)
theorem Gi (n:Int):DJ n=some (fm n 3,fm n 4,fm n 5):=rfl
theorem B8 (n:Int) (r:Bool×Bool×Bool) (h:DJ n=some r) (w:World):Calls Tryz.prog 186 #[.int .i64 n] w fun e w'=>e= .returned (.tuple #[.bool r.1,.bool r.2.1,.bool r.2.2])∧w=w':=by
 obtain rfl:=Nq h
 exact Gh n w
def AM (n:Int):Option Int:=if -9223372036854775808≤n∧n≤9223372036854775807 then some (fw n) else none
theorem DK (n:Int) (h: -9223372036854775808≤n∧n≤9223372036854775807):AM n=some (fw n):=QK h
theorem AN (n:Int) (r:Int) (h:AM n=some r) (w:World):Calls Tryz.prog 185 #[.int .i64 n] w fun e w'=>e= .returned (.int .i64 r)∧w=w':=by
 obtain⟨h1,h⟩:=ao h
 obtain rfl:=Nq h
 exact DI n h1.1 h1.2 w
def gAOf (b:Bat):Option Int:=some (iA b.Nh b.Nd b.Nc)
theorem J1 (b:Bat):gAOf b=some (iA b.Nh b.Nd b.Nc):=rfl
theorem zq (b:Bat) (A:Option Addr) (c:Nat) (r:Int) (h:gAOf b=some r):aH Tryz.prog 82 #[.agg #[.int .i64 b.Na,.int .i64 b.M3,.bool b.Nh,.bool b.Nd,.bool b.Nc,.int .i64 b.M7,.int .i64 b.MW,.int .i64 b.Ng,.int .i64 b.MG,.int .i64 b.MJ,.int .i64 b.MX,.slice A b.MK.length c]]
 (RX.of (aq 7 da) [.slice A b.MK.length c] b.MK) aK (fun u A' N=>u= .int .i64 r∧A'=aK∧N = []):=by
 obtain rfl:=Nq h
 exact LR (J0 _ _ _ _ _ _ _ _ _ _ _ _ _ _)
end Go.Proofs.YtheikonlgjdopaaGreat.Sl
