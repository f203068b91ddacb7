/- frameEncodes_holds: part 3. -/
import Derived.Test.YtheikonlgjdopaaGreatK2
set_option maxRecDepth 100000
set_option maxHeartbeats 4000000
set_option linter.defProp false
namespace Go.Proofs.YtheikonlgjdopaaGreat.Sl
open Go.RowKit
set_option linter.unusedVariables false
set_option linter.unusedSimpArgs false
def N1 := @Tryz.runUnderlying4
def OE := @Tryz.results159
def OW := @Tryz.results202
def OX := @Tryz.results109
def O4 := @Tryz.results199
def PJ := @Tryz.results160
def Qq := @Tryz.results113
def ur:fg := [(91,0,0),(91,1,1),(97,0,0),(97,1,1),(97,2,2),(97,3,3),(97,4,4),(97,5,5),(97,6,6),(97,7,7),(97,8,8),(97,9,9),(97,10,10),(97,11,11),(310,0,0),(310,1,7),(310,2,8)]
theorem aa:(ur).OK Tryz.prog:=⟨FOK.mk NU rfl Ny rfl,FOK.mk NU rfl Ny rfl,FOK.mk NQ rfl Ny rfl,FOK.mk NQ rfl Ny rfl,FOK.mk NQ rfl N5 rfl,FOK.mk NQ rfl N5 rfl,FOK.mk NQ rfl N5 rfl,FOK.mk NQ rfl Ny rfl,FOK.mk NQ rfl Ny rfl,FOK.mk NQ rfl Ny rfl,FOK.mk NQ rfl Ny rfl,FOK.mk NQ rfl Ny rfl,FOK.mk NQ rfl Ny rfl,FOK.mk NQ rfl Tryz.sizeOf95 rfl,FOK.mk PQ rfl NG rfl,FOK.mk PQ rfl Ny rfl,FOK.mk PQ rfl Ny rfl,trivial⟩
def ut:List Nat := [3,4,95]
theorem an:NOK Tryz.prog ut:=⟨Nz,Ok,PD,trivial⟩
theorem gr:Tryz.prog.follows .mixedOrders=true:=by kernel_rfl
theorem ko:SOK Tryz.prog 74 3 12 1 #[.int .i64 0,.int .i64 0,.int .i64 0,.int .i64 0,.int .i64 0,.int .i64 0,.int .i64 0,.int .i64 0,.int .i64 0,.int .i64 0,.int .i64 0,.int .i64 0]:=SOK.mk NF Ny Tryz.zeroValue3 QH QI
def ir (a0:Int) (a1:Int):Option (Bool):=if a0≥a1 then (if a0≤2147483647 then some true else some false) else some false
theorem kE (a0:Int) (a1:Int) (r:Bool) (h:ir a0 a1=some r):aH Tryz.prog 198 #[jI a0,jI a1] .triv (aK) (fun v A' N=>v= .bool r∧A'=aK∧N = []):=by
 refine aU Tryz.func198 Z Tryz.ntmps198 Z ?_
 intro F w hX
 unfold ir at h
 refine KG Z (K8 aa Z Z ?_)
 rcases jF h with⟨c1,h⟩ | ⟨c1,h⟩
 ·refine KF aa 4 Z (KN 8 Z (Nt c1) (KM aa 4 Z ?_))
  rcases jF h with⟨c2,h⟩ | ⟨c2,h⟩
  ·obtain rfl:=Nq h
   exact KI (T.ret (Le [0] Tryz.results198 (KJ (v:= .bool true) (congrArg (fun b=>some (Value.bool b)) (Nt c2))) ⟨Z,Z,Z⟩ QJ (.inl Z)))
  obtain rfl:=Nq h
  exact KI (T.ret (Le [0] Tryz.results198 (KJ (v:= .bool false) (congrArg (fun b=>some (Value.bool b)) (Nu c2))) ⟨Z,Z,Z⟩ QJ (.inl Z)))
 refine KF aa 4 Z (KN 8 Z (Nu c1) (KM aa 4 Z ?_))
 obtain rfl:=Nq h
 exact KI (T.ret (KQ [0] Tryz.results198 (KJ Z)))
def gX (a0:Bat):Option (Bool):=if a0.MG=(-1) then (if a0.MJ=(-1) then (if a0.MX=(-1) then (if a0.Nd=true then some false else some true) else some false) else some false) else (if a0.MG<0 then some false else (if a0.MJ<0 then some false else (if a0.MJ>32767 then some false else (if a0.Nc=true then (if a0.MX=(-1) then some true else some false) else ((ir a0.MX 0).bind fun x13=>some x13)))))
theorem mv (a0:Bat) (A1:Option Addr) (c2:Nat) (r:Bool) (h:gX a0=some r):aH Tryz.prog 199 #[.agg (wA0 a0 A1 c2)] (RX.of (aq 7 da) [.slice A1 a0.MK.length c2] a0.MK) (aK) (fun v A' N=>v= .bool r∧A'=aK∧N = []):=by
 refine aU Tryz.func199 Z Tryz.ntmps199 Z ?_
 intro F w hX
 unfold gX at h
 refine KG Z (TL.box Z .u Z Z (fun b3=>(KP aa Z (T.seq (KG Z (KK aa an 0 Z 3 Z Z ?_))))))
 rcases jF h with⟨c4,h⟩ | ⟨c4,h⟩
 ·refine La Z c4 (KG Z ?_)
  rcases jF h with⟨c5,h⟩ | ⟨c5,h⟩
  ·refine KK aa an 0 Z 4 Z Z (KN 9 Z (Nt c5) ?_)
   rcases jF h with⟨c6,h⟩ | ⟨c6,h⟩
   ·refine KK aa an 0 Z 5 Z Z (KN 14 Z (Nt c6) (KK aa an 0 Z 5 Z Z ?_))
    rcases jF h with⟨c7,h⟩ | ⟨c7,h⟩
    ·obtain rfl:=Nq h
     exact KI (T.ret (KL (Le [1] O4 (KJ (v:= .bool false) (congrArg (fun b=>some (Value.bool b)) (bf c7))) ⟨Z,Z,Z⟩ QJ (.inl Z))))
    replace c7:=Nx c7
    obtain rfl:=Nq h
    exact KI (T.ret (KL (Le [1] O4 (KJ (v:= .bool true) (congrArg (fun b=>some (Value.bool b)) (bG c7))) ⟨Z,Z,Z⟩ QJ (.inl Z))))
   refine KK aa an 0 Z 5 Z Z (KN 14 Z (Nu c6) (KM aa 5 Z ?_))
   obtain rfl:=Nq h
   exact KI (T.ret (KL (KQ [1] O4 (KJ Z))))
  refine KK aa an 0 Z 4 Z Z (KN 9 Z (Nu c5) (KM aa 10 Z ?_))
  obtain rfl:=Nq h
  exact KI (T.ret (KL (KQ [1] O4 (KJ Z))))
 refine K9 Z c4 (K3 (T.seq (KG Z ?_)))
 rcases jF h with⟨c8,h⟩ | ⟨c8,h⟩
 ·refine KK aa an 0 Z 4 Z Z (KN 22 Z (Nt c8) (Lq aa Z (KV Z Z (KG Z (KF aa 1 Z ?_)))))
  obtain rfl:=Nq h
  exact KI (T.ret (KL (KQ [1] O4 (KJ Z))))
 refine KK aa an 0 Z 4 Z Z (KN 22 Z (Nu c8) ?_)
 rcases jF h with⟨c9,h⟩ | ⟨c9,h⟩
 ·refine KK aa an 0 Z 5 Z Z (KN 27 Z (Nt c9) (Lq aa Z (KV Z Z (KG Z (KF aa 1 Z ?_)))))
  obtain rfl:=Nq h
  exact KI (T.ret (KL (KQ [1] O4 (KJ Z))))
 refine KK aa an 0 Z 5 Z Z (KN 27 Z (Nu c9) (KK aa an 0 Z 4 Z Z ?_))
 rcases jF h with⟨c10,h⟩ | ⟨c10,h⟩
 ·refine La Z c10 (KG Z (KF aa 1 Z ?_))
  obtain rfl:=Nq h
  exact KI (T.ret (KL (KQ [1] O4 (KJ Z))))
 refine K9 Z c10 (K3 (T.seq (KG Z (KK aa an 0 Z 2 Z Z ?_))))
 rcases jF h with⟨c11,h⟩ | ⟨c11,h⟩
 ·refine KI (KV Z c11 (KG Z (KK aa an 0 Z 4 Z Z ?_)))
  rcases jF h with⟨c12,h⟩ | ⟨c12,h⟩
  ·obtain rfl:=Nq h
   exact KI (T.ret (KL (Le [1] O4 (KJ (v:= .bool true) (congrArg (fun b=>some (Value.bool b)) (Nt c12))) ⟨Z,Z,Z⟩ QJ (.inl Z))))
  obtain rfl:=Nq h
  exact KI (T.ret (KL (Le [1] O4 (KJ (v:= .bool false) (congrArg (fun b=>some (Value.bool b)) (Nu c12))) ⟨Z,Z,Z⟩ QJ (.inl Z))))
 replace c11:=Nx c11
 refine KI (Lb Z c11 (Lg Z ?_))
 obtain⟨x13,hx14,h⟩:=Np h
 refine KK aa an 0 Z 2 Z Z (K2 Z .u (.fn Tryz.call198 Z) (kE a0.MX 0 _ hx14) rT Z (KF aa 1 Z ?_))
 obtain rfl:=Nq h
 exact KI (T.ret (KQ [1] O4 (KJ Z)))
def eo (a0:Bat):Nat→Int→Int→Nat→Option (Lp Int (Int×Int×Nat))
 | 0,_,_,_=>none
 | m10+1,y4,y5,k6=>if (k6:Int)<(a0.MK.length:Int) then ((a0.MK[k6]?).bind fun x15=>if -9223372036854775808≤(9223372036854775807 - a0.MW)∧(9223372036854775807 - a0.MW)≤9223372036854775807 then (if x15.Nb>(9223372036854775807 - a0.MW) then (some (Lp.ret (-1))) else (if -9223372036854775808≤(-a0.MW)∧(-a0.MW)≤9223372036854775807 then (if x15.Nb<(-a0.MW) then (some (Lp.ret (-1))) else (if -9223372036854775808≤(a0.MW+x15.Nb)∧(a0.MW+x15.Nb)≤9223372036854775807 then (if (a0.MW+x15.Nb)>y5 then (if -9223372036854775808≤(a0.MW+x15.Nb)∧(a0.MW+x15.Nb)≤9223372036854775807 then (if -9223372036854775808≤((k6:Int)+1)∧((k6:Int)+1)≤9223372036854775807 then (eo a0 m10 y4 (a0.MW+x15.Nb) (k6+1)) else none) else none) else (if -9223372036854775808≤((k6:Int)+1)∧((k6:Int)+1)≤9223372036854775807 then (eo a0 m10 y4 y5 (k6+1)) else none)) else none)) else none)) else none) else (some (Lp.go (y4,y5,k6)))
def nU (a0:Bat):Option (Int):=(eo a0 (((a0.MK.length:Int)).toNat+1) 0 a0.MW 0).bind fun e=>match e with | .ret r=>some r | .go (y30,y31,k32)=>some y31
theorem uu (a0:Bat) (A1:Option Addr) (c2:Nat) (r:Int) (h:nU a0=some r):aH Tryz.prog 225 #[.agg (wA0 a0 A1 c2)] (RX.of (aq 7 da) [.slice A1 a0.MK.length c2] a0.MK) (aK) (fun v A' N=>v=jI r∧A'=aK∧N = []):=by
 refine aU Tryz.func225 Z Tryz.ntmps225 Z ?_
 intro F w hX
 unfold nU at h
 refine KG Z (TL.box Z .u Z Z (fun b3=>(K8 aa Z Z (LT aa an 0 Z Z Z (T.seq (KG Z (KP aa Z (T.block ?_))))))))
 obtain⟨E7,hE8,hO9⟩:=Np h
 refine Lv (fun m e Rs=> ∃ (y4:Int) (y5:Int) (k6:Nat),e = [(1,jP b3),(2,jI y4),(3,jI y5),(4,jI (k6:Int))]∧Rs = [aW b3 97 (wA0 a0 A1 c2),aK]∧eo a0 m y4 y5 k6=some E7) (((a0.MK.length:Int)).toNat+1) [0,0] ⟨0,a0.MW,0,Z,Z,by exact hE8⟩ QJ QJ ?_
 clear hE8 h
 rintro m10 _ _ ⟨y4,y5,k6,rfl,rfl,h⟩
 cases m10 with
 | zero =>
  rw[eo] at h
  cases h
 | succ m10 =>
  rw[eo] at h
  refine T.seq (KG Z (KK aa an 0 Z 3 Z Z (KH Z (KX Z NK) Z (KF aa 1 Z ?_))))
  rcases jF h with⟨c14,h⟩ | ⟨c14,h⟩
  ·refine La Z c14 (K3 (T.seq (T.block (KG Z ?_))))
   obtain⟨x15,hx16,h⟩:=Np h
   obtain⟨gz17,oz17,rfl,z17cs,z17cl,z17cc,z17nf,z17r⟩:=Lf QH hX hx16
   obtain⟨z17S,z17r,z17rr⟩:=z17r
   obtain⟨A18,c19,rfl,z17s0⟩:=z17r
   have hX20:(RX.of (aq 3 dq) [.slice A18 x15.MU.length c19] x15.MU).reads w F:=⟨z17S,z17s0,z17rr⟩
   refine KK aa an 0 Z 3 Z Z ?_
   refine KH Z (K1 (k:=k6) Z Z Z NK NG (Nw hx16).1) Z ?_
   refine KF aa 1 Z (KH Z (Ln 0 Z Nz z17nf z17cc Z Z) Z (KP aa Z (T.seq (KG Z ?_))))
   obtain⟨c21,h⟩:=ao h
   refine KK aa an 0 Z 3 Z Z (KH Z (Ex.sub Z Z c21) Z ?_)
   rcases jF h with⟨c22,h⟩ | ⟨c22,h⟩
   ·refine KF aa 2 Z (KN 26 Z (Nt c22) (Lq aa Z (KV Z Z (KG Z (KF aa 1 Z ?_)))))
    obtain rfl:=Nq h
    obtain rfl:=Nq hO9
    exact KI (T.ret (KL (KU (KL (KL (KU (KL (KQ [1] Tryz.results225 (KJ Z)))))))))
   refine KF aa 2 Z (KN 26 Z (Nu c22) ?_)
   obtain⟨c23,h⟩:=ao h
   refine KK aa an 0 Z 3 Z Z (TL.q Z (.g Z Z Z) (Ex.neg Z c23) Z (KM aa 2 Z ?_))
   rcases jF h with⟨c24,h⟩ | ⟨c24,h⟩
   ·refine La Z c24 (KG Z (KF aa 1 Z ?_))
    obtain rfl:=Nq h
    obtain rfl:=Nq hO9
    exact KI (T.ret (KL (KU (KL (KL (KU (KL (KQ [1] Tryz.results225 (KJ Z)))))))))
   refine K9 Z c24 (Lg Z ?_)
   obtain⟨c25,h⟩:=ao h
   refine KK aa an 0 Z 3 Z Z (KH Z (Ex.add Z Z c25) Z (KF aa 2 Z ?_))
   rcases jF h with⟨c26,h⟩ | ⟨c26,h⟩
   ·refine La Z c26 (T.region Z ?_)
    obtain⟨c27,h⟩:=ao h
    refine KK aa an 0 Z 3 Z Z (KH Z (Ex.add Z Z c27) Z (KF aa 1 Z (TL.nil (K4 (X.seq (T.region Z ?_))))))
    obtain⟨c28,h⟩:=ao h
    exact KF aa 1 Z (KH Z (Ex.add Z Z c28) Z (KF aa 1 Z (TL.nil (X.back (m':=m10) [0,0] QG ⟨y4,(a0.MW+x15.Nb),k6+1,Z,Z,h⟩ QJ QJ))))
   refine K9 Z c26 (T.skip (K4 (X.seq (T.region Z ?_))))
   obtain⟨c29,h⟩:=ao h
   exact KF aa 1 Z (KH Z (Ex.add Z Z c29) Z (KF aa 1 Z (TL.nil (X.back (m':=m10) [0,0] QG ⟨y4,y5,k6+1,Z,Z,h⟩ QJ QJ))))
  refine K9 Z c14 ?_
  obtain rfl:=Nq h
  replace h:=hO9
  clear hO9
  refine T.exit (KZ (KZ (Lu (X.seq (KG Z (KF aa 2 Z ?_))))))
  obtain rfl:=Nq h
  exact KI (T.ret (KQ [1] Tryz.results225 (KJ Z)))
def cL (a0:Bat):Nat→Int→Nat→Option (Lp Int (Int×Nat))
 | 0,_,_=>none
 | m9+1,y4,k5=>if (k5:Int)<(a0.MK.length:Int) then ((a0.MK[k5]?).bind fun x14=>if x14.M1>a0.M7 then some (Lp.ret 13) else (if (k5:Int)>0 then (if -9223372036854775808≤((k5:Int) - 1)∧((k5:Int) - 1)≤9223372036854775807 then (if 0≤((k5:Int) - 1) then ((a0.MK[((k5:Int) - 1).toNat]?).bind fun x24=>if x14.M1≤x24.M1 then some (Lp.ret 13) else (if x14.M1<0 then some (Lp.ret 13) else (if -9223372036854775808≤(9223372036854775807 - a0.MW)∧(9223372036854775807 - a0.MW)≤9223372036854775807 then (if x14.Nb>(9223372036854775807 - a0.MW) then some (Lp.ret 11) else (if -9223372036854775808≤(-a0.MW)∧(-a0.MW)≤9223372036854775807 then (if x14.Nb<(-a0.MW) then some (Lp.ret 11) else (if -9223372036854775808≤((k5:Int)+1)∧((k5:Int)+1)≤9223372036854775807 then (cL a0 m9 y4 (k5+1)) else none)) else none)) else none))) else none) else none) else (if x14.M1<0 then some (Lp.ret 13) else (if -9223372036854775808≤(9223372036854775807 - a0.MW)∧(9223372036854775807 - a0.MW)≤9223372036854775807 then (if x14.Nb>(9223372036854775807 - a0.MW) then some (Lp.ret 11) else (if -9223372036854775808≤(-a0.MW)∧(-a0.MW)≤9223372036854775807 then (if x14.Nb<(-a0.MW) then some (Lp.ret 11) else (if -9223372036854775808≤((k5:Int)+1)∧((k5:Int)+1)≤9223372036854775807 then (cL a0 m9 y4 (k5+1)) else none)) else none)) else none)))) else (some (Lp.go (y4,k5)))
def gt (a0:Bat):Option (Int):=(cL a0 (((a0.MK.length:Int)).toNat+1) 0 0).bind fun e=>match e with | .ret r=>some r | .go (y47,k48)=>(if a0.Nh=true then some 0 else ((nU a0).bind fun x50=>if x50=a0.Ng then some 0 else some 11))
theorem nV (a0:Bat) (A1:Option Addr) (c2:Nat) (r:Int) (h:gt a0=some r):aH Tryz.prog 202 #[.agg (wA0 a0 A1 c2)] (RX.of (aq 7 da) [.slice A1 a0.MK.length c2] a0.MK) (aK) (fun v A' N=>v=jI r∧A'=aK∧N = []):=by
 refine aU Tryz.func202 Z Tryz.ntmps202 Z ?_
 intro F w hX
 unfold gt at h
 refine KG Z (TL.box Z .u Z Z (fun b3=>(KP aa Z (T.seq (KG Z (KP aa Z (T.block ?_)))))))
 obtain⟨E6,hE7,hO8⟩:=Np h
 refine Lv (fun m e Rs=> ∃ (y4:Int) (k5:Nat),e = [(1,jP b3),(2,jI y4),(3,jI (k5:Int))]∧Rs = [aW b3 97 (wA0 a0 A1 c2),aK]∧cL a0 m y4 k5=some E6) (((a0.MK.length:Int)).toNat+1) [0,0] ⟨0,0,Z,Z,by exact hE7⟩ QJ QJ ?_
 clear hE7 h
 rintro m9 _ _ ⟨y4,k5,rfl,rfl,h⟩
 cases m9 with
 | zero =>
  rw[cL] at h
  cases h
 | succ m9 =>
  rw[cL] at h
  refine T.seq (KG Z (KK aa an 0 Z 3 Z Z (KH Z (KX Z NK) Z (KF aa 1 Z ?_))))
  rcases jF h with⟨c13,h⟩ | ⟨c13,h⟩
  ·refine La Z c13 (K3 (T.seq (T.block (KG Z ?_))))
   obtain⟨x14,hx15,h⟩:=Np h
   obtain⟨gz16,oz16,rfl,z16cs,z16cl,z16cc,z16nf,z16r⟩:=Lf QH hX hx15
   obtain⟨z16S,z16r,z16rr⟩:=z16r
   obtain⟨A17,c18,rfl,z16s0⟩:=z16r
   have hX19:(RX.of (aq 3 dq) [.slice A17 x14.MU.length c18] x14.MU).reads w F:=⟨z16S,z16s0,z16rr⟩
   refine KK aa an 0 Z 3 Z Z ?_
   refine KH Z (K1 (k:=k5) Z Z Z NK NG (Nw hx15).1) Z ?_
   refine KF aa 1 Z (KH Z (Ln 1 Z Nz z16nf z16cc Z Z) Z (KP aa Z (T.seq (KG Z ?_))))
   rcases jF h with⟨c20,h⟩ | ⟨c20,h⟩
   ·refine KK aa an 0 Z 5 Z Z (KN 23 Z (Nt c20) (Lq aa Z (KV Z Z (KG Z (KF aa 1 Z ?_)))))
    obtain rfl:=Nq h
    obtain rfl:=Nq hO8
    exact KI (T.ret (KL (KU (KL (KL (KU (KL (KQ [1] OW (KJ Z)))))))))
   refine KK aa an 0 Z 5 Z Z (KN 23 Z (Nu c20) ?_)
   rcases jF h with⟨c21,h⟩ | ⟨c21,h⟩
   ·refine KM aa 3 Z (KN 26 Z (Nt c21) ?_)
    obtain⟨c22,h⟩:=ao h
    refine KK aa an 0 Z 4 Z Z (TL.q Z (.g Z Z Z) (Ex.sub Z Z c22) Z ?_)
    obtain⟨c23,h⟩:=ao h
    obtain⟨x24,hx25,h⟩:=Np h
    obtain⟨z26cs,z26cl,z26cc,z26nf,z26r⟩:=Mc QH hX hx25
    obtain⟨z26S,z26r,z26rr⟩:=z26r
    obtain⟨A27,c28,rfl,z26s0⟩:=z26r
    have hX29:(RX.of (aq 3 dq) [.slice A27 x24.MU.length c28] x24.MU).reads w F:=⟨z26S,z26s0,z26rr⟩
    refine TL.q Z (.g Z Z Z) (K1 (k:=((k5:Int) - 1).toNat) Z Z ((Int.toNat_of_nonneg c23).symm) NK NG (Nw hx25).1) Z ?_
    refine KM aa 1 Z (TL.q Z (.g Z Z Z) (Ln 1 Z Nz z26nf z26cc Z Z) Z ?_)
    rcases jF h with⟨c30,h⟩ | ⟨c30,h⟩
    ·refine KM aa 4 Z (KN 38 Z (Nt c30) (Lq aa Z (KV Z Z (KG Z (KF aa 1 Z ?_)))))
     obtain rfl:=Nq h
     obtain rfl:=Nq hO8
     exact KI (T.ret (KL (KU (KL (KL (KU (KL (KQ [1] OW (KJ Z)))))))))
    refine KM aa 4 Z (KN 38 Z (Nu c30) (KM aa 3 Z ?_))
    rcases jF h with⟨c31,h⟩ | ⟨c31,h⟩
    ·refine La Z c31 (KG Z (KF aa 1 Z ?_))
     obtain rfl:=Nq h
     obtain rfl:=Nq hO8
     exact KI (T.ret (KL (KU (KL (KL (KU (KL (KQ [1] OW (KJ Z)))))))))
    refine K9 Z c31 (Lg Z (KK aa an 0 Z 3 Z Z ?_))
    refine KH Z (K1 (k:=k5) Z Z Z NK NG (Nw hx15).1) Z ?_
    refine KF aa 1 Z (KH Z (Ln 0 Z Nz z16nf z16cc Z Z) Z (K8 aa Z Z ?_))
    obtain⟨c32,h⟩:=ao h
    refine KK aa an 0 Z 3 Z Z (KH Z (Ex.sub Z Z c32) Z ?_)
    rcases jF h with⟨c33,h⟩ | ⟨c33,h⟩
    ·refine KF aa 2 Z (KN 53 Z (Nt c33) (Lq aa Z (KV Z Z (KG Z (KF aa 1 Z ?_)))))
     obtain rfl:=Nq h
     obtain rfl:=Nq hO8
     exact KI (T.ret (KU (KL (KL (KU (KL (KQ [1] OW (KJ Z))))))))
    refine KF aa 2 Z (KN 53 Z (Nu c33) ?_)
    obtain⟨c34,h⟩:=ao h
    refine KK aa an 0 Z 3 Z Z (TL.q Z (.g Z Z Z) (Ex.neg Z c34) Z (KM aa 2 Z ?_))
    rcases jF h with⟨c35,h⟩ | ⟨c35,h⟩
    ·refine La Z c35 (KG Z (KF aa 1 Z ?_))
     obtain rfl:=Nq h
     obtain rfl:=Nq hO8
     exact KI (T.ret (KU (KL (KL (KU (KL (KQ [1] OW (KJ Z))))))))
    refine K9 Z c35 (T.skip (K4 (X.seq (T.region Z ?_))))
    obtain⟨c36,h⟩:=ao h
    exact KF aa 1 Z (KH Z (Ex.add Z Z c36) Z (KF aa 1 Z (TL.nil (X.back (m':=m9) [0,0] QG ⟨y4,k5+1,Z,Z,h⟩ QJ QJ))))
   refine KM aa 3 Z (KN 26 Z (Nu c21) (KM aa 15 Z ?_))
   rcases jF h with⟨c37,h⟩ | ⟨c37,h⟩
   ·refine La Z c37 (KG Z (KF aa 1 Z ?_))
    obtain rfl:=Nq h
    obtain rfl:=Nq hO8
    exact KI (T.ret (KL (KU (KL (KL (KU (KL (KQ [1] OW (KJ Z)))))))))
   refine K9 Z c37 (Lg Z (KK aa an 0 Z 3 Z Z ?_))
   refine KH Z (K1 (k:=k5) Z Z Z NK NG (Nw hx15).1) Z ?_
   refine KF aa 1 Z (KH Z (Ln 0 Z Nz z16nf z16cc Z Z) Z (K8 aa Z Z ?_))
   obtain⟨c38,h⟩:=ao h
   refine KK aa an 0 Z 3 Z Z (KH Z (Ex.sub Z Z c38) Z ?_)
   rcases jF h with⟨c39,h⟩ | ⟨c39,h⟩
   ·refine KF aa 2 Z (KN 53 Z (Nt c39) (Lq aa Z (KV Z Z (KG Z (KF aa 1 Z ?_)))))
    obtain rfl:=Nq h
    obtain rfl:=Nq hO8
    exact KI (T.ret (KU (KL (KL (KU (KL (KQ [1] OW (KJ Z))))))))
   refine KF aa 2 Z (KN 53 Z (Nu c39) ?_)
   obtain⟨c40,h⟩:=ao h
   refine KK aa an 0 Z 3 Z Z (TL.q Z (.g Z Z Z) (Ex.neg Z c40) Z (KM aa 2 Z ?_))
   rcases jF h with⟨c41,h⟩ | ⟨c41,h⟩
   ·refine La Z c41 (KG Z (KF aa 1 Z ?_))
    obtain rfl:=Nq h
    obtain rfl:=Nq hO8
    exact KI (T.ret (KU (KL (KL (KU (KL (KQ [1] OW (KJ Z))))))))
   refine K9 Z c41 (T.skip (K4 (X.seq (T.region Z ?_))))
   obtain⟨c42,h⟩:=ao h
   exact KF aa 1 Z (KH Z (Ex.add Z Z c42) Z (KF aa 1 Z (TL.nil (X.back (m':=m9) [0,0] QG ⟨y4,k5+1,Z,Z,h⟩ QJ QJ))))
  refine K9 Z c13 ?_
  obtain rfl:=Nq h
  replace h:=hO8
  clear hO8
  refine T.exit (KZ (KZ (Lu (X.seq (L3 (Lm (.q 0 (.q 1 (.q 2 (.q 3 (.q 4 (.q 6 (.q 7 (.e 5 (.q 8 (.q 9 .nil)))))))))) [0,0] Z gr (NoP.seq (NoP.seq bu)) QI ?_))))))
  refine TD.run aa [0] Z Z (KO Z (K5 0 Z Ok Z Z) Z ?_)
  rcases jF h with⟨c43,h⟩ | ⟨c43,h⟩
  ·refine TD.run aa [2,3] Z Z ?_
   iterate 3 refine LD Z (.gn Z Z (bf c43)) Z ?_
   refine L6 Z (.gn Z Z (bf c43)) Z [0,0] Z (LD Z (.gn Z Z (bf c43)) Z (KO Z (LL Z (bf c43) Z) Z (LF (Lb Z Z (Lg Z (KF aa 1 Z ?_))))))
   obtain rfl:=Nq h
   exact KI (T.ret (KQ [1] OW (KJ Z)))
  replace c43:=Nx c43
  refine TD.run aa [2,3] Z Z (TD.q Z (.g Z Z (bG c43)) (KY (us:=wL5 a0 A1 c2) 0 Z N6 NJ Z Z Z) Z (TD.q Z (.g Z Z (bG c43)) (Ls aa Z) Z (TD.q Z (.g Z Z (bG c43)) (K5 0 Z Nz Z Z) Z ?_)))
  obtain⟨x44,hx45,h⟩:=Np h
  refine Lw Z (.g Z Z (bG c43)) (.fn Tryz.call225 Z) (uu a0 _ _ _ hx45) (fun _ hs=>(K0 hs hX)) Z [0,0] (Z) (TD.q Z (.g Z Z (bG c43)) (Ls aa Z) Z (KO Z (LN Z (bG c43) Z) Z ?_))
  rcases jF h with⟨c46,h⟩ | ⟨c46,h⟩
  ·refine LF (T.nn Z c46 (Lg Z (KF aa 1 Z ?_)))
   obtain rfl:=Nq h
   exact KI (T.ret (KQ [1] OW (KJ Z)))
  refine LF (T.yn Z c46 (KG Z (KF aa 1 Z ?_)))
  obtain rfl:=Nq h
  exact KI (T.ret (KL (KQ [1] OW (KJ Z))))
def dR (a0:Bat):Nat→Int→Nat→Option (Lp Int (Int×Nat))
 | 0,_,_=>none
 | m26+1,y21,k22=>if (k22:Int)<(a0.MK.length:Int) then ((a0.MK[k22]?).bind fun x31=>(kn x31).bind fun x37=>if x37=0 then (if -9223372036854775808≤((k22:Int)+1)∧((k22:Int)+1)≤9223372036854775807 then (dR a0 m26 y21 (k22+1)) else none) else some (Lp.ret x37)) else (some (Lp.go (y21,k22)))
def fT (a0:Bat):Nat→Int→Nat→Option (Lp Int (Int×Nat))
 | 0,_,_=>none
 | m77+1,y72,k73=>if (k73:Int)<(a0.MK.length:Int) then ((a0.MK[k73]?).bind fun x82=>(kn x82).bind fun x88=>if x88=0 then (if -9223372036854775808≤((k73:Int)+1)∧((k73:Int)+1)≤9223372036854775807 then (fT a0 m77 y72 (k73+1)) else none) else some (Lp.ret x88)) else (some (Lp.go (y72,k73)))
def jf (a0:Bat):Option (Int):=if a0.Na<0 then some 11 else ((ir a0.M3 (-1)).bind fun x5=>if x5=true then ((ir a0.M7 0).bind fun x8=>if x8=true then (if -9223372036854775808≤(9223372036854775807 - a0.Na)∧(9223372036854775807 - a0.Na)≤9223372036854775807 then (if a0.M7>(9223372036854775807 - a0.Na) then some 11 else (if a0.MW<0 then some 11 else (if a0.Ng<0 then some 11 else (if a0.Nc=true then (if a0.Nd=true then ((gX a0).bind fun x17=>if x17=true then (if (a0.MK.length:Int)=1 then ((dR a0 (((a0.MK.length:Int)).toNat+1) 0 0).bind fun e=>match e with | .ret r=>some r | .go (y54,k55)=>((a0.MK[0]?).bind fun x56=>(je x56).bind fun (x62,x63,x64)=>if x64=0 then ((gt a0).bind fun x67=>some x67) else some x64)) else some 10) else some 11) else some 8) else ((gX a0).bind fun x69=>if x69=true then ((fT a0 (((a0.MK.length:Int)).toNat+1) 0 0).bind fun e=>match e with | .ret r=>some r | .go (y94,k95)=>((gt a0).bind fun x96=>some x96)) else some 11))))) else none) else some 11) else some 11)
theorem uv (a0:Bat) (A1:Option Addr) (c2:Nat) (r:Int) (h:jf a0=some r):aH Tryz.prog 159 #[.agg (wA0 a0 A1 c2)] (RX.of (aq 7 da) [.slice A1 a0.MK.length c2] a0.MK) (aK) (fun v A' N=>v=jI r∧A'=aK∧N = []):=by
 refine aU Tryz.func159 Z Tryz.ntmps159 Z ?_
 intro F w hX
 unfold jf at h
 refine KG Z (TL.box Z .u Z Z (fun b3=>(KP aa Z (T.seq (KG Z ?_)))))
 rcases jF h with⟨c4,h⟩ | ⟨c4,h⟩
 ·refine KK aa an 0 Z 4 Z Z (KN 11 Z (Nt c4) (Lq aa Z (KV Z Z (KG Z (KF aa 1 Z ?_)))))
  obtain rfl:=Nq h
  exact KI (T.ret (KL (KQ [1] OE (KJ Z))))
 refine KK aa an 0 Z 4 Z Z (KN 11 Z (Nu c4) ?_)
 obtain⟨x5,hx6,h⟩:=Np h
 refine KK aa an 0 Z 2 Z Z (K2 Z (.g Z Z Z) (.fn Tryz.call198 Z) (kE a0.M3 (-1) _ hx6) rT Z ?_)
 rcases jF h with⟨c7,h⟩ | ⟨c7,h⟩
 ·refine KM aa 3 Z (KN 17 Z (bf c7) ?_)
  obtain⟨x8,hx9,h⟩:=Np h
  refine KK aa an 0 Z 2 Z Z (K2 Z (.g Z Z Z) (.fn Tryz.call198 Z) (kE a0.M7 0 _ hx9) rT Z ?_)
  rcases jF h with⟨c10,h⟩ | ⟨c10,h⟩
  ·refine KM aa 3 Z (KN 23 Z (bf c10) ?_)
   obtain⟨c11,h⟩:=ao h
   refine KK aa an 0 Z 4 Z Z (TL.q Z (.g Z Z Z) (Ex.sub Z Z c11) Z ?_)
   rcases jF h with⟨c12,h⟩ | ⟨c12,h⟩
   ·refine KM aa 3 Z (KN 31 Z (Nt c12) (Lq aa Z (KV Z Z (KG Z (KF aa 1 Z ?_)))))
    obtain rfl:=Nq h
    exact KI (T.ret (KL (KQ [1] OE (KJ Z))))
   refine KM aa 3 Z (KN 31 Z (Nu c12) ?_)
   rcases jF h with⟨c13,h⟩ | ⟨c13,h⟩
   ·refine KK aa an 0 Z 5 Z Z (KN 36 Z (Nt c13) (Lq aa Z (KV Z Z (KG Z (KF aa 1 Z ?_)))))
    obtain rfl:=Nq h
    exact KI (T.ret (KL (KQ [1] OE (KJ Z))))
   refine KK aa an 0 Z 5 Z Z (KN 36 Z (Nu c13) (KK aa an 0 Z 4 Z Z ?_))
   rcases jF h with⟨c14,h⟩ | ⟨c14,h⟩
   ·refine La Z c14 (KG Z (KF aa 1 Z ?_))
    obtain rfl:=Nq h
    exact KI (T.ret (KL (KQ [1] OE (KJ Z))))
   refine K9 Z c14 (K3 (T.seq (KG Z ?_)))
   rcases jF h with⟨c15,h⟩ | ⟨c15,h⟩
   ·refine KK aa an 0 Z 3 Z Z (KN 43 Z c15 (KK aa an 0 Z 4 Z Z ?_))
    rcases jF h with⟨c16,h⟩ | ⟨c16,h⟩
    ·refine KI (Lb Z (bf c16) (K3 (T.seq (KG Z (KH Z (KY (us:=wL5 a0 A1 c2) 0 Z N6 NJ Z Z Z) Z ?_)))))
     obtain⟨x17,hx18,h⟩:=Np h
     refine K2 Z .u (.fn Tryz.call199 Z) (mv a0 _ _ _ hx18) (fun _ hs=>(K0 hs hX)) Z (KF aa 1 Z ?_)
     rcases jF h with⟨c19,h⟩ | ⟨c19,h⟩
     ·refine KI (Lb Z (bf c19) (K3 (T.seq (KG Z (KK aa an 0 Z 3 Z Z (KN 53 Z c15 (KK aa an 0 Z 2 Z Z (TL.q Z (.g Z Z Z) (KX Z NK) Z (KM aa 2 Z ?_)))))))))
      rcases jF h with⟨c20,h⟩ | ⟨c20,h⟩
      ·refine Lj Z c20 (K3 (T.seq (KG Z (KP aa Z (T.block ?_)))))
       obtain⟨E23,hE24,hO25⟩:=Np h
       refine Lv (fun m e Rs=> ∃ (y21:Int) (k22:Nat),e = [(1,jP b3),(2,jI y21),(3,jI (k22:Int))]∧Rs = [aW b3 97 (wA0 a0 A1 c2),aK]∧dR a0 m y21 k22=some E23) (((a0.MK.length:Int)).toNat+1) [0,0] ⟨0,0,Z,Z,by exact hE24⟩ QJ QJ ?_
       clear hE24 h
       rintro m26 _ _ ⟨y21,k22,rfl,rfl,h⟩
       cases m26 with
       | zero =>
        rw[dR] at h
        cases h
       | succ m26 =>
        rw[dR] at h
        refine T.seq (KG Z (KK aa an 0 Z 3 Z Z (KH Z (KX Z NK) Z (KF aa 1 Z ?_))))
        rcases jF h with⟨c30,h⟩ | ⟨c30,h⟩
        ·refine La Z c30 (K3 (T.seq (T.block (KG Z ?_))))
         obtain⟨x31,hx32,h⟩:=Np h
         obtain⟨gz33,oz33,rfl,z33cs,z33cl,z33cc,z33nf,z33r⟩:=Lf QH hX hx32
         obtain⟨z33S,z33r,z33rr⟩:=z33r
         obtain⟨A34,c35,rfl,z33s0⟩:=z33r
         have hX36:(RX.of (aq 3 dq) [.slice A34 x31.MU.length c35] x31.MU).reads w F:=⟨z33S,z33s0,z33rr⟩
         refine KK aa an 0 Z 3 Z Z ?_
         refine KH Z (K1 (k:=k22) Z Z Z NK NG (Nw hx32).1) Z ?_
         refine KH Z (LI (us:=wL1 x31 A34 c35) 0 Z Oa NG z33nf z33cc Z Z Z) Z ?_
         obtain⟨x37,hx38,h⟩:=Np h
         refine K2 Z .u (.fn Tryz.call200 Z) (oT x31 _ _ _ hx38) (fun _ hs=>(K0 hs hX36)) Z (K8 aa Z Z (KF aa 2 Z ?_))
         rcases jF h with⟨c39,h⟩ | ⟨c39,h⟩
         ·refine Lj Z c39 (T.skip (K4 (X.seq (T.region Z ?_))))
          obtain⟨c40,h⟩:=ao h
          exact KF aa 1 Z (KH Z (Ex.add Z Z c40) Z (KF aa 1 Z (TL.nil (X.back (m':=m26) [0,0] QG ⟨y21,k22+1,Z,Z,h⟩ QJ QJ))))
         refine Li Z c39 (KG Z (KF aa 2 Z ?_))
         obtain rfl:=Nq h
         obtain rfl:=Nq hO25
         exact KI (T.ret (KU (KL (KL (KU (KL (KQ [1] OE (KJ Z))))))))
        refine K9 Z c30 ?_
        obtain rfl:=Nq h
        replace h:=hO25
        clear hO25
        refine T.exit (KZ (KZ (Lu (X.seq (T.seq (KG Z (LT aa an 0 Z Z Z (KV Z c15 (KG Z ?_)))))))))
        obtain⟨x41,hx42,h⟩:=Np h
        obtain⟨gz43,oz43,rfl,z43cs,z43cl,z43cc,z43nf,z43r⟩:=Lf QH hX hx42
        obtain⟨z43S,z43r,z43rr⟩:=z43r
        obtain⟨A44,c45,rfl,z43s0⟩:=z43r
        have hX46:(RX.of (aq 3 dq) [.slice A44 x41.MU.length c45] x41.MU).reads w F:=⟨z43S,z43s0,z43rr⟩
        refine KK aa an 0 Z 2 Z Z ?_
        refine KH Z (K1 (k:=0) Z Z Z NK NG (Nw hx42).1) Z ?_
        refine KH Z (LI (us:=wL1 x41 A44 c45) 0 Z Oa NG z43nf z43cc Z Z Z) Z ?_
        obtain⟨⟨x47,x48,x49⟩,hx50,h⟩:=Np h
        refine K2 Z .u (.fn Tryz.call201 Z) (vS x41 _ _ _ hx50) (fun _ hs=>(K0 hs hX46)) Z (K8 aa Z Z (KF aa 2 Z ?_))
        rcases jF h with⟨c51,h⟩ | ⟨c51,h⟩
        ·refine Lj Z c51 (Lg Z (KH Z (KY (us := [jI a0.Na,jI a0.M3,.bool a0.Nh,.bool a0.Nd,.bool a0.Nc,jI a0.M7,jI a0.MW,jI a0.Ng,jI a0.MG,jI a0.MJ,jI a0.MX,.slice (some ⟨gz43,oz43,none⟩) a0.MK.length c2]) 0 Z N6 NJ Z Z Z) Z ?_))
         obtain⟨x52,hx53,h⟩:=Np h
         refine K2 Z .u (.fn Tryz.call202 Z) (nV a0 _ _ _ hx53) (fun _ hs=>(K0 hs hX)) Z (KF aa 1 Z ?_)
         obtain rfl:=Nq h
         exact KI (T.ret (KQ [1] OE (KJ Z)))
        refine Li Z c51 (KG Z (KF aa 2 Z ?_))
        obtain rfl:=Nq h
        exact KI (T.ret (KL (KQ [1] OE (KJ Z))))
      refine Li Z c20 (KG Z (KF aa 1 Z ?_))
      obtain rfl:=Nq h
      exact KI (T.ret (KL (KQ [1] OE (KJ Z))))
     replace c19:=Nx c19
     refine KI (KV Z (bG c19) (KG Z (KF aa 1 Z ?_)))
     obtain rfl:=Nq h
     exact KI (T.ret (KL (KQ [1] OE (KJ Z))))
    replace c16:=Nx c16
    refine KI (KV Z (bG c16) (KG Z (KF aa 1 Z ?_)))
    obtain rfl:=Nq h
    exact KI (T.ret (KL (KQ [1] OE (KJ Z))))
   replace c15:=Nx c15
   refine KK aa an 0 Z 3 Z Z (KN 43 Z c15 (Lq aa Z (Lb Z Z (K3 (T.seq (KG Z (KH Z (KY (us:=wL5 a0 A1 c2) 0 Z N6 NJ Z Z Z) Z ?_)))))))
   obtain⟨x69,hx70,h⟩:=Np h
   refine K2 Z .u (.fn Tryz.call199 Z) (mv a0 _ _ _ hx70) (fun _ hs=>(K0 hs hX)) Z (KF aa 1 Z ?_)
   rcases jF h with⟨c71,h⟩ | ⟨c71,h⟩
   ·refine KI (Lb Z (bf c71) (K3 (T.seq (KG Z (KK aa an 0 Z 3 Z Z (KN 53 Z c15 (Lq aa Z (Lb Z Z ?_))))))))
    refine K3 (T.seq (KG Z (KP aa Z (T.block ?_))))
    obtain⟨E74,hE75,hO76⟩:=Np h
    refine Lv (fun m e Rs=> ∃ (y72:Int) (k73:Nat),e = [(1,jP b3),(2,jI y72),(3,jI (k73:Int))]∧Rs = [aW b3 97 (wA0 a0 A1 c2),aK]∧fT a0 m y72 k73=some E74) (((a0.MK.length:Int)).toNat+1) [0,0] ⟨0,0,Z,Z,by exact hE75⟩ QJ QJ ?_
    clear hE75 h
    rintro m77 _ _ ⟨y72,k73,rfl,rfl,h⟩
    cases m77 with
    | zero =>
     rw[fT] at h
     cases h
    | succ m77 =>
     rw[fT] at h
     refine T.seq (KG Z (KK aa an 0 Z 3 Z Z (KH Z (KX Z NK) Z (KF aa 1 Z ?_))))
     rcases jF h with⟨c81,h⟩ | ⟨c81,h⟩
     ·refine La Z c81 (K3 (T.seq (T.block (KG Z ?_))))
      obtain⟨x82,hx83,h⟩:=Np h
      obtain⟨gz84,oz84,rfl,z84cs,z84cl,z84cc,z84nf,z84r⟩:=Lf QH hX hx83
      obtain⟨z84S,z84r,z84rr⟩:=z84r
      obtain⟨A85,c86,rfl,z84s0⟩:=z84r
      have hX87:(RX.of (aq 3 dq) [.slice A85 x82.MU.length c86] x82.MU).reads w F:=⟨z84S,z84s0,z84rr⟩
      refine KK aa an 0 Z 3 Z Z ?_
      refine KH Z (K1 (k:=k73) Z Z Z NK NG (Nw hx83).1) Z ?_
      refine KH Z (LI (us:=wL1 x82 A85 c86) 0 Z Oa NG z84nf z84cc Z Z Z) Z ?_
      obtain⟨x88,hx89,h⟩:=Np h
      refine K2 Z .u (.fn Tryz.call200 Z) (oT x82 _ _ _ hx89) (fun _ hs=>(K0 hs hX87)) Z (K8 aa Z Z (KF aa 2 Z ?_))
      rcases jF h with⟨c90,h⟩ | ⟨c90,h⟩
      ·refine Lj Z c90 (T.skip (K4 (X.seq (T.region Z ?_))))
       obtain⟨c91,h⟩:=ao h
       exact KF aa 1 Z (KH Z (Ex.add Z Z c91) Z (KF aa 1 Z (TL.nil (X.back (m':=m77) [0,0] QG ⟨y72,k73+1,Z,Z,h⟩ QJ QJ))))
      refine Li Z c90 (KG Z (KF aa 2 Z ?_))
      obtain rfl:=Nq h
      obtain rfl:=Nq hO76
      exact KI (T.ret (KU (KL (KL (KU (KL (KQ [1] OE (KJ Z))))))))
     refine K9 Z c81 ?_
     obtain rfl:=Nq h
     replace h:=hO76
     clear hO76
     refine T.exit (KZ (KZ (Lu (X.seq (T.seq (KG Z (LT aa an 0 Z Z Z (Lb Z c15 (Lg Z (KH Z (KY (us:=wL5 a0 A1 c2) 0 Z N6 NJ Z Z Z) Z ?_))))))))))
     obtain⟨x92,hx93,h⟩:=Np h
     refine K2 Z .u (.fn Tryz.call202 Z) (nV a0 _ _ _ hx93) (fun _ hs=>(K0 hs hX)) Z (KF aa 1 Z ?_)
     obtain rfl:=Nq h
     exact KI (T.ret (KQ [1] OE (KJ Z)))
   replace c71:=Nx c71
   refine KI (KV Z (bG c71) (KG Z (KF aa 1 Z ?_)))
   obtain rfl:=Nq h
   exact KI (T.ret (KL (KQ [1] OE (KJ Z))))
  replace c10:=Nx c10
  refine KM aa 3 Z (KN 23 Z (bG c10) (Lq aa Z (KV Z Z (KG Z (KF aa 1 Z ?_)))))
  obtain rfl:=Nq h
  exact KI (T.ret (KL (KQ [1] OE (KJ Z))))
 replace c7:=Nx c7
 refine KM aa 3 Z (KN 17 Z (bG c7) (Lq aa Z (KV Z Z (KG Z (KF aa 1 Z ?_)))))
 obtain rfl:=Nq h
 exact KI (T.ret (KL (KQ [1] OE (KJ Z))))
def fO (a0:Bat):Option (Int):=(if a0.Nh=true then ((some 8:Option (Int))) else ((some 0:Option (Int)))).bind fun y5=>(if a0.Nd=true then (if -9223372036854775808≤(y5+16)∧(y5+16)≤9223372036854775807 then some (y5+16) else none) else some y5).bind fun y10=>(if a0.Nc=true then (if -9223372036854775808≤(y10+32)∧(y10+32)≤9223372036854775807 then some (y10+32) else none) else some y10).bind fun y16=>some y16
theorem ld (a0:Bat) (A1:Option Addr) (c2:Nat) (r:Int) (h:fO a0=some r):aH Tryz.prog 164 #[.agg (wA0 a0 A1 c2)] (RX.of (aq 7 da) [.slice A1 a0.MK.length c2] a0.MK) (aK) (fun v A' N=>v=jI r∧A'=aK∧N = []):=by
 refine aU Tryz.func164 Z Tryz.ntmps164 Z ?_
 intro F w hX
 unfold fO at h
 refine KG Z (TL.box Z .u Z Z (fun b3=>(K8 aa Z Z (KP aa Z (T.seq (KG Z (LT aa an 0 Z Z Z ?_)))))))
 obtain⟨y5,h,hk6⟩:=Np h
 refine Lz (fun e Rs=>e = [(1,jP b3),(2,jI 0),(3,jI y5)]∧Rs = [aW b3 97 (wA0 a0 A1 c2),aK]) ?_ ?_
 ·clear hk6
  rcases jF h with⟨c7,h⟩ | ⟨c7,h⟩
  ·refine KV Z c7 (T.region Z (KF aa 1 Z (KH Z (Ex.add Z Z QG) Z (KF aa 1 Z ?_))))
   cases h
   exact TL.nil (KR [0,0])
  replace c7:=Nx c7
  refine Lb Z c7 ?_
  cases h
  exact T.skip (KR [0,0])
 rintro _ _ ⟨rfl,rfl⟩
 clear h
 have h:=hk6
 clear hk6
 refine X.seq (T.seq (KG Z (LT aa an 0 Z Z Z ?_)))
 obtain⟨y10,h,hk11⟩:=Np h
 refine Lz (fun e Rs=>e = [(1,jP b3),(2,jI 0),(3,jI y10)]∧Rs = [aW b3 97 (wA0 a0 A1 c2),aK]) ?_ ?_
 ·clear hk11
  rcases jF h with⟨c12,h⟩ | ⟨c12,h⟩
  ·refine KV Z c12 (T.region Z ?_)
   obtain⟨c13,h⟩:=ao h
   refine KF aa 1 Z (KH Z (Ex.add Z Z c13) Z (KF aa 1 Z ?_))
   cases h
   exact TL.nil (KR [0,0])
  replace c12:=Nx c12
  refine Lb Z c12 ?_
  cases h
  exact T.skip (KR [0,0])
 rintro _ _ ⟨rfl,rfl⟩
 clear h
 have h:=hk11
 clear hk11
 refine X.seq (T.seq (KG Z (LT aa an 0 Z Z Z ?_)))
 obtain⟨y16,h,hk17⟩:=Np h
 refine Lz (fun e Rs=>e = [(2,jI 0),(3,jI y16)]∧Rs = [aW b3 97 (wA0 a0 A1 c2),aK]) ?_ ?_
 ·clear hk17
  rcases jF h with⟨c18,h⟩ | ⟨c18,h⟩
  ·refine KV Z c18 (T.region Z ?_)
   obtain⟨c19,h⟩:=ao h
   refine KF aa 1 Z (KH Z (Ex.add Z Z c19) Z (KF aa 1 Z ?_))
   cases h
   exact TL.nil (KR [0,0])
  replace c18:=Nx c18
  refine Lb Z c18 ?_
  cases h
  exact T.skip (KR [0,0])
 rintro _ _ ⟨rfl,rfl⟩
 clear h
 have h:=hk17
 clear hk17
 refine X.seq (KG Z (KF aa 2 Z ?_))
 obtain rfl:=Nq h
 exact KI (T.ret (KQ [1] Tryz.results164 (KJ Z)))
def eE (a0:Bat):Nat→List UInt8→Nat→Option (List UInt8×Nat)
 | 0,_,_=>none
 | m9+1,y4,k5=>if (k5:Int)<(a0.MK.length:Int) then ((a0.MK[k5]?).bind fun x14=>(lU x14).bind fun x20=>if y4.length+x20.length≤9223372036854775807 then (if -9223372036854775808≤((k5:Int)+1)∧((k5:Int)+1)≤9223372036854775807 then (eE a0 m9 (y4++x20) (k5+1)) else none) else none) else some (y4,k5)
def kF (a0:Bat):Option (List UInt8):=(eE a0 (((a0.MK.length:Int)).toNat+1) [] 0).bind fun (y44,k45)=>if -9223372036854775808≤(49+(y44.length:Int))∧(49+(y44.length:Int))≤9223372036854775807 then ((fO a0).bind fun x47=>(ie [a0.Na,(49+(y44.length:Int)),a0.M3,0,x47,a0.M7,a0.MW,a0.Ng,a0.MG,a0.MJ,a0.MX,(a0.MK.length:Int)]).bind fun (x50,x51)=>if 21≤x50.length then (if (x50.drop 21).length+y44.length≤9223372036854775807 then ((oR ((x50.drop 21)++y44)).bind fun x55=>if -9223372036854775808≤x55∧x55≤9223372036854775807 then (if -9223372036854775808≤(49+(y44.length:Int))∧(49+(y44.length:Int))≤9223372036854775807 then ((fO a0).bind fun x59=>(ie [a0.Na,(49+(y44.length:Int)),a0.M3,x55,x59,a0.M7,a0.MW,a0.Ng,a0.MG,a0.MJ,a0.MX,(a0.MK.length:Int)]).bind fun (x62,x63)=>if x62.length+y44.length≤9223372036854775807 then some (x62++y44) else none) else none) else none) else none) else none) else none
theorem sZ (a0:Bat) (A1:Option Addr) (c2:Nat) (r:List UInt8) (h:kF a0=some r):aH Tryz.prog 111 #[.agg (wA0 a0 A1 c2)] (RX.of (aq 7 da) [.slice A1 a0.MK.length c2] a0.MK) (aK) (fun v A' N=>v=jS r∧A'=aK∧N = []):=by
 refine aU Tryz.func111 Z Tryz.ntmps111 Z ?_
 intro F w hX
 unfold kF at h
 refine KG Z (TL.box Z .u Z Z (fun b3=>(K8 aa Z Z (KP aa Z (T.seq (KG Z (KP aa Z (T.block ?_))))))))
 obtain⟨E6,hE7,hO8⟩:=Np h
 refine Lv (fun m e Rs=> ∃ (y4:List UInt8) (k5:Nat),e = [(1,jP b3),(2,.string ⟨#[]⟩),(3,jS y4),(4,jI (k5:Int))]∧Rs = [aW b3 97 (wA0 a0 A1 c2),aK]∧eE a0 m y4 k5=some E6) (((a0.MK.length:Int)).toNat+1) [0,0] ⟨[],0,Z,Z,by exact hE7⟩ QJ QJ ?_
 clear hE7 h
 rintro m9 _ _ ⟨y4,k5,rfl,rfl,h⟩
 cases m9 with
 | zero =>
  rw[eE] at h
  cases h
 | succ m9 =>
  rw[eE] at h
  refine T.seq (KG Z (KK aa an 0 Z 3 Z Z (KH Z (KX Z NK) Z (KF aa 1 Z ?_))))
  rcases jF h with⟨c13,h⟩ | ⟨c13,h⟩
  ·refine La Z c13 (K3 (T.seq (T.block (T.region Z ?_))))
   obtain⟨x14,hx15,h⟩:=Np h
   obtain⟨gz16,oz16,rfl,z16cs,z16cl,z16cc,z16nf,z16r⟩:=Lf QH hX hx15
   obtain⟨z16S,z16r,z16rr⟩:=z16r
   obtain⟨A17,c18,rfl,z16s0⟩:=z16r
   have hX19:(RX.of (aq 3 dq) [.slice A17 x14.MU.length c18] x14.MU).reads w F:=⟨z16S,z16s0,z16rr⟩
   refine KK aa an 0 Z 4 Z Z ?_
   refine KH Z (K1 (k:=k5) Z Z Z NK NG (Nw hx15).1) Z ?_
   refine KH Z (LI (us:=wL1 x14 A17 c18) 0 Z Oa NG z16nf z16cc Z Z Z) Z ?_
   obtain⟨x20,hx21,h⟩:=Np h
   refine K2 Z .u (.fn Tryz.call162 Z) (ul x14 _ _ _ hx21) (fun _ hs=>(K0 hs hX19)) Z ?_
   obtain⟨c22,h⟩:=ao h
   refine KH Z (Lh Z Z c22) Z (KF aa 1 Z (TL.nil (K4 (X.seq (T.region Z ?_)))))
   obtain⟨c23,h⟩:=ao h
   exact KF aa 1 Z (KH Z (Ex.add Z Z c23) Z (KF aa 1 Z (TL.nil (X.back (m':=m9) [0,0] QG ⟨(y4++x20),k5+1,Z,Z,h⟩ QJ QJ))))
  refine K9 Z c13 ?_
  obtain rfl:=Nq h
  replace h:=hO8
  clear hO8
  refine T.exit (KZ (KZ (Lu (X.seq (T.seq (Lm (.q 0 (.q 1 (.q 2 (.q 3 (.q 4 (.q 5 (.q 6 (.q 7 (.q 9 (.q 10 (.q 11 (.q 12 (.q 13 (.q 14 (.q 15 (.q 16 (.q 17 (.q 18 (.q 19 (.q 20 (.q 21 (.q 22 (.q 23 (.e 8 (.e 24 (.e 25 (.q 26 (.q 27 (.q 28 (.q 29 (.q 30 .nil))))))))))))))))))))))))))))))) [0,0] Z gr (NoP.seq bu) QI ?_))))))
  refine TD.run aa [0] Z Z (KO Z (K5 0 Z Nz Z Z) Z (TD.run aa [2] Z Z (KO Z (Lx Z NE) Z ?_)))
  obtain⟨c24,h⟩:=ao h
  refine KO Z (Ex.add Z Z c24) Z (TD.run aa [5] Z Z (KO Z (K5 0 Z Nz Z Z) Z (KO Z (KY (us:=wL5 a0 A1 c2) 0 Z N6 NJ Z Z Z) Z (TD.run aa [9] Z Z (KO Z (K5 0 Z Nz Z Z) Z (TD.run aa [11] Z Z (KO Z (K5 0 Z Nz Z Z) Z ?_)))))))
  refine TD.run aa [13] Z Z (KO Z (K5 0 Z Nz Z Z) Z (TD.run aa [15] Z Z (KO Z (K5 0 Z Nz Z Z) Z (TD.run aa [17] Z Z (KO Z (K5 0 Z Nz Z Z) Z (TD.run aa [19] Z Z (KO Z (K5 0 Z Nz Z Z) Z ?_)))))))
  refine TD.run aa [21] Z Z (KO Z (K5 0 Z PD Z Z) Z (KO Z (KX Z NK) Z ?_))
  obtain⟨x25,hx26,h⟩:=Np h
  refine Lw Z .u (.fn Tryz.call164 Z) (ld a0 _ _ _ hx26) (fun _ hs=>(K0 hs hX)) Z [0,0] (Z) ?_
  refine LY (cells:= #[jI a0.Na,jI (49+(y4.length:Int)),jI a0.M3,jI 0,jI x25,jI a0.M7,jI a0.MW,jI a0.Ng,jI a0.MG,jI a0.MJ,jI a0.MX,jI (a0.MK.length:Int)]) Z .u ko Z QI Z [1,1] (fun _=>Z) (fun b27=> ?_)
  refine Mn (us := [jI a0.Na,jI (49+(y4.length:Int)),jI a0.M3,jI 0,jI x25,jI a0.M7,jI a0.MW,jI a0.Ng,jI a0.MG,jI a0.MJ,jI a0.MX,jI (a0.MK.length:Int)]) (xs := [a0.Na,(49+(y4.length:Int)),a0.M3,0,x25,a0.M7,a0.MW,a0.Ng,a0.MG,a0.MJ,a0.MX,(a0.MK.length:Int)]) (E:=fh) (z:=1) Z (Nat.le_of_ble_eq_true Z) (fun _=>⟨Z,Z,⟨Z,Z,⟨Z,Z,⟨Z,Z,⟨Z,Z,⟨Z,Z,⟨Z,Z,⟨Z,Z,⟨Z,Z,⟨Z,Z,⟨Z,Z,⟨Z,Z,Z⟩⟩⟩⟩⟩⟩⟩⟩⟩⟩⟩⟩) ?_
  obtain⟨⟨x28,x29⟩,hx30,h⟩:=Np h
  refine Lw Z .u (.fn Tryz.call163 Z) (oV [a0.Na,(49+(y4.length:Int)),a0.M3,0,x25,a0.M7,a0.MW,a0.Ng,a0.MG,a0.MJ,a0.MX,(a0.MK.length:Int)] _ _ _ hx30) (fun _ hs=>(SrcE.res 0 hs Z (fun w G h=>cm QH w G h))) Z [1,1] (Z) (TD.run aa [26,27,28,29,30] Z Z (LF (KG Z ?_)))
  obtain⟨c31,h⟩:=ao h
  refine KF aa 1 Z ?_
  replace c31:21≤x28.length:=c31
  refine KH Z (Mx (p:=21) (q:=x28.length) (m:=(x28.drop 21)) Z NE (.some Z Z) .none (by first | omega | (dsimp only; omega)) (Ay _ _)) Z ?_
  obtain⟨c32,h⟩:=ao h
  refine KF aa 1 Z (KH Z (Lh Z Z c32) Z ?_)
  obtain⟨x33,hx34,h⟩:=Np h
  refine K2 Z .u (.fn Tryz.call165 Z) (xe ((x28.drop 21)++y4) _ hx34) rT Z ?_
  obtain⟨c35,h⟩:=ao h
  refine KH Z (Mf Z OJ OP c35) Z (KF aa 1 Z ?_)
  refine KI (T.seq (Lm (.q 0 (.q 1 (.q 2 (.q 3 (.q 4 (.q 5 (.q 6 (.q 7 (.q 8 (.q 10 (.q 11 (.q 12 (.q 13 (.q 14 (.q 15 (.q 16 (.q 17 (.q 18 (.q 19 (.q 20 (.q 21 (.q 22 (.q 23 (.q 24 (.e 9 (.e 25 (.e 26 (.q 27 (.q 28 (.q 29 (.q 30 (.q 31 .nil)))))))))))))))))))))))))))))))) [0,0,0] Z gr (NoP.seq bu) QI ?_))
  refine TD.run aa [0] Z Z (KO Z (K5 1 Z Nz Z Z) Z (TD.run aa [2] Z Z (KO Z (Lx Z NE) Z ?_)))
  obtain⟨c36,h⟩:=ao h
  refine KO Z (Ex.add Z Z c36) Z (TD.run aa [5] Z Z (KO Z (K5 1 Z Nz Z Z) Z (TD.run aa [7] Z Z (KO Z (KY (us:=wL5 a0 A1 c2) 1 Z N6 NJ Z Z Z) Z (TD.run aa [10] Z Z (KO Z (K5 1 Z Nz Z Z) Z (TD.run aa [12] Z Z ?_)))))))
  refine KO Z (K5 1 Z Nz Z Z) Z (TD.run aa [14] Z Z (KO Z (K5 1 Z Nz Z Z) Z (TD.run aa [16] Z Z (KO Z (K5 1 Z Nz Z Z) Z (TD.run aa [18] Z Z (KO Z (K5 1 Z Nz Z Z) Z (TD.run aa [20] Z Z ?_)))))))
  refine KO Z (K5 1 Z Nz Z Z) Z (TD.run aa [22] Z Z (KO Z (K5 1 Z PD Z Z) Z (KO Z (KX Z NK) Z ?_)))
  obtain⟨x37,hx38,h⟩:=Np h
  refine Lw Z .u (.fn Tryz.call164 Z) (ld a0 _ _ _ hx38) (fun _ hs=>(K0 hs hX)) Z [0,0,0] (Z) ?_
  refine LY (cells:= #[jI a0.Na,jI (49+(y4.length:Int)),jI a0.M3,jI x33,jI x37,jI a0.M7,jI a0.MW,jI a0.Ng,jI a0.MG,jI a0.MJ,jI a0.MX,jI (a0.MK.length:Int)]) Z .u ko Z QI Z [1,1,1] (fun _=>Z) (fun b39=> ?_)
  refine Mn (us := [jI a0.Na,jI (49+(y4.length:Int)),jI a0.M3,jI x33,jI x37,jI a0.M7,jI a0.MW,jI a0.Ng,jI a0.MG,jI a0.MJ,jI a0.MX,jI (a0.MK.length:Int)]) (xs := [a0.Na,(49+(y4.length:Int)),a0.M3,x33,x37,a0.M7,a0.MW,a0.Ng,a0.MG,a0.MJ,a0.MX,(a0.MK.length:Int)]) (E:=fh) (z:=1) Z (Nat.le_of_ble_eq_true Z) (fun _=>⟨Z,Z,⟨Z,Z,⟨Z,Z,⟨Z,Z,⟨Z,Z,⟨Z,Z,⟨Z,Z,⟨Z,Z,⟨Z,Z,⟨Z,Z,⟨Z,Z,⟨Z,Z,Z⟩⟩⟩⟩⟩⟩⟩⟩⟩⟩⟩⟩) ?_
  obtain⟨⟨x40,x41⟩,hx42,h⟩:=Np h
  refine Lw Z .u (.fn Tryz.call163 Z) (oV [a0.Na,(49+(y4.length:Int)),a0.M3,x33,x37,a0.M7,a0.MW,a0.Ng,a0.MG,a0.MJ,a0.MX,(a0.MK.length:Int)] _ _ _ hx42) (fun _ hs=>(SrcE.res 0 hs Z (fun w G h=>cm QH w G h))) Z [1,1,1] (Z) (TD.run aa [27,28,29,30,31] Z Z (LF (KG Z ?_)))
  obtain⟨c43,h⟩:=ao h
  refine KF aa 2 Z (KH Z (Lh Z Z c43) Z (KF aa 1 Z ?_))
  obtain rfl:=Nq h
  exact KI (T.ret (KQ [3] Tryz.results111 (KJ Z)))
def fG (a0:Bat) (a1:Bat):Nat→Bool→Nat→Option (Lp Bool (Bool×Nat))
 | 0,_,_=>none
 | m38+1,y33,k34=>if (k34:Int)<(a0.MK.length:Int) then ((a0.MK[k34]?).bind fun x43=>(a1.MK[k34]?).bind fun x49=>(ng x43 x49).bind fun x55=>if x55=true then (if -9223372036854775808≤((k34:Int)+1)∧((k34:Int)+1)≤9223372036854775807 then (fG a0 a1 m38 y33 (k34+1)) else none) else some (Lp.ret false)) else (some (Lp.go (y33,k34)))
def nh (a0:Bat) (a1:Bat):Option (Bool):=(if a0.Na=a1.Na then (if a0.M3=a1.M3 then (if (a0.Nh == a1.Nh)=true then (if (a0.Nd == a1.Nd)=true then (if (a0.Nc == a1.Nc)=true then (if a0.M7=a1.M7 then (if a0.MW=a1.MW then (if a0.Ng=a1.Ng then (if a0.MG=a1.MG then (if a0.MJ=a1.MJ then (if a0.MX=a1.MX then (if (a0.MK.length:Int)=(a1.MK.length:Int) then some false else some true) else some true) else some true) else some true) else some true) else some true) else some true) else some true) else some true) else some true) else some true) else some true).bind fun y18=>if y18=true then some false else ((fG a0 a1 (((a0.MK.length:Int)).toNat+1) false 0).bind fun e=>match e with | .ret r=>some r | .go (y59,k60)=>some true)
theorem vT (a0:Bat) (A1:Option Addr) (c2:Nat) (a1:Bat) (A3:Option Addr) (c4:Nat) (r:Bool) (h:nh a0 a1=some r):aH Tryz.prog 167 #[.agg (wA0 a0 A1 c2),.agg (wA0 a1 A3 c4)] (RX.and (RX.of (aq 7 da) [.slice A1 a0.MK.length c2] a0.MK) (RX.of (aq 7 da) [.slice A3 a1.MK.length c4] a1.MK)) (aK) (fun v A' N=>v= .bool r∧A'=aK∧N = []):=by
 refine aU Tryz.func167 Z Tryz.ntmps167 Z ?_
 intro F w hX
 unfold nh at h
 refine KG Z (TL.box Z .u Z Z (fun b5=>(TL.box Z .u Z Z (fun b6=>(KP aa Z (L3 ?_))))))
 obtain⟨y18,h,hk19⟩:=Np h
 refine Lz (fun e Rs=>e = [(2,jP b5),(3,jP b6),(4,.bool false),(89,.bool y18)]∧Rs = [aW b6 97 (wA0 a1 A3 c4),aW b5 97 (wA0 a0 A1 c2),aK]) ?_ ?_
 ·clear hk19
  refine T.region Z (KK aa an 1 Z 3 Z Z ?_)
  rcases jF h with⟨c20,h⟩ | ⟨c20,h⟩
  ·refine KK aa an 0 Z 3 Z Z (KN 11 Z (bf (Nt c20)) (KK aa an 1 Z 3 Z Z ?_))
   rcases jF h with⟨c21,h⟩ | ⟨c21,h⟩
   ·refine KK aa an 0 Z 4 Z Z (KN 18 Z (bf (Nt c21)) (KK aa an 1 Z 3 Z Z (KK aa an 0 Z 1 Z Z (TL.q Z (.g Z Z Z) (LV Z Z Z Z N1) Z ?_))))
    rcases jF h with⟨c22,h⟩ | ⟨c22,h⟩
    ·refine KM aa 2 Z (KN 25 Z (bf c22) (KK aa an 1 Z 3 Z Z (KK aa an 0 Z 1 Z Z (TL.q Z (.g Z Z Z) (LV Z Z Z Z N1) Z ?_))))
     rcases jF h with⟨c23,h⟩ | ⟨c23,h⟩
     ·refine KM aa 2 Z (KN 32 Z (bf c23) (KK aa an 1 Z 3 Z Z (KK aa an 0 Z 1 Z Z (TL.q Z (.g Z Z Z) (LV Z Z Z Z N1) Z ?_))))
      rcases jF h with⟨c24,h⟩ | ⟨c24,h⟩
      ·refine KM aa 2 Z (KN 39 Z (bf c24) (KK aa an 1 Z 3 Z Z ?_))
       rcases jF h with⟨c25,h⟩ | ⟨c25,h⟩
       ·refine KK aa an 0 Z 4 Z Z (KN 46 Z (bf (Nt c25)) (KK aa an 1 Z 3 Z Z ?_))
        rcases jF h with⟨c26,h⟩ | ⟨c26,h⟩
        ·refine KK aa an 0 Z 4 Z Z (KN 53 Z (bf (Nt c26)) (KK aa an 1 Z 3 Z Z ?_))
         rcases jF h with⟨c27,h⟩ | ⟨c27,h⟩
         ·refine KK aa an 0 Z 4 Z Z (KN 60 Z (bf (Nt c27)) (KK aa an 1 Z 3 Z Z ?_))
          rcases jF h with⟨c28,h⟩ | ⟨c28,h⟩
          ·refine KK aa an 0 Z 4 Z Z (KN 67 Z (bf (Nt c28)) (KK aa an 1 Z 3 Z Z ?_))
           rcases jF h with⟨c29,h⟩ | ⟨c29,h⟩
           ·refine KK aa an 0 Z 4 Z Z (KN 74 Z (bf (Nt c29)) (KK aa an 1 Z 3 Z Z ?_))
            rcases jF h with⟨c30,h⟩ | ⟨c30,h⟩
            ·refine KK aa an 0 Z 4 Z Z (KN 81 Z (bf (Nt c30)) (KK aa an 1 Z 2 Z Z (TL.q Z (.g Z Z Z) (KX Z NK) Z (KK aa an 0 Z 2 Z Z (TL.q Z (.g Z Z Z) (KX Z NK) Z (KM aa 2 Z ?_))))))
             rcases jF h with⟨c31,h⟩ | ⟨c31,h⟩
             ·cases h
              exact TL.nil (LE (d:=89) (v':= .bool false) Z (congrArg Value.bool (bf (Nt c31))) (KR [0,0,0]))
             cases h
             exact TL.nil (LE (d:=89) (v':= .bool true) Z (congrArg Value.bool (bG (Nu c31))) (KR [0,0,0]))
            refine KK aa an 0 Z 4 Z Z (KN 81 Z (bG (Nu c30)) (KM aa 8 Z ?_))
            cases h
            exact TL.nil (KR [0,0,0])
           refine KK aa an 0 Z 4 Z Z (KN 74 Z (bG (Nu c29)) (KM aa 15 Z ?_))
           cases h
           exact TL.nil (KR [0,0,0])
          refine KK aa an 0 Z 4 Z Z (KN 67 Z (bG (Nu c28)) (KM aa 22 Z ?_))
          cases h
          exact TL.nil (KR [0,0,0])
         refine KK aa an 0 Z 4 Z Z (KN 60 Z (bG (Nu c27)) (KM aa 29 Z ?_))
         cases h
         exact TL.nil (KR [0,0,0])
        refine KK aa an 0 Z 4 Z Z (KN 53 Z (bG (Nu c26)) (KM aa 36 Z ?_))
        cases h
        exact TL.nil (KR [0,0,0])
       refine KK aa an 0 Z 4 Z Z (KN 46 Z (bG (Nu c25)) (KM aa 43 Z ?_))
       cases h
       exact TL.nil (KR [0,0,0])
      replace c24:=Nx c24
      refine KM aa 2 Z (KN 39 Z (bG c24) (KM aa 50 Z ?_))
      cases h
      exact TL.nil (KR [0,0,0])
     replace c23:=Nx c23
     refine KM aa 2 Z (KN 32 Z (bG c23) (KM aa 57 Z ?_))
     cases h
     exact TL.nil (KR [0,0,0])
    replace c22:=Nx c22
    refine KM aa 2 Z (KN 25 Z (bG c22) (KM aa 64 Z ?_))
    cases h
    exact TL.nil (KR [0,0,0])
   refine KK aa an 0 Z 4 Z Z (KN 18 Z (bG (Nu c21)) (KM aa 71 Z ?_))
   cases h
   exact TL.nil (KR [0,0,0])
  refine KK aa an 0 Z 3 Z Z (KN 11 Z (bG (Nu c20)) (KM aa 78 Z ?_))
  cases h
  exact TL.nil (KR [0,0,0])
 rintro _ _ ⟨rfl,rfl⟩
 clear h
 have h:=hk19
 clear hk19
 try dsimp only at h
 rcases jF h with⟨c32,h⟩ | ⟨c32,h⟩
 ·refine X.seq (KV Z c32 (KG Z (KF aa 1 Z ?_)))
  obtain rfl:=Nq h
  exact KI (T.ret (KL (KQ [2] Tryz.results167 (KJ Z))))
 replace c32:=Nx c32
 refine X.seq (Lb Z c32 (K3 (T.seq (KG Z (KP aa Z (T.block ?_))))))
 obtain⟨E35,hE36,hO37⟩:=Np h
 refine Lv (fun m e Rs=> ∃ (y33:Bool) (k34:Nat),e = [(2,jP b5),(3,jP b6),(4,.bool y33),(5,jI (k34:Int))]∧Rs = [aW b6 97 (wA0 a1 A3 c4),aW b5 97 (wA0 a0 A1 c2),aK]∧fG a0 a1 m y33 k34=some E35) (((a0.MK.length:Int)).toNat+1) [0,0,0] ⟨false,0,Z,Z,by exact hE36⟩ QJ QJ ?_
 clear hE36 h
 rintro m38 _ _ ⟨y33,k34,rfl,rfl,h⟩
 cases m38 with
 | zero =>
  rw[fG] at h
  cases h
 | succ m38 =>
  rw[fG] at h
  refine T.seq (KG Z (KK aa an 1 Z 3 Z Z (KH Z (KX Z NK) Z (KF aa 1 Z ?_))))
  rcases jF h with⟨c42,h⟩ | ⟨c42,h⟩
  ·refine La Z c42 ?_
   refine K3 (T.seq (T.block (T.seq (Lm (.q 0 (.q 1 (.q 2 (.q 3 (.q 4 (.q 5 (.q 6 (.q 7 (.q 8 (.q 9 (.e 10 (.q 11 .nil)))))))))))) [0,0,0] Z gr (NoP.seq (NoP.blk (NoP.seq (NoP.seq (NoP.blk (NoP.seq bu)))))) QI ?_))))
   refine TD.run aa [0] Z Z (KO Z (K5 1 Z PD Z Z) Z ?_)
   obtain⟨x43,hx44,h⟩:=Np h
   obtain⟨gz45,oz45,rfl,z45cs,z45cl,z45cc,z45nf,z45r⟩:=Lf QH (Ll hX) hx44
   obtain⟨z45S,z45r,z45rr⟩:=z45r
   obtain⟨A46,c47,rfl,z45s0⟩:=z45r
   have hX48:(RX.of (aq 3 dq) [.slice A46 x43.MU.length c47] x43.MU).reads w F:=⟨z45S,z45s0,z45rr⟩
   refine TD.run aa [2] Z Z ?_
   refine KO Z (K1 (k:=k34) Z Z Z NK NG (Nw hx44).1) Z ?_
   refine KO Z (LI (us:=wL1 x43 A46 c47) 0 Z Oa NG z45nf z45cc Z Z Z) Z (TD.run aa [5] Z Z (KO Z (K5 0 Z PD Z Z) Z ?_))
   obtain⟨x49,hx50,h⟩:=Np h
   obtain⟨gz51,oz51,rfl,z51cs,z51cl,z51cc,z51nf,z51r⟩:=Lf QH (K6 hX) hx50
   obtain⟨z51S,z51r,z51rr⟩:=z51r
   obtain⟨A52,c53,rfl,z51s0⟩:=z51r
   have hX54:(RX.of (aq 3 dq) [.slice A52 x49.MU.length c53] x49.MU).reads w F:=⟨z51S,z51s0,z51rr⟩
   refine TD.run aa [7] Z Z ?_
   refine KO Z (K1 (k:=k34) Z Z Z NK NG (Nw hx50).1) Z ?_
   refine KO Z (LI (us:=wL1 x49 A52 c53) 0 Z Oa NG z51nf z51cc Z Z Z) Z ?_
   obtain⟨x55,hx56,h⟩:=Np h
   refine Lw Z .u (.fn Tryz.call209 Z) (vR x43 _ _ x49 _ _ _ hx56) (fun _ hs=>(RX.reads_and (K0 hs hX48) (K0 hs hX54))) Z [0,0,0] (Z) (TD.run aa [11] Z Z ?_)
   rcases jF h with⟨c57,h⟩ | ⟨c57,h⟩
   ·refine LF (Lb Z (bf c57) (T.skip (K4 (X.seq (T.region Z ?_)))))
    obtain⟨c58,h⟩:=ao h
    exact KF aa 1 Z (KH Z (Ex.add Z Z c58) Z (KF aa 1 Z (TL.nil (X.back (m':=m38) [0,0,0] QG ⟨y33,k34+1,Z,Z,h⟩ QJ QJ))))
   replace c57:=Nx c57
   refine LF (KV Z (bG c57) (KG Z (KF aa 1 Z ?_)))
   obtain rfl:=Nq h
   obtain rfl:=Nq hO37
   exact KI (T.ret (KU (KL (KL (KU (KL (KQ [2] Tryz.results167 (KJ Z))))))))
  refine K9 Z c42 ?_
  obtain rfl:=Nq h
  replace h:=hO37
  clear hO37
  refine T.exit (KZ (KZ (Lu (X.seq (KG Z (KF aa 1 Z ?_))))))
  obtain rfl:=Nq h
  exact KI (T.ret (KQ [2] Tryz.results167 (KJ Z)))
def fH (a0:List Bat) (a1:List Bat):Nat→Bool→Nat→Option (Lp Bool (Bool×Nat))
 | 0,_,_=>none
 | m11+1,y6,k7=>if (k7:Int)<(a0.length:Int) then ((a0[k7]?).bind fun x16=>(a1[k7]?).bind fun x22=>(nh x16 x22).bind fun x28=>if x28=true then (if -9223372036854775808≤((k7:Int)+1)∧((k7:Int)+1)≤9223372036854775807 then (fH a0 a1 m11 y6 (k7+1)) else none) else some (Lp.ret false)) else (some (Lp.go (y6,k7)))
def lq (a0:List Bat) (a1:List Bat):Option (Bool):=if (a0.length:Int)=(a1.length:Int) then ((fH a0 a1 (((a0.length:Int)).toNat+1) false 0).bind fun e=>match e with | .ret r=>some r | .go (y32,k33)=>some true) else some false
theorem vU (a0:List Bat) (A1:Option Addr) (c2:Nat) (a1:List Bat) (A3:Option Addr) (c4:Nat) (r:Bool) (h:lq a0 a1=some r):aH Tryz.prog 114 #[.slice A1 a0.length c2,.slice A3 a1.length c4] (RX.and (RX.of (aq 12 dG) [.slice A1 a0.length c2] a0) (RX.of (aq 12 dG) [.slice A3 a1.length c4] a1)) (aK) (fun v A' N=>v= .bool r∧A'=aK∧N = []):=by
 refine aU Tryz.func114 Z Tryz.ntmps114 Z ?_
 intro F w hX
 unfold lq at h
 refine KG Z (KP aa Z (T.seq (KG Z (KF aa 1 Z (KH Z (KX Z NY) Z (KF aa 1 Z (KH Z (KX Z NY) Z (KF aa 1 Z ?_))))))))
 rcases jF h with⟨c5,h⟩ | ⟨c5,h⟩
 ·refine Lj Z c5 (K3 (T.seq (KG Z (KP aa Z (T.block ?_)))))
  obtain⟨E8,hE9,hO10⟩:=Np h
  refine Lv (fun m e Rs=> ∃ (y6:Bool) (k7:Nat),e = [(0,.slice A1 a0.length c2),(1,.slice A3 a1.length c4),(4,.bool y6),(5,jI (k7:Int))]∧Rs = [aK]∧fH a0 a1 m y6 k7=some E8) (((a0.length:Int)).toNat+1) [0] ⟨false,0,Z,Z,by exact hE9⟩ QJ QJ ?_
  clear hE9 h
  rintro m11 _ _ ⟨y6,k7,rfl,rfl,h⟩
  cases m11 with
  | zero =>
   rw[fH] at h
   cases h
  | succ m11 =>
   rw[fH] at h
   refine T.seq (KG Z (KF aa 2 Z (KH Z (KX Z NY) Z (KF aa 1 Z ?_))))
   rcases jF h with⟨c15,h⟩ | ⟨c15,h⟩
   ·refine La Z c15 ?_
    refine K3 (T.seq (T.block (T.seq (Lm (.q 0 (.q 1 (.q 2 (.q 3 (.q 4 (.q 5 (.q 6 (.q 7 (.e 8 (.q 9 .nil)))))))))) [0] Z gr (NoP.seq (NoP.blk (NoP.seq (NoP.seq (NoP.blk (NoP.seq bu)))))) QI ?_))))
    obtain⟨x16,hx17,h⟩:=Np h
    obtain⟨gz18,oz18,rfl,z18cs,z18cl,z18cc,z18nf,z18r⟩:=Lf QH (Ll hX) hx17
    obtain⟨z18S,z18r,z18rr⟩:=z18r
    obtain⟨A19,c20,rfl,z18s0⟩:=z18r
    have hX21:(RX.of (aq 7 da) [.slice A19 x16.MK.length c20] x16.MK).reads w F:=⟨z18S,z18s0,z18rr⟩
    refine TD.run aa [0,1] Z Z ?_
    refine KO Z (K1 (k:=k7) Z Z Z NY NJ (Nw hx17).1) Z ?_
    refine KO Z (LI (us:=wL5 x16 A19 c20) 0 Z N6 NJ z18nf z18cc Z Z Z) Z ?_
    obtain⟨x22,hx23,h⟩:=Np h
    obtain⟨gz24,oz24,rfl,z24cs,z24cl,z24cc,z24nf,z24r⟩:=Lf QH (K6 hX) hx23
    obtain⟨z24S,z24r,z24rr⟩:=z24r
    obtain⟨A25,c26,rfl,z24s0⟩:=z24r
    have hX27:(RX.of (aq 7 da) [.slice A25 x22.MK.length c26] x22.MK).reads w F:=⟨z24S,z24s0,z24rr⟩
    refine TD.run aa [4,5] Z Z ?_
    refine KO Z (K1 (k:=k7) Z Z Z NY NJ (Nw hx23).1) Z ?_
    refine KO Z (LI (us:=wL5 x22 A25 c26) 0 Z N6 NJ z24nf z24cc Z Z Z) Z ?_
    obtain⟨x28,hx29,h⟩:=Np h
    refine Lw Z .u (.fn Tryz.call167 Z) (vT x16 _ _ x22 _ _ _ hx29) (fun _ hs=>(RX.reads_and (K0 hs hX21) (K0 hs hX27))) Z [0] (Z) (TD.run aa [9] Z Z ?_)
    rcases jF h with⟨c30,h⟩ | ⟨c30,h⟩
    ·refine LF (Lb Z (bf c30) (T.skip (K4 (X.seq (T.region Z ?_)))))
     obtain⟨c31,h⟩:=ao h
     exact KF aa 1 Z (KH Z (Ex.add Z Z c31) Z (KF aa 1 Z (TL.nil (X.back (m':=m11) [0] QG ⟨y6,k7+1,Z,Z,h⟩ QJ QJ))))
    replace c30:=Nx c30
    refine LF (KV Z (bG c30) (KG Z (KF aa 1 Z ?_)))
    obtain rfl:=Nq h
    obtain rfl:=Nq hO10
    exact KI (T.ret (KU (KL (KL (KU (KL (KQ [0] Tryz.results114 (KJ Z))))))))
   refine K9 Z c15 ?_
   obtain rfl:=Nq h
   replace h:=hO10
   clear hO10
   refine T.exit (KZ (KZ (Lu (X.seq (KG Z (KF aa 1 Z ?_))))))
   obtain rfl:=Nq h
   exact KI (T.ret (KQ [0] Tryz.results114 (KJ Z)))
 refine Li Z c5 (KG Z (KF aa 1 Z ?_))
 obtain rfl:=Nq h
 exact KI (T.ret (KL (KQ [0] Tryz.results114 (KJ Z))))
def uw:fg := []
theorem bD:(uw).OK Tryz.prog:=trivial
theorem s6:Tryz.prog.follows .mixedOrders=true:=by kernel_rfl
def fI (a0:List Int) (a1:List Int):Nat→Bool→Nat→Option (Lp Bool (Bool×Nat))
 | 0,_,_=>none
 | m11+1,y6,k7=>if (k7:Int)<(a0.length:Int) then ((a0[k7]?).bind fun x16=>(a1[k7]?).bind fun x19=>if x16=x19 then (if -9223372036854775808≤((k7:Int)+1)∧((k7:Int)+1)≤9223372036854775807 then (fI a0 a1 m11 y6 (k7+1)) else none) else some (Lp.ret false)) else (some (Lp.go (y6,k7)))
def ni (a0:List Int) (a1:List Int):Option (Bool):=if (a0.length:Int)=(a1.length:Int) then ((fI a0 a1 (((a0.length:Int)).toNat+1) false 0).bind fun e=>match e with | .ret r=>some r | .go (y24,k25)=>some true) else some false
theorem vV (a0:List Int) (A1:Option Addr) (c2:Nat) (a1:List Int) (A3:Option Addr) (c4:Nat) (r:Bool) (h:ni a0 a1=some r):aH Tryz.prog 166 #[.slice A1 a0.length c2,.slice A3 a1.length c4] (RX.and (RX.of (aq 1 fh) [.slice A1 a0.length c2] a0) (RX.of (aq 1 fh) [.slice A3 a1.length c4] a1)) (aK) (fun v A' N=>v= .bool r∧A'=aK∧N = []):=by
 refine aU Tryz.func166 Z Tryz.ntmps166 Z ?_
 intro F w hX
 unfold ni at h
 refine KG Z (KP bD Z (T.seq (KG Z (KF bD 1 Z (KH Z (KX Z NF) Z (KF bD 1 Z (KH Z (KX Z NF) Z (KF bD 1 Z ?_))))))))
 rcases jF h with⟨c5,h⟩ | ⟨c5,h⟩
 ·refine Lj Z c5 (K3 (T.seq (KG Z (KP bD Z (T.block ?_)))))
  obtain⟨E8,hE9,hO10⟩:=Np h
  refine Lv (fun m e Rs=> ∃ (y6:Bool) (k7:Nat),e = [(0,.slice A1 a0.length c2),(1,.slice A3 a1.length c4),(4,.bool y6),(5,jI (k7:Int))]∧Rs = [aK]∧fI a0 a1 m y6 k7=some E8) (((a0.length:Int)).toNat+1) [0] ⟨false,0,Z,Z,by exact hE9⟩ QJ QJ ?_
  clear hE9 h
  rintro m11 _ _ ⟨y6,k7,rfl,rfl,h⟩
  cases m11 with
  | zero =>
   rw[fI] at h
   cases h
  | succ m11 =>
   rw[fI] at h
   refine T.seq (KG Z (KF bD 2 Z (KH Z (KX Z NF) Z (KF bD 1 Z ?_))))
   rcases jF h with⟨c15,h⟩ | ⟨c15,h⟩
   ·refine La Z c15 ?_
    refine K3 (T.seq (T.block (T.seq (Lm (.q 0 (.q 1 (.q 2 (.q 3 (.q 4 (.q 5 (.q 6 (.q 7 (.q 8 .nil))))))))) [0] Z s6 (NoP.seq (NoP.blk (NoP.seq (NoP.seq (NoP.blk (NoP.seq bu)))))) QI ?_))))
    obtain⟨x16,hx17,h⟩:=Np h
    obtain⟨gz18,oz18,rfl,z18cs,z18cl,z18cc,z18nf,z18r⟩:=Lf QH (Ll hX) hx17
    obtain⟨z18S,z18r,z18rr⟩:=z18r
    obtain rfl:z18cs = [jI x16]:=z18r
    refine TD.run bD [0,1] Z Z ?_
    refine KO Z (K1 (k:=k7) Z Z Z NF Ny (Nw hx17).1) Z ?_
    refine KO Z (Ln 0 Z Nz z18nf z18cc Z Z) Z ?_
    obtain⟨x19,hx20,h⟩:=Np h
    obtain⟨gz21,oz21,rfl,z21cs,z21cl,z21cc,z21nf,z21r⟩:=Lf QH (K6 hX) hx20
    obtain⟨z21S,z21r,z21rr⟩:=z21r
    obtain rfl:z21cs = [jI x19]:=z21r
    refine TD.run bD [4,5] Z Z ?_
    refine KO Z (K1 (k:=k7) Z Z Z NF Ny (Nw hx20).1) Z ?_
    refine KO Z (Ln 0 Z Nz z21nf z21cc Z Z) Z (TD.run bD [8] Z Z ?_)
    rcases jF h with⟨c22,h⟩ | ⟨c22,h⟩
    ·refine LF (T.nn Z c22 (T.skip (K4 (X.seq (T.region Z ?_)))))
     obtain⟨c23,h⟩:=ao h
     exact KF bD 1 Z (KH Z (Ex.add Z Z c23) Z (KF bD 1 Z (TL.nil (X.back (m':=m11) [0] QG ⟨y6,k7+1,Z,Z,h⟩ QJ QJ))))
    refine LF (T.yn Z c22 (KG Z (KF bD 1 Z ?_)))
    obtain rfl:=Nq h
    obtain rfl:=Nq hO10
    exact KI (T.ret (KU (KL (KL (KU (KL (KQ [0] Tryz.results166 (KJ Z))))))))
   refine K9 Z c15 ?_
   obtain rfl:=Nq h
   replace h:=hO10
   clear hO10
   refine T.exit (KZ (KZ (Lu (X.seq (KG Z (KF bD 1 Z ?_))))))
   obtain rfl:=Nq h
   exact KI (T.ret (KQ [0] Tryz.results166 (KJ Z)))
 refine Li Z c5 (KG Z (KF bD 1 Z ?_))
 obtain rfl:=Nq h
 exact KI (T.ret (KL (KQ [0] Tryz.results166 (KJ Z))))
def ux:fg := [(23,0,0),(23,1,1),(171,0,0),(171,1,1),(212,0,0),(212,1,2),(212,2,3)]
theorem ag:(ux).OK Tryz.prog:=⟨FOK.mk NS rfl N5 rfl,FOK.mk NS rfl NZ rfl,FOK.mk OQ rfl NZ rfl,FOK.mk OQ rfl Pp rfl,FOK.mk N9 rfl ND rfl,FOK.mk N9 rfl Ny rfl,FOK.mk N9 rfl Ny rfl,trivial⟩
theorem gv:Tryz.prog.follows .mixedOrders=true:=by kernel_rfl
theorem qv:BOK Tryz.prog 23 #[.bool false,.string ⟨#[]⟩] [(0,1),(1,1)]:=BOK.mk Tryz.zeroValue23 NS (by intro w; simp)
def cF (a0:List UInt8) (a1:List UInt8):Nat→Bool→Nat→Option (Lp Bool (Bool×Nat))
 | 0,_,_=>none
 | m6+1,y1,k2=>if (k2:Int)<(a0.length:Int) then (if (k2:Int)<(a1.length:Int) then ((a0[k2]?).bind fun ch12=>(a1[k2]?).bind fun ch14=>if (ch12.toNat:Int)=(ch14.toNat:Int) then (if -9223372036854775808≤((k2:Int)+1)∧((k2:Int)+1)≤9223372036854775807 then (cF a0 a1 m6 y1 (k2+1)) else none) else (if (ch12.toNat:Int)<(ch14.toNat:Int) then some (Lp.ret true) else some (Lp.ret false))) else (some (Lp.go (y1,k2)))) else (some (Lp.go (y1,k2)))
def jg (a0:List UInt8) (a1:List UInt8):Option (Bool):=(cF a0 a1 (((a1.length:Int)).toNat+1) false 0).bind fun e=>match e with | .ret r=>some r | .go (y21,k22)=>(if (a0.length:Int)<(a1.length:Int) then some true else some false)
theorem vW (a0:List UInt8) (a1:List UInt8) (r:Bool) (h:jg a0 a1=some r):aH Tryz.prog 160 #[jS a0,jS a1] .triv (aK) (fun v A' N=>v= .bool r∧A'=aK∧N = []):=by
 refine aU Tryz.func160 Z Tryz.ntmps160 Z ?_
 intro F w hX
 unfold jg at h
 refine KG Z (KP ag Z (T.seq (KG Z (KP ag Z (T.block ?_)))))
 obtain⟨E3,hE4,hO5⟩:=Np h
 refine Lv (fun m e Rs=> ∃ (y1:Bool) (k2:Nat),e = [(0,jS a0),(1,jS a1),(4,.bool y1),(5,jI (k2:Int))]∧Rs = [aK]∧cF a0 a1 m y1 k2=some E3) (((a1.length:Int)).toNat+1) [0] ⟨false,0,Z,Z,by exact hE4⟩ QJ QJ ?_
 clear hE4 h
 rintro m6 _ _ ⟨y1,k2,rfl,rfl,h⟩
 cases m6 with
 | zero =>
  rw[cF] at h
  cases h
 | succ m6 =>
  rw[cF] at h
  refine T.seq (KG Z (KF ag 2 Z (KH Z (Lx Z NE) Z ?_)))
  rcases jF h with⟨c10,h⟩ | ⟨c10,h⟩
  ·refine KF ag 2 Z (KN 10 Z (Nt c10) (KM ag 2 Z (TL.q Z (.g Z Z Z) (Lx Z NE) Z (KM ag 2 Z ?_))))
   rcases jF h with⟨c11,h⟩ | ⟨c11,h⟩
   ·refine La Z c11 ?_
    refine K3 (T.seq (T.block (T.seq (Lm (.q 0 (.q 1 (.q 2 (.q 3 (.q 4 (.q 5 (.q 6 .nil))))))) [0] Z gv (NoP.seq (NoP.blk (NoP.seq (NoP.seq (NoP.blk (NoP.seq bu)))))) QI ?_))))
    obtain⟨ch12,hc13,h⟩:=Np h
    refine TD.run ag [0,1] Z Z (KO Z (Mw Z Z Z Tryz.underlying9 hc13) Z ?_)
    obtain⟨ch14,hc15,h⟩:=Np h
    refine TD.run ag [3,4] Z Z (KO Z (Mw Z Z Z Tryz.underlying9 hc15) Z (TD.run ag [6] Z Z ?_))
    rcases jF h with⟨c16,h⟩ | ⟨c16,h⟩
    ·refine LF (T.nn Z c16 (T.skip (K4 (X.seq (T.region Z ?_)))))
     obtain⟨c17,h⟩:=ao h
     exact KF ag 1 Z (KH Z (Ex.add Z Z c17) Z (KF ag 1 Z (TL.nil (X.back (m':=m6) [0] QG ⟨y1,k2+1,Z,Z,h⟩ QJ QJ))))
    refine LF (T.yn Z c16 ?_)
    refine T.seq (Lm (.q 0 (.q 1 (.q 2 (.q 3 (.q 4 (.q 5 (.q 6 (.q 7 .nil)))))))) [0] Z gv (NoP.seq (NoP.blk (NoP.seq (NoP.seq (NoP.blk (NoP.seq bu)))))) QI ?_)
    refine TD.run ag [0,1] Z Z (KO Z (Mw Z Z Z Tryz.underlying9 hc13) Z (TD.run ag [3,4] Z Z (KO Z (Mw Z Z Z Tryz.underlying9 hc15) Z (TD.run ag [6,7] Z Z ?_))))
    rcases jF h with⟨c18,h⟩ | ⟨c18,h⟩
    ·obtain rfl:=Nq h
     obtain rfl:=Nq hO5
     exact LF (T.ret (KU (KL (KL (KU (KL (Le [0] PJ (KJ (v:= .bool true) (congrArg (fun b=>some (Value.bool b)) (Nt c18))) ⟨Z,Z,Z⟩ QJ (.inl Z))))))))
    obtain rfl:=Nq h
    obtain rfl:=Nq hO5
    exact LF (T.ret (KU (KL (KL (KU (KL (Le [0] PJ (KJ (v:= .bool false) (congrArg (fun b=>some (Value.bool b)) (Nu c18))) ⟨Z,Z,Z⟩ QJ (.inl Z))))))))
   refine K9 Z c11 ?_
   obtain rfl:=Nq h
   replace h:=hO5
   clear hO5
   refine T.exit (KZ (KZ (Lu (X.seq (KG Z (KF ag 1 Z (KH Z (Lx Z NE) Z (KF ag 1 Z (KH Z (Lx Z NE) Z (KF ag 2 Z ?_))))))))))
   rcases jF h with⟨c19,h⟩ | ⟨c19,h⟩
   ·obtain rfl:=Nq h
    exact KI (T.ret (Le [0] PJ (KJ (v:= .bool true) (congrArg (fun b=>some (Value.bool b)) (Nt c19))) ⟨Z,Z,Z⟩ QJ (.inl Z)))
   obtain rfl:=Nq h
   exact KI (T.ret (Le [0] PJ (KJ (v:= .bool false) (congrArg (fun b=>some (Value.bool b)) (Nu c19))) ⟨Z,Z,Z⟩ QJ (.inl Z)))
  refine KF ag 2 Z (KN 10 Z (Nu c10) (Lq ag Z (Lb Z Z ?_)))
  obtain rfl:=Nq h
  replace h:=hO5
  clear hO5
  refine T.exit (KZ (KZ (Lu (X.seq (KG Z (KF ag 1 Z (KH Z (Lx Z NE) Z (KF ag 1 Z (KH Z (Lx Z NE) Z (KF ag 2 Z ?_))))))))))
  rcases jF h with⟨c20,h⟩ | ⟨c20,h⟩
  ·obtain rfl:=Nq h
   exact KI (T.ret (Le [0] PJ (KJ (v:= .bool true) (congrArg (fun b=>some (Value.bool b)) (Nt c20))) ⟨Z,Z,Z⟩ QJ (.inl Z)))
  obtain rfl:=Nq h
  exact KI (T.ret (Le [0] PJ (KJ (v:= .bool false) (congrArg (fun b=>some (Value.bool b)) (Nu c20))) ⟨Z,Z,Z⟩ QJ (.inl Z)))
def cG (x13:Top):Nat→Bool→Nat→Option (Lp Bool (Bool×Nat))
 | 0,_,_=>none
 | m39+1,y34,k35=>if (k35:Int)<(x13.MH.length:Int) then ((x13.MH[k35]?).bind fun x44=>if x44<0 then some (Lp.ret false) else (if x44>2147483647 then some (Lp.ret false) else (if (k35:Int)>0 then (if -9223372036854775808≤((k35:Int) - 1)∧((k35:Int) - 1)≤9223372036854775807 then (if 0≤((k35:Int) - 1) then ((x13.MH[((k35:Int) - 1).toNat]?).bind fun x52=>if x52≥x44 then some (Lp.ret false) else (if -9223372036854775808≤((k35:Int)+1)∧((k35:Int)+1)≤9223372036854775807 then (cG x13 m39 y34 (k35+1)) else none)) else none) else none) else (if -9223372036854775808≤((k35:Int)+1)∧((k35:Int)+1)≤9223372036854775807 then (cG x13 m39 y34 (k35+1)) else none)))) else (some (Lp.go (y34,k35)))
def eT (x13:Top):Nat→Bool→Nat→Option (Lp Bool (Bool×Nat))
 | 0,_,_=>none
 | m67+1,y62,k63=>if (k63:Int)<(x13.MH.length:Int) then ((x13.MH[k63]?).bind fun x72=>if x72<0 then some (Lp.ret false) else (if x72>2147483647 then some (Lp.ret false) else (if (k63:Int)>0 then (if -9223372036854775808≤((k63:Int) - 1)∧((k63:Int) - 1)≤9223372036854775807 then (if 0≤((k63:Int) - 1) then ((x13.MH[((k63:Int) - 1).toNat]?).bind fun x80=>if x80≥x72 then some (Lp.ret false) else (if -9223372036854775808≤((k63:Int)+1)∧((k63:Int)+1)≤9223372036854775807 then (eT x13 m67 y62 (k63+1)) else none)) else none) else none) else (if -9223372036854775808≤((k63:Int)+1)∧((k63:Int)+1)≤9223372036854775807 then (eT x13 m67 y62 (k63+1)) else none)))) else (some (Lp.go (y62,k63)))
def cO (a0:List Top):Nat→Bool→Nat→Option (Lp Bool (Bool×Nat))
 | 0,_,_=>none
 | m8+1,y3,k4=>if (k4:Int)<(a0.length:Int) then ((a0[k4]?).bind fun x13=>if (x13.MO.length:Int)<1 then some (Lp.ret false) else (if (x13.MO.length:Int)>32767 then some (Lp.ret false) else (if (x13.MH.length:Int)<1 then some (Lp.ret false) else (if (k4:Int)>0 then (if -9223372036854775808≤((k4:Int) - 1)∧((k4:Int) - 1)≤9223372036854775807 then (if 0≤((k4:Int) - 1) then ((a0[((k4:Int) - 1).toNat]?).bind fun x25=>(jg x25.MO x13.MO).bind fun x31=>if x31=true then ((cG x13 (((x13.MH.length:Int)).toNat+1) y3 0).bind fun e=>match e with | .ret r=>some (Lp.ret r) | .go (y59,k60)=>(if -9223372036854775808≤((k4:Int)+1)∧((k4:Int)+1)≤9223372036854775807 then (cO a0 m8 y59 (k4+1)) else none)) else some (Lp.ret false)) else none) else none) else ((eT x13 (((x13.MH.length:Int)).toNat+1) y3 0).bind fun e=>match e with | .ret r=>some (Lp.ret r) | .go (y87,k88)=>(if -9223372036854775808≤((k4:Int)+1)∧((k4:Int)+1)≤9223372036854775807 then (cO a0 m8 y87 (k4+1)) else none)))))) else (some (Lp.go (y3,k4)))
theorem vX (a0:List Top) (u1:Bool) (u2:Nat):cO a0 0 u1 u2=none:=rfl
theorem vY (a0:List Top) (m8:Nat) (y3:Bool) (k4:Nat):cO a0 (m8+1) y3 k4=(if (k4:Int)<(a0.length:Int) then ((a0[k4]?).bind fun x13=>if (x13.MO.length:Int)<1 then some (Lp.ret false) else (if (x13.MO.length:Int)>32767 then some (Lp.ret false) else (if (x13.MH.length:Int)<1 then some (Lp.ret false) else (if (k4:Int)>0 then (if -9223372036854775808≤((k4:Int) - 1)∧((k4:Int) - 1)≤9223372036854775807 then (if 0≤((k4:Int) - 1) then ((a0[((k4:Int) - 1).toNat]?).bind fun x25=>(jg x25.MO x13.MO).bind fun x31=>if x31=true then ((cG x13 (((x13.MH.length:Int)).toNat+1) y3 0).bind fun e=>match e with | .ret r=>some (Lp.ret r) | .go (y59,k60)=>(if -9223372036854775808≤((k4:Int)+1)∧((k4:Int)+1)≤9223372036854775807 then (cO a0 m8 y59 (k4+1)) else none)) else some (Lp.ret false)) else none) else none) else ((eT x13 (((x13.MH.length:Int)).toNat+1) y3 0).bind fun e=>match e with | .ret r=>some (Lp.ret r) | .go (y87,k88)=>(if -9223372036854775808≤((k4:Int)+1)∧((k4:Int)+1)≤9223372036854775807 then (cO a0 m8 y87 (k4+1)) else none)))))) else (some (Lp.go (y3,k4)))):=rfl
def iu (a0:List Top):Option (Bool):=(cO a0 (((a0.length:Int)).toNat+1) false 0).bind fun e=>match e with | .ret r=>some r | .go (y90,k91)=>some true
theorem mm (a0:List Top) (A1:Option Addr) (c2:Nat) (r:Bool) (h:iu a0=some r):aH Tryz.prog 109 #[.slice A1 a0.length c2] (RX.of (aq 2 bc) [.slice A1 a0.length c2] a0) (aK) (fun v A' N=>v= .bool r∧A'=aK∧N = []):=by
 refine aU Tryz.func109 Z Tryz.ntmps109 Z ?_
 intro F w hX
 unfold iu at h
 refine KG Z (KP ag Z (T.seq (KG Z (KP ag Z (T.block ?_)))))
 obtain⟨E5,hE6,hO7⟩:=Np h
 refine Lv (fun m e Rs=> ∃ (y3:Bool) (k4:Nat),e = [(0,.slice A1 a0.length c2),(2,.bool y3),(3,jI (k4:Int))]∧Rs = [aK]∧cO a0 m y3 k4=some E5) (((a0.length:Int)).toNat+1) [0] ⟨false,0,Z,Z,by exact hE6⟩ QJ QJ ?_
 clear hE6 h
 rintro m8 _ _ ⟨y3,k4,rfl,rfl,h⟩
 cases m8 with
 | zero =>
  rw[vX] at h
  cases h
 | succ m8 =>
  rw[vY] at h
  refine T.seq (KG Z (KF ag 2 Z (KH Z (KX Z NH) Z (KF ag 1 Z ?_))))
  rcases jF h with⟨c12,h⟩ | ⟨c12,h⟩
  ·refine La Z c12 (K3 (T.seq (T.block (T.seq (KG Z ?_)))))
   obtain⟨x13,hx14,h⟩:=Np h
   obtain⟨gz15,oz15,rfl,z15cs,z15cl,z15cc,z15nf,z15r⟩:=Lf QH hX hx14
   obtain⟨z15S,z15r,z15rr⟩:=z15r
   obtain⟨A16,c17,rfl,z15s0⟩:=z15r
   have hX18:(RX.of (aq 1 fh) [.slice A16 x13.MH.length c17] x13.MH).reads w F:=⟨z15S,z15s0,z15rr⟩
   refine KF ag 2 Z ?_
   refine KH Z (K1 (k:=k4) Z Z Z NH NV (Nw hx14).1) Z ?_
   refine KF ag 1 Z (KH Z (Ln 0 Z N4 z15nf z15cc Z Z) Z (KH Z (Lx Z NE) Z ?_))
   rcases jF h with⟨c19,h⟩ | ⟨c19,h⟩
   ·refine KF ag 2 Z (KN 19 Z (Nt c19) (Lq ag Z (KV Z Z (KG Z (KF ag 1 Z ?_)))))
    obtain rfl:=Nq h
    obtain rfl:=Nq hO7
    exact KI (T.ret (KL (KU (KL (KL (KU (KL (KQ [0] OX (KJ Z)))))))))
   refine KF ag 2 Z (KN 19 Z (Nu c19) (KM ag 2 Z ?_))
   refine TL.q Z (.g Z Z Z) (K1 (k:=k4) Z Z Z NH NV (Nw hx14).1) Z ?_
   refine KM ag 1 Z (TL.q Z (.g Z Z Z) (Ln 0 Z N4 z15nf z15cc Z Z) Z (TL.q Z (.g Z Z Z) (Lx Z NE) Z ?_))
   rcases jF h with⟨c20,h⟩ | ⟨c20,h⟩
   ·refine KM ag 3 Z (KN 28 Z (Nt c20) (Lq ag Z (KV Z Z (KG Z (KF ag 1 Z ?_)))))
    obtain rfl:=Nq h
    obtain rfl:=Nq hO7
    exact KI (T.ret (KL (KU (KL (KL (KU (KL (KQ [0] OX (KJ Z)))))))))
   refine KM ag 3 Z (KN 28 Z (Nu c20) (KM ag 2 Z ?_))
   refine TL.q Z (.g Z Z Z) (K1 (k:=k4) Z Z Z NH NV (Nw hx14).1) Z ?_
   refine KM ag 1 Z (TL.q Z (.g Z Z Z) (Ln 1 Z OD z15nf z15cc Z Z) Z (TL.q Z (.g Z Z Z) (KX Z NF) Z (KM ag 2 Z ?_)))
   rcases jF h with⟨c21,h⟩ | ⟨c21,h⟩
   ·refine La Z c21 (KG Z (KF ag 1 Z ?_))
    obtain rfl:=Nq h
    obtain rfl:=Nq hO7
    exact KI (T.ret (KL (KU (KL (KL (KU (KL (KQ [0] OX (KJ Z)))))))))
   refine K9 Z c21 ?_
   refine K3 (L3 (Lm (.q 0 (.q 1 (.q 2 (.q 3 (.q 4 (.q 5 (.q 6 (.q 7 (.q 8 (.q 9 (.q 10 (.q 11 (.q 12 (.q 13 (.e 14 (.q 15 (.q 16 .nil))))))))))))))))) [0] Z gv (NoP.seq (NoP.seq (NoP.blk (NoP.seq (NoP.seq (NoP.blk (NoP.seq bu))))))) QI ?_))
   rcases jF h with⟨c22,h⟩ | ⟨c22,h⟩
   ·refine TD.run ag [0,1,2] Z Z ?_
    iterate 2 refine TD.q Z (.g Z Z (Nt c22)) (Ls ag Z) Z ?_
    obtain⟨c23,h⟩:=ao h
    refine TD.q Z (.g Z Z (Nt c22)) (Ex.sub Z Z c23) Z ?_
    obtain⟨c24,h⟩:=ao h
    obtain⟨x25,hx26,h⟩:=Np h
    obtain⟨z27cs,z27cl,z27cc,z27nf,z27r⟩:=Mc QH hX hx26
    obtain⟨z27S,z27r,z27rr⟩:=z27r
    obtain⟨A28,c29,rfl,z27s0⟩:=z27r
    have hX30:(RX.of (aq 1 fh) [.slice A28 x25.MH.length c29] x25.MH).reads w F:=⟨z27S,z27s0,z27rr⟩
    refine TD.q Z (.g Z Z (Nt c22)) (K1 (k:=((k4:Int) - 1).toNat) Z Z ((Int.toNat_of_nonneg c24).symm) NH NV (Nw hx26).1) Z ?_
    refine TD.q Z (.g Z Z (Nt c22)) (Ls ag Z) Z (TD.q Z (.g Z Z (Nt c22)) (Ln 0 Z N4 z27nf z27cc Z Z) Z ?_)
    iterate 2 refine TD.q Z (.g Z Z (Nt c22)) (Ls ag Z) Z ?_
    refine TD.q Z (.g Z Z (Nt c22)) (K1 (k:=k4) Z Z Z NH NV (Nw hx14).1) Z ?_
    refine TD.q Z (.g Z Z (Nt c22)) (Ls ag Z) Z (TD.q Z (.g Z Z (Nt c22)) (Ln 0 Z N4 z15nf z15cc Z Z) Z ?_)
    obtain⟨x31,hx32,h⟩:=Np h
    refine Lw Z (.g Z Z (Nt c22)) (.fn Tryz.call160 Z) (vW x25.MO x13.MO _ hx32) rT Z [0] (Z) (TD.q Z (.g Z Z (Nt c22)) (Ls ag Z) Z (KO Z (LN Z (Nt c22) Z) Z ?_))
    rcases jF h with⟨c33,h⟩ | ⟨c33,h⟩
    ·refine LF (Lb Z (bf c33) (Lg Z (KP ag Z (T.block ?_))))
     obtain⟨E36,hE37,hO38⟩:=Np h
     refine Lv (fun m e Rs=> ∃ (y34:Bool) (k35:Nat),e = [(0,.slice (some ⟨gz15,oz15,none⟩) a0.length c2),(2,.bool y34),(3,jI (k4:Int)),(4,jI (k35:Int))]∧Rs = [aK]∧cG x13 m y34 k35=some E36) (((x13.MH.length:Int)).toNat+1) [0] ⟨y3,0,Z,Z,by exact hE37⟩ QJ QJ ?_
     clear hE37 h
     rintro m39 _ _ ⟨y34,k35,rfl,rfl,h⟩
     cases m39 with
     | zero =>
      rw[cG] at h
      cases h
     | succ m39 =>
      rw[cG] at h
      refine T.seq (KG Z (KF ag 3 Z ?_))
      refine KH Z (K1 (k:=k4) Z Z Z NH NV (Nw hx14).1) Z ?_
      refine KF ag 1 Z (KH Z (Ln 1 Z OD z15nf z15cc Z Z) Z (KH Z (KX Z NF) Z (KF ag 1 Z ?_)))
      rcases jF h with⟨c43,h⟩ | ⟨c43,h⟩
      ·refine La Z c43 (K3 (T.seq (T.block (KG Z (KF ag 2 Z ?_)))))
       refine KH Z (K1 (k:=k4) Z Z Z NH NV (Nw hx14).1) Z ?_
       refine KF ag 1 Z (KH Z (Ln 1 Z OD z15nf z15cc Z Z) Z ?_)
       obtain⟨x44,hx45,h⟩:=Np h
       obtain⟨gz46,oz46,rfl,z46cs,z46cl,z46cc,z46nf,z46r⟩:=Lf QH hX18 hx45
       obtain⟨z46S,z46r,z46rr⟩:=z46r
       obtain rfl:z46cs = [jI x44]:=z46r
       refine KF ag 1 Z ?_
       refine KH Z (K1 (k:=k35) Z Z Z NF Ny (Nw hx45).1) Z ?_
       refine KH Z (Ln 0 Z Nz z46nf z46cc Z Z) Z (K8 ag Z Z ?_)
       rcases jF h with⟨c47,h⟩ | ⟨c47,h⟩
       ·refine KF ag 3 Z (KN 74 Z (Nt c47) (Lq ag Z (KV Z Z (KG Z (KF ag 1 Z ?_)))))
        obtain rfl:=Nq h
        obtain rfl:=Nq hO38
        obtain rfl:=Nq hO7
        exact KI (T.ret (KU (KL (KL (KU (KU (KL (KL (KU (KL (KQ [0] OX (KJ Z))))))))))))
       refine KF ag 3 Z (KN 74 Z (Nu c47) ?_)
       rcases jF h with⟨c48,h⟩ | ⟨c48,h⟩
       ·refine KM ag 4 Z (KN 78 Z (Nt c48) (Lq ag Z (KV Z Z (KG Z (KF ag 1 Z ?_)))))
        obtain rfl:=Nq h
        obtain rfl:=Nq hO38
        obtain rfl:=Nq hO7
        exact KI (T.ret (KU (KL (KL (KU (KU (KL (KL (KU (KL (KQ [0] OX (KJ Z))))))))))))
       refine KM ag 4 Z (KN 78 Z (Nu c48) ?_)
       rcases jF h with⟨c49,h⟩ | ⟨c49,h⟩
       ·refine KM ag 3 Z (KN 81 Z (Nt c49) (KM ag 2 Z ?_))
        refine TL.q Z (.g Z Z Z) (K1 (k:=k4) Z Z Z NH NV (Nw hx14).1) Z ?_
        refine KM ag 1 Z (TL.q Z (.g Z Z Z) (Ln 1 Z OD z15nf z15cc Z Z) Z ?_)
        obtain⟨c50,h⟩:=ao h
        refine KM ag 1 Z (TL.q Z (.g Z Z Z) (Ex.sub Z Z c50) Z ?_)
        obtain⟨c51,h⟩:=ao h
        obtain⟨x52,hx53,h⟩:=Np h
        obtain⟨z54cs,z54cl,z54cc,z54nf,z54r⟩:=Mc QH hX18 hx53
        obtain⟨z54S,z54r,z54rr⟩:=z54r
        obtain rfl:z54cs = [jI x52]:=z54r
        refine TL.q Z (.g Z Z Z) (K1 (k:=((k35:Int) - 1).toNat) Z Z ((Int.toNat_of_nonneg c51).symm) NF Ny (Nw hx53).1) Z ?_
        refine TL.q Z (.g Z Z Z) (Ln 0 Z Nz z54nf z54cc Z Z) Z (KM ag 4 Z ?_)
        rcases jF h with⟨c55,h⟩ | ⟨c55,h⟩
        ·refine La Z c55 (KG Z (KF ag 1 Z ?_))
         obtain rfl:=Nq h
         obtain rfl:=Nq hO38
         obtain rfl:=Nq hO7
         exact KI (T.ret (KU (KL (KL (KU (KU (KL (KL (KU (KL (KQ [0] OX (KJ Z))))))))))))
        refine K9 Z c55 (T.skip (K4 (X.seq (T.region Z ?_))))
        obtain⟨c56,h⟩:=ao h
        exact KF ag 1 Z (KH Z (Ex.add Z Z c56) Z (KF ag 1 Z (TL.nil (X.back (m':=m39) [0] QG ⟨y34,k35+1,Z,Z,h⟩ QJ QJ))))
       refine KM ag 3 Z (KN 81 Z (Nu c49) (Lq ag Z (Lb Z Z (T.skip (K4 (X.seq (T.region Z ?_)))))))
       obtain⟨c57,h⟩:=ao h
       exact KF ag 1 Z (KH Z (Ex.add Z Z c57) Z (KF ag 1 Z (TL.nil (X.back (m':=m39) [0] QG ⟨y34,k35+1,Z,Z,h⟩ QJ QJ))))
      refine K9 Z c43 ?_
      obtain rfl:=Nq h
      replace h:=hO38
      clear hO38
      refine T.exit (KZ (KZ (Lu (K4 (X.seq (T.region Z ?_))))))
      obtain⟨c58,h⟩:=ao h
      exact KF ag 1 Z (KH Z (Ex.add Z Z c58) Z (KF ag 1 Z (TL.nil (X.back (m':=m8) [0] QG ⟨y34,k4+1,Z,Z,h⟩ QJ QJ))))
    replace c33:=Nx c33
    refine LF (KV Z (bG c33) (KG Z (KF ag 1 Z ?_)))
    obtain rfl:=Nq h
    obtain rfl:=Nq hO7
    exact KI (T.ret (KL (KU (KL (KL (KU (KL (KQ [0] OX (KJ Z)))))))))
   refine TD.run ag [0,1,2] Z Z ?_
   iterate 11 refine LD Z (.gn Z Z (Nu c22)) Z ?_
   refine L6 Z (.gn Z Z (Nu c22)) Z [0] Z (LD Z (.gn Z Z (Nu c22)) Z (KO Z (LL Z (Nu c22) Z) Z (LF (Lb Z Z (Lg Z (KP ag Z (T.block ?_)))))))
   obtain⟨E64,hE65,hO66⟩:=Np h
   refine Lv (fun m e Rs=> ∃ (y62:Bool) (k63:Nat),e = [(0,.slice (some ⟨gz15,oz15,none⟩) a0.length c2),(2,.bool y62),(3,jI (k4:Int)),(4,jI (k63:Int))]∧Rs = [aK]∧eT x13 m y62 k63=some E64) (((x13.MH.length:Int)).toNat+1) [0] ⟨y3,0,Z,Z,by exact hE65⟩ QJ QJ ?_
   clear hE65 h
   rintro m67 _ _ ⟨y62,k63,rfl,rfl,h⟩
   cases m67 with
   | zero =>
    rw[eT] at h
    cases h
   | succ m67 =>
    rw[eT] at h
    refine T.seq (KG Z (KF ag 3 Z ?_))
    refine KH Z (K1 (k:=k4) Z Z Z NH NV (Nw hx14).1) Z ?_
    refine KF ag 1 Z (KH Z (Ln 1 Z OD z15nf z15cc Z Z) Z (KH Z (KX Z NF) Z (KF ag 1 Z ?_)))
    rcases jF h with⟨c71,h⟩ | ⟨c71,h⟩
    ·refine La Z c71 (K3 (T.seq (T.block (KG Z (KF ag 2 Z ?_)))))
     refine KH Z (K1 (k:=k4) Z Z Z NH NV (Nw hx14).1) Z ?_
     refine KF ag 1 Z (KH Z (Ln 1 Z OD z15nf z15cc Z Z) Z ?_)
     obtain⟨x72,hx73,h⟩:=Np h
     obtain⟨gz74,oz74,rfl,z74cs,z74cl,z74cc,z74nf,z74r⟩:=Lf QH hX18 hx73
     obtain⟨z74S,z74r,z74rr⟩:=z74r
     obtain rfl:z74cs = [jI x72]:=z74r
     refine KF ag 1 Z ?_
     refine KH Z (K1 (k:=k63) Z Z Z NF Ny (Nw hx73).1) Z ?_
     refine KH Z (Ln 0 Z Nz z74nf z74cc Z Z) Z (K8 ag Z Z ?_)
     rcases jF h with⟨c75,h⟩ | ⟨c75,h⟩
     ·refine KF ag 3 Z (KN 74 Z (Nt c75) (Lq ag Z (KV Z Z (KG Z (KF ag 1 Z ?_)))))
      obtain rfl:=Nq h
      obtain rfl:=Nq hO66
      obtain rfl:=Nq hO7
      exact KI (T.ret (KU (KL (KL (KU (KU (KL (KL (KU (KL (KQ [0] OX (KJ Z))))))))))))
     refine KF ag 3 Z (KN 74 Z (Nu c75) ?_)
     rcases jF h with⟨c76,h⟩ | ⟨c76,h⟩
     ·refine KM ag 4 Z (KN 78 Z (Nt c76) (Lq ag Z (KV Z Z (KG Z (KF ag 1 Z ?_)))))
      obtain rfl:=Nq h
      obtain rfl:=Nq hO66
      obtain rfl:=Nq hO7
      exact KI (T.ret (KU (KL (KL (KU (KU (KL (KL (KU (KL (KQ [0] OX (KJ Z))))))))))))
     refine KM ag 4 Z (KN 78 Z (Nu c76) ?_)
     rcases jF h with⟨c77,h⟩ | ⟨c77,h⟩
     ·refine KM ag 3 Z (KN 81 Z (Nt c77) (KM ag 2 Z ?_))
      refine TL.q Z (.g Z Z Z) (K1 (k:=k4) Z Z Z NH NV (Nw hx14).1) Z ?_
      refine KM ag 1 Z (TL.q Z (.g Z Z Z) (Ln 1 Z OD z15nf z15cc Z Z) Z ?_)
      obtain⟨c78,h⟩:=ao h
      refine KM ag 1 Z (TL.q Z (.g Z Z Z) (Ex.sub Z Z c78) Z ?_)
      obtain⟨c79,h⟩:=ao h
      obtain⟨x80,hx81,h⟩:=Np h
      obtain⟨z82cs,z82cl,z82cc,z82nf,z82r⟩:=Mc QH hX18 hx81
      obtain⟨z82S,z82r,z82rr⟩:=z82r
      obtain rfl:z82cs = [jI x80]:=z82r
      refine TL.q Z (.g Z Z Z) (K1 (k:=((k63:Int) - 1).toNat) Z Z ((Int.toNat_of_nonneg c79).symm) NF Ny (Nw hx81).1) Z ?_
      refine TL.q Z (.g Z Z Z) (Ln 0 Z Nz z82nf z82cc Z Z) Z (KM ag 4 Z ?_)
      rcases jF h with⟨c83,h⟩ | ⟨c83,h⟩
      ·refine La Z c83 (KG Z (KF ag 1 Z ?_))
       obtain rfl:=Nq h
       obtain rfl:=Nq hO66
       obtain rfl:=Nq hO7
       exact KI (T.ret (KU (KL (KL (KU (KU (KL (KL (KU (KL (KQ [0] OX (KJ Z))))))))))))
      refine K9 Z c83 (T.skip (K4 (X.seq (T.region Z ?_))))
      obtain⟨c84,h⟩:=ao h
      exact KF ag 1 Z (KH Z (Ex.add Z Z c84) Z (KF ag 1 Z (TL.nil (X.back (m':=m67) [0] QG ⟨y62,k63+1,Z,Z,h⟩ QJ QJ))))
     refine KM ag 3 Z (KN 81 Z (Nu c77) (Lq ag Z (Lb Z Z (T.skip (K4 (X.seq (T.region Z ?_)))))))
     obtain⟨c85,h⟩:=ao h
     exact KF ag 1 Z (KH Z (Ex.add Z Z c85) Z (KF ag 1 Z (TL.nil (X.back (m':=m67) [0] QG ⟨y62,k63+1,Z,Z,h⟩ QJ QJ))))
    refine K9 Z c71 ?_
    obtain rfl:=Nq h
    replace h:=hO66
    clear hO66
    refine T.exit (KZ (KZ (Lu (K4 (X.seq (T.region Z ?_))))))
    obtain⟨c86,h⟩:=ao h
    exact KF ag 1 Z (KH Z (Ex.add Z Z c86) Z (KF ag 1 Z (TL.nil (X.back (m':=m8) [0] QG ⟨y62,k4+1,Z,Z,h⟩ QJ QJ))))
  refine K9 Z c12 ?_
  obtain rfl:=Nq h
  replace h:=hO7
  clear hO7
  refine T.exit (KZ (KZ (Lu (X.seq (KG Z (KF ag 1 Z ?_))))))
  obtain rfl:=Nq h
  exact KI (T.ret (KQ [0] OX (KJ Z)))
def eF (x15:Top):Nat→List UInt8→Nat→Option (List UInt8×Nat)
 | 0,_,_=>none
 | m32+1,y27,k28=>if (k28:Int)<(x15.MH.length:Int) then ((x15.MH[k28]?).bind fun x37=>(cN x37 4).bind fun x40=>if y27.length+x40.length≤9223372036854775807 then (if -9223372036854775808≤((k28:Int)+1)∧((k28:Int)+1)≤9223372036854775807 then (eF x15 m32 (y27++x40) (k28+1)) else none) else none) else some (y27,k28)
def eG (a0:List Top):Nat→List UInt8→Nat→Option (List UInt8×Nat)
 | 0,_,_=>none
 | m10+1,y5,k6=>if (k6:Int)<(a0.length:Int) then ((a0[k6]?).bind fun x15=>(jW (⟨false,x15.MO⟩:Bl) 2).bind fun x21=>if y5.length+x21.length≤9223372036854775807 then ((cN (x15.MH.length:Int) 4).bind fun x24=>if (y5++x21).length+x24.length≤9223372036854775807 then ((eF x15 (((x15.MH.length:Int)).toNat+1) ((y5++x21)++x24) 0).bind fun (y45,k46)=>if -9223372036854775808≤((k6:Int)+1)∧((k6:Int)+1)≤9223372036854775807 then (eG a0 m10 y45 (k6+1)) else none) else none) else none) else some (y5,k6)
def jB (a0:List Top):Option (List UInt8):=(cN (a0.length:Int) 4).bind fun x3=>(eG a0 (((a0.length:Int)).toNat+1) x3 0).bind fun (y48,k49)=>some y48
theorem nW (a0:List Top) (A1:Option Addr) (c2:Nat) (r:List UInt8) (h:jB a0=some r):aH Tryz.prog 112 #[.slice A1 a0.length c2] (RX.of (aq 2 bc) [.slice A1 a0.length c2] a0) (aK) (fun v A' N=>v=jS r∧A'=aK∧N = []):=by
 refine aU Tryz.func112 Z Tryz.ntmps112 Z ?_
 intro F w hX
 unfold jB at h
 refine KG Z (K8 ag Z Z (KF ag 1 Z (KH Z (KX Z NH) Z ?_)))
 obtain⟨x3,hx4,h⟩:=Np h
 refine K2 Z .u (.fn Tryz.call63 Z) (bA (a0.length:Int) 4 _ hx4) rT Z (KP ag Z (T.seq (KG Z (KP ag Z (T.block ?_)))))
 obtain⟨E7,hE8,hO9⟩:=Np h
 refine Lv (fun m e Rs=> ∃ (y5:List UInt8) (k6:Nat),e = [(0,.slice A1 a0.length c2),(2,.string ⟨#[]⟩),(3,jS y5),(4,jI (k6:Int))]∧Rs = [aK]∧eG a0 m y5 k6=some E7) (((a0.length:Int)).toNat+1) [0] ⟨x3,0,Z,Z,by exact hE8⟩ QJ QJ ?_
 clear hE8 h
 rintro m10 _ _ ⟨y5,k6,rfl,rfl,h⟩
 cases m10 with
 | zero =>
  rw[eG] at h
  cases h
 | succ m10 =>
  rw[eG] at h
  refine T.seq (KG Z (KF ag 2 Z (KH Z (KX Z NH) Z (KF ag 1 Z ?_))))
  rcases jF h with⟨c14,h⟩ | ⟨c14,h⟩
  ·refine La Z c14 ?_
   refine K3 (T.seq (T.block (T.seq (Lm (.q 0 (.q 1 (.q 2 (.q 3 (.q 4 (.q 5 (.q 6 (.q 9 (.q 10 (.q 11 (.q 12 (.q 13 (.q 14 (.e 7 (.q 8 (.e 15 (.q 16 (.q 17 .nil)))))))))))))))))) [0] Z gv (NoP.seq (NoP.blk (NoP.seq (NoP.seq (NoP.blk (NoP.seq bu)))))) QI ?_))))
   obtain⟨x15,hx16,h⟩:=Np h
   obtain⟨gz17,oz17,rfl,z17cs,z17cl,z17cc,z17nf,z17r⟩:=Lf QH hX hx16
   obtain⟨z17S,z17r,z17rr⟩:=z17r
   obtain⟨A18,c19,rfl,z17s0⟩:=z17r
   have hX20:(RX.of (aq 1 fh) [.slice A18 x15.MH.length c19] x15.MH).reads w F:=⟨z17S,z17s0,z17rr⟩
   refine TD.run ag [0,1,2] Z Z ?_
   refine KO Z (K1 (k:=k6) Z Z Z NH NV (Nw hx16).1) Z ?_
   refine TD.run ag [4] Z Z (KO Z (Ln 0 Z N4 z17nf z17cc Z Z) Z ?_)
   refine KO Z (Ld (cells:= #[.bool false,jS x15.MO]) qv Z QI) Z ?_
   refine TD.run ag [9,10] Z Z ?_
   refine KO Z (K1 (k:=k6) Z Z Z NH NV (Nw hx16).1) Z ?_
   refine TD.run ag [12] Z Z (KO Z (Ln 1 Z OD z17nf z17cc Z Z) Z (KO Z (KX Z NF) Z ?_))
   obtain⟨x21,hx22,h⟩:=Np h
   refine Lw Z .u (.fn Tryz.call110 Z) (iM (⟨false,x15.MO⟩:Bl) 2 _ hx22) rT Z [0] (Z) ?_
   obtain⟨c23,h⟩:=ao h
   refine KO Z (Lh Z Z c23) Z ?_
   obtain⟨x24,hx25,h⟩:=Np h
   refine Lw Z .u (.fn Tryz.call63 Z) (bA (x15.MH.length:Int) 4 _ hx25) rT Z [0] (Z) ?_
   obtain⟨c26,h⟩:=ao h
   refine KO Z (Lh Z Z c26) Z (TD.run ag [17] Z Z (LF (KG Z (KP ag Z (T.block ?_)))))
   obtain⟨E29,hE30,hO31⟩:=Np h
   refine Lv (fun m e Rs=> ∃ (y27:List UInt8) (k28:Nat),e = [(0,.slice (some ⟨gz17,oz17,none⟩) a0.length c2),(2,.string ⟨#[]⟩),(3,jS y27),(4,jI (k6:Int)),(5,jI (k28:Int))]∧Rs = [aK]∧eF x15 m y27 k28=some E29) (((x15.MH.length:Int)).toNat+1) [0] ⟨((y5++x21)++x24),0,Z,Z,by exact hE30⟩ QJ QJ ?_
   clear hE30 h
   rintro m32 _ _ ⟨y27,k28,rfl,rfl,h⟩
   cases m32 with
   | zero =>
    rw[eF] at h
    cases h
   | succ m32 =>
    rw[eF] at h
    refine T.seq (KG Z (KF ag 3 Z ?_))
    refine KH Z (K1 (k:=k6) Z Z Z NH NV (Nw hx16).1) Z ?_
    refine KF ag 1 Z (KH Z (Ln 1 Z OD z17nf z17cc Z Z) Z (KH Z (KX Z NF) Z (KF ag 1 Z ?_)))
    rcases jF h with⟨c36,h⟩ | ⟨c36,h⟩
    ·refine La Z c36 (K3 (T.seq (T.block (T.region Z (KF ag 3 Z ?_)))))
     refine KH Z (K1 (k:=k6) Z Z Z NH NV (Nw hx16).1) Z ?_
     refine KF ag 1 Z (KH Z (Ln 1 Z OD z17nf z17cc Z Z) Z ?_)
     obtain⟨x37,hx38,h⟩:=Np h
     obtain⟨gz39,oz39,rfl,z39cs,z39cl,z39cc,z39nf,z39r⟩:=Lf QH hX20 hx38
     obtain⟨z39S,z39r,z39rr⟩:=z39r
     obtain rfl:z39cs = [jI x37]:=z39r
     refine KF ag 1 Z ?_
     refine KH Z (K1 (k:=k28) Z Z Z NF Ny (Nw hx38).1) Z ?_
     refine KH Z (Ln 0 Z Nz z39nf z39cc Z Z) Z ?_
     obtain⟨x40,hx41,h⟩:=Np h
     refine K2 Z .u (.fn Tryz.call63 Z) (bA x37 4 _ hx41) rT Z ?_
     obtain⟨c42,h⟩:=ao h
     refine KH Z (Lh Z Z c42) Z (KF ag 1 Z (TL.nil (K4 (X.seq (T.region Z ?_)))))
     obtain⟨c43,h⟩:=ao h
     exact KF ag 1 Z (KH Z (Ex.add Z Z c43) Z (KF ag 1 Z (TL.nil (X.back (m':=m32) [0] QG ⟨(y27++x40),k28+1,Z,Z,h⟩ QJ QJ))))
    refine K9 Z c36 ?_
    obtain rfl:=Nq h
    replace h:=hO31
    clear hO31
    refine T.exit (KZ (KZ (Lu (K4 (X.seq (T.region Z ?_))))))
    obtain⟨c44,h⟩:=ao h
    exact KF ag 1 Z (KH Z (Ex.add Z Z c44) Z (KF ag 1 Z (TL.nil (X.back (m':=m10) [0] QG ⟨y27,k6+1,Z,Z,h⟩ QJ QJ))))
  refine K9 Z c14 ?_
  obtain rfl:=Nq h
  replace h:=hO9
  clear hO9
  refine T.exit (KZ (KZ (Lu (X.seq (KG Z (KF ag 2 Z ?_))))))
  obtain rfl:=Nq h
  exact KI (T.ret (KQ [0] Tryz.results112 (KJ Z)))
def dh (a0:List Top) (a1:List Top):Nat→Bool→Nat→Option (Lp Bool (Bool×Nat))
 | 0,_,_=>none
 | m11+1,y6,k7=>if (k7:Int)<(a0.length:Int) then ((a0[k7]?).bind fun x16=>(a1[k7]?).bind fun x22=>if x16.MO=x22.MO then ((ni x16.MH x22.MH).bind fun x29=>if x29=true then (if -9223372036854775808≤((k7:Int)+1)∧((k7:Int)+1)≤9223372036854775807 then (dh a0 a1 m11 y6 (k7+1)) else none) else some (Lp.ret false)) else some (Lp.ret false)) else (some (Lp.go (y6,k7)))
def dc (a0:List Top) (a1:List Top):Option (Bool):=if (a0.length:Int)=(a1.length:Int) then ((dh a0 a1 (((a0.length:Int)).toNat+1) false 0).bind fun e=>match e with | .ret r=>some r | .go (y33,k34)=>some true) else some false
theorem ga (a0:List Top) (A1:Option Addr) (c2:Nat) (a1:List Top) (A3:Option Addr) (c4:Nat) (r:Bool) (h:dc a0 a1=some r):aH Tryz.prog 113 #[.slice A1 a0.length c2,.slice A3 a1.length c4] (RX.and (RX.of (aq 2 bc) [.slice A1 a0.length c2] a0) (RX.of (aq 2 bc) [.slice A3 a1.length c4] a1)) (aK) (fun v A' N=>v= .bool r∧A'=aK∧N = []):=by
 refine aU Tryz.func113 Z Tryz.ntmps113 Z ?_
 intro F w hX
 unfold dc at h
 refine KG Z (KP ag Z (T.seq (KG Z (KF ag 1 Z (KH Z (KX Z NH) Z (KF ag 1 Z (KH Z (KX Z NH) Z (KF ag 1 Z ?_))))))))
 rcases jF h with⟨c5,h⟩ | ⟨c5,h⟩
 ·refine Lj Z c5 (K3 (T.seq (KG Z (KP ag Z (T.block ?_)))))
  obtain⟨E8,hE9,hO10⟩:=Np h
  refine Lv (fun m e Rs=> ∃ (y6:Bool) (k7:Nat),e = [(0,.slice A1 a0.length c2),(1,.slice A3 a1.length c4),(4,.bool y6),(5,jI (k7:Int))]∧Rs = [aK]∧dh a0 a1 m y6 k7=some E8) (((a0.length:Int)).toNat+1) [0] ⟨false,0,Z,Z,by exact hE9⟩ QJ QJ ?_
  clear hE9 h
  rintro m11 _ _ ⟨y6,k7,rfl,rfl,h⟩
  cases m11 with
  | zero =>
   rw[dh] at h
   cases h
  | succ m11 =>
   rw[dh] at h
   refine T.seq (KG Z (KF ag 2 Z (KH Z (KX Z NH) Z (KF ag 1 Z ?_))))
   rcases jF h with⟨c15,h⟩ | ⟨c15,h⟩
   ·refine La Z c15 ?_
    refine K3 (T.seq (T.block (T.seq (Lm (.q 0 (.q 1 (.q 2 (.q 3 (.q 4 (.q 5 (.q 6 (.q 7 (.q 8 (.q 9 (.q 10 (.q 11 (.q 12 (.q 13 (.q 14 (.q 15 (.q 16 (.q 17 (.q 18 (.q 19 (.q 20 (.q 21 (.e 22 (.q 23 (.q 24 .nil))))))))))))))))))))))))) [0] Z gv (NoP.seq (NoP.blk (NoP.seq (NoP.seq (NoP.blk (NoP.seq bu)))))) QI ?_))))
    obtain⟨x16,hx17,h⟩:=Np h
    obtain⟨gz18,oz18,rfl,z18cs,z18cl,z18cc,z18nf,z18r⟩:=Lf QH (Ll hX) hx17
    obtain⟨z18S,z18r,z18rr⟩:=z18r
    obtain⟨A19,c20,rfl,z18s0⟩:=z18r
    have hX21:(RX.of (aq 1 fh) [.slice A19 x16.MH.length c20] x16.MH).reads w F:=⟨z18S,z18s0,z18rr⟩
    refine TD.run ag [0,1] Z Z ?_
    refine KO Z (K1 (k:=k7) Z Z Z NH NV (Nw hx17).1) Z ?_
    refine TD.run ag [3] Z Z (KO Z (Ln 0 Z N4 z18nf z18cc Z Z) Z ?_)
    obtain⟨x22,hx23,h⟩:=Np h
    obtain⟨gz24,oz24,rfl,z24cs,z24cl,z24cc,z24nf,z24r⟩:=Lf QH (K6 hX) hx23
    obtain⟨z24S,z24r,z24rr⟩:=z24r
    obtain⟨A25,c26,rfl,z24s0⟩:=z24r
    have hX27:(RX.of (aq 1 fh) [.slice A25 x22.MH.length c26] x22.MH).reads w F:=⟨z24S,z24s0,z24rr⟩
    refine TD.run ag [5,6] Z Z ?_
    refine KO Z (K1 (k:=k7) Z Z Z NH NV (Nw hx23).1) Z ?_
    refine TD.run ag [8] Z Z (KO Z (Ln 0 Z N4 z24nf z24cc Z Z) Z (KO Z (Mv Z Z) Z ?_))
    rcases jF h with⟨c28,h⟩ | ⟨c28,h⟩
    ·refine TD.run ag [11] Z Z ?_
     iterate 2 refine TD.q Z (.g Z Z (bf (Nt c28))) (Ls ag Z) Z ?_
     refine TD.q Z (.g Z Z (bf (Nt c28))) (K1 (k:=k7) Z Z Z NH NV (Nw hx17).1) Z ?_
     refine TD.q Z (.g Z Z (bf (Nt c28))) (Ls ag Z) Z (TD.q Z (.g Z Z (bf (Nt c28))) (Ln 1 Z OD z18nf z18cc Z Z) Z ?_)
     iterate 2 refine TD.q Z (.g Z Z (bf (Nt c28))) (Ls ag Z) Z ?_
     refine TD.q Z (.g Z Z (bf (Nt c28))) (K1 (k:=k7) Z Z Z NH NV (Nw hx23).1) Z ?_
     refine TD.q Z (.g Z Z (bf (Nt c28))) (Ls ag Z) Z (TD.q Z (.g Z Z (bf (Nt c28))) (Ln 1 Z OD z24nf z24cc Z Z) Z ?_)
     obtain⟨x29,hx30,h⟩:=Np h
     refine Lw Z (.g Z Z (bf (Nt c28))) (.fn Tryz.call166 Z) (vV x16.MH _ _ x22.MH _ _ _ hx30) (fun _ hs=>(RX.reads_and (K0 hs hX21) (K0 hs hX27))) Z [0] (Z) (TD.q Z (.g Z Z (bf (Nt c28))) (Ls ag Z) Z (KO Z (LL Z (bf (Nt c28)) Z) Z ?_))
     rcases jF h with⟨c31,h⟩ | ⟨c31,h⟩
     ·refine LF (Lb Z (bf c31) (T.skip (K4 (X.seq (T.region Z ?_)))))
      obtain⟨c32,h⟩:=ao h
      exact KF ag 1 Z (KH Z (Ex.add Z Z c32) Z (KF ag 1 Z (TL.nil (X.back (m':=m11) [0] QG ⟨y6,k7+1,Z,Z,h⟩ QJ QJ))))
     replace c31:=Nx c31
     refine LF (KV Z (bG c31) (KG Z (KF ag 1 Z ?_)))
     obtain rfl:=Nq h
     obtain rfl:=Nq hO10
     exact KI (T.ret (KU (KL (KL (KU (KL (KQ [0] Qq (KJ Z))))))))
    refine TD.run ag [11] Z Z ?_
    iterate 10 refine LD Z (.gn Z Z (bG (Nu c28))) Z ?_
    refine L6 Z (.gn Z Z (bG (Nu c28))) Z [0] Z (LD Z (.gn Z Z (bG (Nu c28))) Z (KO Z (LN Z (bG (Nu c28)) Z) Z (LF (KV Z Z (KG Z (KF ag 1 Z ?_))))))
    obtain rfl:=Nq h
    obtain rfl:=Nq hO10
    exact KI (T.ret (KU (KL (KL (KU (KL (KQ [0] Qq (KJ Z))))))))
   refine K9 Z c15 ?_
   obtain rfl:=Nq h
   replace h:=hO10
   clear hO10
   refine T.exit (KZ (KZ (Lu (X.seq (KG Z (KF ag 1 Z ?_))))))
   obtain rfl:=Nq h
   exact KI (T.ret (KQ [0] Qq (KJ Z)))
 refine Li Z c5 (KG Z (KF ag 1 Z ?_))
 obtain rfl:=Nq h
 exact KI (T.ret (KL (KQ [0] Qq (KJ Z))))
end Go.Proofs.YtheikonlgjdopaaGreat.Sl
