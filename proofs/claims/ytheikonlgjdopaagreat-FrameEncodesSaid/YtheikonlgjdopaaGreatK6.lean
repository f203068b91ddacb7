/- frameEncodes_holds: part 6. -/
import Derived.Test.YtheikonlgjdopaaGreatK5
set_option maxRecDepth 100000
set_option maxHeartbeats 4000000
set_option linter.defProp false
namespace Go.Proofs.YtheikonlgjdopaaGreat.Sl
open Go.RowKit
set_option linter.unusedVariables false
set_option linter.unusedSimpArgs false
def NC := @Tryz.sizeOf236
def NO := @Tryz.runUnderlying232
def NT := @Tryz.runUnderlying159
def Oc := @Tryz.isAgg236
def Od := @Tryz.isAgg234
def OV := @Tryz.sizeOf159
def Pm := @Tryz.results78
def PA := @Tryz.results137
def PG := @Tryz.isAgg159
def PK := @Tryz.results187
def PU := @Tryz.runUnderlying313
def P5 := @Tryz.results129
def P6 := @Tryz.results130
def Qm := @Tryz.runUnderlying238
def Qn := @Tryz.runUnderlying236
def Qy := @Tryz.results188
def QE := @Tryz.sizeOf161
def DL:fg := [(23,0,0),(23,1,1),(91,1,1),(91,2,2),(91,3,4),(91,4,6)]
theorem aF:(DL).OK Tryz.prog:=⟨FOK.mk NS rfl N5 rfl,FOK.mk NS rfl NZ rfl,FOK.mk NU rfl Ny rfl,FOK.mk NU rfl ND rfl,FOK.mk NU rfl ND rfl,FOK.mk NU rfl Ps rfl,trivial⟩
def DM:List Nat := [3,4,9,89]
theorem fM:NOK Tryz.prog DM:=⟨Nz,Ok,N4,Qb,trivial⟩
def dJ (st:I)  : Option (I):=(ed st 2).bind fun (x1,st2)=>if x1=0 then some st2 else ((cj st2 7).bind fun st5=>some st5)
theorem kL (g:Nat) (st:I)  (r:I) (h:dJ st  = some r):aH Tryz.prog 217 #[jP g] .triv (InR g st) (fun v A' N=>v= .tuple #[]∧A'=InR g r∧N = []):=by
 refine aU Tryz.func217 Z Tryz.ntmps217 Z ?_
 intro F w hX
 unfold dJ at h
 refine KG Z ?_
 obtain⟨⟨x1,st2⟩,hx3,h⟩:=Np h
 refine KF aF 1 Z (KT 0 Z Z .u (.fn Tryz.call68 Z) (bx g st 2 _ hx3) sT Z Z (KF aF 1 Z ?_))
 rcases jF h with⟨c4,h⟩ | ⟨c4,h⟩
 ·refine Lj Z c4 ?_
  obtain rfl:=Nq h
  exact T.skip (LQ [0] Tryz.results217 ⟨Z,Z,Z⟩ QJ (.inr Z))
 refine Li Z c4 (T.region Z ?_)
 obtain⟨st5,hx6,h⟩:=Np h
 refine KF aF 1 Z (KT 0 Z Z .u (.fn Tryz.call70 Z) (bH g st2 7 _ hx6) sT Z Z ?_)
 obtain rfl:=Nq h
 exact TL.nil (LQ [0] Tryz.results217 ⟨Z,Z,Z⟩ QJ (.inr Z))
def eu (a0:List UInt8):Option (Int×Int):=(wF a0).bind fun st1=>(dJ st1).bind fun st4=>(ed st4 2).bind fun (x6,st7)=>if x6=0 then ((eg st7).bind fun (x10,st11)=>if x10=0 then some (x6,0) else some (0,x10)) else (if x6=1 then ((eg st7).bind fun (x15,st16)=>if x15=0 then some (x6,0) else some (0,x15)) else ((cj st7 12).bind fun st19=>(eg st19).bind fun (x21,st22)=>if x21=0 then some (x6,0) else some (0,x21)))
theorem px (a0:List UInt8) (r:Int×Int) (h:eu a0=some r):aH Tryz.prog 187 #[jS a0] .triv (aK) (fun v A' N=>v= .tuple #[jI r.1,jI r.2]∧A'=aK∧N = []):=by
 refine aU Tryz.func187 Z Tryz.ntmps187 Z ?_
 intro F w hX
 unfold eu at h
 refine KG Z (K8 aF Z Z ?_)
 obtain⟨st1,hx2,h⟩:=Np h
 refine KF aF 1 Z (L8 Z .u (.fn Tryz.call19 Z) (lj a0 _ hx2) rT Z ?_)
 rintro _ _ _ ⟨b3,rfl,rfl,rfl⟩
 refine Lt [0,0] Z (K8 aF Z Z ?_)
 obtain⟨st4,hx5,h⟩:=Np h
 refine KF aF 1 Z (KT 0 Z Z .u (.fn Tryz.call217 Z) (kL b3 st1 _ hx5) sT Z Z (K7 Z ?_))
 obtain⟨⟨x6,st7⟩,hx8,h⟩:=Np h
 refine KF aF 1 Z (KT 0 Z Z .u (.fn Tryz.call68 Z) (bx b3 st4 2 _ hx8) sT Z Z (KP aF Z (T.seq (KG Z ?_))))
 rcases jF h with⟨c9,h⟩ | ⟨c9,h⟩
 ·refine KF aF 3 Z (KN 15 Z (bf (Nt c9)) (Lq aF Z (Lb Z Z (K3 (T.seq (KG Z ?_))))))
  obtain⟨⟨x10,st11⟩,hx12,h⟩:=Np h
  refine KF aF 1 Z (KT 0 Z Z .u (.fn Tryz.call21 Z) (dt b3 st7 _ hx12) sT Z Z (K8 aF Z Z (KF aF 2 Z ?_)))
  rcases jF h with⟨c13,h⟩ | ⟨c13,h⟩
  ·refine Lj Z c13 (Lg Z (KF aF 3 Z ?_))
   obtain rfl:=Nq h
   exact KI (T.ret (Lo [1] PK (KJ Z) (KJ Z) ⟨Z,Z,Z⟩ QJ (.inl Z)))
  refine Li Z c13 (KG Z (KF aF 3 Z ?_))
  obtain rfl:=Nq h
  exact KI (T.ret (KL (Lo [1] PK (KJ Z) (KJ Z) ⟨Z,Z,Z⟩ QJ (.inl Z))))
 refine KF aF 3 Z (KN 15 Z (bG (Nu c9)) (KM aF 3 Z ?_))
 rcases jF h with⟨c14,h⟩ | ⟨c14,h⟩
 ·refine Lj Z c14 (K3 (T.seq (KG Z ?_)))
  obtain⟨⟨x15,st16⟩,hx17,h⟩:=Np h
  refine KF aF 1 Z (KT 0 Z Z .u (.fn Tryz.call21 Z) (dt b3 st7 _ hx17) sT Z Z (K8 aF Z Z (KF aF 2 Z ?_)))
  rcases jF h with⟨c18,h⟩ | ⟨c18,h⟩
  ·refine Lj Z c18 (Lg Z (KF aF 3 Z ?_))
   obtain rfl:=Nq h
   exact KI (T.ret (Lo [1] PK (KJ Z) (KJ Z) ⟨Z,Z,Z⟩ QJ (.inl Z)))
  refine Li Z c18 (KG Z (KF aF 3 Z ?_))
  obtain rfl:=Nq h
  exact KI (T.ret (KL (Lo [1] PK (KJ Z) (KJ Z) ⟨Z,Z,Z⟩ QJ (.inl Z))))
 refine Li Z c14 (T.region Z ?_)
 obtain⟨st19,hx20,h⟩:=Np h
 refine KF aF 1 Z (KT 0 Z Z .u (.fn Tryz.call70 Z) (bH b3 st7 12 _ hx20) sT Z Z (KI (T.seq (KG Z ?_))))
 obtain⟨⟨x21,st22⟩,hx23,h⟩:=Np h
 refine KF aF 1 Z (KT 0 Z Z .u (.fn Tryz.call21 Z) (dt b3 st19 _ hx23) sT Z Z (K8 aF Z Z (KF aF 2 Z ?_)))
 rcases jF h with⟨c24,h⟩ | ⟨c24,h⟩
 ·refine Lj Z c24 (Lg Z (KF aF 3 Z ?_))
  obtain rfl:=Nq h
  exact KI (T.ret (Lo [1] PK (KJ Z) (KJ Z) ⟨Z,Z,Z⟩ QJ (.inl Z)))
 refine Li Z c24 (KG Z (KF aF 3 Z ?_))
 obtain rfl:=Nq h
 exact KI (T.ret (KL (Lo [1] PK (KJ Z) (KJ Z) ⟨Z,Z,Z⟩ QJ (.inl Z))))
def dH (a0:List UInt8):Option (Int×Int):=(wF a0).bind fun st1=>(dJ st1).bind fun st4=>(ed st4 4).bind fun (x6,st7)=>if x6<0 then ((cj st7 11).bind fun st10=>(eg st10).bind fun (x12,st13)=>if x12=0 then some (x6,0) else some (0,x12)) else ((eg st7).bind fun (x16,st17)=>if x16=0 then some (x6,0) else some (0,x16))
theorem oe (a0:List UInt8) (r:Int×Int) (h:dH a0=some r):aH Tryz.prog 188 #[jS a0] .triv (aK) (fun v A' N=>v= .tuple #[jI r.1,jI r.2]∧A'=aK∧N = []):=by
 refine aU Tryz.func188 Z Tryz.ntmps188 Z ?_
 intro F w hX
 unfold dH at h
 refine KG Z (K8 aF Z Z ?_)
 obtain⟨st1,hx2,h⟩:=Np h
 refine KF aF 1 Z (L8 Z .u (.fn Tryz.call19 Z) (lj a0 _ hx2) rT Z ?_)
 rintro _ _ _ ⟨b3,rfl,rfl,rfl⟩
 refine Lt [0,0] Z (K8 aF Z Z ?_)
 obtain⟨st4,hx5,h⟩:=Np h
 refine KF aF 1 Z (KT 0 Z Z .u (.fn Tryz.call217 Z) (kL b3 st1 _ hx5) sT Z Z (K7 Z ?_))
 obtain⟨⟨x6,st7⟩,hx8,h⟩:=Np h
 refine KF aF 1 Z (KT 0 Z Z .u (.fn Tryz.call68 Z) (bx b3 st4 4 _ hx8) sT Z Z (KP aF Z (T.seq (KG Z (KF aF 2 Z ?_)))))
 rcases jF h with⟨c9,h⟩ | ⟨c9,h⟩
 ·refine La Z c9 (T.region Z ?_)
  obtain⟨st10,hx11,h⟩:=Np h
  refine KF aF 1 Z (KT 0 Z Z .u (.fn Tryz.call70 Z) (bH b3 st7 11 _ hx11) sT Z Z (KI (T.seq (KG Z ?_))))
  obtain⟨⟨x12,st13⟩,hx14,h⟩:=Np h
  refine KF aF 1 Z (KT 0 Z Z .u (.fn Tryz.call21 Z) (dt b3 st10 _ hx14) sT Z Z (K8 aF Z Z (KF aF 2 Z ?_)))
  rcases jF h with⟨c15,h⟩ | ⟨c15,h⟩
  ·refine Lj Z c15 (Lg Z (KF aF 3 Z ?_))
   obtain rfl:=Nq h
   exact KI (T.ret (Lo [1] Qy (KJ Z) (KJ Z) ⟨Z,Z,Z⟩ QJ (.inl Z)))
  refine Li Z c15 (KG Z (KF aF 3 Z ?_))
  obtain rfl:=Nq h
  exact KI (T.ret (KL (Lo [1] Qy (KJ Z) (KJ Z) ⟨Z,Z,Z⟩ QJ (.inl Z))))
 refine K9 Z c9 (K3 (T.seq (KG Z ?_)))
 obtain⟨⟨x16,st17⟩,hx18,h⟩:=Np h
 refine KF aF 1 Z (KT 0 Z Z .u (.fn Tryz.call21 Z) (dt b3 st7 _ hx18) sT Z Z (K8 aF Z Z (KF aF 2 Z ?_)))
 rcases jF h with⟨c19,h⟩ | ⟨c19,h⟩
 ·refine Lj Z c19 (Lg Z (KF aF 3 Z ?_))
  obtain rfl:=Nq h
  exact KI (T.ret (Lo [1] Qy (KJ Z) (KJ Z) ⟨Z,Z,Z⟩ QJ (.inl Z)))
 refine Li Z c19 (KG Z (KF aF 3 Z ?_))
 obtain rfl:=Nq h
 exact KI (T.ret (KL (Lo [1] Qy (KJ Z) (KJ Z) ⟨Z,Z,Z⟩ QJ (.inl Z))))
def dV (a0:Rec):Option (Int×Int×Int):=if a0.M4.null=true then some (0,0,12) else (if a0.MV.null=true then some (0,0,12) else (if (a0.MU.length:Int)>0 then some (0,0,12) else (if a0.M1=0 then ((eu a0.M4.data).bind fun (x8,x9)=>if x9=0 then ((dH a0.MV.data).bind fun (x12,x13)=>if x13=0 then some (x8,x12,0) else some (0,0,x13)) else some (0,0,x9)) else some (0,0,12))))
theorem rt (a0:Rec) (A1:Option Addr) (c2:Nat) (r:Int×Int×Int) (h:dV a0=some r):aH Tryz.prog 137 #[.agg (wA2 a0 A1 c2)] (RX.of (aq 3 dq) [.slice A1 a0.MU.length c2] a0.MU) (aK) (fun v A' N=>v= .tuple #[jI r.1,jI r.2.1,jI r.2.2]∧A'=aK∧N = []):=by
 refine aU Tryz.func137 Z Tryz.ntmps137 Z ?_
 intro F w hX
 unfold dV at h
 refine KG Z (TL.box Z .u Z Z (fun b3=>(KP aF Z (T.seq (KG Z ?_)))))
 rcases jF h with⟨c4,h⟩ | ⟨c4,h⟩
 ·refine KK aF fM 0 Z 4 Z Z (KN 8 Z c4 (Lq aF Z (KV Z Z (KG Z (KF aF 3 Z ?_)))))
  obtain rfl:=Nq h
  exact KI (T.ret (KL (L4 [1] PA (KJ Z) (KJ Z) (KJ Z) ⟨Z,Z,Z⟩ QJ (.inl Z))))
 replace c4:=Nx c4
 refine KK aF fM 0 Z 4 Z Z (KN 8 Z c4 ?_)
 rcases jF h with⟨c5,h⟩ | ⟨c5,h⟩
 ·refine KK aF fM 0 Z 5 Z Z (KN 13 Z c5 (Lq aF Z (KV Z Z (KG Z (KF aF 3 Z ?_)))))
  obtain rfl:=Nq h
  exact KI (T.ret (KL (L4 [1] PA (KJ Z) (KJ Z) (KJ Z) ⟨Z,Z,Z⟩ QJ (.inl Z))))
 replace c5:=Nx c5
 refine KK aF fM 0 Z 5 Z Z (KN 13 Z c5 (KK aF fM 0 Z 2 Z Z (TL.q Z (.g Z Z Z) (KX Z N3) Z ?_)))
 rcases jF h with⟨c6,h⟩ | ⟨c6,h⟩
 ·refine KM aF 3 Z (KN 19 Z (Nt c6) (Lq aF Z (KV Z Z (KG Z (KF aF 3 Z ?_)))))
  obtain rfl:=Nq h
  exact KI (T.ret (KL (L4 [1] PA (KJ Z) (KJ Z) (KJ Z) ⟨Z,Z,Z⟩ QJ (.inl Z))))
 refine KM aF 3 Z (KN 19 Z (Nu c6) (KK aF fM 0 Z 4 Z Z ?_))
 rcases jF h with⟨c7,h⟩ | ⟨c7,h⟩
 ·refine Lj Z c7 (K3 (T.seq (KG Z ?_)))
  obtain⟨⟨x8,x9⟩,hx10,h⟩:=Np h
  refine KK aF fM 0 Z 3 Z Z (K2 Z .u (.fn Tryz.call187 Z) (px a0.M4.data _ hx10) rT Z (K8 aF Z Z (KF aF 2 Z ?_)))
  rcases jF h with⟨c11,h⟩ | ⟨c11,h⟩
  ·refine Lj Z c11 (K3 (T.seq (KG Z ?_)))
   obtain⟨⟨x12,x13⟩,hx14,h⟩:=Np h
   refine KK aF fM 0 Z 3 Z Z (K2 Z .u (.fn Tryz.call188 Z) (oe a0.MV.data _ hx14) rT Z (K8 aF Z Z (KF aF 2 Z ?_)))
   rcases jF h with⟨c15,h⟩ | ⟨c15,h⟩
   ·refine Lj Z c15 (Lg Z (KF aF 5 Z ?_))
    obtain rfl:=Nq h
    exact KI (T.ret (L4 [1] PA (KJ Z) (KJ Z) (KJ Z) ⟨Z,Z,Z⟩ QJ (.inl Z)))
   refine Li Z c15 (KG Z (KF aF 4 Z ?_))
   obtain rfl:=Nq h
   exact KI (T.ret (KL (L4 [1] PA (KJ Z) (KJ Z) (KJ Z) ⟨Z,Z,Z⟩ QJ (.inl Z))))
  refine Li Z c11 (KG Z (KF aF 4 Z ?_))
  obtain rfl:=Nq h
  exact KI (T.ret (KL (L4 [1] PA (KJ Z) (KJ Z) (KJ Z) ⟨Z,Z,Z⟩ QJ (.inl Z))))
 refine Li Z c7 (KG Z (KF aF 3 Z ?_))
 obtain rfl:=Nq h
 exact KI (T.ret (KL (L4 [1] PA (KJ Z) (KJ Z) (KJ Z) ⟨Z,Z,Z⟩ QJ (.inl Z))))
def ft_crc:fg := []
theorem bn:(ft_crc).OK Tryz.prog:=trivial
theorem J2:Tryz.prog.follows .mixedOrders=true:=by kernel_rfl
def gz:Nat→Int→Nat→Option (Int×Nat)
 | 0,_,_=>none
 | m40+1,y35,k36=>if (k36:Int)<8 then ((if (Go.bits .and .u32 y35 1)=1 then (some (Go.bits .xor .u32 (yO .u32 y35 1) 2197175160)) else some (yO .u32 y35 1)).bind fun y46=>if -9223372036854775808≤((k36:Int)+1)∧((k36:Int)+1)≤9223372036854775807 then (gz m40 y46 (k36+1)) else none) else some (y35,k36)
def iB:Nat→Nat→List Int→Option (Nat×List Int)
 | 0,_,_=>none
 | m7+1,k2,st3=>if (k2:Int)<256 then (((gz ((8:Int).toNat+1) (IntKind.u32.wrap (k2:Int)) 0).bind fun (y52,k53)=>(st3[k2]?).bind fun x54=>some (st3.set k2 y52)).bind fun st33=>if -9223372036854775808≤((k2:Int)+1)∧((k2:Int)+1)≤9223372036854775807 then (iB m7 (k2+1) st33) else none) else some (k2,st3)
def mP  : Option (List Int):=(iB ((256:Int).toNat+1) 0 (List.replicate 256 (0:Int))).bind fun (k57,st58)=>some st58
theorem kM  (r:List Int) (h:mP  = some r):aH Tryz.prog 84 #[] .triv (aK) (fun v A' N=> ∃ q:Nat,v=jP q∧A'=aK∧N = [nM 238 q r]):=by
 refine aU Tryz.func84 Z Tryz.ntmps84 Z ?_
 intro F w hX
 unfold mP at h
 refine KG Z (K8 bn Z Z (KH Z (Ex.bldZ Tryz.zeroValue238 Qm QE) Z ?_))
 refine TL.tNew Z .u Z QI Z (fun b1=> ?_)
 refine KP bn Z (T.seq (KG Z (KP bn Z (T.block ?_))))
 obtain⟨E4,hE5,hO6⟩:=Np h
 refine Lv (fun m e Rs=> ∃ (k2:Nat) (st3:List Int),e = [(0,.pointer none),(1,jP b1),(6,jI (k2:Int))]∧Rs = [nM 238 b1 st3,aK]∧iB m k2 st3=some E4) ((256:Int).toNat+1) [0,0] ⟨0,(List.replicate 256 (0:Int)),Z,Z,by exact hE5⟩ QJ QJ ?_
 clear hE5 h
 rintro m7 _ _ ⟨k2,st3,rfl,rfl,h⟩
 cases m7 with
 | zero =>
  rw[iB] at h
  cases h
 | succ m7 =>
  rw[iB] at h
  refine KG Z (KF bn 1 Z ?_)
  rcases jF h with⟨c11,h⟩ | ⟨c11,h⟩
  ·refine KI (T.seq (LU Z c11 (K3 (T.seq ?_))))
   obtain⟨st33,h,hk34⟩:=Np h
   refine Lz (fun e Rs=>e = [(0,.pointer none),(1,jP b1),(6,jI (k2:Int))]∧Rs = [nM 238 b1 st33,aK]) ?_ ?_
   ·clear hk34
    refine T.block (KG Z (K8 bn Z Z (KF bn 1 Z (KH Z (Mr Z OP OJ) Z (KP bn Z (T.seq (KG Z (KF bn 1 Z ?_))))))))
    refine KI (T.block ?_)
    obtain⟨E37,hE38,hO39⟩:=Np h
    refine Lv (fun m e Rs=> ∃ (y35:Int) (k36:Nat),e = [(0,.pointer none),(1,jP b1),(2,jI (k2:Int)),(3,.int .u32 y35),(6,jI (k2:Int)),(11,jI (k36:Int))]∧Rs = [nM 238 b1 st3,aK]∧gz m y35 k36=some E37) ((8:Int).toNat+1) [0,0] ⟨(IntKind.u32.wrap (k2:Int)),0,Z,Z,by exact hE38⟩ QJ QJ ?_
    clear hE38 h
    rintro m40 _ _ ⟨y35,k36,rfl,rfl,h⟩
    cases m40 with
    | zero =>
     rw[gz] at h
     cases h
    | succ m40 =>
     rw[gz] at h
     refine KG Z (KF bn 1 Z ?_)
     rcases jF h with⟨c44,h⟩ | ⟨c44,h⟩
     ·refine KI (T.seq (LU Z c44 (K3 (T.seq (T.block (KG Z (KF bn 1 Z (KH Z (Ex.bitw Z Z Z) Z (KP bn Z ?_)))))))))
      obtain⟨y46,h,hk47⟩:=Np h
      refine Lz (fun e Rs=>e = [(0,.pointer none),(1,jP b1),(2,jI (k2:Int)),(3,.int .u32 y46),(6,jI (k2:Int)),(11,jI (k36:Int))]∧Rs = [nM 238 b1 st3,aK]) ?_ ?_
      ·clear hk47
       rcases jF h with⟨c48,h⟩ | ⟨c48,h⟩
       ·refine LU Z c48 (T.region Z (KF bn 1 Z (KH Z (Ex.shr Z Z QH) Z (KH Z (Ex.bitw Z Z Z) Z (KF bn 1 Z ?_)))))
        cases h
        exact TL.nil (KR [0,0])
       refine LX Z c48 (T.region Z (KF bn 1 Z (KH Z (Ex.shr Z Z QH) Z (KF bn 1 Z ?_))))
       cases h
       exact TL.nil (KR [0,0])
      rintro _ _ ⟨rfl,rfl⟩
      clear h
      have h:=hk47
      clear hk47
      try dsimp only at h
      obtain⟨c49,h⟩:=ao h
      exact K4 (X.seq (T.region Z (KH Z (Ex.add Z Z c49) Z (KF bn 1 Z (TL.nil (X.back (m':=m40) [0,0] QG ⟨y46,k36+1,Z,Z,h⟩ QJ QJ))))))
     refine KI (T.seq (LX Z c44 ?_))
     obtain rfl:=Nq h
     replace h:=hO39
     clear hO39
     refine T.exit (KZ (KZ (Lu (X.seq (T.region Z ?_)))))
     obtain⟨x50,hx51,h⟩:=Np h
     refine KF bn 4 Z (KH Z (Ex.tIx (k:=k2) 0 Z Z Z Qm QE Z hx51) Z (TL.tSt (k:=k2) 0 Z .u Z Z QE Z hx51 (Lt [0,0] Z ?_)))
     cases h
     exact TL.nil (K4 (KR [0,0]))
   rintro _ _ ⟨rfl,rfl⟩
   clear h
   have h:=hk34
   clear hk34
   try dsimp only at h
   obtain⟨c56,h⟩:=ao h
   exact X.seq (T.region Z (KH Z (Ex.add Z Z c56) Z (KF bn 1 Z (TL.nil (X.back (m':=m7) [0,0] QG ⟨k2+1,st33,Z,Z,h⟩ QJ QJ)))))
  refine KI (T.seq (LX Z c11 ?_))
  obtain rfl:=Nq h
  replace h:=hO6
  clear hO6
  refine T.exit (KZ (KZ (Lu (X.seq (KG Z (KF bn 2 Z ?_))))))
  obtain rfl:=Nq h
  exact KI (T.ret (Le [1,0] Tryz.results84 (KJ Z) ⟨_,Z,Z,Z⟩ QJ (.inl Z)))
def d9 (a2:List UInt8):Nat→Int→Nat→List Int→Option (Int×Nat×List Int)
 | 0,_,_,_=>none
 | m7+1,y1,k2,st3=>if (k2:Int)<(a2.length:Int) then ((a2[k2]?).bind fun ch12=>if 0≤(Go.bits .xor .u8 (IntKind.u8.wrap y1) (ch12.toNat:Int)) then ((st3[(Go.bits .xor .u8 (IntKind.u8.wrap y1) (ch12.toNat:Int)).toNat]?).bind fun x15=>if -9223372036854775808≤((k2:Int)+1)∧((k2:Int)+1)≤9223372036854775807 then (d9 a2 m7 (Go.bits .xor .u32 x15 (yO .u32 y1 8)) (k2+1) st3) else none) else none) else some (y1,k2,st3)
def iG (st:List Int) (a1:Int) (a2:List UInt8):Option (Int×List Int):=(d9 a2 (((a2.length:Int)).toNat+1) (Go.bits .xor .u32 4294967295 a1) 0 st).bind fun (y18,k19,st20)=>some ((Go.bits .xor .u32 4294967295 y18),st20)
theorem qy (g:Nat) (st:List Int) (a1:Int) (a2:List UInt8) (r:Int×List Int) (h:iG st a1 a2=some r):aH Tryz.prog 140 #[jP g,.int .u32 a1,jS a2] .triv (nM 238 g st) (fun v A' N=>v= .int .u32 r.1∧A'=nM 238 g r.2∧N = []):=by
 refine aU Tryz.func140 Z Tryz.ntmps140 Z ?_
 intro F w hX
 unfold iG at h
 refine KG Z (K8 bn Z Z (KF bn 1 Z (KH Z (Ex.notK Z) Z (KP bn Z (T.seq (KG Z (KF bn 1 Z ?_)))))))
 refine KH Z (Lx Z NE) Z (KP bn Z (T.block ?_))
 obtain⟨E4,hE5,hO6⟩:=Np h
 refine Lv (fun m e Rs=> ∃ (y1:Int) (k2:Nat) (st3:List Int),e = [(0,jP g),(2,jS a2),(6,.int .u32 0),(7,.int .u32 y1),(12,jI (a2.length:Int)),(13,jI (k2:Int))]∧Rs = [nM 238 g st3]∧d9 a2 m y1 k2 st3=some E4) (((a2.length:Int)).toNat+1) [0] ⟨(Go.bits .xor .u32 4294967295 a1),0,st,Z,Z,by exact hE5⟩ QJ QJ ?_
 clear hE5 h
 rintro m7 _ _ ⟨y1,k2,st3,rfl,rfl,h⟩
 cases m7 with
 | zero =>
  rw[d9] at h
  cases h
 | succ m7 =>
  rw[d9] at h
  refine KG Z (KF bn 1 Z ?_)
  rcases jF h with⟨c11,h⟩ | ⟨c11,h⟩
  ·refine KI (T.seq (LU Z c11 (K3 (T.seq (T.block (KG Z (KF bn 2 Z ?_)))))))
   refine KI (Lm (.q 0 (.q 1 (.q 2 (.q 3 (.q 4 (.q 5 (.q 6 (.q 7 (.q 8 (.q 9 (.q 10 (.q 11 (.q 12 (.q 13 .nil)))))))))))))) [0] Z J2 (NoP.blk (NoP.seq (NoP.seq (NoP.blk (NoP.seq bu))))) QI ?_)
   refine TD.run bn [0,1] Z Z (KO Z (Mr Z OJ O3) Z ?_)
   obtain⟨ch12,hc13,h⟩:=Np h
   refine TD.run bn [3,4] Z Z (KO Z (Mw Z Z Z Tryz.underlying9 hc13) Z (KO Z (Ex.bitw Z Z Z) Z ?_))
   obtain⟨c14,h⟩:=ao h
   obtain⟨x15,hx16,h⟩:=Np h
   refine TD.run bn [7] Z Z (KO Z (Ex.tIx (k:=(Go.bits .xor .u8 (IntKind.u8.wrap y1) (ch12.toNat:Int)).toNat) 0 Z Z ((Int.toNat_of_nonneg c14).symm) Qm QE Z hx16) Z (KO Z (Ex.tLd (k:=(Go.bits .xor .u8 (IntKind.u8.wrap y1) (ch12.toNat:Int)).toNat) 0 Z Tryz.isAgg161 Z hx16) Z (TD.run bn [10] Z Z (KO Z (Ex.shr Z Z QH) Z (KO Z (Ex.bitw Z Z Z) Z (TD.run bn [13] Z Z ?_))))))
   obtain⟨c17,h⟩:=ao h
   exact TD.nil (K4 (X.seq (T.region Z (KH Z (Ex.add Z Z c17) Z (KF bn 1 Z (TL.nil (X.back (m':=m7) [0] QG ⟨(Go.bits .xor .u32 x15 (yO .u32 y1 8)),k2+1,st3,Z,Z,h⟩ QJ QJ)))))))
  refine KI (T.seq (LX Z c11 ?_))
  obtain rfl:=Nq h
  replace h:=hO6
  clear hO6
  refine T.exit (KZ (KZ (Lu (X.seq (KG Z (KF bn 1 Z (KH Z (Ex.notK Z) Z (KF bn 1 Z ?_))))))))
  obtain rfl:=Nq h
  exact KI (T.ret (KQ [0] Tryz.results140 (KJ Z)))
def dK:List (List UInt8)→Int→List Int→Option (Int×List Int)
 | [],y3,st5=>some (y3,st5)
 | x10::xs,y3,st5=>(iG st5 y3 x10).bind fun (x14,st15)=>dK xs x14 st15
def g8 (st:List Int) (a1:List (List UInt8)):Option (Int×List Int):=(dK a1 0 st).bind fun (y17,st19)=>some (y17,st19)
theorem gR (g:Nat) (st:List Int) (a1:List (List UInt8)) (A1:Option Addr) (c2:Nat) (r:Int×List Int) (h:g8 st a1=some r):aH Tryz.prog 85 #[jP g,.slice A1 a1.length c2] (RX.of (aq 1 tX) [.slice A1 a1.length c2] a1) (nM 238 g st) (fun v A' N=>v= .int .u32 r.1∧A'=nM 238 g r.2∧N = []):=by
 refine aU Tryz.func85 Z Tryz.ntmps85 Z ?_
 intro F w hX
 unfold g8 at h
 refine KG Z (K8 bn Z Z (KP bn Z (T.seq (KG Z (KF bn 1 Z (KH Z (KX Z Pg) Z (KF bn 1 Z ?_)))))))
 refine KI (T.block ?_)
 obtain⟨E6,hE7,hO8⟩:=Np h
 have hk12len:=LA hX
 refine Lv (fun m e Rs=> ∃ (y3:Int) (k4:Nat) (st5:List Int),k4+m=a1.length∧e = [(0,jP g),(4,.int .u32 0),(5,.int .u32 y3),(8,.slice A1 a1.length c2),(9,jI (a1.length:Int)),(10,jI (k4:Int))]∧Rs = [nM 238 g st5]∧dK (a1.drop k4) y3 st5=some E6) (a1.length) [0] ⟨0,0,st,by simp,Z,Z,by rw[List.drop_zero]; exact hE7⟩ QJ QJ ?_
 clear hE7 h
 rintro m9 _ _ ⟨y3,k4,st5,hk12,rfl,rfl,h⟩
 cases m9 with
 | zero =>
  rw[List.drop_of_length_le QG,dK] at h
  have hk12ge: ¬ ((k4:Int)<(a1.length:Int)):=by omega
  refine KG Z (KP bn Z (T.seq (Lb Z (Nu hk12ge) ?_)))
  obtain rfl:=Nq h
  replace h:=hO8
  clear hO8
  refine T.exit (KZ (KZ (Lu (X.seq (KG Z (KF bn 2 Z ?_))))))
  obtain rfl:=Nq h
  exact KI (T.ret (KQ [0] Tryz.results85 (KJ Z)))
 | succ m9 =>
  obtain⟨x10,hxx10⟩: ∃ x,a1[k4]? = some x:=⟨_,List.getElem?_eq_getElem QG⟩
  rw[bJ hxx10,dK] at h
  have hk12lt:(k4:Int)<(a1.length:Int):=by omega
  refine KG Z (KP bn Z (T.seq (KV Z (Nt hk12lt) ?_)))
  obtain⟨gz13,oz13,rfl,z13cs,z13cl,z13cc,z13nf,z13r⟩:=Lf QH hX hxx10
  obtain⟨z13S,z13r,z13rr⟩:=z13r
  obtain rfl:z13cs = [jS x10]:=z13r
  refine K3 (T.seq (T.block (KG Z ?_)))
  refine KH Z (K1 (k:=k4) Z Z Z Pg NZ (Nw hxx10).1) Z ?_
  refine KH Z (Ln 0 Z N4 z13nf z13cc Z Z) Z (KP bn Z (T.region Z ?_))
  obtain⟨⟨x14,st15⟩,hx16,h⟩:=Np h
  exact KF bn 3 Z (KT 0 Z Z .u (.fn Tryz.call140 Z) (qy g st5 y3 x10 _ hx16) sT Z Z (KF bn 1 Z (TL.nil (K4 (X.seq (T.region Z (KH Z (Ex.add Z Z QG) Z (KF bn 1 Z (TL.nil (X.back (m':=m9) [0] QG ⟨x14,k4+1,st15,by omega,Z,Z,h⟩ QJ QJ))))))))))
def Gj:fg := [(159,0,0),(159,1,1),(159,2,2),(159,3,3),(159,4,4),(159,5,5),(159,6,6),(159,7,7),(159,8,8),(159,9,9),(159,10,10),(159,11,11),(236,0,0),(236,1,1)]
theorem al:(Gj).OK Tryz.prog:=⟨FOK.mk NT rfl Ny rfl,FOK.mk NT rfl Ny rfl,FOK.mk NT rfl Ny rfl,FOK.mk NT rfl Ny rfl,FOK.mk NT rfl Ny rfl,FOK.mk NT rfl Ny rfl,FOK.mk NT rfl Ny rfl,FOK.mk NT rfl Ny rfl,FOK.mk NT rfl Ny rfl,FOK.mk NT rfl Ny rfl,FOK.mk NT rfl Ny rfl,FOK.mk NT rfl Ny rfl,FOK.mk Qn rfl Tryz.sizeOf234 rfl,FOK.mk Qn rfl Ny rfl,trivial⟩
def Gk:List Nat := [3]
theorem gC:NOK Tryz.prog Gk:=⟨Nz,trivial⟩
theorem bP:Tryz.prog.follows .mixedOrders=true:=by kernel_rfl
theorem xl:BOK Tryz.prog 159 #[.int .i64 0,.int .i64 0,.int .i64 0,.int .i64 0,.int .i64 0,.int .i64 0,.int .i64 0,.int .i64 0,.int .i64 0,.int .i64 0,.int .i64 0,.int .i64 0] [(0,1),(1,1),(2,1),(3,1),(4,1),(5,1),(6,1),(7,1),(8,1),(9,1),(10,1),(11,1)]:=BOK.mk Tryz.zeroValue159 NT (by intro w; simp)
theorem cM:BOK Tryz.prog 236 #[.pointer none,.int .i64 0] [(0,1),(1,1)]:=BOK.mk Tryz.zeroValue236 Qn (by intro w; simp)
theorem td:SOK Tryz.prog 232 236 13 2 #[.pointer none,.int .i64 0,.pointer none,.int .i64 0,.pointer none,.int .i64 0,.pointer none,.int .i64 0,.pointer none,.int .i64 0,.pointer none,.int .i64 0,.pointer none,.int .i64 0,.pointer none,.int .i64 0,.pointer none,.int .i64 0,.pointer none,.int .i64 0,.pointer none,.int .i64 0,.pointer none,.int .i64 0,.pointer none,.int .i64 0]:=SOK.mk NO NC Tryz.zeroValue236 QH QI
def lf (p0:Nat) (p1:Nat):Option (Unit):=some ()
theorem jp (p0:Nat) (p1:Nat) (r:Unit) (h:lf p0 p1=some r):aH Tryz.prog 139 #[jP p0,jP p1] .triv (aK) (fun v A' N=> ∃ q:Nat,v= .slice (some ⟨q,0,none⟩) 13 13∧A'=aK∧N = [aW q 236 (vA5 p0 p1)]):=by
 refine aU Tryz.func139 Z Tryz.ntmps139 Z ?_
 intro F w hX
 unfold lf at h
 refine KG Z (KF al 1 Z ?_)
 refine KI (T.seq (Lm (.q 0 (.q 1 (.q 2 (.q 3 (.q 4 (.q 5 (.q 6 (.q 7 (.q 8 (.q 9 (.q 10 (.q 11 (.q 12 (.q 13 (.q 14 (.q 15 (.q 16 (.q 17 (.q 18 (.q 19 (.q 20 (.q 21 (.q 22 (.q 23 (.q 24 (.q 25 (.q 26 (.q 27 (.q 28 (.q 29 (.q 30 (.q 31 (.q 32 (.q 33 (.q 34 (.q 35 (.q 36 (.q 37 (.q 38 (.q 39 (.q 40 (.q 41 (.q 42 (.q 43 (.q 44 (.q 45 (.q 46 (.q 47 (.q 48 (.q 49 (.e 50 (.q 51 .nil)))))))))))))))))))))))))))))))))))))))))))))))))))) [0] Z bP (NoP.seq bu) QI ?_))
 refine TD.run al [0,1,2] Z Z ?_
 refine KO Z (Ld (cells:= #[jP p0,jI 8]) cM Z QI) Z ?_
 refine TD.run al [4,5,6] Z Z ?_
 refine KO Z (Ld (cells:= #[.pointer (some ⟨p0,1,none⟩),jI 4]) cM Z QI) Z ?_
 refine TD.run al [8,9,10] Z Z ?_
 refine KO Z (Ld (cells:= #[.pointer (some ⟨p0,2,none⟩),jI 4]) cM Z QI) Z ?_
 refine TD.run al [12] Z Z ?_
 refine KO Z (Ld (cells:= #[jP p1,jI 1]) cM Z QI) Z ?_
 refine TD.run al [14,15,16] Z Z ?_
 refine KO Z (Ld (cells:= #[.pointer (some ⟨p0,3,none⟩),jI 4]) cM Z QI) Z ?_
 refine TD.run al [18,19,20] Z Z ?_
 refine KO Z (Ld (cells:= #[.pointer (some ⟨p0,4,none⟩),jI 2]) cM Z QI) Z ?_
 refine TD.run al [22,23,24] Z Z ?_
 refine KO Z (Ld (cells:= #[.pointer (some ⟨p0,5,none⟩),jI 4]) cM Z QI) Z ?_
 refine TD.run al [26,27,28] Z Z ?_
 refine KO Z (Ld (cells:= #[.pointer (some ⟨p0,6,none⟩),jI 8]) cM Z QI) Z ?_
 refine TD.run al [30,31,32] Z Z ?_
 refine KO Z (Ld (cells:= #[.pointer (some ⟨p0,7,none⟩),jI 8]) cM Z QI) Z ?_
 refine TD.run al [34,35,36] Z Z ?_
 refine KO Z (Ld (cells:= #[.pointer (some ⟨p0,8,none⟩),jI 8]) cM Z QI) Z ?_
 refine TD.run al [38,39,40] Z Z ?_
 refine KO Z (Ld (cells:= #[.pointer (some ⟨p0,9,none⟩),jI 2]) cM Z QI) Z ?_
 refine TD.run al [42,43,44] Z Z ?_
 refine KO Z (Ld (cells:= #[.pointer (some ⟨p0,10,none⟩),jI 4]) cM Z QI) Z ?_
 refine TD.run al [46,47,48] Z Z ?_
 refine KO Z (Ld (cells:= #[.pointer (some ⟨p0,11,none⟩),jI 4]) cM Z QI) Z ?_
 refine LY (cells:=vA5 p0 p1) Z .u td Z QI Z [1] (fun _=>Z) (fun b1=> ?_)
 refine TD.run al [51] Z Z ?_
 obtain rfl:=Nq h
 exact LF (T.ret (Le [1,0] Tryz.results139 (KJ Z) ⟨_,Z,Z,Z⟩ QJ (.inl Z)))
def dw (st:List UInt8×Int) (a1:Pfx):Option (List UInt8×Int):=(if a1.Ni<0 then some true else (if a1.Ni>4294967295 then some true else some false)).bind fun y4=>(if y4=true then ((li st 11).bind fun st14=>some st14) else some st).bind fun st11=>if -9223372036854775808≤(IntKind.i32.wrap (IntKind.u32.wrap a1.Ni))∧(IntKind.i32.wrap (IntKind.u32.wrap a1.Ni))≤9223372036854775807 then ((d8 st11 a1.Na 8).bind fun st19=>(d8 st19 a1.Nf 4).bind fun st22=>(d8 st22 a1.M3 4).bind fun st25=>(d8 st25 2 1).bind fun st28=>(d8 st28 (IntKind.i32.wrap (IntKind.u32.wrap a1.Ni)) 4).bind fun st31=>(d8 st31 a1.Nk 2).bind fun st34=>(d8 st34 a1.M7 4).bind fun st37=>(d8 st37 a1.MW 8).bind fun st40=>(d8 st40 a1.Ng 8).bind fun st43=>(d8 st43 a1.MG 8).bind fun st46=>(d8 st46 a1.MJ 2).bind fun st49=>(d8 st49 a1.MX 4).bind fun st52=>(d8 st52 a1.Nj 4).bind fun st55=>some st55) else none
theorem jQ (g:Nat) (st:List UInt8×Int) (a1:Pfx) (r:List UInt8×Int) (h:dw st a1=some r):aH Tryz.prog 83 #[jP g,.agg (AD a1)] .triv (bB g st) (fun v A' N=>v= .tuple #[]∧A'=bB g r∧N = []):=by
 refine aU Tryz.func83 Z Tryz.ntmps83 Z ?_
 intro F w hX
 unfold dw at h
 refine KG Z (TL.box Z .u Z Z (fun b1=>(K7 Z (TL.alloc Z .u Tryz.zeroValue3 Z (fun b2=>(KW 0 Z (cs':= #[jI 2]) Z .u Z Z Ny Z Z Z Z Z (KI (L3 ?_))))))))
 obtain⟨y4,h,hk5⟩:=Np h
 refine Lz (fun e Rs=>e = [(0,jP g),(3,jP b1),(4,jP b2),(14,.bool y4)]∧Rs = [aW b2 3 #[jI 2],aW b1 159 (AD a1),bB g st]) ?_ ?_
 ·clear hk5
  refine T.region Z ?_
  rcases jF h with⟨c6,h⟩ | ⟨c6,h⟩
  ·refine KK al gC 1 Z 4 Z Z (KN 10 Z (Nt c6) (KM al 4 Z ?_))
   cases h
   exact TL.nil (KR [0,0,0])
  refine KK al gC 1 Z 4 Z Z (KN 10 Z (Nu c6) (KK al gC 1 Z 4 Z Z ?_))
  rcases jF h with⟨c7,h⟩ | ⟨c7,h⟩
  ·cases h
   exact TL.nil (LE (d:=14) (v':= .bool true) Z (congrArg Value.bool (Nt c7)) (KR [0,0,0]))
  cases h
  exact TL.nil (LE (d:=14) (v':= .bool false) Z (congrArg Value.bool (Nu c7)) (KR [0,0,0]))
 rintro _ _ ⟨rfl,rfl⟩
 clear h
 have h:=hk5
 clear hk5
 refine X.seq ?_
 obtain⟨st11,h,hk12⟩:=Np h
 refine Lz (fun e Rs=>e = [(0,jP g),(3,jP b1),(4,jP b2)]∧Rs = [aW b2 3 #[jI 2],aW b1 159 (AD a1),bB g st11]) ?_ ?_
 ·clear hk12
  rcases jF h with⟨c13,h⟩ | ⟨c13,h⟩
  ·refine KV Z c13 (T.region Z ?_)
   obtain⟨st14,hx15,h⟩:=Np h
   refine KF al 1 Z (KT 2 Z Z .u (.fn Tryz.call94 Z) (ib g st 11 _ hx15) sT Z Z ?_)
   cases h
   exact TL.nil (KR [0,0,0])
  replace c13:=Nx c13
  refine Lb Z c13 ?_
  cases h
  exact T.skip (KR [0,0,0])
 rintro _ _ ⟨rfl,rfl⟩
 clear h
 have h:=hk12
 clear hk12
 refine X.seq (KG Z (KK al gC 1 Z 2 Z Z (KH Z (Mr Z OP OJ) Z (KH Z (Mr Z OJ Tryz.runUnderlying21) Z ?_))))
 obtain⟨c16,h⟩:=ao h
 refine KH Z (Mf Z Tryz.runUnderlying21 OP c16) Z (KF al 1 Z (KW 1 Z (cs':= #[jI a1.Na,jI a1.Nf,jI a1.M3,jI (IntKind.i32.wrap (IntKind.u32.wrap a1.Ni)),jI a1.Nk,jI a1.M7,jI a1.MW,jI a1.Ng,jI a1.MG,jI a1.MJ,jI a1.MX,jI a1.Nj]) Z .u Z Z Ny Z Z Z Z Z (K7 Z (L8 Z .u (.fn Tryz.call139 Z) (jp b1 b2 () Z) (fun _ hs=>Lk _ _) Z ?_))))
 rintro _ _ _ ⟨b17,rfl,rfl,rfl⟩
 refine Lt [0,0,0,0] rfl (KH rfl (KX rfl NO) rfl (KP al rfl (T.block (T.unroll0 (TW.step (KG rfl (KP al rfl (T.seq (KV rfl (Nt (show 0<13 by omega)) ?_)))))))))
 refine K3 (T.seq (T.block (KG Z (KH Z (LP (k:=0) (r:=0) Z Z Z NO NC QH Z) Z (KH Z (KY (us := [jP b1,jI 8]) 0 Z Oc NC Z Z Z) Z (TL.alloc Z .u Tryz.zeroValue236 Z (fun b18=>(KW 0 Z (cs':= #[jP b1,jI 8]) Z .u Z Z NC Z Z Z Z Z ?_))))))))
 refine KI (Lm (.q 0 (.q 1 (.q 2 (.q 3 (.q 4 (.q 5 (.q 6 (.e 7 .nil)))))))) [0,0,0,0] Z bP (NoP.blk (NoP.seq (NoP.seq (NoP.blk bu)))) QI ?_)
 refine TD.run al [0,1] Z Z (KO Z (K5 0 Z Od Z Z) Z (TD.run al [3] Z Z (KO Z (K5 3 Z Nz Z Z) Z (TD.run al [5] Z Z (KO Z (K5 0 Z Nz Z Z) Z ?_)))))
 obtain⟨st19,hx20,h⟩:=Np h
 refine LO 4 rfl rfl .u (.fn Tryz.call51 rfl) (bt g st11 a1.Na 8 _ hx20) sT rfl rfl [0,0,0,0] (rfl) (TD.nil (K4 (X.seq (T.region rfl (KH rfl (Ex.add rfl rfl QG) rfl (KF al 1 rfl (TL.nil (L2 (TW.step (KG rfl (KP al rfl (T.seq (KV rfl (Nt (show 1<13 by omega)) ?_)))))))))))))
 refine K3 (T.seq (T.block (KG Z (KH Z (LP (k:=1) (r:=2) Z Z Z NO NC QH Z) Z (KH Z (KY (us := [.pointer (some ⟨b1,1,none⟩),jI 4]) 1 Z Oc NC Z Z Z) Z (TL.alloc Z .u Tryz.zeroValue236 Z (fun b21=>(KW 0 Z (cs':= #[.pointer (some ⟨b1,1,none⟩),jI 4]) Z .u Z Z NC Z Z Z Z Z ?_))))))))
 refine KI (Lm (.q 0 (.q 1 (.q 2 (.q 3 (.q 4 (.q 5 (.q 6 (.e 7 .nil)))))))) [0,0,0,0,0] Z bP (NoP.blk (NoP.seq (NoP.seq (NoP.blk bu)))) QI ?_)
 refine TD.run al [0,1] Z Z (KO Z (K5 0 Z Od Z Z) Z (TD.run al [3] Z Z (KO Z (K5 4 Z Nz Z Z) Z (TD.run al [5] Z Z (KO Z (K5 0 Z Nz Z Z) Z ?_)))))
 obtain⟨st22,hx23,h⟩:=Np h
 refine LO 5 Z Z .u (.fn Tryz.call51 Z) (bt g st19 a1.Nf 4 _ hx23) sT Z Z [0,0,0,0,0] (Z) (TD.nil (K4 (X.seq (T.region Z (KH Z (Ex.add Z Z QG) Z (KF al 1 Z (TL.nil (LC [0,1,1,1,1] Z (L2 (TW.step (KG Z (KF al 1 Z ?_))))))))))))
 refine KI (T.seq (KV rfl (Nt (show 2<13 by omega)) (K3 (T.seq (T.block (KG rfl (KH rfl (LP (k:=2) (r:=4) rfl rfl rfl NO NC QH rfl) rfl (KH rfl (KY (us := [.pointer (some ⟨b1,2,none⟩),jI 4]) 1 rfl Oc NC rfl rfl rfl) rfl (TL.alloc rfl .u Tryz.zeroValue236 rfl (fun b24=>(KW 0 rfl (cs':= #[.pointer (some ⟨b1,2,none⟩),jI 4]) rfl .u rfl rfl NC rfl rfl rfl rfl rfl ?_)))))))))))
 refine KI (Lm (.q 0 (.q 1 (.q 2 (.q 3 (.q 4 (.q 5 (.q 6 (.e 7 .nil)))))))) [0,0,0,0,0] Z bP (NoP.blk (NoP.seq (NoP.seq (NoP.blk bu)))) QI ?_)
 refine TD.run al [0,1] Z Z (KO Z (K5 0 Z Od Z Z) Z (TD.run al [3] Z Z (KO Z (K5 4 Z Nz Z Z) Z (TD.run al [5] Z Z (KO Z (K5 0 Z Nz Z Z) Z ?_)))))
 obtain⟨st25,hx26,h⟩:=Np h
 refine LO 5 Z Z .u (.fn Tryz.call51 Z) (bt g st22 a1.M3 4 _ hx26) sT Z Z [0,0,0,0,0] (Z) (TD.nil (K4 (X.seq (T.region Z (KH Z (Ex.add Z Z QG) Z (KF al 1 Z (TL.nil (LC [0,1,1,1,1] Z (L2 (TW.step (KG Z (KF al 1 Z ?_))))))))))))
 refine KI (T.seq (KV rfl (Nt (show 3<13 by omega)) (K3 (T.seq (T.block (KG rfl (KH rfl (LP (k:=3) (r:=6) rfl rfl rfl NO NC QH rfl) rfl (KH rfl (KY (us := [jP b2,jI 1]) 1 rfl Oc NC rfl rfl rfl) rfl (TL.alloc rfl .u Tryz.zeroValue236 rfl (fun b27=>(KW 0 rfl (cs':= #[jP b2,jI 1]) rfl .u rfl rfl NC rfl rfl rfl rfl rfl ?_)))))))))))
 refine KI (Lm (.q 0 (.q 1 (.q 2 (.q 3 (.q 4 (.q 5 (.q 6 (.e 7 .nil)))))))) [0,0,0,0,0] Z bP (NoP.blk (NoP.seq (NoP.seq (NoP.blk bu)))) QI ?_)
 refine TD.run al [0,1] Z Z (KO Z (K5 0 Z Od Z Z) Z (TD.run al [3] Z Z (KO Z (K5 3 Z Nz Z Z) Z (TD.run al [5] Z Z (KO Z (K5 0 Z Nz Z Z) Z ?_)))))
 obtain⟨st28,hx29,h⟩:=Np h
 refine LO 5 Z Z .u (.fn Tryz.call51 Z) (bt g st25 2 1 _ hx29) sT Z Z [0,0,0,0,0] (Z) (TD.nil (K4 (X.seq (T.region Z (KH Z (Ex.add Z Z QG) Z (KF al 1 Z (TL.nil (LC [0,1,1,1,1] Z (L2 (TW.step (KG Z (KF al 1 Z ?_))))))))))))
 refine KI (T.seq (KV rfl (Nt (show 4<13 by omega)) (K3 (T.seq (T.block (KG rfl (KH rfl (LP (k:=4) (r:=8) rfl rfl rfl NO NC QH rfl) rfl (KH rfl (KY (us := [.pointer (some ⟨b1,3,none⟩),jI 4]) 1 rfl Oc NC rfl rfl rfl) rfl (TL.alloc rfl .u Tryz.zeroValue236 rfl (fun b30=>(KW 0 rfl (cs':= #[.pointer (some ⟨b1,3,none⟩),jI 4]) rfl .u rfl rfl NC rfl rfl rfl rfl rfl ?_)))))))))))
 refine KI (Lm (.q 0 (.q 1 (.q 2 (.q 3 (.q 4 (.q 5 (.q 6 (.e 7 .nil)))))))) [0,0,0,0,0] Z bP (NoP.blk (NoP.seq (NoP.seq (NoP.blk bu)))) QI ?_)
 refine TD.run al [0,1] Z Z (KO Z (K5 0 Z Od Z Z) Z (TD.run al [3] Z Z (KO Z (K5 4 Z Nz Z Z) Z (TD.run al [5] Z Z (KO Z (K5 0 Z Nz Z Z) Z ?_)))))
 obtain⟨st31,hx32,h⟩:=Np h
 refine LO 5 Z Z .u (.fn Tryz.call51 Z) (bt g st28 (IntKind.i32.wrap (IntKind.u32.wrap a1.Ni)) 4 _ hx32) sT Z Z [0,0,0,0,0] (Z) (TD.nil (K4 (X.seq (T.region Z (KH Z (Ex.add Z Z QG) Z (KF al 1 Z (TL.nil (LC [0,1,1,1,1] Z (L2 (TW.step (KG Z (KF al 1 Z ?_))))))))))))
 refine KI (T.seq (KV rfl (Nt (show 5<13 by omega)) (K3 (T.seq (T.block (KG rfl (KH rfl (LP (k:=5) (r:=10) rfl rfl rfl NO NC QH rfl) rfl (KH rfl (KY (us := [.pointer (some ⟨b1,4,none⟩),jI 2]) 1 rfl Oc NC rfl rfl rfl) rfl (TL.alloc rfl .u Tryz.zeroValue236 rfl (fun b33=>(KW 0 rfl (cs':= #[.pointer (some ⟨b1,4,none⟩),jI 2]) rfl .u rfl rfl NC rfl rfl rfl rfl rfl ?_)))))))))))
 refine KI (Lm (.q 0 (.q 1 (.q 2 (.q 3 (.q 4 (.q 5 (.q 6 (.e 7 .nil)))))))) [0,0,0,0,0] Z bP (NoP.blk (NoP.seq (NoP.seq (NoP.blk bu)))) QI ?_)
 refine TD.run al [0,1] Z Z (KO Z (K5 0 Z Od Z Z) Z (TD.run al [3] Z Z (KO Z (K5 4 Z Nz Z Z) Z (TD.run al [5] Z Z (KO Z (K5 0 Z Nz Z Z) Z ?_)))))
 obtain⟨st34,hx35,h⟩:=Np h
 refine LO 5 Z Z .u (.fn Tryz.call51 Z) (bt g st31 a1.Nk 2 _ hx35) sT Z Z [0,0,0,0,0] (Z) (TD.nil (K4 (X.seq (T.region Z (KH Z (Ex.add Z Z QG) Z (KF al 1 Z (TL.nil (LC [0,1,1,1,1] Z (L2 (TW.step (KG Z (KF al 1 Z ?_))))))))))))
 refine KI (T.seq (KV rfl (Nt (show 6<13 by omega)) (K3 (T.seq (T.block (KG rfl (KH rfl (LP (k:=6) (r:=12) rfl rfl rfl NO NC QH rfl) rfl (KH rfl (KY (us := [.pointer (some ⟨b1,5,none⟩),jI 4]) 1 rfl Oc NC rfl rfl rfl) rfl (TL.alloc rfl .u Tryz.zeroValue236 rfl (fun b36=>(KW 0 rfl (cs':= #[.pointer (some ⟨b1,5,none⟩),jI 4]) rfl .u rfl rfl NC rfl rfl rfl rfl rfl ?_)))))))))))
 refine KI (Lm (.q 0 (.q 1 (.q 2 (.q 3 (.q 4 (.q 5 (.q 6 (.e 7 .nil)))))))) [0,0,0,0,0] Z bP (NoP.blk (NoP.seq (NoP.seq (NoP.blk bu)))) QI ?_)
 refine TD.run al [0,1] Z Z (KO Z (K5 0 Z Od Z Z) Z (TD.run al [3] Z Z (KO Z (K5 4 Z Nz Z Z) Z (TD.run al [5] Z Z (KO Z (K5 0 Z Nz Z Z) Z ?_)))))
 obtain⟨st37,hx38,h⟩:=Np h
 refine LO 5 Z Z .u (.fn Tryz.call51 Z) (bt g st34 a1.M7 4 _ hx38) sT Z Z [0,0,0,0,0] (Z) (TD.nil (K4 (X.seq (T.region Z (KH Z (Ex.add Z Z QG) Z (KF al 1 Z (TL.nil (LC [0,1,1,1,1] Z (L2 (TW.step (KG Z (KF al 1 Z ?_))))))))))))
 refine KI (T.seq (KV rfl (Nt (show 7<13 by omega)) (K3 (T.seq (T.block (KG rfl (KH rfl (LP (k:=7) (r:=14) rfl rfl rfl NO NC QH rfl) rfl (KH rfl (KY (us := [.pointer (some ⟨b1,6,none⟩),jI 8]) 1 rfl Oc NC rfl rfl rfl) rfl (TL.alloc rfl .u Tryz.zeroValue236 rfl (fun b39=>(KW 0 rfl (cs':= #[.pointer (some ⟨b1,6,none⟩),jI 8]) rfl .u rfl rfl NC rfl rfl rfl rfl rfl ?_)))))))))))
 refine KI (Lm (.q 0 (.q 1 (.q 2 (.q 3 (.q 4 (.q 5 (.q 6 (.e 7 .nil)))))))) [0,0,0,0,0] Z bP (NoP.blk (NoP.seq (NoP.seq (NoP.blk bu)))) QI ?_)
 refine TD.run al [0,1] Z Z (KO Z (K5 0 Z Od Z Z) Z (TD.run al [3] Z Z (KO Z (K5 4 Z Nz Z Z) Z (TD.run al [5] Z Z (KO Z (K5 0 Z Nz Z Z) Z ?_)))))
 obtain⟨st40,hx41,h⟩:=Np h
 refine LO 5 Z Z .u (.fn Tryz.call51 Z) (bt g st37 a1.MW 8 _ hx41) sT Z Z [0,0,0,0,0] (Z) (TD.nil (K4 (X.seq (T.region Z (KH Z (Ex.add Z Z QG) Z (KF al 1 Z (TL.nil (LC [0,1,1,1,1] Z (L2 (TW.step (KG Z (KF al 1 Z ?_))))))))))))
 refine KI (T.seq (KV rfl (Nt (show 8<13 by omega)) (K3 (T.seq (T.block (KG rfl (KH rfl (LP (k:=8) (r:=16) rfl rfl rfl NO NC QH rfl) rfl (KH rfl (KY (us := [.pointer (some ⟨b1,7,none⟩),jI 8]) 1 rfl Oc NC rfl rfl rfl) rfl (TL.alloc rfl .u Tryz.zeroValue236 rfl (fun b42=>(KW 0 rfl (cs':= #[.pointer (some ⟨b1,7,none⟩),jI 8]) rfl .u rfl rfl NC rfl rfl rfl rfl rfl ?_)))))))))))
 refine KI (Lm (.q 0 (.q 1 (.q 2 (.q 3 (.q 4 (.q 5 (.q 6 (.e 7 .nil)))))))) [0,0,0,0,0] Z bP (NoP.blk (NoP.seq (NoP.seq (NoP.blk bu)))) QI ?_)
 refine TD.run al [0,1] Z Z (KO Z (K5 0 Z Od Z Z) Z (TD.run al [3] Z Z (KO Z (K5 4 Z Nz Z Z) Z (TD.run al [5] Z Z (KO Z (K5 0 Z Nz Z Z) Z ?_)))))
 obtain⟨st43,hx44,h⟩:=Np h
 refine LO 5 Z Z .u (.fn Tryz.call51 Z) (bt g st40 a1.Ng 8 _ hx44) sT Z Z [0,0,0,0,0] (Z) (TD.nil (K4 (X.seq (T.region Z (KH Z (Ex.add Z Z QG) Z (KF al 1 Z (TL.nil (LC [0,1,1,1,1] Z (L2 (TW.step (KG Z (KF al 1 Z ?_))))))))))))
 refine KI (T.seq (KV rfl (Nt (show 9<13 by omega)) (K3 (T.seq (T.block (KG rfl (KH rfl (LP (k:=9) (r:=18) rfl rfl rfl NO NC QH rfl) rfl (KH rfl (KY (us := [.pointer (some ⟨b1,8,none⟩),jI 8]) 1 rfl Oc NC rfl rfl rfl) rfl (TL.alloc rfl .u Tryz.zeroValue236 rfl (fun b45=>(KW 0 rfl (cs':= #[.pointer (some ⟨b1,8,none⟩),jI 8]) rfl .u rfl rfl NC rfl rfl rfl rfl rfl ?_)))))))))))
 refine KI (Lm (.q 0 (.q 1 (.q 2 (.q 3 (.q 4 (.q 5 (.q 6 (.e 7 .nil)))))))) [0,0,0,0,0] Z bP (NoP.blk (NoP.seq (NoP.seq (NoP.blk bu)))) QI ?_)
 refine TD.run al [0,1] Z Z (KO Z (K5 0 Z Od Z Z) Z (TD.run al [3] Z Z (KO Z (K5 4 Z Nz Z Z) Z (TD.run al [5] Z Z (KO Z (K5 0 Z Nz Z Z) Z ?_)))))
 obtain⟨st46,hx47,h⟩:=Np h
 refine LO 5 Z Z .u (.fn Tryz.call51 Z) (bt g st43 a1.MG 8 _ hx47) sT Z Z [0,0,0,0,0] (Z) (TD.nil (K4 (X.seq (T.region Z (KH Z (Ex.add Z Z QG) Z (KF al 1 Z (TL.nil (LC [0,1,1,1,1] Z (L2 (TW.step (KG Z (KF al 1 Z ?_))))))))))))
 refine KI (T.seq (KV rfl (Nt (show 10<13 by omega)) (K3 (T.seq (T.block (KG rfl (KH rfl (LP (k:=10) (r:=20) rfl rfl rfl NO NC QH rfl) rfl (KH rfl (KY (us := [.pointer (some ⟨b1,9,none⟩),jI 2]) 1 rfl Oc NC rfl rfl rfl) rfl (TL.alloc rfl .u Tryz.zeroValue236 rfl (fun b48=>(KW 0 rfl (cs':= #[.pointer (some ⟨b1,9,none⟩),jI 2]) rfl .u rfl rfl NC rfl rfl rfl rfl rfl ?_)))))))))))
 refine KI (Lm (.q 0 (.q 1 (.q 2 (.q 3 (.q 4 (.q 5 (.q 6 (.e 7 .nil)))))))) [0,0,0,0,0] Z bP (NoP.blk (NoP.seq (NoP.seq (NoP.blk bu)))) QI ?_)
 refine TD.run al [0,1] Z Z (KO Z (K5 0 Z Od Z Z) Z (TD.run al [3] Z Z (KO Z (K5 4 Z Nz Z Z) Z (TD.run al [5] Z Z (KO Z (K5 0 Z Nz Z Z) Z ?_)))))
 obtain⟨st49,hx50,h⟩:=Np h
 refine LO 5 Z Z .u (.fn Tryz.call51 Z) (bt g st46 a1.MJ 2 _ hx50) sT Z Z [0,0,0,0,0] (Z) (TD.nil (K4 (X.seq (T.region Z (KH Z (Ex.add Z Z QG) Z (KF al 1 Z (TL.nil (LC [0,1,1,1,1] Z (L2 (TW.step (KG Z (KF al 1 Z ?_))))))))))))
 refine KI (T.seq (KV rfl (Nt (show 11<13 by omega)) (K3 (T.seq (T.block (KG rfl (KH rfl (LP (k:=11) (r:=22) rfl rfl rfl NO NC QH rfl) rfl (KH rfl (KY (us := [.pointer (some ⟨b1,10,none⟩),jI 4]) 1 rfl Oc NC rfl rfl rfl) rfl (TL.alloc rfl .u Tryz.zeroValue236 rfl (fun b51=>(KW 0 rfl (cs':= #[.pointer (some ⟨b1,10,none⟩),jI 4]) rfl .u rfl rfl NC rfl rfl rfl rfl rfl ?_)))))))))))
 refine KI (Lm (.q 0 (.q 1 (.q 2 (.q 3 (.q 4 (.q 5 (.q 6 (.e 7 .nil)))))))) [0,0,0,0,0] Z bP (NoP.blk (NoP.seq (NoP.seq (NoP.blk bu)))) QI ?_)
 refine TD.run al [0,1] Z Z (KO Z (K5 0 Z Od Z Z) Z (TD.run al [3] Z Z (KO Z (K5 4 Z Nz Z Z) Z (TD.run al [5] Z Z (KO Z (K5 0 Z Nz Z Z) Z ?_)))))
 obtain⟨st52,hx53,h⟩:=Np h
 refine LO 5 Z Z .u (.fn Tryz.call51 Z) (bt g st49 a1.MX 4 _ hx53) sT Z Z [0,0,0,0,0] (Z) (TD.nil (K4 (X.seq (T.region Z (KH Z (Ex.add Z Z QG) Z (KF al 1 Z (TL.nil (LC [0,1,1,1,1] Z (L2 (TW.step (KG Z (KF al 1 Z ?_))))))))))))
 refine KI (T.seq (KV rfl (Nt (show 12<13 by omega)) (K3 (T.seq (T.block (KG rfl (KH rfl (LP (k:=12) (r:=24) rfl rfl rfl NO NC QH rfl) rfl (KH rfl (KY (us := [.pointer (some ⟨b1,11,none⟩),jI 4]) 1 rfl Oc NC rfl rfl rfl) rfl (TL.alloc rfl .u Tryz.zeroValue236 rfl (fun b54=>(KW 0 rfl (cs':= #[.pointer (some ⟨b1,11,none⟩),jI 4]) rfl .u rfl rfl NC rfl rfl rfl rfl rfl ?_)))))))))))
 refine KI (Lm (.q 0 (.q 1 (.q 2 (.q 3 (.q 4 (.q 5 (.q 6 (.e 7 .nil)))))))) [0,0,0,0,0] Z bP (NoP.blk (NoP.seq (NoP.seq (NoP.blk bu)))) QI ?_)
 refine TD.run al [0,1] Z Z (KO Z (K5 0 Z Od Z Z) Z (TD.run al [3] Z Z (KO Z (K5 4 Z Nz Z Z) Z (TD.run al [5] Z Z (KO Z (K5 0 Z Nz Z Z) Z ?_)))))
 obtain⟨st55,hx56,h⟩:=Np h
 refine LO 5 Z Z .u (.fn Tryz.call51 Z) (bt g st52 a1.Nj 4 _ hx56) sT Z Z [0,0,0,0,0] (Z) (TD.nil (K4 (X.seq (T.region Z (KH Z (Ex.add Z Z QG) Z (KF al 1 Z (TL.nil (LC [0,1,1,1,1] Z (L2 (TW.step (KG Z (KF al 1 Z ?_))))))))))))
 refine KI (T.seq (Lb rfl (Nu (show ¬ (13<13) by omega)) ?_))
 obtain rfl:=Nq h
 exact T.exit (KZ (KZ (Lu (LQ [4] Tryz.results83 ⟨Z,Z,Z⟩ QJ (.inr Z)))))
def lJ (st:I)  : Option (Pfx×I):=(ed st 8).bind fun (x6,st7)=>(ed st7 4).bind fun (x10,st11)=>(ed st11 4).bind fun (x14,st15)=>(ed st15 1).bind fun (x18,st19)=>(ed st19 4).bind fun (x22,st23)=>(ed st23 2).bind fun (x26,st27)=>(ed st27 4).bind fun (x30,st31)=>(ed st31 8).bind fun (x34,st35)=>(ed st35 8).bind fun (x38,st39)=>(ed st39 8).bind fun (x42,st43)=>(ed st43 2).bind fun (x46,st47)=>(ed st47 4).bind fun (x50,st51)=>(ed st51 4).bind fun (x54,st55)=>(iQ st55).bind fun (x57,st58)=>(if x57=0 then ((if x18=2 then ((if x10<49 then ((cj st58 4).bind fun st164=>some st164) else ((if x54<0 then ((cj st58 10).bind fun st172=>some st172) else some st58).bind fun st169=>some st169)).bind fun st161=>some st161) else ((cj st58 6).bind fun st174=>some st174)).bind fun st147=>some st147) else some st58).bind fun st117=>(iQ st117).bind fun (x176,st177)=>if x176=0 then (some ((⟨x6,x10,x14,(Go.bits .and .i64 x22 4294967295),x26,x30,x34,x38,x42,x46,x50,x54⟩:Pfx),st177)) else (some ((⟨0,0,0,0,0,0,0,0,0,0,0,0⟩:Pfx),st177))
theorem sc (g:Nat) (st:I)  (r:Pfx×I) (h:lJ st  = some r):aH Tryz.prog 133 #[jP g] .triv (InR g st) (fun v A' N=>v= .agg #[jI r.1.Na,jI r.1.Nf,jI r.1.M3,jI r.1.Ni,jI r.1.Nk,jI r.1.M7,jI r.1.MW,jI r.1.Ng,jI r.1.MG,jI r.1.MJ,jI r.1.MX,jI r.1.Nj]∧A'=InR g r.2∧N = []):=by
 refine aU Tryz.func133 Z Tryz.ntmps133 Z ?_
 intro F w hX
 unfold lJ at h
 refine KG Z (TL.alloc Z .u Tryz.zeroValue159 Z (fun b1=>(K7 Z (TL.alloc Z .u Tryz.zeroValue159 Z (fun b2=>(K7 Z (TL.alloc Z .u Tryz.zeroValue3 Z (fun b3=>(KW 0 Z (cs':= #[jI 0]) Z .u Z Z Ny Z Z Z Z Z (KI (T.seq (KG Z ?_))))))))))))
 refine L8 Z .u (.fn Tryz.call139 Z) (jp b2 b3 () Z) (fun _ hs=>Lk _ _) Z ?_
 rintro _ _ _ ⟨b4,rfl,rfl,rfl⟩
 refine Lt [0,0,0,0,0] rfl (KH rfl (KX rfl NO) rfl (KP al rfl (T.block (T.unroll0 (TW.step (KG rfl (KP al rfl (T.seq (KV rfl (Nt (show 0<13 by omega)) ?_)))))))))
 refine K3 (T.seq (T.block (KG Z (KH Z (LP (k:=0) (r:=0) Z Z Z NO NC QH Z) Z (KH Z (KY (us := [jP b2,jI 8]) 0 Z Oc NC Z Z Z) Z (TL.alloc Z .u Tryz.zeroValue236 Z (fun b5=>(KW 0 Z (cs':= #[jP b2,jI 8]) Z .u Z Z NC Z Z Z Z Z ?_))))))))
 refine KI (Lm (.q 0 (.q 1 (.q 2 (.q 3 (.q 4 (.e 5 (.q 6 (.e 7 .nil)))))))) [0,0,0,1] Z bP (NoP.blk (NoP.seq (NoP.seq (NoP.blk (NoP.seq bu))))) QI ?_)
 refine TD.run al [0] Z Z (KO Z (K5 0 Z Od Z Z) Z (TD.run al [2,3] Z Z (KO Z (K5 0 Z Nz Z Z) Z ?_)))
 obtain⟨⟨x6,st7⟩,hx8,h⟩:=Np h
 refine LO 5 Z Z .u (.fn Tryz.call68 Z) (bx g st 8 _ hx8) sT Z Z [0,0,0,1] (Z) (TD.run al [6] Z Z (LS 3 Z (cs':= #[jI x6,jI 0,jI 0,jI 0,jI 0,jI 0,jI 0,jI 0,jI 0,jI 0,jI 0,jI 0]) Z .u Z Z Ny Z Z Z Z Z [0,0,0,1] (Z) (TD.nil (K4 (X.seq (T.region Z (KH Z (Ex.add Z Z QG) Z (KF al 1 Z (TL.nil (L2 (TW.step (KG Z (KF al 1 Z ?_)))))))))))))
 refine KI (T.seq (KV rfl (Nt (show 1<13 by omega)) (K3 (T.seq (T.block (KG rfl (KH rfl (LP (k:=1) (r:=2) rfl rfl rfl NO NC QH rfl) rfl (KH rfl (KY (us := [.pointer (some ⟨b2,1,none⟩),jI 4]) 1 rfl Oc NC rfl rfl rfl) rfl (TL.alloc rfl .u Tryz.zeroValue236 rfl (fun b9=>(KW 0 rfl (cs':= #[.pointer (some ⟨b2,1,none⟩),jI 4]) rfl .u rfl rfl NC rfl rfl rfl rfl rfl ?_)))))))))))
 refine KI (Lm (.q 0 (.q 1 (.q 2 (.q 3 (.q 4 (.e 5 (.q 6 (.e 7 .nil)))))))) [0,0,0,0,1] Z bP (NoP.blk (NoP.seq (NoP.seq (NoP.blk (NoP.seq bu))))) QI ?_)
 refine TD.run al [0] Z Z (KO Z (K5 0 Z Od Z Z) Z (TD.run al [2,3] Z Z (KO Z (K5 0 Z Nz Z Z) Z ?_)))
 obtain⟨⟨x10,st11⟩,hx12,h⟩:=Np h
 refine LO 6 Z Z .u (.fn Tryz.call68 Z) (bx g st7 4 _ hx12) sT Z Z [0,0,0,0,1] (Z) (TD.run al [6] Z Z (LS 4 Z (cs':= #[jI x6,jI x10,jI 0,jI 0,jI 0,jI 0,jI 0,jI 0,jI 0,jI 0,jI 0,jI 0]) Z .u Z Z Ny Z Z Z Z Z [0,0,0,0,1] (Z) (TD.nil (K4 (X.seq (T.region Z (KH Z (Ex.add Z Z QG) Z (KF al 1 Z (TL.nil (LC [0,1,1,1,1,1] Z ?_))))))))))
 refine L2 (TW.step (KG rfl (KP al rfl (T.seq (KV rfl (Nt (show 2<13 by omega)) (K3 (T.seq (T.block (KG rfl (KH rfl (LP (k:=2) (r:=4) rfl rfl rfl NO NC QH rfl) rfl (KH rfl (KY (us := [.pointer (some ⟨b2,2,none⟩),jI 4]) 1 rfl Oc NC rfl rfl rfl) rfl (TL.alloc rfl .u Tryz.zeroValue236 rfl (fun b13=> ?_)))))))))))))
 refine KW 0 Z (cs':= #[.pointer (some ⟨b2,2,none⟩),jI 4]) Z .u Z Z NC Z Z Z Z Z ?_
 refine KI (Lm (.q 0 (.q 1 (.q 2 (.q 3 (.q 4 (.e 5 (.q 6 (.e 7 .nil)))))))) [0,0,0,0,1] Z bP (NoP.blk (NoP.seq (NoP.seq (NoP.blk (NoP.seq bu))))) QI ?_)
 refine TD.run al [0] Z Z (KO Z (K5 0 Z Od Z Z) Z (TD.run al [2,3] Z Z (KO Z (K5 0 Z Nz Z Z) Z ?_)))
 obtain⟨⟨x14,st15⟩,hx16,h⟩:=Np h
 refine LO 6 Z Z .u (.fn Tryz.call68 Z) (bx g st11 4 _ hx16) sT Z Z [0,0,0,0,1] (Z) (TD.run al [6] Z Z (LS 4 Z (cs':= #[jI x6,jI x10,jI x14,jI 0,jI 0,jI 0,jI 0,jI 0,jI 0,jI 0,jI 0,jI 0]) Z .u Z Z Ny Z Z Z Z Z [0,0,0,0,1] (Z) (TD.nil (K4 (X.seq (T.region Z (KH Z (Ex.add Z Z QG) Z (KF al 1 Z (TL.nil (LC [0,1,1,1,1,1] Z ?_))))))))))
 refine L2 (TW.step (KG rfl (KP al rfl (T.seq (KV rfl (Nt (show 3<13 by omega)) (K3 (T.seq (T.block (KG rfl (KH rfl (LP (k:=3) (r:=6) rfl rfl rfl NO NC QH rfl) rfl (KH rfl (KY (us := [jP b3,jI 1]) 1 rfl Oc NC rfl rfl rfl) rfl (TL.alloc rfl .u Tryz.zeroValue236 rfl (fun b17=> ?_)))))))))))))
 refine KW 0 Z (cs':= #[jP b3,jI 1]) Z .u Z Z NC Z Z Z Z Z ?_
 refine KI (Lm (.q 0 (.q 1 (.q 2 (.q 3 (.q 4 (.e 5 (.q 6 (.e 7 .nil)))))))) [0,0,0,1,1] Z bP (NoP.blk (NoP.seq (NoP.seq (NoP.blk (NoP.seq bu))))) QI ?_)
 refine TD.run al [0] Z Z (KO Z (K5 0 Z Od Z Z) Z (TD.run al [2,3] Z Z (KO Z (K5 0 Z Nz Z Z) Z ?_)))
 obtain⟨⟨x18,st19⟩,hx20,h⟩:=Np h
 refine LO 6 Z Z .u (.fn Tryz.call68 Z) (bx g st15 1 _ hx20) sT Z Z [0,0,0,1,1] (Z) (TD.run al [6] Z Z (LS 3 Z (cs':= #[jI x18]) Z .u Z Z Ny Z Z Z Z Z [0,0,0,1,1] (Z) (TD.nil (K4 (X.seq (T.region Z (KH Z (Ex.add Z Z QG) Z (KF al 1 Z (TL.nil (LC [0,1,1,1,1,1] Z ?_))))))))))
 refine L2 (TW.step (KG rfl (KP al rfl (T.seq (KV rfl (Nt (show 4<13 by omega)) (K3 (T.seq (T.block (KG rfl (KH rfl (LP (k:=4) (r:=8) rfl rfl rfl NO NC QH rfl) rfl (KH rfl (KY (us := [.pointer (some ⟨b2,3,none⟩),jI 4]) 1 rfl Oc NC rfl rfl rfl) rfl (TL.alloc rfl .u Tryz.zeroValue236 rfl (fun b21=> ?_)))))))))))))
 refine KW 0 Z (cs':= #[.pointer (some ⟨b2,3,none⟩),jI 4]) Z .u Z Z NC Z Z Z Z Z ?_
 refine KI (Lm (.q 0 (.q 1 (.q 2 (.q 3 (.q 4 (.e 5 (.q 6 (.e 7 .nil)))))))) [0,0,0,0,1] Z bP (NoP.blk (NoP.seq (NoP.seq (NoP.blk (NoP.seq bu))))) QI ?_)
 refine TD.run al [0] Z Z (KO Z (K5 0 Z Od Z Z) Z (TD.run al [2,3] Z Z (KO Z (K5 0 Z Nz Z Z) Z ?_)))
 obtain⟨⟨x22,st23⟩,hx24,h⟩:=Np h
 refine LO 6 Z Z .u (.fn Tryz.call68 Z) (bx g st19 4 _ hx24) sT Z Z [0,0,0,0,1] (Z) (TD.run al [6] Z Z (LS 4 Z (cs':= #[jI x6,jI x10,jI x14,jI x22,jI 0,jI 0,jI 0,jI 0,jI 0,jI 0,jI 0,jI 0]) Z .u Z Z Ny Z Z Z Z Z [0,0,0,0,1] (Z) (TD.nil (K4 (X.seq (T.region Z (KH Z (Ex.add Z Z QG) Z (KF al 1 Z (TL.nil (LC [0,1,1,1,1,1] Z ?_))))))))))
 refine L2 (TW.step (KG rfl (KP al rfl (T.seq (KV rfl (Nt (show 5<13 by omega)) (K3 (T.seq (T.block (KG rfl (KH rfl (LP (k:=5) (r:=10) rfl rfl rfl NO NC QH rfl) rfl (KH rfl (KY (us := [.pointer (some ⟨b2,4,none⟩),jI 2]) 1 rfl Oc NC rfl rfl rfl) rfl (TL.alloc rfl .u Tryz.zeroValue236 rfl (fun b25=> ?_)))))))))))))
 refine KW 0 Z (cs':= #[.pointer (some ⟨b2,4,none⟩),jI 2]) Z .u Z Z NC Z Z Z Z Z ?_
 refine KI (Lm (.q 0 (.q 1 (.q 2 (.q 3 (.q 4 (.e 5 (.q 6 (.e 7 .nil)))))))) [0,0,0,0,1] Z bP (NoP.blk (NoP.seq (NoP.seq (NoP.blk (NoP.seq bu))))) QI ?_)
 refine TD.run al [0] Z Z (KO Z (K5 0 Z Od Z Z) Z (TD.run al [2,3] Z Z (KO Z (K5 0 Z Nz Z Z) Z ?_)))
 obtain⟨⟨x26,st27⟩,hx28,h⟩:=Np h
 refine LO 6 Z Z .u (.fn Tryz.call68 Z) (bx g st23 2 _ hx28) sT Z Z [0,0,0,0,1] (Z) (TD.run al [6] Z Z (LS 4 Z (cs':= #[jI x6,jI x10,jI x14,jI x22,jI x26,jI 0,jI 0,jI 0,jI 0,jI 0,jI 0,jI 0]) Z .u Z Z Ny Z Z Z Z Z [0,0,0,0,1] (Z) (TD.nil (K4 (X.seq (T.region Z (KH Z (Ex.add Z Z QG) Z (KF al 1 Z (TL.nil (LC [0,1,1,1,1,1] Z ?_))))))))))
 refine L2 (TW.step (KG rfl (KP al rfl (T.seq (KV rfl (Nt (show 6<13 by omega)) (K3 (T.seq (T.block (KG rfl (KH rfl (LP (k:=6) (r:=12) rfl rfl rfl NO NC QH rfl) rfl (KH rfl (KY (us := [.pointer (some ⟨b2,5,none⟩),jI 4]) 1 rfl Oc NC rfl rfl rfl) rfl (TL.alloc rfl .u Tryz.zeroValue236 rfl (fun b29=> ?_)))))))))))))
 refine KW 0 Z (cs':= #[.pointer (some ⟨b2,5,none⟩),jI 4]) Z .u Z Z NC Z Z Z Z Z ?_
 refine KI (Lm (.q 0 (.q 1 (.q 2 (.q 3 (.q 4 (.e 5 (.q 6 (.e 7 .nil)))))))) [0,0,0,0,1] Z bP (NoP.blk (NoP.seq (NoP.seq (NoP.blk (NoP.seq bu))))) QI ?_)
 refine TD.run al [0] Z Z (KO Z (K5 0 Z Od Z Z) Z (TD.run al [2,3] Z Z (KO Z (K5 0 Z Nz Z Z) Z ?_)))
 obtain⟨⟨x30,st31⟩,hx32,h⟩:=Np h
 refine LO 6 Z Z .u (.fn Tryz.call68 Z) (bx g st27 4 _ hx32) sT Z Z [0,0,0,0,1] (Z) (TD.run al [6] Z Z (LS 4 Z (cs':= #[jI x6,jI x10,jI x14,jI x22,jI x26,jI x30,jI 0,jI 0,jI 0,jI 0,jI 0,jI 0]) Z .u Z Z Ny Z Z Z Z Z [0,0,0,0,1] (Z) (TD.nil (K4 (X.seq (T.region Z (KH Z (Ex.add Z Z QG) Z (KF al 1 Z (TL.nil (LC [0,1,1,1,1,1] Z ?_))))))))))
 refine L2 (TW.step (KG rfl (KP al rfl (T.seq (KV rfl (Nt (show 7<13 by omega)) (K3 (T.seq (T.block (KG rfl (KH rfl (LP (k:=7) (r:=14) rfl rfl rfl NO NC QH rfl) rfl (KH rfl (KY (us := [.pointer (some ⟨b2,6,none⟩),jI 8]) 1 rfl Oc NC rfl rfl rfl) rfl (TL.alloc rfl .u Tryz.zeroValue236 rfl (fun b33=> ?_)))))))))))))
 refine KW 0 Z (cs':= #[.pointer (some ⟨b2,6,none⟩),jI 8]) Z .u Z Z NC Z Z Z Z Z ?_
 refine KI (Lm (.q 0 (.q 1 (.q 2 (.q 3 (.q 4 (.e 5 (.q 6 (.e 7 .nil)))))))) [0,0,0,0,1] Z bP (NoP.blk (NoP.seq (NoP.seq (NoP.blk (NoP.seq bu))))) QI ?_)
 refine TD.run al [0] Z Z (KO Z (K5 0 Z Od Z Z) Z (TD.run al [2,3] Z Z (KO Z (K5 0 Z Nz Z Z) Z ?_)))
 obtain⟨⟨x34,st35⟩,hx36,h⟩:=Np h
 refine LO 6 Z Z .u (.fn Tryz.call68 Z) (bx g st31 8 _ hx36) sT Z Z [0,0,0,0,1] (Z) (TD.run al [6] Z Z (LS 4 Z (cs':= #[jI x6,jI x10,jI x14,jI x22,jI x26,jI x30,jI x34,jI 0,jI 0,jI 0,jI 0,jI 0]) Z .u Z Z Ny Z Z Z Z Z [0,0,0,0,1] (Z) (TD.nil (K4 (X.seq (T.region Z (KH Z (Ex.add Z Z QG) Z (KF al 1 Z (TL.nil (LC [0,1,1,1,1,1] Z ?_))))))))))
 refine L2 (TW.step (KG rfl (KP al rfl (T.seq (KV rfl (Nt (show 8<13 by omega)) (K3 (T.seq (T.block (KG rfl (KH rfl (LP (k:=8) (r:=16) rfl rfl rfl NO NC QH rfl) rfl (KH rfl (KY (us := [.pointer (some ⟨b2,7,none⟩),jI 8]) 1 rfl Oc NC rfl rfl rfl) rfl (TL.alloc rfl .u Tryz.zeroValue236 rfl (fun b37=> ?_)))))))))))))
 refine KW 0 Z (cs':= #[.pointer (some ⟨b2,7,none⟩),jI 8]) Z .u Z Z NC Z Z Z Z Z ?_
 refine KI (Lm (.q 0 (.q 1 (.q 2 (.q 3 (.q 4 (.e 5 (.q 6 (.e 7 .nil)))))))) [0,0,0,0,1] Z bP (NoP.blk (NoP.seq (NoP.seq (NoP.blk (NoP.seq bu))))) QI ?_)
 refine TD.run al [0] Z Z (KO Z (K5 0 Z Od Z Z) Z (TD.run al [2,3] Z Z (KO Z (K5 0 Z Nz Z Z) Z ?_)))
 obtain⟨⟨x38,st39⟩,hx40,h⟩:=Np h
 refine LO 6 Z Z .u (.fn Tryz.call68 Z) (bx g st35 8 _ hx40) sT Z Z [0,0,0,0,1] (Z) (TD.run al [6] Z Z (LS 4 Z (cs':= #[jI x6,jI x10,jI x14,jI x22,jI x26,jI x30,jI x34,jI x38,jI 0,jI 0,jI 0,jI 0]) Z .u Z Z Ny Z Z Z Z Z [0,0,0,0,1] (Z) (TD.nil (K4 (X.seq (T.region Z (KH Z (Ex.add Z Z QG) Z (KF al 1 Z (TL.nil (LC [0,1,1,1,1,1] Z ?_))))))))))
 refine L2 (TW.step (KG rfl (KP al rfl (T.seq (KV rfl (Nt (show 9<13 by omega)) (K3 (T.seq (T.block (KG rfl (KH rfl (LP (k:=9) (r:=18) rfl rfl rfl NO NC QH rfl) rfl (KH rfl (KY (us := [.pointer (some ⟨b2,8,none⟩),jI 8]) 1 rfl Oc NC rfl rfl rfl) rfl (TL.alloc rfl .u Tryz.zeroValue236 rfl (fun b41=> ?_)))))))))))))
 refine KW 0 Z (cs':= #[.pointer (some ⟨b2,8,none⟩),jI 8]) Z .u Z Z NC Z Z Z Z Z ?_
 refine KI (Lm (.q 0 (.q 1 (.q 2 (.q 3 (.q 4 (.e 5 (.q 6 (.e 7 .nil)))))))) [0,0,0,0,1] Z bP (NoP.blk (NoP.seq (NoP.seq (NoP.blk (NoP.seq bu))))) QI ?_)
 refine TD.run al [0] Z Z (KO Z (K5 0 Z Od Z Z) Z (TD.run al [2,3] Z Z (KO Z (K5 0 Z Nz Z Z) Z ?_)))
 obtain⟨⟨x42,st43⟩,hx44,h⟩:=Np h
 refine LO 6 Z Z .u (.fn Tryz.call68 Z) (bx g st39 8 _ hx44) sT Z Z [0,0,0,0,1] (Z) (TD.run al [6] Z Z (LS 4 Z (cs':= #[jI x6,jI x10,jI x14,jI x22,jI x26,jI x30,jI x34,jI x38,jI x42,jI 0,jI 0,jI 0]) Z .u Z Z Ny Z Z Z Z Z [0,0,0,0,1] (Z) (TD.nil (K4 (X.seq (T.region Z (KH Z (Ex.add Z Z QG) Z (KF al 1 Z (TL.nil (LC [0,1,1,1,1,1] Z ?_))))))))))
 refine L2 (TW.step (KG rfl (KP al rfl (T.seq (KV rfl (Nt (show 10<13 by omega)) (K3 (T.seq (T.block (KG rfl (KH rfl (LP (k:=10) (r:=20) rfl rfl rfl NO NC QH rfl) rfl (KH rfl (KY (us := [.pointer (some ⟨b2,9,none⟩),jI 2]) 1 rfl Oc NC rfl rfl rfl) rfl (TL.alloc rfl .u Tryz.zeroValue236 rfl (fun b45=> ?_)))))))))))))
 refine KW 0 Z (cs':= #[.pointer (some ⟨b2,9,none⟩),jI 2]) Z .u Z Z NC Z Z Z Z Z ?_
 refine KI (Lm (.q 0 (.q 1 (.q 2 (.q 3 (.q 4 (.e 5 (.q 6 (.e 7 .nil)))))))) [0,0,0,0,1] Z bP (NoP.blk (NoP.seq (NoP.seq (NoP.blk (NoP.seq bu))))) QI ?_)
 refine TD.run al [0] Z Z (KO Z (K5 0 Z Od Z Z) Z (TD.run al [2,3] Z Z (KO Z (K5 0 Z Nz Z Z) Z ?_)))
 obtain⟨⟨x46,st47⟩,hx48,h⟩:=Np h
 refine LO 6 Z Z .u (.fn Tryz.call68 Z) (bx g st43 2 _ hx48) sT Z Z [0,0,0,0,1] (Z) (TD.run al [6] Z Z (LS 4 Z (cs':= #[jI x6,jI x10,jI x14,jI x22,jI x26,jI x30,jI x34,jI x38,jI x42,jI x46,jI 0,jI 0]) Z .u Z Z Ny Z Z Z Z Z [0,0,0,0,1] (Z) (TD.nil (K4 (X.seq (T.region Z (KH Z (Ex.add Z Z QG) Z (KF al 1 Z (TL.nil (LC [0,1,1,1,1,1] Z ?_))))))))))
 refine L2 (TW.step (KG rfl (KP al rfl (T.seq (KV rfl (Nt (show 11<13 by omega)) (K3 (T.seq (T.block (KG rfl (KH rfl (LP (k:=11) (r:=22) rfl rfl rfl NO NC QH rfl) rfl (KH rfl (KY (us := [.pointer (some ⟨b2,10,none⟩),jI 4]) 1 rfl Oc NC rfl rfl rfl) rfl (TL.alloc rfl .u Tryz.zeroValue236 rfl (fun b49=> ?_)))))))))))))
 refine KW 0 Z (cs':= #[.pointer (some ⟨b2,10,none⟩),jI 4]) Z .u Z Z NC Z Z Z Z Z ?_
 refine KI (Lm (.q 0 (.q 1 (.q 2 (.q 3 (.q 4 (.e 5 (.q 6 (.e 7 .nil)))))))) [0,0,0,0,1] Z bP (NoP.blk (NoP.seq (NoP.seq (NoP.blk (NoP.seq bu))))) QI ?_)
 refine TD.run al [0] Z Z (KO Z (K5 0 Z Od Z Z) Z (TD.run al [2,3] Z Z (KO Z (K5 0 Z Nz Z Z) Z ?_)))
 obtain⟨⟨x50,st51⟩,hx52,h⟩:=Np h
 refine LO 6 Z Z .u (.fn Tryz.call68 Z) (bx g st47 4 _ hx52) sT Z Z [0,0,0,0,1] (Z) (TD.run al [6] Z Z (LS 4 Z (cs':= #[jI x6,jI x10,jI x14,jI x22,jI x26,jI x30,jI x34,jI x38,jI x42,jI x46,jI x50,jI 0]) Z .u Z Z Ny Z Z Z Z Z [0,0,0,0,1] (Z) (TD.nil (K4 (X.seq (T.region Z (KH Z (Ex.add Z Z QG) Z (KF al 1 Z (TL.nil (LC [0,1,1,1,1,1] Z ?_))))))))))
 refine L2 (TW.step (KG rfl (KP al rfl (T.seq (KV rfl (Nt (show 12<13 by omega)) (K3 (T.seq (T.block (KG rfl (KH rfl (LP (k:=12) (r:=24) rfl rfl rfl NO NC QH rfl) rfl (KH rfl (KY (us := [.pointer (some ⟨b2,11,none⟩),jI 4]) 1 rfl Oc NC rfl rfl rfl) rfl (TL.alloc rfl .u Tryz.zeroValue236 rfl (fun b53=> ?_)))))))))))))
 refine KW 0 Z (cs':= #[.pointer (some ⟨b2,11,none⟩),jI 4]) Z .u Z Z NC Z Z Z Z Z ?_
 refine KI (Lm (.q 0 (.q 1 (.q 2 (.q 3 (.q 4 (.e 5 (.q 6 (.e 7 .nil)))))))) [0,0,0,0,1] Z bP (NoP.blk (NoP.seq (NoP.seq (NoP.blk (NoP.seq bu))))) QI ?_)
 refine TD.run al [0] Z Z (KO Z (K5 0 Z Od Z Z) Z (TD.run al [2,3] Z Z (KO Z (K5 0 Z Nz Z Z) Z ?_)))
 obtain⟨⟨x54,st55⟩,hx56,h⟩:=Np h
 refine LO 6 Z Z .u (.fn Tryz.call68 Z) (bx g st51 4 _ hx56) sT Z Z [0,0,0,0,1] (Z) (TD.run al [6] Z Z (LS 4 Z (cs':= #[jI x6,jI x10,jI x14,jI x22,jI x26,jI x30,jI x34,jI x38,jI x42,jI x46,jI x50,jI x54]) Z .u Z Z Ny Z Z Z Z Z [0,0,0,0,1] (Z) (TD.nil (K4 (X.seq (T.region Z (KH Z (Ex.add Z Z QG) Z (KF al 1 Z (TL.nil (LC [0,1,1,1,1,1] Z ?_))))))))))
 refine L2 (TW.step (KG rfl (KP al rfl (T.seq (Lb rfl (Nu (show ¬ (13<13) by omega)) (T.exit (KZ (KZ (Lu (X.seq (KG rfl (KK al gC 3 rfl 2 rfl rfl (KH rfl (Ex.bitw rfl rfl rfl) rfl (KF al 1 rfl ?_))))))))))))))
 refine KW 3 Z (cs':= #[jI x6,jI x10,jI x14,jI (Go.bits .and .i64 x22 4294967295),jI x26,jI x30,jI x34,jI x38,jI x42,jI x46,jI x50,jI x54]) Z .u Z Z Ny Z Z Z Z Z (KI (T.seq (T.block (KG Z ?_))))
 obtain⟨⟨x57,st58⟩,hx59,h⟩:=Np h
 refine KF al 1 Z (KT 5 Z Z .u (.fn Tryz.call23 Z) (cy g st55 _ hx59) sT Z Z (KP al Z ?_))
 obtain⟨st117,h,hk118⟩:=Np h
 refine Lz (fun e Rs=>e = [(0,jP g),(2,jP b1),(3,jP b2)]∧Rs = [aW b53 236 #[.pointer (some ⟨b2,11,none⟩),jI 4],aW b4 236 (vA5 b2 b3),aW b3 3 #[jI x18],aW b2 159 #[jI x6,jI x10,jI x14,jI (Go.bits .and .i64 x22 4294967295),jI x26,jI x30,jI x34,jI x38,jI x42,jI x46,jI x50,jI x54],aW b1 159 vA6,InR g st117]) ?_ ?_
 ·clear hk118
  rcases jF h with⟨c119,h⟩ | ⟨c119,h⟩
  ·refine T.nn Z c119 (KG Z (LT al gC 2 Z Z Z ?_))
   obtain⟨st147,h,hk148⟩:=Np h
   refine Lz (fun e Rs=>e = [(0,jP g),(2,jP b1),(3,jP b2)]∧Rs = [aW b53 236 #[.pointer (some ⟨b2,11,none⟩),jI 4],aW b4 236 (vA5 b2 b3),aW b3 3 #[jI x18],aW b2 159 #[jI x6,jI x10,jI x14,jI (Go.bits .and .i64 x22 4294967295),jI x26,jI x30,jI x34,jI x38,jI x42,jI x46,jI x50,jI x54],aW b1 159 vA6,InR g st147]) ?_ ?_
   ·clear hk148
    rcases jF h with⟨c149,h⟩ | ⟨c149,h⟩
    ·refine T.nn Z c149 (KG Z (LT al gC 3 Z Z Z ?_))
     obtain⟨st161,h,hk162⟩:=Np h
     refine Lz (fun e Rs=>e = [(0,jP g),(2,jP b1),(3,jP b2)]∧Rs = [aW b53 236 #[.pointer (some ⟨b2,11,none⟩),jI 4],aW b4 236 (vA5 b2 b3),aW b3 3 #[jI x18],aW b2 159 #[jI x6,jI x10,jI x14,jI (Go.bits .and .i64 x22 4294967295),jI x26,jI x30,jI x34,jI x38,jI x42,jI x46,jI x50,jI x54],aW b1 159 vA6,InR g st161]) ?_ ?_
     ·clear hk162
      rcases jF h with⟨c163,h⟩ | ⟨c163,h⟩
      ·refine LU Z c163 (T.region Z ?_)
       obtain⟨st164,hx165,h⟩:=Np h
       refine KF al 1 Z (KT 5 Z Z .u (.fn Tryz.call70 Z) (bH g st58 4 _ hx165) sT Z Z ?_)
       cases h
       exact TL.nil (KR [0,0,0,0,0,0])
      refine LX Z c163 (KG Z (LT al gC 3 Z Z Z ?_))
      obtain⟨st169,h,hk170⟩:=Np h
      refine Lz (fun e Rs=>e = [(0,jP g),(2,jP b1),(3,jP b2)]∧Rs = [aW b53 236 #[.pointer (some ⟨b2,11,none⟩),jI 4],aW b4 236 (vA5 b2 b3),aW b3 3 #[jI x18],aW b2 159 #[jI x6,jI x10,jI x14,jI (Go.bits .and .i64 x22 4294967295),jI x26,jI x30,jI x34,jI x38,jI x42,jI x46,jI x50,jI x54],aW b1 159 vA6,InR g st169]) ?_ ?_
      ·clear hk170
       rcases jF h with⟨c171,h⟩ | ⟨c171,h⟩
       ·refine LU Z c171 (T.region Z ?_)
        obtain⟨st172,hx173,h⟩:=Np h
        refine KF al 1 Z (KT 5 Z Z .u (.fn Tryz.call70 Z) (bH g st58 10 _ hx173) sT Z Z ?_)
        cases h
        exact TL.nil (KR [0,0,0,0,0,0])
       refine LX Z c171 ?_
       cases h
       exact T.skip (KR [0,0,0,0,0,0])
      rintro _ _ ⟨rfl,rfl⟩
      clear h
      have h:=hk170
      clear hk170
      try dsimp only at h
      cases h
      exact KR [0,0,0,0,0,0]
     rintro _ _ ⟨rfl,rfl⟩
     clear h
     have h:=hk162
     clear hk162
     try dsimp only at h
     cases h
     exact KR [0,0,0,0,0,0]
    refine T.yn Z c149 (T.region Z ?_)
    obtain⟨st174,hx175,h⟩:=Np h
    refine KF al 1 Z (KT 5 Z Z .u (.fn Tryz.call70 Z) (bH g st58 6 _ hx175) sT Z Z ?_)
    cases h
    exact TL.nil (KR [0,0,0,0,0,0])
   rintro _ _ ⟨rfl,rfl⟩
   clear h
   have h:=hk148
   clear hk148
   try dsimp only at h
   cases h
   exact KR [0,0,0,0,0,0]
  refine T.yn Z c119 ?_
  cases h
  exact T.skip (KR [0,0,0,0,0,0])
 rintro _ _ ⟨rfl,rfl⟩
 clear h
 have h:=hk118
 clear hk118
 refine K4 (X.seq (T.seq (KG Z ?_)))
 obtain⟨⟨x176,st177⟩,hx178,h⟩:=Np h
 refine KF al 1 Z (KT 5 Z Z .u (.fn Tryz.call23 Z) (cy g st117 _ hx178) sT Z Z (KF al 1 Z ?_))
 rcases jF h with⟨c179,h⟩ | ⟨c179,h⟩
 ·refine Lj Z c179 (Lg Z (KH Z (KY (us := [jI x6,jI x10,jI x14,jI (Go.bits .and .i64 x22 4294967295),jI x26,jI x30,jI x34,jI x38,jI x42,jI x46,jI x50,jI x54]) 3 Z PG OV Z Z Z) Z (KW 4 Z (cs':= #[jI x6,jI x10,jI x14,jI (Go.bits .and .i64 x22 4294967295),jI x26,jI x30,jI x34,jI x38,jI x42,jI x46,jI x50,jI x54]) Z .u Z Z OV Z Z Z Z Z ?_)))
  obtain rfl:=Nq h
  exact KI (T.ret (Le [5] Tryz.results133 (Ly (us:= #[jI x6,jI x10,jI x14,jI (Go.bits .and .i64 x22 4294967295),jI x26,jI x30,jI x34,jI x38,jI x42,jI x46,jI x50,jI x54]) 4 Z PG OV Z Z) ⟨Z,Z,Z⟩ QJ (.inl Z)))
 refine Li Z c179 (KG Z ?_)
 refine KH Z (Ld (cells:=vA6) xl Z QI) Z ?_
 refine KW 4 Z (cs':=vA6) Z .u Z Z OV Z Z Z Z Z ?_
 obtain rfl:=Nq h
 exact KI (T.ret (KL (KQ [5] Tryz.results133 (Ly (us:=vA6) 4 Z PG OV Z Z))))
def Gl:fg := [(245,0,0),(245,1,1)]
theorem bi:(Gl).OK Tryz.prog:=⟨FOK.mk OT rfl NZ rfl,FOK.mk OT rfl ND rfl,trivial⟩
def Gm:List Nat := [9]
theorem AO:NOK Tryz.prog Gm:=⟨N4,trivial⟩
theorem xm:BOK Tryz.prog 245 #[.string ⟨#[]⟩,.bool false,.string ⟨#[]⟩] [(0,1),(1,2)]:=BOK.mk Tryz.zeroValue245 OT (by intro w; simp)
theorem wa:SOK Tryz.prog 89 245 1 3 #[.string ⟨#[]⟩,.bool false,.string ⟨#[]⟩]:=SOK.mk N3 Or Tryz.zeroValue245 QH QI
theorem xn:(Tryz.prog.info? 245).map (fun i=>(i.zero,i.size,i.bytes))=some (some (.agg #[.string ⟨#[]⟩,.bool false,.string ⟨#[]⟩]),3,40):=by kernel_rfl
def dL:List Hd→(List UInt8×Int)→Option (List UInt8×Int)
 | [],st6=>some st6
 | x11::xs,st6=>(oH st6 x11.M4).bind fun st16=>(j8 st16 x11.MV).bind fun st18=>dL xs st18
def jr (st:List UInt8×Int) (a1:List Hd):Option (List UInt8×Int):=(sL st (a1.length:Int)).bind fun st3=>(dL a1 st3).bind fun st21=>some st21
theorem ru (g:Nat) (st:List UInt8×Int) (a1:List Hd) (A1:Option Addr) (c2:Nat) (r:List UInt8×Int) (h:jr st a1=some r):aH Tryz.prog 184 #[jP g,.slice A1 a1.length c2] (RX.of (aq 3 dq) [.slice A1 a1.length c2] a1) (bB g st) (fun v A' N=>v= .tuple #[]∧A'=bB g r∧N = []):=by
 refine aU Tryz.func184 Z Tryz.ntmps184 Z ?_
 intro F w hX
 unfold jr at h
 refine KG Z (KF bi 2 Z (KH Z (KX Z N3) Z ?_))
 obtain⟨st3,hx4,h⟩:=Np h
 refine KT 0 Z Z .u (.fn Tryz.call182 Z) (sM g st (a1.length:Int) _ hx4) sT Z Z (K7 Z (KF bi 1 Z (KH Z (KX Z N3) Z (KP bi Z (T.block ?_)))))
 obtain⟨E7,hE8,hO9⟩:=Np h
 have hk13len:=LA hX
 refine Lv (fun m e Rs=> ∃ (k5:Nat) (st6:List UInt8×Int),k5+m=a1.length∧e = [(0,jP g),(10,.slice A1 a1.length c2),(11,jI (a1.length:Int)),(12,jI (k5:Int))]∧Rs = [bB g st6]∧dL (a1.drop k5) st6=some E7) (a1.length) [0] ⟨0,st3,by simp,Z,Z,by rw[List.drop_zero]; exact hE8⟩ QJ QJ ?_
 clear hE8 h
 rintro m10 _ _ ⟨k5,st6,hk13,rfl,rfl,h⟩
 cases m10 with
 | zero =>
  rw[List.drop_of_length_le QG,dL] at h
  have hk13ge: ¬ ((k5:Int)<(a1.length:Int)):=by omega
  refine KG Z (KP bi Z (T.seq (Lb Z (Nu hk13ge) ?_)))
  obtain rfl:=Nq h
  obtain rfl:=Nq hO9
  exact T.exit (KZ (KZ (Lu (LQ [0] Tryz.results184 ⟨Z,Z,Z⟩ QJ (.inr Z)))))
 | succ m10 =>
  obtain⟨x11,hxx11⟩: ∃ x,a1[k5]? = some x:=⟨_,List.getElem?_eq_getElem QG⟩
  rw[bJ hxx11,dL] at h
  have hk13lt:(k5:Int)<(a1.length:Int):=by omega
  refine KG Z (KP bi Z (T.seq (KV Z (Nt hk13lt) ?_)))
  obtain⟨gz14,oz14,rfl,z14cs,z14cl,z14cc,z14nf,z14r⟩:=Lf QH hX hxx11
  obtain⟨z14S,z14r,z14rr⟩:=z14r
  obtain rfl:z14cs=(wL3 x11):=z14r
  refine K3 (T.seq (T.block (KG Z ?_)))
  refine KH Z (K1 (k:=k5) Z Z Z N3 Or (Nw hxx11).1) Z ?_
  refine KH Z (LI (us:=wL3 x11) 0 Z PX Or z14nf z14cc Z Z Z) Z (TL.alloc Z .u Tryz.zeroValue245 Z (fun b15=>(KW 0 Z (cs':=wA4 x11) Z .u Z Z Or Z Z Z Z Z (K7 Z ?_))))
  obtain⟨st16,hx17,h⟩:=Np h
  refine KK bi AO 0 Z 3 Z Z (KT 1 Z Z .u (.fn Tryz.call132 Z) (rJ g st6 x11.M4 _ hx17) sT Z Z (KI (T.region Z (KF bi 2 Z (KH Z (KY (us:=wL6 x11.MV) 0 Z N0 ND Z Z Z) Z ?_)))))
  obtain⟨st18,hx19,h⟩:=Np h
  exact KT 1 Z Z .u (.fn Tryz.call183 Z) (mi g st16 x11.MV _ hx19) sT Z Z (TL.nil (K4 (X.seq (T.region Z (KH Z (Ex.add Z Z QG) Z (KF bi 1 Z (TL.nil (X.back (m':=m10) [1] QG ⟨k5+1,st18,by omega,Z,Z,h⟩ QJ QJ))))))))
def dB (x1:Int):Nat→List Hd→List Hd→Nat→I→Option (Lp (List Hd×I) (List Hd×List Hd×Nat×I))
 | 0,_,_,_,_=>none
 | m29+1,y18,y21,k24,st25=>if (k24:Int)<x1 then ((wN st25).bind fun (x34,st35)=>(cY st35).bind fun (x37,st38)=>if (y21.length+1)*40≤140737488355328 then ((iQ st38).bind fun (x44,st45)=>if x44=0 then (if -9223372036854775808≤((k24:Int)+1)∧((k24:Int)+1)≤9223372036854775807 then (dB x1 m29 y18 (y21 ++ [(⟨x34,x37⟩:Hd)]) (k24+1) st45) else none) else (some (Lp.ret ([],st45)))) else none) else (some (Lp.go (y18,y21,k24,st25)))
def cc (st:I)  : Option (List Hd×I):=(pL st).bind fun (x1,st2)=>(iQ st2).bind fun (x4,st5)=>if x4=0 then (if x1<0 then ((cj st5 4).bind fun st9=>some ([],st9)) else ((wG st5).bind fun (x11,st12)=>if 0≤x11∧x11≤9223372036854775807 then (if x1>(x11 / 2) then ((cj st12 1).bind fun st16=>some ([],st16)) else ((dB x1 ((x1).toNat+1) [] [] 0 st12).bind fun e=>match e with | .ret r=>some r | .go (y49,y52,k55,st56)=>some (y52,st56))) else none)) else some ([],st5)
theorem iC (g:Nat) (st:I)  (r:List Hd×I) (h:cc st  = some r):aH Tryz.prog 129 #[jP g] .triv (InR g st) (fun v A' N=> ∃ (A57:Option Addr) (c58:Nat),v= .slice A57 r.1.length c58∧A'=InR g r.2∧N = [RdR (aq 3 dq) [.slice A57 r.1.length c58] r.1]):=by
 refine aU Tryz.func129 Z Tryz.ntmps129 Z ?_
 intro F w hX
 unfold cc at h
 refine KG Z (K8 bi Z Z ?_)
 obtain⟨⟨x1,st2⟩,hx3,h⟩:=Np h
 refine KF bi 1 Z (KT 0 Z Z .u (.fn Tryz.call127 Z) (rX g st _ hx3) sT Z Z (KP bi Z (T.seq (T.block (KG Z ?_)))))
 obtain⟨⟨x4,st5⟩,hx6,h⟩:=Np h
 refine KF bi 1 Z (KT 0 Z Z .u (.fn Tryz.call23 Z) (cy g st2 _ hx6) sT Z Z (KF bi 2 Z ?_))
 rcases jF h with⟨c7,h⟩ | ⟨c7,h⟩
 ·refine Lj Z c7 (KG Z (KF bi 3 Z ?_))
  rcases jF h with⟨c8,h⟩ | ⟨c8,h⟩
  ·refine La Z c8 (KG Z ?_)
   obtain⟨st9,hx10,h⟩:=Np h
   refine KF bi 1 Z (KT 0 Z Z .u (.fn Tryz.call70 Z) (bH g st5 4 _ hx10) sT Z Z (K7 Z (KF bi 1 Z ?_)))
   obtain rfl:=Nq h
   exact KI (T.ret (KU (KL (Lc 3 dq (Le [1,0] P5 (KJ Z) ⟨_,_,Z,Z,Z⟩ QJ (.inl Z))))))
  refine K9 Z c8 (KG Z ?_)
  obtain⟨⟨x11,st12⟩,hx13,h⟩:=Np h
  refine KF bi 2 Z (KT 0 Z Z .u (.fn Tryz.call71 Z) (pi g st5 _ hx13) sT Z Z ?_)
  obtain⟨c14,h⟩:=ao h
  refine KH Z (Ex.quo Z Z QG c14) Z (KF bi 2 Z ?_)
  rcases jF h with⟨c15,h⟩ | ⟨c15,h⟩
  ·refine La Z c15 (KG Z ?_)
   obtain⟨st16,hx17,h⟩:=Np h
   refine KF bi 1 Z (KT 0 Z Z .u (.fn Tryz.call70 Z) (bH g st12 1 _ hx17) sT Z Z (K7 Z (KF bi 1 Z ?_)))
   obtain rfl:=Nq h
   exact KI (T.ret (KU (KL (Lc 3 dq (Le [1,0] P5 (KJ Z) ⟨_,_,Z,Z,Z⟩ QJ (.inl Z))))))
  refine K9 Z c15 (T.skip (K4 (X.seq (KG Z (KP bi Z (T.seq (KG Z (KP bi Z (T.block ?_)))))))))
  iterate 2 refine LZ 245 3 dq ?_
  obtain⟨E26,hE27,hO28⟩:=Np h
  refine Lv (fun m e Rs=> ∃ (y18:List Hd) (A19:Option Addr) (c20:Nat) (y21:List Hd) (A22:Option Addr) (c23:Nat) (k24:Nat) (st25:I),e = [(0,jP g),(2,.slice A19 y18.length c20),(4,.slice A22 y21.length c23),(25,jI x1),(26,jI (k24:Int))]∧Rs = [bU 245 3 dq (.slice A19 y18.length c20) y18,bU 245 3 dq (.slice A22 y21.length c23) y21,InR g st25]∧dB x1 m y18 y21 k24 st25=some E26) ((x1).toNat+1) [0,0,0] ⟨[],none,0,[],none,0,0,st12,Z,Z,by exact hE27⟩ QJ QJ ?_
  clear hE27 h
  rintro m29 _ _ ⟨y18,A19,c20,y21,A22,c23,k24,st25,rfl,rfl,h⟩
  cases m29 with
  | zero =>
   rw[dB] at h
   cases h
  | succ m29 =>
   rw[dB] at h
   refine KG Z (KF bi 1 Z ?_)
   rcases jF h with⟨c33,h⟩ | ⟨c33,h⟩
   ·refine KI (T.seq (LU Z c33 (K3 (T.seq (T.block (KG Z ?_))))))
    obtain⟨⟨x34,st35⟩,hx36,h⟩:=Np h
    refine KF bi 1 Z (KT 2 Z Z .u (.fn Tryz.call125 Z) (wO g st25 _ hx36) sT Z Z (K8 bi Z Z ?_))
    obtain⟨⟨x37,st38⟩,hx39,h⟩:=Np h
    refine KF bi 3 Z (KT 2 Z Z .u (.fn Tryz.call128 Z) (fy g st35 _ hx39) sT Z Z ?_)
    refine KH Z (Ld (cells:= #[jS x34,.bool x37.null,jS x37.data]) xm Z QI) Z ?_
    refine L7 (cells:= #[jS x34,.bool x37.null,jS x37.data]) Z .u wa Z QI Z (fun b40=> ?_)
    obtain⟨c41,h⟩:=ao h
    refine TL.app1 1 Z .u (us := [jS x34,.bool x37.null,jS x37.data]) (u:=(⟨x34,x37⟩:Hd)) (l:=y21) (E:=dq) Tryz.underlying89 xn Z QH Z Z Z Z Z Z (fun _ _=>Z) (by have hq:=c41; omega) (by have hq:=c41; omega) Z (fun A42 c43=> ?_)
    refine Lt [0,0,0] Z (K8 bi Z Z ?_)
    obtain⟨⟨x44,st45⟩,hx46,h⟩:=Np h
    refine KF bi 1 Z (KT 2 Z Z .u (.fn Tryz.call23 Z) (cy g st38 _ hx46) sT Z Z (KF bi 1 Z ?_))
    rcases jF h with⟨c47,h⟩ | ⟨c47,h⟩
    ·refine Lj Z c47 ?_
     obtain⟨c48,h⟩:=ao h
     exact T.skip (K4 (X.seq (T.region Z (KH Z (Ex.add Z Z c48) Z (KF bi 1 Z (TL.nil (X.back (m':=m29) [0,0,0] QG ⟨y18,A19,c20,(y21 ++ [(⟨x34,x37⟩:Hd)]),A42,c43,k24+1,st45,Z,Z,h⟩ QJ QJ)))))))
    refine Li Z c47 (KG Z (KF bi 1 Z ?_))
    obtain rfl:=Nq h
    obtain rfl:=Nq hO28
    exact KI (T.ret (KU (KL (KL (KU (KL (Lc 3 dq (Le [3,0] P5 (KJ Z) ⟨_,_,Z,Z,Z⟩ QJ (.inl Z)))))))))
   refine KI (T.seq (LX Z c33 ?_))
   obtain rfl:=Nq h
   replace h:=hO28
   clear hO28
   refine T.exit (KZ (KZ (Lu (X.seq (KG Z (KF bi 2 Z ?_))))))
   obtain rfl:=Nq h
   exact KI (T.ret (Mz QH 1 Z (LC [0,0,0] Z (Le [2,1] P5 (KJ Z) ⟨_,_,Z,Z,Z⟩ QJ (.inl Z)))))
 refine Li Z c7 (KG Z (KF bi 1 Z ?_))
 obtain rfl:=Nq h
 exact KI (T.ret (KU (KL (Lc 3 dq (Le [1,0] P5 (KJ Z) ⟨_,_,Z,Z,Z⟩ QJ (.inl Z))))))
def Gn:fg := [(91,0,0),(91,1,1),(91,2,2),(91,3,4),(91,4,6),(245,1,1)]
theorem az:(Gn).OK Tryz.prog:=⟨FOK.mk NU rfl Ny rfl,FOK.mk NU rfl Ny rfl,FOK.mk NU rfl ND rfl,FOK.mk NU rfl ND rfl,FOK.mk NU rfl Ps rfl,FOK.mk OT rfl ND rfl,trivial⟩
def Gp:List Nat := [3,89]
theorem fB:NOK Tryz.prog Gp:=⟨Nz,Qb,trivial⟩
theorem gN:BOK Tryz.prog 91 #[.int .i64 0,.int .i64 0,.bool false,.string ⟨#[]⟩,.bool false,.string ⟨#[]⟩,.slice none 0 0] [(0,1),(1,1),(2,2),(4,2),(6,1)]:=BOK.mk Tryz.zeroValue91 NU (by intro w; simp)
theorem uV:SOK Tryz.prog 313 23 1 2 #[.bool false,.string ⟨#[]⟩]:=SOK.mk PU ND Tryz.zeroValue23 QH QI
theorem uW:SOK Tryz.prog 313 23 2 2 #[.bool false,.string ⟨#[]⟩,.bool false,.string ⟨#[]⟩]:=SOK.mk PU ND Tryz.zeroValue23 QH QI
def ea:List Bl→Bool→Option (Lp Bool Bool)
 | [],y3=>some (Lp.go y3)
 | x9::xs,y3=>(ql x9).bind fun x14=>if x14=true then (ea xs y3) else some (Lp.ret false)
def gf (a0:List Bl):Option (Bool):=(ea a0 false).bind fun e=>match e with | .ret r=>some r | .go y17=>some true
theorem l6 (a0:List Bl) (A1:Option Addr) (c2:Nat) (r:Bool) (h:gf a0=some r):aH Tryz.prog 180 #[.slice A1 a0.length c2] (RX.of (aq 2 BU) [.slice A1 a0.length c2] a0) (aK) (fun v A' N=>v= .bool r∧A'=aK∧N = []):=by
 refine aU Tryz.func180 Z Tryz.ntmps180 Z ?_
 intro F w hX
 unfold gf at h
 refine KG Z (KP az Z (T.seq (KG Z (KF az 1 Z (KH Z (KX Z PU) Z (KP az Z (T.block ?_)))))))
 obtain⟨E5,hE6,hO7⟩:=Np h
 have hk11len:=LA hX
 refine Lv (fun m e Rs=> ∃ (y3:Bool) (k4:Nat),k4+m=a0.length∧e = [(2,.bool y3),(5,.slice A1 a0.length c2),(6,jI (a0.length:Int)),(7,jI (k4:Int))]∧Rs = [aK]∧ea (a0.drop k4) y3=some E5) (a0.length) [0] ⟨false,0,by simp,Z,Z,by rw[List.drop_zero]; exact hE6⟩ QJ QJ ?_
 clear hE6 h
 rintro m8 _ _ ⟨y3,k4,hk11,rfl,rfl,h⟩
 cases m8 with
 | zero =>
  rw[List.drop_of_length_le QG,ea] at h
  have hk11ge: ¬ ((k4:Int)<(a0.length:Int)):=by omega
  refine KG Z (KP az Z (T.seq (Lb Z (Nu hk11ge) ?_)))
  obtain rfl:=Nq h
  replace h:=hO7
  clear hO7
  refine T.exit (KZ (KZ (Lu (X.seq (KG Z (KF az 1 Z ?_))))))
  obtain rfl:=Nq h
  exact KI (T.ret (KQ [0] Tryz.results180 (KJ Z)))
 | succ m8 =>
  obtain⟨x9,hxx9⟩: ∃ x,a0[k4]? = some x:=⟨_,List.getElem?_eq_getElem QG⟩
  rw[bJ hxx9,ea] at h
  have hk11lt:(k4:Int)<(a0.length:Int):=by omega
  refine KG Z (KP az Z (T.seq (KV Z (Nt hk11lt) ?_)))
  obtain⟨gz12,oz12,rfl,z12cs,z12cl,z12cc,z12nf,z12r⟩:=Lf QH hX hxx9
  obtain⟨z12S,z12r,z12rr⟩:=z12r
  obtain rfl:z12cs=(wL6 x9):=z12r
  refine K3 (T.seq (T.block (KG Z ?_)))
  refine KH Z (K1 (k:=k4) Z Z Z PU ND (Nw hxx9).1) Z ?_
  refine KH Z (LI (us:=wL6 x9) 0 Z N0 ND z12nf z12cc Z Z Z) Z (TL.alloc Z .u Tryz.zeroValue23 Z (fun b13=>(KW 0 Z (cs':=wA7 x9) Z .u Z Z ND Z Z Z Z Z (K7 Z (KH Z (KY (us:=wL6 x9) 0 Z N0 ND Z Z Z) Z ?_)))))
  obtain⟨x14,hx15,h⟩:=Np h
  refine K2 Z .u (.fn Tryz.call148 Z) (nQ x9 _ hx15) rT Z (KF az 1 Z ?_)
  rcases jF h with⟨c16,h⟩ | ⟨c16,h⟩
  ·exact KI (Lb Z (bf c16) (T.skip (K4 (X.seq (T.region Z (KH Z (Ex.add Z Z QG) Z (KF az 1 Z (TL.nil (X.back (m':=m8) [1] QG ⟨y3,k4+1,by omega,Z,Z,h⟩ QJ QJ)))))))))
  replace c16:=Nx c16
  refine KI (KV Z (bG c16) (KG Z (KF az 1 Z ?_)))
  obtain rfl:=Nq h
  obtain rfl:=Nq hO7
  exact KI (T.ret (KU (KL (KL (KU (KL (KQ [1] Tryz.results180 (KJ Z))))))))
def ew:List Hd→Int→Option (Lp Int Int)
 | [],y12=>some (Lp.go y12)
 | x18::xs,y12=>(gf [x18.MV]).bind fun x24=>if x24=true then (ew xs y12) else some (Lp.ret 4)
def fV (a0:Rec):Option (Int):=if a0.M1<0 then some 11 else ((jM a0.M1 4).bind fun x5=>if x5=true then ((gf [a0.M4,a0.MV]).bind fun x9=>if x9=true then ((ew a0.MU 0).bind fun e=>match e with | .ret r=>some r | .go y27=>some 0) else some 4) else some 11)
theorem jR (a0:Rec) (A1:Option Addr) (c2:Nat) (r:Int) (h:fV a0=some r):aH Tryz.prog 130 #[.agg (wA2 a0 A1 c2)] (RX.of (aq 3 dq) [.slice A1 a0.MU.length c2] a0.MU) (aK) (fun v A' N=>v=jI r∧A'=aK∧N = []):=by
 refine aU Tryz.func130 Z Tryz.ntmps130 Z ?_
 intro F w hX
 unfold fV at h
 refine KG Z (TL.box Z .u Z Z (fun b3=>(KP az Z (T.seq (KG Z ?_)))))
 rcases jF h with⟨c4,h⟩ | ⟨c4,h⟩
 ·refine KK az fB 0 Z 4 Z Z (KN 8 Z (Nt c4) (Lq az Z (KV Z Z (KG Z (KF az 1 Z ?_)))))
  obtain rfl:=Nq h
  exact KI (T.ret (KL (KQ [1] P6 (KJ Z))))
 refine KK az fB 0 Z 4 Z Z (KN 8 Z (Nu c4) ?_)
 obtain⟨x5,hx6,h⟩:=Np h
 refine KK az fB 0 Z 2 Z Z (K2 Z (.g Z Z Z) (.fn Tryz.call101 Z) (LB (fun w=>dF a0.M1 4 _ hx6 w)) (fun _ _=>Lk _ _) Z (KM az 2 Z ?_))
 rcases jF h with⟨c7,h⟩ | ⟨c7,h⟩
 ·refine KI (Lb Z (bf c7) (K3 (T.seq (KG Z (KF az 1 Z (KH Z (KY (us:=wL6 a0.M4) 0 Z N0 ND Z Z Z) Z (KF az 1 Z (KH Z (KY (us:=wL6 a0.MV) 0 Z N0 ND Z Z Z) Z ?_))))))))
  refine L7 (cells:= #[.bool a0.M4.null,jS a0.M4.data,.bool a0.MV.null,jS a0.MV.data]) Z .u uW Z QI Z (fun b8=> ?_)
  refine My (us := [.bool a0.M4.null,jS a0.M4.data,.bool a0.MV.null,jS a0.MV.data]) (xs := [a0.M4,a0.MV]) (E:=BU) (z:=2) Z (Nat.le_of_ble_eq_true Z) (fun _=>⟨Z,Z,⟨Z,Z,Z⟩⟩) ?_
  obtain⟨x9,hx10,h⟩:=Np h
  refine K2 Z .u (.fn Tryz.call180 Z) (l6 [a0.M4,a0.MV] _ _ _ hx10) (fun _ hs=>(SrcE.res 0 hs Z (fun w G h=>cm QH w G h))) Z (KF az 1 Z ?_)
  rcases jF h with⟨c11,h⟩ | ⟨c11,h⟩
  ·refine KI (Lb Z (bf c11) (K3 (T.seq (KG Z (KK az fB 1 Z 2 Z Z (KH Z (KX Z N3) Z (KP az Z (T.block ?_))))))))
   obtain⟨E14,hE15,hO16⟩:=Np h
   have hk20len:=LA hX
   refine Lv (fun m e Rs=> ∃ (y12:Int) (k13:Nat),k13+m=a0.MU.length∧e = [(2,jI y12),(22,.slice A1 a0.MU.length c2),(23,jI (a0.MU.length:Int)),(24,jI (k13:Int))]∧Rs = [bU 23 2 BU (.slice (some ⟨b8,0,none⟩) 2 2) [a0.M4,a0.MV],aW b3 91 (wA2 a0 A1 c2),aK]∧ew (a0.MU.drop k13) y12=some E14) (a0.MU.length) [0,0,0] ⟨0,0,by simp,Z,Z,by rw[List.drop_zero]; exact hE15⟩ QJ QJ ?_
   clear hE15 h
   rintro m17 _ _ ⟨y12,k13,hk20,rfl,rfl,h⟩
   cases m17 with
   | zero =>
    rw[List.drop_of_length_le QG,ew] at h
    have hk20ge: ¬ ((k13:Int)<(a0.MU.length:Int)):=by omega
    refine KG Z (KP az Z (T.seq (Lb Z (Nu hk20ge) ?_)))
    obtain rfl:=Nq h
    replace h:=hO16
    clear hO16
    refine T.exit (KZ (KZ (Lu (X.seq (KG Z (KF az 1 Z ?_))))))
    obtain rfl:=Nq h
    exact KI (T.ret (KQ [2] P6 (KJ Z)))
   | succ m17 =>
    obtain⟨x18,hxx18⟩: ∃ x,a0.MU[k13]? = some x:=⟨_,List.getElem?_eq_getElem QG⟩
    rw[bJ hxx18,ew] at h
    have hk20lt:(k13:Int)<(a0.MU.length:Int):=by omega
    refine KG Z (KP az Z (T.seq (KV Z (Nt hk20lt) ?_)))
    obtain⟨gz21,oz21,rfl,z21cs,z21cl,z21cc,z21nf,z21r⟩:=Lf QH hX hxx18
    obtain⟨z21S,z21r,z21rr⟩:=z21r
    obtain rfl:z21cs=(wL3 x18):=z21r
    refine K3 (T.seq (T.block (KG Z ?_)))
    refine KH Z (K1 (k:=k13) Z Z Z N3 Or (Nw hxx18).1) Z ?_
    refine KH Z (LI (us:=wL3 x18) 0 Z PX Or z21nf z21cc Z Z Z) Z (TL.alloc Z .u Tryz.zeroValue245 Z (fun b22=>(KW 0 Z (cs':=wA4 x18) Z .u Z Z Or Z Z Z Z Z (K7 Z (KF az 1 Z (KH Z (KY (us:=wL6 x18.MV) 0 Z N0 ND Z Z Z) Z (L7 (cells:=wA7 x18.MV) Z .u uV Z QJ Z (fun b23=>(My (us:=wL6 x18.MV) (xs := [x18.MV]) (E:=BU) (z:=2) Z (Nat.le_of_ble_eq_true Z) (fun _=>⟨Z,Z,Z⟩) ?_)))))))))
    obtain⟨x24,hx25,h⟩:=Np h
    refine K2 Z .u (.fn Tryz.call180 Z) (l6 [x18.MV] _ _ _ hx25) (fun _ hs=>(SrcE.res 0 hs Z (fun w G h=>cm QH w G h))) Z (KF az 1 Z ?_)
    rcases jF h with⟨c26,h⟩ | ⟨c26,h⟩
    ·exact KI (Lb Z (bf c26) (T.skip (K4 (X.seq (T.region Z (KH Z (Ex.add Z Z QG) Z (KF az 1 Z (TL.nil (X.back (m':=m17) [2,2,2] QG ⟨y12,k13+1,by omega,Z,Z,h⟩ QJ QJ)))))))))
    replace c26:=Nx c26
    refine KI (KV Z (bG c26) (KG Z (KF az 1 Z ?_)))
    obtain rfl:=Nq h
    obtain rfl:=Nq hO16
    exact KI (T.ret (KU (KL (KL (KU (KL (KQ [4] P6 (KJ Z))))))))
  replace c11:=Nx c11
  refine KI (KV Z (bG c11) (KG Z (KF az 1 Z ?_)))
  obtain rfl:=Nq h
  exact KI (T.ret (KL (KQ [2] P6 (KJ Z))))
 replace c7:=Nx c7
 refine KI (KV Z (bG c7) (KG Z (KF az 1 Z ?_)))
 obtain rfl:=Nq h
 exact KI (T.ret (KL (KQ [1] P6 (KJ Z))))
def j1 (a0:Rec):Option (List UInt8×Int):=(tS ([],0) 0).bind fun st5=>(sK st5 a0.Nb).bind fun st7=>(sL st7 a0.M1).bind fun st9=>(j8 st9 a0.M4).bind fun st11=>(j8 st11 a0.MV).bind fun st13=>(jr st13 a0.MU).bind fun st15=>(mW st15).bind fun (x17,x18,st19)=>some (x17,x18)
theorem sd (a0:Rec) (A1:Option Addr) (c2:Nat) (r:List UInt8×Int) (h:j1 a0=some r):aH Tryz.prog 131 #[.agg (wA2 a0 A1 c2)] (RX.of (aq 3 dq) [.slice A1 a0.MU.length c2] a0.MU) (aK) (fun v A' N=>v= .tuple #[jS r.1,jI r.2]∧A'=aK∧N = []):=by
 refine aU Tryz.func131 Z Tryz.ntmps131 Z ?_
 intro F w hX
 unfold j1 at h
 refine KG Z (TL.box Z .u Z Z (fun b3=>(K8 az Z Z (Mj Z .u Tryz.zeroValue112 Z (fun b4=> ?_)))))
 obtain⟨st5,hx6,h⟩:=Np h
 refine K7 Z (KT 0 Z Z .u (.fn Tryz.call102 Z) (qk b4 ([],0) 0 _ hx6) sT Z Z (K7 Z ?_))
 obtain⟨st7,hx8,h⟩:=Np h
 refine KK az fB 1 Z 2 Z Z (KT 0 Z Z .u (.fn Tryz.call181 Z) (yJ b4 st5 a0.Nb _ hx8) sT Z Z (K7 Z ?_))
 obtain⟨st9,hx10,h⟩:=Np h
 refine KK az fB 1 Z 2 Z Z (KT 0 Z Z .u (.fn Tryz.call182 Z) (sM b4 st7 a0.M1 _ hx10) sT Z Z (K7 Z (KF az 1 Z (KH Z (KY (us:=wL6 a0.M4) 1 Z N0 ND Z Z Z) Z ?_))))
 obtain⟨st11,hx12,h⟩:=Np h
 refine KT 0 Z Z .u (.fn Tryz.call183 Z) (mi b4 st9 a0.M4 _ hx12) sT Z Z (K7 Z (KF az 1 Z (KH Z (KY (us:=wL6 a0.MV) 1 Z N0 ND Z Z Z) Z ?_)))
 obtain⟨st13,hx14,h⟩:=Np h
 refine KT 0 Z Z .u (.fn Tryz.call183 Z) (mi b4 st11 a0.MV _ hx14) sT Z Z (K7 Z ?_)
 obtain⟨st15,hx16,h⟩:=Np h
 refine KK az fB 1 Z 2 Z Z (KT 0 Z Z .u (.fn Tryz.call184 Z) (ru b4 st13 a0.MU _ _ _ hx16) (fun _ hs=>(Mb hs hX)) Z Z ?_)
 obtain⟨⟨x17,x18,st19⟩,hx20,h⟩:=Np h
 refine K7 Z (KT 0 Z Z .u (.fn Tryz.call50 Z) (iZ b4 st15 _ hx20) sT Z Z (KF az 4 Z ?_))
 obtain rfl:=Nq h
 exact KI (T.ret (Lo [2] Tryz.results131 (KJ Z) (KJ Z) ⟨Z,Z,Z⟩ QJ (.inl Z)))
def jt (st:List UInt8×Int) (a1:Rec):Option (List UInt8×Int):=(fV a1).bind fun x4=>if x4=0 then ((j1 a1).bind fun (x7,x8)=>if x8=0 then ((oH st x7).bind fun st11=>some st11) else ((li st x8).bind fun st13=>some st13)) else ((li st x4).bind fun st15=>some st15)
theorem rv (g:Nat) (st:List UInt8×Int) (a1:Rec) (A1:Option Addr) (c2:Nat) (r:List UInt8×Int) (h:jt st a1=some r):aH Tryz.prog 79 #[jP g,.agg (wA2 a1 A1 c2)] (RX.of (aq 3 dq) [.slice A1 a1.MU.length c2] a1.MU) (bB g st) (fun v A' N=>v= .tuple #[]∧A'=bB g r∧N = []):=by
 refine aU Tryz.func79 Z Tryz.ntmps79 Z ?_
 intro F w hX
 unfold jt at h
 refine KG Z (TL.box Z .u Z Z (fun b3=>(KI (T.seq (KG Z (KH Z (KY (us:=wL1 a1 A1 c2) 0 Z Oa NG Z Z Z) Z ?_))))))
 obtain⟨x4,hx5,h⟩:=Np h
 refine K2 Z .u (.fn Tryz.call130 Z) (jR a1 _ _ _ hx5) (fun _ hs=>(K0 hs hX)) Z (K8 az Z Z (KF az 2 Z ?_))
 rcases jF h with⟨c6,h⟩ | ⟨c6,h⟩
 ·refine Lj Z c6 (Lg Z (KH Z (KY (us:=wL1 a1 A1 c2) 0 Z Oa NG Z Z Z) Z ?_))
  obtain⟨⟨x7,x8⟩,hx9,h⟩:=Np h
  refine K2 Z .u (.fn Tryz.call131 Z) (sd a1 _ _ _ hx9) (fun _ hs=>(K0 hs hX)) Z (KP az Z (T.seq (KG Z (KF az 2 Z ?_))))
  rcases jF h with⟨c10,h⟩ | ⟨c10,h⟩
  ·refine Lj Z c10 (K3 (T.region Z ?_))
   obtain⟨st11,hx12,h⟩:=Np h
   refine KF az 2 Z (KT 1 Z Z .u (.fn Tryz.call132 Z) (rJ g st x7 _ hx12) sT Z Z ?_)
   obtain rfl:=Nq h
   exact TL.nil (LQ [1] Tryz.results79 ⟨Z,Z,Z⟩ QJ (.inr Z))
  refine Li Z c10 (KG Z ?_)
  obtain⟨st13,hx14,h⟩:=Np h
  refine KF az 2 Z (KT 1 Z Z .u (.fn Tryz.call94 Z) (ib g st x8 _ hx14) sT Z Z ?_)
  obtain rfl:=Nq h
  exact KI (T.ret (KL (LQ [1] Tryz.results79 ⟨Z,Z,Z⟩ QJ (.inl Z))))
 refine Li Z c6 (KG Z ?_)
 obtain⟨st15,hx16,h⟩:=Np h
 refine KF az 2 Z (KT 1 Z Z .u (.fn Tryz.call94 Z) (ib g st x4 _ hx16) sT Z Z ?_)
 obtain rfl:=Nq h
 exact KI (T.ret (KL (LQ [1] Tryz.results79 ⟨Z,Z,Z⟩ QJ (.inl Z))))
def iP (st:I)  : Option (Rec×I):=(wN st).bind fun (x2,st3)=>(iQ st3).bind fun (x5,st6)=>if x5=0 then ((wF x2).bind fun st9=>(ed st9 1).bind fun (x12,st13)=>if x12=0 then ((mX st13).bind fun (x16,st17)=>(pL st17).bind fun (x19,st20)=>if x19<0 then ((cj st20 11).bind fun st24=>(cY st24).bind fun (x26,st27)=>(cY st27).bind fun (x29,st30)=>(cc st30).bind fun (x32,st35)=>(eg st35).bind fun (x37,st38)=>if x37=0 then (some ((⟨x16,x19,x26,x29,x32⟩:Rec),st6)) else ((cj st6 x37).bind fun st41=>some ((⟨0,0,(⟨false,[]⟩:Bl),(⟨false,[]⟩:Bl),[]⟩:Rec),st41))) else ((cY st20).bind fun (x43,st44)=>(cY st44).bind fun (x46,st47)=>(cc st47).bind fun (x49,st52)=>(eg st52).bind fun (x54,st55)=>if x54=0 then (some ((⟨x16,x19,x43,x46,x49⟩:Rec),st6)) else ((cj st6 x54).bind fun st58=>some ((⟨0,0,(⟨false,[]⟩:Bl),(⟨false,[]⟩:Bl),[]⟩:Rec),st58)))) else ((cj st13 8).bind fun st60=>(mX st60).bind fun (x62,st63)=>(pL st63).bind fun (x65,st66)=>if x65<0 then ((cj st66 11).bind fun st70=>(cY st70).bind fun (x72,st73)=>(cY st73).bind fun (x75,st76)=>(cc st76).bind fun (x78,st81)=>(eg st81).bind fun (x83,st84)=>if x83=0 then (some ((⟨x62,x65,x72,x75,x78⟩:Rec),st6)) else ((cj st6 x83).bind fun st87=>some ((⟨0,0,(⟨false,[]⟩:Bl),(⟨false,[]⟩:Bl),[]⟩:Rec),st87))) else ((cY st66).bind fun (x89,st90)=>(cY st90).bind fun (x92,st93)=>(cc st93).bind fun (x95,st98)=>(eg st98).bind fun (x100,st101)=>if x100=0 then (some ((⟨x62,x65,x89,x92,x95⟩:Rec),st6)) else ((cj st6 x100).bind fun st104=>some ((⟨0,0,(⟨false,[]⟩:Bl),(⟨false,[]⟩:Bl),[]⟩:Rec),st104))))) else (some ((⟨0,0,(⟨false,[]⟩:Bl),(⟨false,[]⟩:Bl),[]⟩:Rec),st6))
theorem se (g:Nat) (st:I)  (r:Rec×I) (h:iP st  = some r):aH Tryz.prog 78 #[jP g] .triv (InR g st) (fun v A' N=> ∃ (A106:Option Addr) (c107:Nat),v= .agg #[jI r.1.Nb,jI r.1.M1,.bool r.1.M4.null,jS r.1.M4.data,.bool r.1.MV.null,jS r.1.MV.data,.slice A106 r.1.MU.length c107]∧A'=InR g r.2∧N = [RdR (aq 3 dq) [.slice A106 r.1.MU.length c107] r.1.MU]):=by
 refine aU Tryz.func78 Z Tryz.ntmps78 Z ?_
 intro F w hX
 unfold iP at h
 refine KG Z (TL.alloc Z .u Tryz.zeroValue91 Z (fun b1=>(K7 Z ?_)))
 obtain⟨⟨x2,st3⟩,hx4,h⟩:=Np h
 refine KF az 1 Z (KT 1 Z Z .u (.fn Tryz.call125 Z) (wO g st _ hx4) sT Z Z (KP az Z (T.seq (KG Z ?_))))
 obtain⟨⟨x5,st6⟩,hx7,h⟩:=Np h
 refine KF az 1 Z (KT 1 Z Z .u (.fn Tryz.call23 Z) (cy g st3 _ hx7) sT Z Z (KF az 1 Z ?_))
 rcases jF h with⟨c8,h⟩ | ⟨c8,h⟩
 ·refine Lj Z c8 (Lg Z ?_)
  obtain⟨st9,hx10,h⟩:=Np h
  refine KF az 1 Z (L8 Z .u (.fn Tryz.call19 Z) (lj x2 _ hx10) rT Z ?_)
  rintro _ _ _ ⟨b11,rfl,rfl,rfl⟩
  refine Lt [0,0,0] Z (KP az Z (T.seq (KG Z ?_)))
  obtain⟨⟨x12,st13⟩,hx14,h⟩:=Np h
  refine KF az 1 Z (KT 0 Z Z .u (.fn Tryz.call68 Z) (bx b11 st9 1 _ hx14) sT Z Z (KF az 1 Z ?_))
  rcases jF h with⟨c15,h⟩ | ⟨c15,h⟩
  ·refine Lj Z c15 (Lg Z ?_)
   obtain⟨⟨x16,st17⟩,hx18,h⟩:=Np h
   refine KF az 1 Z (KT 0 Z Z .u (.fn Tryz.call126 Z) (vx b11 st13 _ hx18) sT Z Z ?_)
   obtain⟨⟨x19,st20⟩,hx21,h⟩:=Np h
   refine KF az 1 Z (KT 0 Z Z .u (.fn Tryz.call127 Z) (rX b11 st17 _ hx21) sT Z Z ?_)
   refine KH Z (Ld (cells:=vA7 x16 x19) gN Z QI) Z ?_
   refine TL.alloc Z .u Tryz.zeroValue91 Z (fun b22=>(KW 0 Z (cs':=vA7 x16 x19) Z .u Z Z NG Z Z Z Z Z (KI (T.seq (KG Z (KK az fB 0 Z 3 Z Z ?_))))))
   rcases jF h with⟨c23,h⟩ | ⟨c23,h⟩
   ·refine La Z c23 (T.region Z ?_)
    obtain⟨st24,hx25,h⟩:=Np h
    refine KF az 1 Z (KT 1 Z Z .u (.fn Tryz.call70 Z) (bH b11 st20 11 _ hx25) sT Z Z (K7 Z ?_))
    obtain⟨⟨x26,st27⟩,hx28,h⟩:=Np h
    refine KF az 1 Z (KT 1 Z Z .u (.fn Tryz.call128 Z) (fy b11 st24 _ hx28) sT Z Z (KF az 1 Z (KW 0 Z (cs':=vA8 x16 x19 x26) Z .u Z Z ND Z Z Z Z Z (K7 Z ?_))))
    obtain⟨⟨x29,st30⟩,hx31,h⟩:=Np h
    refine KF az 1 Z (KT 1 Z Z .u (.fn Tryz.call128 Z) (fy b11 st27 _ hx31) sT Z Z (KF az 1 Z (KW 0 Z (cs':=vA9 x16 x19 x26 x29) Z .u Z Z ND Z Z Z Z Z (K7 Z ?_))))
    obtain⟨⟨x32,st35⟩,hx36,h⟩:=Np h
    refine KF az 1 Z (Mp Z .u (.fn Tryz.call129 Z) (iC b11 st30 _ hx36) sT Z ?_)
    rintro _ _ _ ⟨A33,c34,rfl,rfl,rfl⟩
    refine Lt [0,0,0,0,0] Z (KF az 1 Z (KW 1 Z (cs':=vP x16 x19 A33 c34 (x32).length x26 x29) Z .u Z Z Ps Z Z Z Z Z (KI (T.seq (KG Z ?_)))))
    obtain⟨⟨x37,st38⟩,hx39,h⟩:=Np h
    refine KF az 1 Z (KT 2 Z Z .u (.fn Tryz.call21 Z) (dt b11 st35 _ hx39) sT Z Z (K8 az Z Z (KF az 2 Z ?_)))
    rcases jF h with⟨c40,h⟩ | ⟨c40,h⟩
    ·refine Lj Z c40 (Lg Z (KH Z (KY (us:=vL11 x16 x19 A33 c34 (x32).length x26 x29) 1 Z Oa NG Z Z Z) Z (KW 3 Z (cs':=vP x16 x19 A33 c34 (x32).length x26 x29) Z .u Z Z NG Z Z Z Z Z ?_)))
     obtain rfl:=Nq h
     exact KI (T.ret (Le [4,0] Pm (Ly (us:=vP x16 x19 A33 c34 (x32).length x26 x29) 3 Z Oa NG Z Z) ⟨_,_,Z,Z,Z⟩ QJ (.inl Z)))
    refine Li Z c40 (KG Z ?_)
    obtain⟨st41,hx42,h⟩:=Np h
    refine KF az 2 Z (KT 4 Z Z .u (.fn Tryz.call70 Z) (bH g st6 x37 _ hx42) sT Z Z (K7 Z ?_))
    refine KH Z (Ld (cells:=rZ) gN Z QI) Z ?_
    refine KW 3 Z (cs':=rZ) Z .u Z Z NG Z Z Z Z Z ?_
    obtain rfl:=Nq h
    exact KI (T.ret (KL (Lc 3 dq (Le [5,0] Pm (Ly (us:=rZ) 4 Z Oa NG Z Z) ⟨_,_,Z,Z,Z⟩ QJ (.inl Z)))))
   refine K9 Z c23 (Lg Z ?_)
   obtain⟨⟨x43,st44⟩,hx45,h⟩:=Np h
   refine KF az 1 Z (KT 1 Z Z .u (.fn Tryz.call128 Z) (fy b11 st20 _ hx45) sT Z Z (KF az 1 Z (KW 0 Z (cs':=vA8 x16 x19 x43) Z .u Z Z ND Z Z Z Z Z (K7 Z ?_))))
   obtain⟨⟨x46,st47⟩,hx48,h⟩:=Np h
   refine KF az 1 Z (KT 1 Z Z .u (.fn Tryz.call128 Z) (fy b11 st44 _ hx48) sT Z Z (KF az 1 Z (KW 0 Z (cs':=vA9 x16 x19 x43 x46) Z .u Z Z ND Z Z Z Z Z (K7 Z ?_))))
   obtain⟨⟨x49,st52⟩,hx53,h⟩:=Np h
   refine KF az 1 Z (Mp Z .u (.fn Tryz.call129 Z) (iC b11 st47 _ hx53) sT Z ?_)
   rintro _ _ _ ⟨A50,c51,rfl,rfl,rfl⟩
   refine Lt [0,0,0,0,0] Z (KF az 1 Z (KW 1 Z (cs':=vP x16 x19 A50 c51 (x49).length x43 x46) Z .u Z Z Ps Z Z Z Z Z (KI (T.seq (KG Z ?_)))))
   obtain⟨⟨x54,st55⟩,hx56,h⟩:=Np h
   refine KF az 1 Z (KT 2 Z Z .u (.fn Tryz.call21 Z) (dt b11 st52 _ hx56) sT Z Z (K8 az Z Z (KF az 2 Z ?_)))
   rcases jF h with⟨c57,h⟩ | ⟨c57,h⟩
   ·refine Lj Z c57 (Lg Z (KH Z (KY (us:=vL11 x16 x19 A50 c51 (x49).length x43 x46) 1 Z Oa NG Z Z Z) Z (KW 3 Z (cs':=vP x16 x19 A50 c51 (x49).length x43 x46) Z .u Z Z NG Z Z Z Z Z ?_)))
    obtain rfl:=Nq h
    exact KI (T.ret (Le [4,0] Pm (Ly (us:=vP x16 x19 A50 c51 (x49).length x43 x46) 3 Z Oa NG Z Z) ⟨_,_,Z,Z,Z⟩ QJ (.inl Z)))
   refine Li Z c57 (KG Z ?_)
   obtain⟨st58,hx59,h⟩:=Np h
   refine KF az 2 Z (KT 4 Z Z .u (.fn Tryz.call70 Z) (bH g st6 x54 _ hx59) sT Z Z (K7 Z ?_))
   refine KH Z (Ld (cells:=rZ) gN Z QI) Z ?_
   refine KW 3 Z (cs':=rZ) Z .u Z Z NG Z Z Z Z Z ?_
   obtain rfl:=Nq h
   exact KI (T.ret (KL (Lc 3 dq (Le [5,0] Pm (Ly (us:=rZ) 4 Z Oa NG Z Z) ⟨_,_,Z,Z,Z⟩ QJ (.inl Z)))))
  refine Li Z c15 (T.region Z ?_)
  obtain⟨st60,hx61,h⟩:=Np h
  refine KF az 1 Z (KT 0 Z Z .u (.fn Tryz.call70 Z) (bH b11 st13 8 _ hx61) sT Z Z (K7 Z ?_))
  obtain⟨⟨x62,st63⟩,hx64,h⟩:=Np h
  refine KF az 1 Z (KT 0 Z Z .u (.fn Tryz.call126 Z) (vx b11 st60 _ hx64) sT Z Z ?_)
  obtain⟨⟨x65,st66⟩,hx67,h⟩:=Np h
  refine KF az 1 Z (KT 0 Z Z .u (.fn Tryz.call127 Z) (rX b11 st63 _ hx67) sT Z Z ?_)
  refine KH Z (Ld (cells:=vA7 x62 x65) gN Z QI) Z ?_
  refine TL.alloc Z .u Tryz.zeroValue91 Z (fun b68=>(KW 0 Z (cs':=vA7 x62 x65) Z .u Z Z NG Z Z Z Z Z (KI (T.seq (KG Z (KK az fB 0 Z 3 Z Z ?_))))))
  rcases jF h with⟨c69,h⟩ | ⟨c69,h⟩
  ·refine La Z c69 (T.region Z ?_)
   obtain⟨st70,hx71,h⟩:=Np h
   refine KF az 1 Z (KT 1 Z Z .u (.fn Tryz.call70 Z) (bH b11 st66 11 _ hx71) sT Z Z (K7 Z ?_))
   obtain⟨⟨x72,st73⟩,hx74,h⟩:=Np h
   refine KF az 1 Z (KT 1 Z Z .u (.fn Tryz.call128 Z) (fy b11 st70 _ hx74) sT Z Z (KF az 1 Z (KW 0 Z (cs':=vA8 x62 x65 x72) Z .u Z Z ND Z Z Z Z Z (K7 Z ?_))))
   obtain⟨⟨x75,st76⟩,hx77,h⟩:=Np h
   refine KF az 1 Z (KT 1 Z Z .u (.fn Tryz.call128 Z) (fy b11 st73 _ hx77) sT Z Z (KF az 1 Z (KW 0 Z (cs':=vA9 x62 x65 x72 x75) Z .u Z Z ND Z Z Z Z Z (K7 Z ?_))))
   obtain⟨⟨x78,st81⟩,hx82,h⟩:=Np h
   refine KF az 1 Z (Mp Z .u (.fn Tryz.call129 Z) (iC b11 st76 _ hx82) sT Z ?_)
   rintro _ _ _ ⟨A79,c80,rfl,rfl,rfl⟩
   refine Lt [0,0,0,0,0] Z (KF az 1 Z (KW 1 Z (cs':=vP x62 x65 A79 c80 (x78).length x72 x75) Z .u Z Z Ps Z Z Z Z Z (KI (T.seq (KG Z ?_)))))
   obtain⟨⟨x83,st84⟩,hx85,h⟩:=Np h
   refine KF az 1 Z (KT 2 Z Z .u (.fn Tryz.call21 Z) (dt b11 st81 _ hx85) sT Z Z (K8 az Z Z (KF az 2 Z ?_)))
   rcases jF h with⟨c86,h⟩ | ⟨c86,h⟩
   ·refine Lj Z c86 (Lg Z (KH Z (KY (us:=vL11 x62 x65 A79 c80 (x78).length x72 x75) 1 Z Oa NG Z Z Z) Z (KW 3 Z (cs':=vP x62 x65 A79 c80 (x78).length x72 x75) Z .u Z Z NG Z Z Z Z Z ?_)))
    obtain rfl:=Nq h
    exact KI (T.ret (Le [4,0] Pm (Ly (us:=vP x62 x65 A79 c80 (x78).length x72 x75) 3 Z Oa NG Z Z) ⟨_,_,Z,Z,Z⟩ QJ (.inl Z)))
   refine Li Z c86 (KG Z ?_)
   obtain⟨st87,hx88,h⟩:=Np h
   refine KF az 2 Z (KT 4 Z Z .u (.fn Tryz.call70 Z) (bH g st6 x83 _ hx88) sT Z Z (K7 Z ?_))
   refine KH Z (Ld (cells:=rZ) gN Z QI) Z ?_
   refine KW 3 Z (cs':=rZ) Z .u Z Z NG Z Z Z Z Z ?_
   obtain rfl:=Nq h
   exact KI (T.ret (KL (Lc 3 dq (Le [5,0] Pm (Ly (us:=rZ) 4 Z Oa NG Z Z) ⟨_,_,Z,Z,Z⟩ QJ (.inl Z)))))
  refine K9 Z c69 (Lg Z ?_)
  obtain⟨⟨x89,st90⟩,hx91,h⟩:=Np h
  refine KF az 1 Z (KT 1 Z Z .u (.fn Tryz.call128 Z) (fy b11 st66 _ hx91) sT Z Z (KF az 1 Z (KW 0 Z (cs':=vA8 x62 x65 x89) Z .u Z Z ND Z Z Z Z Z (K7 Z ?_))))
  obtain⟨⟨x92,st93⟩,hx94,h⟩:=Np h
  refine KF az 1 Z (KT 1 Z Z .u (.fn Tryz.call128 Z) (fy b11 st90 _ hx94) sT Z Z (KF az 1 Z (KW 0 Z (cs':=vA9 x62 x65 x89 x92) Z .u Z Z ND Z Z Z Z Z (K7 Z ?_))))
  obtain⟨⟨x95,st98⟩,hx99,h⟩:=Np h
  refine KF az 1 Z (Mp Z .u (.fn Tryz.call129 Z) (iC b11 st93 _ hx99) sT Z ?_)
  rintro _ _ _ ⟨A96,c97,rfl,rfl,rfl⟩
  refine Lt [0,0,0,0,0] Z (KF az 1 Z (KW 1 Z (cs':=vP x62 x65 A96 c97 (x95).length x89 x92) Z .u Z Z Ps Z Z Z Z Z (KI (T.seq (KG Z ?_)))))
  obtain⟨⟨x100,st101⟩,hx102,h⟩:=Np h
  refine KF az 1 Z (KT 2 Z Z .u (.fn Tryz.call21 Z) (dt b11 st98 _ hx102) sT Z Z (K8 az Z Z (KF az 2 Z ?_)))
  rcases jF h with⟨c103,h⟩ | ⟨c103,h⟩
  ·refine Lj Z c103 (Lg Z (KH Z (KY (us:=vL11 x62 x65 A96 c97 (x95).length x89 x92) 1 Z Oa NG Z Z Z) Z (KW 3 Z (cs':=vP x62 x65 A96 c97 (x95).length x89 x92) Z .u Z Z NG Z Z Z Z Z ?_)))
   obtain rfl:=Nq h
   exact KI (T.ret (Le [4,0] Pm (Ly (us:=vP x62 x65 A96 c97 (x95).length x89 x92) 3 Z Oa NG Z Z) ⟨_,_,Z,Z,Z⟩ QJ (.inl Z)))
  refine Li Z c103 (KG Z ?_)
  obtain⟨st104,hx105,h⟩:=Np h
  refine KF az 2 Z (KT 4 Z Z .u (.fn Tryz.call70 Z) (bH g st6 x100 _ hx105) sT Z Z (K7 Z ?_))
  refine KH Z (Ld (cells:=rZ) gN Z QI) Z ?_
  refine KW 3 Z (cs':=rZ) Z .u Z Z NG Z Z Z Z Z ?_
  obtain rfl:=Nq h
  exact KI (T.ret (KL (Lc 3 dq (Le [5,0] Pm (Ly (us:=rZ) 4 Z Oa NG Z Z) ⟨_,_,Z,Z,Z⟩ QJ (.inl Z)))))
 refine Li Z c8 (KG Z ?_)
 refine KH Z (Ld (cells:=rZ) gN Z QI) Z ?_
 refine KW 0 Z (cs':=rZ) Z .u Z Z NG Z Z Z Z Z ?_
 obtain rfl:=Nq h
 exact KI (T.ret (KL (Lc 3 dq (Le [2,0] Pm (Ly (us:=rZ) 1 Z Oa NG Z Z) ⟨_,_,Z,Z,Z⟩ QJ (.inl Z)))))
end Go.Proofs.YtheikonlgjdopaaGreat.Sl
