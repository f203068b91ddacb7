/- SplitRows: for every input the law returns true, and its arguments read behind the call as they did before. -/
import Derived.Test.YtheikonlgjdopaaGreatRows
import Derived.WalkKit
import Derived.ProofKit
import Derived.OpenShut
import Derived.ShutString
import Derived.ChangeOld
import Derived.Below
import Derived.SizedLaws
import Derived.Test.YtheikonlgjdopaaGreatK11
set_option maxRecDepth 100000
set_option maxHeartbeats 4000000
set_option linter.defProp false
namespace Go.Proofs.YtheikonlgjdopaaGreat.Sl
open Go.RowKit
set_option linter.unusedVariables false
set_option linter.unusedSimpArgs false
def P2 := @Tryz.runUnderlying75
theorem qc:Ones bW:=by rintro _ _ _ _ ⟨_,_,_,_,_,_,rfl,_⟩; rfl
def vH:eO := []
theorem ag:(vH).OK Tryz.prog:=trivial
theorem oe:Tryz.prog.follows .mixedOrders=true:=by kernel_rfl
theorem rc:BOK Tryz.prog 25 #[.int .i64 0,.int .i64 0,.int .i64 0,.bool false,.string ⟨#[]⟩] [(0,1),(1,1),(2,1),(3,2)]:=BOK.mk Tryz.zeroValue25 OV (by intro w; simp)
theorem rd:BOK Tryz.prog 32 #[.string ⟨#[]⟩,.int .i64 0,.int .i64 0,.bool false] [(0,1),(1,1),(2,1),(3,1)]:=BOK.mk Tryz.zeroValue32 OI (by intro w; simp)
theorem re:BOK Tryz.prog 38 #[.int .i64 0,.int .i64 0,.int .i64 0,.bool false,.string ⟨#[]⟩,.bool false,.string ⟨#[]⟩,.int .i64 0,.int .i64 0,.int .i64 0,.string ⟨#[]⟩,.int .i64 0,.int .i64 0,.slice none 0 0,.string ⟨#[]⟩,.int .i64 0,.int .i64 0,.bool false,.slice none 0 0,.bool false,.string ⟨#[]⟩,.int .i64 0,.int .i64 0,.slice none 0 0] [(0,5),(5,5),(10,4),(14,4),(18,1),(19,5)]:=BOK.mk Tryz.zeroValue38 Oy (by intro w; simp)
theorem pG:SOK Tryz.prog 74 3 0 1 #[]:=SOK.mk0 NN NG
theorem pH:SOK Tryz.prog 74 3 1 1 #[.int .i64 0]:=SOK.mk NN NG Tryz.zeroValue3 QS QU
theorem pI:SOK Tryz.prog 75 53 1 18 #[.int .i64 0,.int .i64 0,.int .i64 0,.bool false,.string ⟨#[]⟩,.bool false,.string ⟨#[]⟩,.int .i64 0,.int .i64 0,.int .i64 0,.slice none 0 0,.bool false,.slice none 0 0,.bool false,.string ⟨#[]⟩,.int .i64 0,.int .i64 0,.slice none 0 0]:=SOK.mk P2 Ot Tryz.zeroValue53 QS QU
theorem kP:SOK Tryz.prog 78 9 1 1 #[.string ⟨#[]⟩]:=SOK.mk OU N6 Tryz.zeroValue9 QS QU
theorem rY:(Tryz.prog.info? 3).map (fun i=>(i.zero,i.size,i.bytes))=some (some (.int .i64 0),1,8):=by kernel_rfl
theorem my:(Tryz.prog.info? 9).map (fun i=>(i.zero,i.size,i.bytes))=some (some (.string ⟨#[]⟩),1,16):=by kernel_rfl
theorem rf:(Tryz.prog.info? 38).map (fun i=>(i.zero,i.size,i.bytes))=some (some (.agg #[.int .i64 0,.int .i64 0,.int .i64 0,.bool false,.string ⟨#[]⟩,.bool false,.string ⟨#[]⟩,.int .i64 0,.int .i64 0,.int .i64 0,.string ⟨#[]⟩,.int .i64 0,.int .i64 0,.slice none 0 0,.string ⟨#[]⟩,.int .i64 0,.int .i64 0,.bool false,.slice none 0 0,.bool false,.string ⟨#[]⟩,.int .i64 0,.int .i64 0,.slice none 0 0]),24,280):=by kernel_rfl
theorem rg:(Tryz.prog.info? 53).map (fun i=>(i.zero,i.size,i.bytes))=some (some (.agg #[.int .i64 0,.int .i64 0,.int .i64 0,.bool false,.string ⟨#[]⟩,.bool false,.string ⟨#[]⟩,.int .i64 0,.int .i64 0,.int .i64 0,.slice none 0 0,.bool false,.slice none 0 0,.bool false,.string ⟨#[]⟩,.int .i64 0,.int .i64 0,.slice none 0 0]),18,216):=by kernel_rfl
def mI  : Option (Bool):=(nB (⟨(⟨26,0,0,(⟨false,[]⟩:Bl)⟩:fO),(⟨(⟨false,[]⟩:Bl),0,0,0⟩:bd),(⟨[],0,0,[]⟩:bZ),(⟨[97],0,0,false⟩:bY),[],(⟨(⟨false,[]⟩:Bl),0,0,[]⟩:aA)⟩:ay)).bind fun (x1,x2)=>(lZ).bind fun st4=>(if x2=0 then (if (x1.length:Int)=28 then some false else some true) else some true).bind fun y9=>if y9=true then some false else (if 9<=x1.length then ((dv st4 (x1.take 9)).bind fun (x15,x18,st19)=>if 9<=x1.length then ((dv st19 (x1.drop 9)).bind fun (x22,x25,st26)=>(if (x15.length:Int)=0 then (if x18=0 then (if (x22.length:Int)=1 then (if x25=0 then ((jm st26).bind fun (x49,st50)=>if x49=1 then ((dh st50).bind fun (x53,st54)=>if x53=0 then some (true,st54.fcount.fmany,st54.fcount.fat,st54.fheld,st54.ferr) else some (false,st54.fcount.fmany,st54.fcount.fat,st54.fheld,st54.ferr)) else some (false,st50.fcount.fmany,st50.fcount.fat,st50.fheld,st50.ferr)) else some (false,st26.fcount.fmany,st26.fcount.fat,st26.fheld,st26.ferr)) else some (false,st26.fcount.fmany,st26.fcount.fat,st26.fheld,st26.ferr)) else some (false,st26.fcount.fmany,st26.fcount.fat,st26.fheld,st26.ferr)) else some (false,st26.fcount.fmany,st26.fcount.fat,st26.fheld,st26.ferr)).bind fun (y39,y40,y41,y42,y43)=>some y39) else none) else none)
theorem t8  (r:Bool) (h:mI  = some r):aG Tryz.prog 26 #[] .triv (aL) (fun v A' N=>v= .bool r/\A'=aL/\N = []):=by
 refine aU Tryz.func26 Z Tryz.ntmps26 Z ?_;intro F w hX;unfold mI at h;refine KN Z (Le ag Z Z ?_);refine KO Z (Lo (cells:= #[jI 26,jI 0,jI 0,.bool false,.string ⟨#[]⟩]) rc Z QU) Z ?_;refine KO Z (Lo (cells:= #[.string ⟨#[97]⟩,jI 0,jI 0,.bool false]) rd Z QU) Z ?_;refine KO Z (Lo (cells:= #[jI 26,jI 0,jI 0,.bool false,.string ⟨#[]⟩,.bool false,.string ⟨#[]⟩,jI 0,jI 0,jI 0,.string ⟨#[]⟩,jI 0,jI 0,.slice none 0 0,.string ⟨#[97]⟩,jI 0,jI 0,.bool false,.slice none 0 0,.bool false,.string ⟨#[]⟩,jI 0,jI 0,.slice none 0 0]) re Z QU) Z ?_;obtain⟨⟨x1,x2⟩,hx3,h⟩:=Ny h;refine Lb Z .u (.fn Tryz.call12 Z) (rS (⟨(⟨26,0,0,(⟨false,[]⟩:Bl)⟩:fO),(⟨(⟨false,[]⟩:Bl),0,0,0⟩:bd),(⟨[],0,0,[]⟩:bZ),(⟨[97],0,0,false⟩:bY),[],(⟨(⟨false,[]⟩:Bl),0,0,[]⟩:aA)⟩:ay) _ _ _ _ _ _ _ hx3) (fun _ hs=>(RX.reads_and ma (RX.reads_and ma ma))) Z (KM ag 5 Z ?_);obtain⟨st4,hx5,h⟩:=Ny h;refine Ld Z (Mb Z .u (.fn Tryz.call27 Z) (o6 _ hx5) rT Z ?_);rintro _ _ _ ⟨b6,rfl,rfl,rfl⟩;refine Lt [0,0] Z (KX ag Z (L0 ?_));obtain⟨y9,h,hk10⟩:=Ny h;refine LE (fun e Rs=>e = [(0,.bool false),(1,jS x1),(3,jP b6),(26,.bool y9)]/\Rs = [aV b6 149 (xv st4),aL]) ?_ ?_
 ·clear hk10;refine T.region Z ?_;rcases jF h with⟨c11,h⟩ | ⟨c11,h⟩
  ·refine KM ag 3 Z (KV 18 Z (bi (NB c11)) (KW ag 1 Z (TL.q Z (.g Z Z Z) (LD Z NK) Z ?_)));rcases jF h with⟨c12,h⟩ | ⟨c12,h⟩
   ·refine KW ag 3 Z (KV 23 Z (bi (NB c12)) (KW ag 1 Z (TL.q Z (.g Z Z Z) (Ex.pNe (.inl ⟨Z,Z⟩) Z Z Tryz.runUnderlying76) Z (KW ag 1 Z ?_))));cases h;exact TL.nil (K0 [0,0])
   refine KW ag 3 Z (KV 23 Z (bF (NC c12)) (KW ag 3 Z ?_));cases h;exact TL.nil (K0 [0,0])
  refine KM ag 3 Z (KV 18 Z (bF (NC c11)) (KW ag 8 Z ?_));cases h;exact TL.nil (K0 [0,0])
 rintro _ _ ⟨rfl,rfl⟩;clear h;have h:=hk10;clear hk10;try dsimp only at h
 rcases jF h with⟨c13,h⟩ | ⟨c13,h⟩
 ·refine X.seq (K1 Z c13 (KN Z (KM ag 1 Z ?_)));obtain rfl:=Nz h;exact KP (T.ret (KT (KY [1] Tryz.results26 (KQ Z))))
 replace c13:=NF c13;refine X.seq (Li Z c13 (Lk Z ?_));obtain⟨c14,h⟩:=al h;refine KM ag 2 Z ?_;replace c14:9<=x1.length:=c14;refine KO Z (Mj (p:=0) (q:=9) (m:=(x1.take 9)) Z NK .none (.some Z Z) (by first | omega | (dsimp only; omega)) (by simp)) Z ?_;obtain⟨⟨x15,x18,st19⟩,hx20,h⟩:=Ny h;refine TL.cg0 Z .u (.fn Tryz.call29 Z) (fW b6 st4 (x1.take 9) _ hx20) sT Z ?_;rintro _ _ _ ⟨A16,c17,rfl,rfl,rfl⟩;refine Lt [0,0,0] Z (Le ag Z Z ?_);obtain⟨c21,h⟩:=al h;refine KM ag 2 Z ?_;replace c21:9<=x1.length:=c21;refine KO Z (Mj (p:=9) (q:=x1.length) (m:=(x1.drop 9)) Z NK (.some Z Z) .none (by first | omega | (dsimp only; omega)) (rk _ _)) Z ?_;obtain⟨⟨x22,x25,st26⟩,hx27,h⟩:=Ny h;refine My Z .u (.fn Tryz.call29 Z) (fW b6 st19 (x1.drop 9) _ hx27) sT Z ?_;rintro _ _ _ ⟨A23,c24,rfl,rfl,rfl⟩;refine Lt [0,0,0,0] Z (KX ag Z (T.seq ?_));obtain⟨⟨y39,y40,y41,y42,y43⟩,h,hk44⟩:=Ny h;refine LE (fun e Rs=>e = [(0,.bool y39)]/\Rs = [RdR (aq 24 bW) [.slice A23 x22.length c24] x22,RdR (aq 24 bW) [.slice A16 x15.length c17] x15,aV b6 149 (vA20 y40 y41 y42 y43),aL]) ?_ ?_
 ·clear hk44;refine T.region Z (KM ag 1 Z (KO Z (K4 Z OZ) Z ?_));rcases jF h with⟨c45,h⟩ | ⟨c45,h⟩
  ·refine KM ag 2 Z (KV 44 Z (NB c45) ?_);rcases jF h with⟨c46,h⟩ | ⟨c46,h⟩
   ·refine KW ag 4 Z (KV 48 Z (NB c46) (KW ag 1 Z (TL.q Z (.g Z Z Z) (K4 Z OZ) Z ?_)));rcases jF h with⟨c47,h⟩ | ⟨c47,h⟩
    ·refine KW ag 3 Z (KV 53 Z (NB c47) ?_);rcases jF h with⟨c48,h⟩ | ⟨c48,h⟩
     ·refine KW ag 4 Z (KV 57 Z (NB c48) ?_);obtain⟨⟨x49,st50⟩,hx51,h⟩:=Ny h;refine KW ag 1 Z (KZ 2 Z Z (.g Z Z Z) (.fn Tryz.call34 Z) (nM b6 st26 _ hx51) sT Z Z ?_);rcases jF h with⟨c52,h⟩ | ⟨c52,h⟩
      ·refine KW ag 3 Z (KV 62 Z (NB c52) ?_);obtain⟨⟨x53,st54⟩,hx55,h⟩:=Ny h;refine KW ag 1 Z (KZ 2 Z Z (.g Z Z Z) (.fn Tryz.call32 Z) (jl b6 st50 _ hx55) sT Z Z (KW ag 3 Z ?_));rcases jF h with⟨c56,h⟩ | ⟨c56,h⟩
       ·cases h;exact TL.nil (LH (d:=0) (v':= .bool true) Z (congrArg Value.bool (NB c56)) (K0 [0,0,0,0]))
       cases h;exact TL.nil (LH (d:=0) (v':= .bool false) Z (congrArg Value.bool (NC c56)) (K0 [0,0,0,0]))
      refine KW ag 3 Z (KV 62 Z (NC c52) (KW ag 5 Z ?_));cases h;exact TL.nil (K0 [0,0,0,0])
     refine KW ag 4 Z (KV 57 Z (NC c48) (KW ag 10 Z ?_));cases h;exact TL.nil (K0 [0,0,0,0])
    refine KW ag 3 Z (KV 53 Z (NC c47) (KW ag 14 Z ?_));cases h;exact TL.nil (K0 [0,0,0,0])
   refine KW ag 4 Z (KV 48 Z (NC c46) (KW ag 19 Z ?_));cases h;exact TL.nil (K0 [0,0,0,0])
  refine KM ag 2 Z (KV 44 Z (NC c45) (KW ag 23 Z ?_));cases h;exact TL.nil (K0 [0,0,0,0])
 rintro _ _ ⟨rfl,rfl⟩;clear h;have h:=hk44;clear hk44;obtain rfl:=Nz h;exact X.seq (T.ret (KY [3] Tryz.results26 (KQ Z)))
def gw:List Int->List UInt8->List (List UInt8)->Option (List UInt8×List (List UInt8))
 | [],y3,y4=>some (y3,y4)
 | x12::xs,y3,y4=>(if -9223372036854775808<=x12/\x12<=9223372036854775807 then (if (y3.length:Int)<x12 then some (y3.length:Int) else some x12) else none).bind fun y18=>if 0<=y18/\y18.toNat<=y3.length then (if 0<=y18/\y18.toNat<=y3.length then (if (y4.length+1)*16<=140737488355328 then (gw xs (y3.drop y18.toNat) (y4 ++ [(y3.take y18.toNat)])) else none) else none) else none
def o8 (a0:List UInt8) (a1:List Int):Option (List (List UInt8)):=(gw a1 a0 []).bind fun (y28,y29)=>if (y29.length+1)*16<=140737488355328 then some (y29 ++ [y28]) else none
theorem yL (a0:List UInt8) (a1:List Int) (A1:Option Addr) (c2:Nat) (r:List (List UInt8)) (h:o8 a0 a1=some r):aG Tryz.prog 28 #[jS a0,.slice A1 a1.length c2] (RX.of (aq 1 u8E) [.slice A1 a1.length c2] a1) (aL) (fun v A' N=> ∃ (A41:Option Addr) (c42:Nat),v= .slice A41 r.length c42/\A'=aL/\N = [RdR (aq 1 mW) [.slice A41 r.length c42] r]):=by
 refine aU Tryz.func28 Z Tryz.ntmps28 Z ?_;intro F w hX;unfold o8 at h;refine KN Z (Le ag Z Z (KX ag Z (T.seq (KN Z (KM ag 1 Z (KO Z (K4 Z OT) Z (KM ag 1 Z ?_)))))));refine KP (T.block (LY 9 1 mW ?_));obtain⟨E8,hE9,hO10⟩:=Ny h;have hk14len:=LG hX;refine LB (fun m e Rs=> ∃ (y3:List UInt8) (y4:List (List UInt8)) (A5:Option Addr) (c6:Nat) (k7:Nat),k7+m=a1.length/\e = [(0,jS y3),(4,.slice none 0 0),(5,.slice A5 y4.length c6),(9,.slice A1 a1.length c2),(10,jI (a1.length:Int)),(11,jI (k7:Int))]/\Rs = [bG 9 1 mW (.slice A5 y4.length c6) y4,aL]/\gw (a1.drop k7) y3 y4=some E8) (a1.length) [0,0] ⟨a0,[],none,0,0,by simp,Z,Z,by rw[List.drop_zero]; exact hE9⟩ QW QW ?_;clear hE9 h;rintro m11 _ _ ⟨y3,y4,A5,c6,k7,hk14,rfl,rfl,h⟩
 cases m11 with
 | zero =>
  rw[List.drop_of_length_le QR,gw] at h;have hk14ge: ¬ ((k7:Int)<(a1.length:Int)):=by omega
  refine KN Z (KX ag Z (T.seq (Li Z (NC hk14ge) ?_)));obtain rfl:=Nz h;replace h:=hO10;clear hO10;refine T.exit (K5 (K5 (Ly (X.seq (KN Z (KM ag 2 Z (L4 (cells:= #[jS y3]) Z .u kP Z QW Z (fun b37=> ?_))))))));obtain⟨c38,h⟩:=al h;refine MF 0 Z .u (us := [jS y3]) (u:=y3) (l:=y4) (E:=mW) Tryz.underlying78 my Z QS Z Z Z Z Z Z (fun _ _=>Z) (by have hq:=c38; omega) (by have hq:=c38; omega) Z (fun A39 c40=> ?_);refine Lt [0,0] Z (KM ag 1 Z ?_);obtain rfl:=Nz h;exact KP (T.ret (Ms QS 0 Z (LJ [0,0] Z (Ll [1,0] Tryz.results28 (KQ Z) ⟨_,_,Z,Z,Z⟩ QW (.inl Z)))))
 | succ m11 =>
  obtain⟨x12,hxx12⟩: ∃ x,a1[k7]? = some x:=⟨_,List.getElem?_eq_getElem QR⟩;rw[bH hxx12,gw] at h;have hk14lt:(k7:Int)<(a1.length:Int):=by omega
  refine KN Z (KX ag Z (T.seq (K1 Z (NB hk14lt) ?_)));obtain⟨gz15,oz15,rfl,z15cs,z15cl,z15cc,z15nf,z15r⟩:=Lm QS hX hxx12;obtain⟨z15S,z15r,z15rr⟩:=z15r;obtain rfl:z15cs = [.int .u8 x12]:=z15r;refine K8 (T.seq (T.block (KN Z ?_)));refine KO Z (K6 (k:=k7) Z Z Z OT Tryz.sizeOf5 (ND hxx12).1) Z ?_;refine KO Z (Lw 0 Z Tryz.isAgg5 z15nf z15cc Z Z) Z (KX ag Z (T.seq ?_));obtain⟨y18,h,hk19⟩:=Ny h;refine LE (fun e Rs=>e = [(0,jS y3),(4,.slice none 0 0),(5,.slice A5 y4.length c6),(8,jI y18),(9,.slice (some ⟨gz15,oz15,none⟩) a1.length c2),(10,jI (a1.length:Int)),(11,jI (k7:Int))]/\Rs = [bG 9 1 mW (.slice A5 y4.length c6) y4,aL]) ?_ ?_
  ·clear hk19;refine T.region Z ?_;obtain⟨c20,h⟩:=al h;refine KM ag 1 Z (KO Z (Mi Z O0 ON c20) Z (KM ag 1 Z (KO Z (LD Z NK) Z ?_)));rcases jF h with⟨c21,h⟩ | ⟨c21,h⟩
   ·refine KO Z (Ex.miny Z Z c21) Z (KM ag 1 Z ?_);cases h;exact TL.nil (K0 [0,0])
   refine KO Z (Ex.minx Z Z c21) Z (KM ag 1 Z ?_);cases h;exact TL.nil (K0 [0,0])
  rintro _ _ ⟨rfl,rfl⟩;clear h;have h:=hk19;clear hk19;refine X.seq (Ls (.q 0 (.q 1 (.q 2 (.q 3 (.q 6 (.q 7 (.q 8 (.e 4 (.e 5 (.q 9 (.q 10 .nil))))))))))) [1] Z oe (NoP.blk (NoP.seq (NoP.seq (NoP.blk (NoP.seq bq))))) QU ?_);obtain⟨c22,h⟩:=al h;refine TD.run ag [0,1,2] Z Z ?_;replace c22:0<=y18/\y18.toNat<=y3.length:=c22;refine KU Z (Mj (p:=0) (q:=y18.toNat) (m:=(y3.take y18.toNat)) Z NK .none (.some Z ((Int.toNat_of_nonneg c22.1).symm)) (by first | omega | (dsimp only; omega)) (by simp)) Z ?_;obtain⟨c23,h⟩:=al h;refine TD.run ag [6,7] Z Z ?_;replace c23:0<=y18/\y18.toNat<=y3.length:=c23;refine KU Z (Mj (p:=y18.toNat) (q:=y3.length) (m:=(y3.drop y18.toNat)) Z NK (.some Z ((Int.toNat_of_nonneg c23.1).symm)) .none (by first | omega | (dsimp only; omega)) (rk _ _)) Z ?_;refine L8 (cells:= #[.string (ba (y3.take y18.toNat))]) Z .u kP Z QW Z [2] (fun _=>Z) (fun b24=> ?_);obtain⟨c25,h⟩:=al h;refine MG 0 Z .u (us := [.string (ba (y3.take y18.toNat))]) (u:=(y3.take y18.toNat)) (l:=y4) (E:=mW) Tryz.underlying78 my Z QS Z Z Z Z Z Z (fun _ _=>Z) (by have hq:=c25; omega) (by have hq:=c25; omega) Z [1] (fun _ _=>Z) (fun A26 c27=> ?_);exact LV [0,0] Z (TD.run ag [9,10] Z Z (TD.nil (La (X.seq (T.region Z (KO Z (Ex.add Z Z QR) Z (KM ag 1 Z (TL.nil (X.back (m':=m11) [0,0] QR ⟨(y3.drop y18.toNat),(y4 ++ [(y3.take y18.toNat)]),A26,c27,k7+1,by omega,Z,Z,h⟩ QW QW)))))))))
def gD (a1:List cI):List ay->Bool->Nat->Option (Lp Bool Bool)
 | [],y6,k7=>some (Lp.go y6)
 | x12::xs,y6,k7=>(a1[k7]?).bind fun x60=>(jO x12).bind fun x72=>(nh x72 x60).bind fun x80=>if x80=true then (gD a1 xs y6 (k7+1)) else some (Lp.ret false)
def lu (a0:List ay) (a1:List cI):Option (Bool):=if (a0.length:Int)=(a1.length:Int) then ((gD a1 a0 false 0).bind fun e=>match e with | .ret r=>some r | .go y83=>some true) else some false
theorem wF (a0:List ay) (A1:Option Addr) (c2:Nat) (a1:List cI) (A3:Option Addr) (c4:Nat) (r:Bool) (h:lu a0 a1=some r):aG Tryz.prog 30 #[.slice A1 a0.length c2,.slice A3 a1.length c4] (RX.and (RX.of (aq 24 bW) [.slice A1 a0.length c2] a0) (RX.of (aq 18 eV) [.slice A3 a1.length c4] a1)) (aL) (fun v A' N=>v= .bool r/\A'=aL/\N = []):=by
 refine aU Tryz.func30 Z Tryz.ntmps30 Z ?_;intro F w hX;obtain⟨S,hS,hSF⟩:=hX;have hX:(RX.and (RX.of (aq 24 bW) [.slice A1 a0.length c2] a0) (RX.of (aq 18 eV) [.slice A3 a1.length c4] a1)).reads w F:=⟨S,hS,hSF⟩;unfold lu at h;refine KN Z (KX ag Z (T.seq (KN Z (KM ag 1 Z (KO Z (K4 Z OZ) Z (KM ag 1 Z (KO Z (K4 Z P2) Z (KM ag 1 Z ?_))))))));rcases jF h with⟨c5,h⟩ | ⟨c5,h⟩
 ·refine Lr Z c5 (K8 (T.seq (KN Z (KM ag 1 Z (KO Z (K4 Z OZ) Z (KX ag Z (T.block ?_)))))));obtain⟨E8,hE9,hO10⟩:=Ny h;have hk14len:=LG (Lx hX);refine LB (fun m e Rs=> ∃ (y6:Bool) (k7:Nat),k7+m=a0.length/\e = [(1,.slice A3 a1.length c4),(4,.bool y6),(12,.slice A1 a0.length c2),(13,jI (a0.length:Int)),(14,jI (k7:Int))]/\Rs = [aL]/\gD a1 (a0.drop k7) y6 k7=some E8) (a0.length) [0] ⟨false,0,by simp,Z,Z,by rw[List.drop_zero]; exact hE9⟩ QW QW ?_;clear hE9 h;rintro m11 _ _ ⟨y6,k7,hk14,rfl,rfl,h⟩
  cases m11 with
  | zero =>
   rw[List.drop_of_length_le QR,gD] at h;have hk14ge: ¬ ((k7:Int)<(a0.length:Int)):=by omega
   refine KN Z (KX ag Z (T.seq (Li Z (NC hk14ge) ?_)));obtain rfl:=Nz h;replace h:=hO10;clear hO10;refine T.exit (K5 (K5 (Ly (X.seq (KN Z (KM ag 1 Z ?_))))));obtain rfl:=Nz h;exact KP (T.ret (KY [0] Tryz.results30 (KQ Z)))
  | succ m11 =>
   obtain⟨x12,hxx12⟩: ∃ x,a0[k7]? = some x:=⟨_,List.getElem?_eq_getElem QR⟩;rw[bH hxx12,gD] at h;have hk14lt:(k7:Int)<(a0.length:Int):=by omega
   refine KN Z (KX ag Z (T.seq (K1 Z (NB hk14lt) (K8 (T.seq (T.block (KN Z ?_)))))));obtain⟨gz49,oz49,rfl,z49cs,z49cl,z49cc,z49nf,z49r⟩:=MC QS hS.1 hSF hxx12;obtain⟨A50,c51,A52,c53,A54,c55,rfl,z49s0,z49s1,z49s2⟩:=z49r;have hX56:(RX.of (aq 2 bh) [.slice A50 x12.Nj.MN.length c51] x12.Nj.MN).reads w F:=⟨S,z49s0,hSF⟩;have hX57:(RX.of (aq 5 bf) [.slice A52 x12.Nb.length c53] x12.Nb).reads w F:=⟨S,z49s1,hSF⟩;have hX58:(RX.of (aq 2 aP) [.slice A54 x12.MZ.MN.length c55] x12.MZ.MN).reads w F:=⟨S,z49s2,hSF⟩;refine KM ag 1 Z ?_;refine KO Z (K6 (k:=k7) Z Z Z OZ NS (ND hxx12).1) Z ?_;refine KO Z (LM (us:=wd x12 A50 A52 A54 c51 c53 c55) 0 Z Og NS z49nf z49cc Z Z Z) Z (TL.alloc Z .u Tryz.zeroValue38 Z (fun b59=>(KM ag 1 Z (K3 0 Z (cs':=oh x12 A50 A52 A54 c51 c53 c55) Z .u Z Z NS Z Z Z Z Z ?_))));refine KP (T.seq (Ls (.q 0 (.q 2 (.q 3 (.q 4 (.q 5 (.e 1 (.e 6 (.q 7 .nil)))))))) [0,0] Z oe (NoP.seq (NoP.blk (NoP.seq (NoP.seq (NoP.blk (NoP.seq bq)))))) QU ?_));refine KU Z (K9 (us:=wd x12 A50 A52 A54 c51 c53 c55) 0 Z Og NS Z Z Z) Z ?_;obtain⟨x60,hx61,h⟩:=Ny h;obtain⟨gz62,oz62,rfl,z62cs,z62cl,z62cc,z62nf,z62r⟩:=MC QS hS.2 hSF hx61;obtain⟨A63,c64,A65,c66,A67,c68,rfl,z62s0,z62s1,z62s2⟩:=z62r;have hX69:(RX.of (aq 2 bh) [.slice A63 x60.Ni.MN.length c64] x60.Ni.MN).reads w F:=⟨S,z62s0,hSF⟩;have hX70:(RX.of (aq 5 co) [.slice A65 x60.Nb.length c66] x60.Nb).reads w F:=⟨S,z62s1,hSF⟩;have hX71:(RX.of (aq 2 bR) [.slice A67 x60.MZ.MN.length c68] x60.MZ.MN).reads w F:=⟨S,z62s2,hSF⟩;refine TD.run ag [2,3] Z Z ?_;refine KU Z (K6 (k:=k7) Z Z Z P2 Ot (ND hx61).1) Z ?_;refine KU Z (LM (us:=wL23 x60 A63 A65 A67 c64 c66 c68) 0 Z Pc Ot z62nf z62cc Z Z Z) Z ?_;obtain⟨x72,hx79,h⟩:=Ny h;refine TD.cso  Z .u (.fn Tryz.call14 Z) (lC x12 _ _ _ _ _ _ _ hx79) ⟨z49s0,z49s1,z49s2⟩ hSF Z [3,3] ?_ ?_
   ·rintro _ _ _ ⟨A73,c74,A75,c76,A77,c78,rfl,rfl,rfl⟩;rfl
   rintro _ _ _ ⟨A73,c74,A75,c76,A77,c78,rfl,rfl,rfl⟩;refine LV [0,0,0,0,0] Z ?_;obtain⟨x80,hx81,h⟩:=Ny h;refine LF Z .u (.fn Tryz.call17 Z) (wy x72 _ _ _ _ _ _ x60 _ _ _ _ _ _ _ hx81) (fun _ hs=>(RX.reads_and (L7 0 hs Z mC hSF) (RX.reads_and (L7 1 hs Z mC hSF) (RX.reads_and (L7 2 hs Z mC hSF) (RX.reads_and (K7 hs hX69) (RX.reads_and (K7 hs hX70) (K7 hs hX71))))))) Z [3,3] (Z) (TD.run ag [7] Z Z ?_);rcases jF h with⟨c82,h⟩ | ⟨c82,h⟩
   ·exact LK (Li Z (bi c82) (T.skip (La (X.seq (T.region Z (KO Z (Ex.add Z Z QR) Z (KM ag 1 Z (TL.nil (X.back (m':=m11) [4] QR ⟨y6,k7+1,by omega,Z,Z,h⟩ QW QW)))))))))
   replace c82:=NF c82;refine LK (K1 Z (bF c82) (KN Z (KM ag 1 Z ?_)));obtain rfl:=Nz h;obtain rfl:=Nz hO10;exact KP (T.ret (K2 (KT (KT (K2 (KT (KY [4] Tryz.results30 (KQ Z))))))))
 refine Lq Z c5 (KN Z (KM ag 1 Z ?_));obtain rfl:=Nz h;exact KP (T.ret (KT (KY [0] Tryz.results30 (KQ Z))))
def dw:List ay->Bool->List UInt8->List Int->List cI->Option (Lp Bool (Bool×List UInt8×List Int×List cI))
 | [],y15,y16,y17,y20=>some (Lp.go (y15,y16,y17,y20))
 | x28::xs,y15,y16,y17,y20=>((mQ x28).bind fun x57=>if x57=0 then some true else ((jO x28).bind fun x60=>(lO x60).bind fun x68=>if x68=0 then some false else some true)).bind fun y55=>if y55=true then some (Lp.ret true) else ((jO x28).bind fun x72=>(ky x72).bind fun x80=>if y16.length+x80.length<=9223372036854775807 then ((jO x28).bind fun x83=>if (y20.length+1)*216<=140737488355328 then (if (y17.length+1)*8<=140737488355328 then (dw xs y15 (y16++x80) (y17 ++ [((y16++x80).length:Int)]) (y20 ++ [x83])) else none) else none) else none)
def dx:List (List UInt8)->Bool->List ay->Int->Int->List UInt8->Int->Option (Lp Bool (Bool×List ay×Int×Int×List UInt8×Int))
 | [],y394,y395,y399,y400,y401,y402=>some (Lp.go (y394,y395,y399,y400,y401,y402))
 | x407::xs,y394,y395,y399,y400,y401,y402=>(dv (⟨(⟨y399,y400⟩:eJ),y401,y402⟩:aX) x407).bind fun (x411,x414,st415)=>if x414=0 then (if (y395.length+x411.length)*280<=140737488355328 then (dx xs y394 (y395++x411) st415.fcount.fmany st415.fcount.fat st415.fheld st415.ferr) else none) else none
def dy (a2:Int) (y16:List UInt8) (y17:List Int):Nat->Nat->Int->Option (Nat×Int)
 | 0,_,_=>none
 | m366+1,k361,y362=>(if (k361:Int)<(y17.length:Int) then ((y17[k361]?).bind fun x377=>if x377<=(a2 % ((y16.length:Int)+1)) then some true else some false) else some false).bind fun y374=>if y374=true then ((y17[k361]?).bind fun x382=>if -9223372036854775808<=((k361:Int)+1)/\((k361:Int)+1)<=9223372036854775807 then (dy a2 y16 y17 m366 (k361+1) x382) else none) else some (k361,y362)
def jT (a0:List ay) (a1:List Int) (a2:Int):Option (Bool):=(mI).bind fun x5=>if x5=true then ((if (a0.length:Int)>6 then some true else (if (a1.length:Int)>200 then some true else some false)).bind fun y9=>if y9=true then some true else ((dw a0 false [] ([]:List Int) []).bind fun e=>match e with | .ret r=>some r | .go (y99,y100,y101,y104)=>(if -9223372036854775808<=a2/\a2<=9223372036854775807 then (if -9223372036854775808<=((y100.length:Int)+1)/\((y100.length:Int)+1)<=9223372036854775807 then (if 1<=((y100.length:Int)+1)/\0<=a2 then ((dy a2 y100 y101 (((y101.length:Int)).toNat+1) 0 0).bind fun (k246,y247)=>(lZ).bind fun st248=>if 0<=(a2 % ((y100.length:Int)+1))/\(a2 % ((y100.length:Int)+1)).toNat<=y100.length then ((o8 (y100.take ((a2 % ((y100.length:Int)+1)).toNat)) a1).bind fun x252=>(dx x252 y99 [] st248.fcount.fmany st248.fcount.fat st248.fheld st248.ferr).bind fun e=>match e with | .ret r=>some r | .go (y283,y284,y288,y289,y290,y291)=>((if y247<(a2 % ((y100.length:Int)+1)) then ((some 1:Option (Int))) else ((some 0:Option (Int)))).bind fun y293=>(if k246<=y104.length then ((lu y284 (y104.take k246)).bind fun x314=>if x314=true then ((ip (⟨(⟨y288,y289⟩:eJ),y290,y291⟩:aX)).bind fun (x317,st318)=>if x317=y247 then ((dh st318).bind fun (x321,st322)=>if x321=y293 then some (true,st322.fcount.fmany,st322.fcount.fat,st322.fheld,st322.ferr) else some (false,st322.fcount.fmany,st322.fcount.fat,st322.fheld,st322.ferr)) else some (false,st318.fcount.fmany,st318.fcount.fat,st318.fheld,st318.ferr)) else some (false,y288,y289,y290,y291)) else none).bind fun (y307,y308,y309,y310,y311)=>some y307)) else none) else none) else none) else none))) else none
theorem f_l22_SplitRows_spec (a0:List ay) (A1:Option Addr) (c2:Nat) (a1:List Int) (A3:Option Addr) (c4:Nat) (a2:Int) (r:Bool) (h:jT a0 a1 a2=some r):aG Tryz.prog 6 #[.slice A1 a0.length c2,.slice A3 a1.length c4,.int .u16 a2] (RX.and (RX.of (aq 24 bW) [.slice A1 a0.length c2] a0) (RX.of (aq 1 u8E) [.slice A3 a1.length c4] a1)) (aL) (fun v A' N=>v= .bool r/\A'=aL/\N = []):=by
 refine aU Tryz.func6 Z Tryz.ntmps6 Z ?_;intro F w hX;obtain⟨S,hS,hSF⟩:=hX;have hX:(RX.and (RX.of (aq 24 bW) [.slice A1 a0.length c2] a0) (RX.of (aq 1 u8E) [.slice A3 a1.length c4] a1)).reads w F:=⟨S,hS,hSF⟩;unfold jT at h;refine KN Z (KM ag 1 Z ?_);obtain⟨x5,hx6,h⟩:=Ny h;refine KP (T.seq (KN Z (Lb Z .u (.fn Tryz.call26 Z) (t8 _ hx6) rT Z (KM ag 1 Z ?_))));rcases jF h with⟨c7,h⟩ | ⟨c7,h⟩
 ·refine KP (Li Z (bi c7) (K8 (L0 ?_)));obtain⟨y9,h,hk10⟩:=Ny h;refine LE (fun e Rs=>e = [(0,.slice A1 a0.length c2),(1,.slice A3 a1.length c4),(2,.int .u16 a2),(6,.bool false),(31,.bool y9)]/\Rs = [aL]) ?_ ?_
  ·clear hk10;refine T.region Z (KM ag 1 Z (KO Z (K4 Z OZ) Z ?_));rcases jF h with⟨c11,h⟩ | ⟨c11,h⟩
   ·refine KM ag 2 Z (KV 27 Z (NB c11) (KW ag 4 Z ?_));cases h;exact TL.nil (K0 [0])
   refine KM ag 2 Z (KV 27 Z (NC c11) (KW ag 1 Z (TL.q Z (.g Z Z Z) (K4 Z OT) Z (KW ag 2 Z ?_))));rcases jF h with⟨c12,h⟩ | ⟨c12,h⟩
   ·cases h;exact TL.nil (LH (d:=31) (v':= .bool true) Z (congrArg Value.bool (NB c12)) (K0 [0]))
   cases h;exact TL.nil (LH (d:=31) (v':= .bool false) Z (congrArg Value.bool (NC c12)) (K0 [0]))
  rintro _ _ ⟨rfl,rfl⟩;clear h;have h:=hk10;clear hk10;try dsimp only at h
  rcases jF h with⟨c13,h⟩ | ⟨c13,h⟩
  ·refine X.seq (K1 Z c13 (KN Z (KM ag 1 Z ?_)));obtain rfl:=Nz h;exact KP (T.ret (KT (KY [0] Tryz.results6 (KQ Z))))
  replace c13:=NF c13;refine X.seq (Li Z c13 (Lk Z (L4 (cells:= #[]) Z .u pG Z QW Z (fun b14=>(MA (us := []) (xs:=([]:List Int)) (E:=ea) (z:=1) Z (Nat.le_of_ble_eq_true Z) (fun _=>Z) (Le ag Z Z (KM ag 1 Z ?_)))))));refine KP (T.seq (KN Z (KM ag 1 Z (KO Z (K4 Z OZ) Z (KX ag Z (T.block (LY 53 18 (eW w S eV) ?_)))))));obtain⟨E24,hE25,hO26⟩:=Ny h;have hk30len:=LG (Lx hX);refine LB (fun m e Rs=> ∃ (y15:Bool) (y16:List UInt8) (y17:List Int) (A18:Option Addr) (c19:Nat) (y20:List cI) (A21:Option Addr) (c22:Nat) (k23:Nat),k23+m=a0.length/\e = [(1,.slice A3 a1.length c4),(2,.int .u16 a2),(6,.bool y15),(7,jS y16),(8,.slice A18 y17.length c19),(9,.slice A21 y20.length c22),(33,.slice A1 a0.length c2),(34,jI (a0.length:Int)),(35,jI (k23:Int))]/\Rs = [bG 53 18 (eW w S eV) (.slice A21 y20.length c22) y20,bG 3 1 ea (.slice A18 y17.length c19) y17,aL]/\dw (a0.drop k23) y15 y16 y17 y20=some E24) (a0.length) [0,0,0] ⟨false,[],([]:List Int),(some ⟨b14,0,none⟩),0,[],none,0,0,by simp,Z,Z,by rw[List.drop_zero]; exact hE25⟩ QW QW ?_;clear hE25 h;rintro m27 _ _ ⟨y15,y16,y17,A18,c19,y20,A21,c22,k23,hk30,rfl,rfl,h⟩
  cases m27 with
  | zero =>
   rw[List.drop_of_length_le QR,dw] at h;have hk30ge: ¬ ((k23:Int)<(a0.length:Int)):=by omega
   refine KN Z (KX ag Z (T.seq (Li Z (NC hk30ge) ?_)));obtain rfl:=Nz h;replace h:=hO26;clear hO26;refine T.exit (K5 (K5 (Ly (X.seq (KN Z ?_)))));obtain⟨c358,h⟩:=al h;refine KM ag 1 Z (KO Z (Mi Z Tryz.runUnderlying73 ON c358) Z (KM ag 1 Z (KO Z (LD Z NK) Z ?_)));obtain⟨c359,h⟩:=al h;refine KO Z (Ex.add Z Z c359) Z ?_;obtain⟨c360,h⟩:=al h;refine KO Z (Ex.remK Z Z c360.1 c360.2) Z (Le ag Z Z (KX ag Z (T.seq (T.block ?_))));obtain⟨E363,hE364,hO365⟩:=Ny h;refine LB (fun m e Rs=> ∃ (k361:Nat) (y362:Int),e = [(1,.slice A3 a1.length c4),(6,.bool y15),(7,jS y16),(8,.slice A18 y17.length c19),(9,.slice A21 y20.length c22),(12,jI (a2 % ((y16.length:Int)+1))),(13,jI (k361:Int)),(14,jI y362)]/\Rs = [bG 53 18 (eW w S eV) (.slice A21 y20.length c22) y20,bG 3 1 ea (.slice A18 y17.length c19) y17,aL]/\dy a2 y16 y17 m k361 y362=some E363) (((y17.length:Int)).toNat+1) [0,0,0] ⟨0,0,Z,Z,by exact hE364⟩ QW QW ?_;clear hE364 h;rintro m366 _ _ ⟨k361,y362,rfl,rfl,h⟩
   cases m366 with
   | zero =>
    rw[dy] at h;cases h
   | succ m366 =>
    rw[dy] at h;refine L0 ?_;obtain⟨y374,h,hk375⟩:=Ny h;refine LE (fun e Rs=>e = [(1,.slice A3 a1.length c4),(6,.bool y15),(7,jS y16),(8,.slice A18 y17.length c19),(9,.slice A21 y20.length c22),(12,jI (a2 % ((y16.length:Int)+1))),(13,jI (k361:Int)),(14,jI y362),(81,.bool y374)]/\Rs = [bG 53 18 (eW w S eV) (.slice A21 y20.length c22) y20,bG 3 1 ea (.slice A18 y17.length c19) y17,aL]) ?_ ?_
    ·clear hk375;refine T.region Z (KM ag 2 Z (KO Z (K4 Z NN) Z ?_));rcases jF h with⟨c376,h⟩ | ⟨c376,h⟩
     ·refine KM ag 2 Z (KV 74 Z (NB c376) ?_);obtain⟨x377,hx378,h⟩:=Ny h;refine KW ag 2 Z (Mt (E:=ea) (k:=k361) 1 Z (fun w G h=>bX QS w G h) QS hx378 ?_);rintro gz379 oz379 _ ⟨⟩ _ ⟨_,_,rfl⟩;refine Lt [0,0,0] Z ?_;refine TL.q Z (.g Z Z Z) (K6 (k:=k361) Z Z Z NN NG (ND hx378).1) Z ?_;refine TL.q Z (.g Z Z Z) (Mq (cs := [jI x377]) 1 0 Z NH Z (fun _ _ h=>h.2.2.1) Z) Z (KW ag 3 Z ?_);rcases jF h with⟨c380,h⟩ | ⟨c380,h⟩
      ·refine TL.nil (LH (d:=81) (v':= .bool true) Z (congrArg Value.bool (NB c380)) (X.unf 1 Z (LJ [0,0,0] Z ?_)));cases h;exact K0 [0,0,0]
      refine TL.nil (LH (d:=81) (v':= .bool false) Z (congrArg Value.bool (NC c380)) (X.unf 1 Z (LJ [0,0,0] Z ?_)));cases h;exact K0 [0,0,0]
     refine KM ag 2 Z (KV 74 Z (NC c376) (KW ag 7 Z ?_));cases h;exact TL.nil (K0 [0,0,0])
    rintro _ _ ⟨rfl,rfl⟩;clear h;have h:=hk375;clear hk375;try dsimp only at h
    rcases jF h with⟨c381,h⟩ | ⟨c381,h⟩
    ·refine X.seq (K1 Z c381 (K8 (T.block (KN Z ?_))));obtain⟨x382,hx383,h⟩:=Ny h;refine KM ag 2 Z (Mt (E:=ea) (k:=k361) 1 Z (fun w G h=>bX QS w G h) QS hx383 ?_);rintro gz384 oz384 _ ⟨⟩ _ ⟨_,_,rfl⟩;refine Lt [0,0,0] Z ?_;refine KO Z (K6 (k:=k361) Z Z Z NN NG (ND hx383).1) Z ?_;refine KO Z (Mq (cs := [jI x382]) 1 0 Z NH Z (fun _ _ h=>h.2.2.1) Z) Z (KX ag Z (T.region Z ?_));obtain⟨c385,h⟩:=al h;exact KM ag 1 Z (KO Z (Ex.add Z Z c385) Z (KM ag 1 Z (TL.nil (La (X.unf 1 Z (LJ [0,0,0] Z (X.back (m':=m366) [0,0,0] QR ⟨k361+1,x382,Z,Z,h⟩ QW QW)))))))
    replace c381:=NF c381;refine X.seq (Li Z c381 ?_);obtain rfl:=Nz h;replace h:=hO365;clear hO365;obtain⟨st386,hx387,h⟩:=Ny h;refine T.exit (K5 (K5 (Ly (X.seq (KN Z (Mb Z .u (.fn Tryz.call27 Z) (o6 _ hx387) rT Z ?_))))));rintro _ _ _ ⟨b388,rfl,rfl,rfl⟩;refine Lt [0,0,0,0] Z (Le ag Z Z (KX ag Z (T.seq (KN Z ?_))));obtain⟨c389,h⟩:=al h;refine KM ag 2 Z ?_;replace c389:0<=(a2 % ((y16.length:Int)+1))/\(a2 % ((y16.length:Int)+1)).toNat<=y16.length:=c389;refine KO Z (Mj (p:=0) (q:=(a2 % ((y16.length:Int)+1)).toNat) (m:=(y16.take ((a2 % ((y16.length:Int)+1)).toNat))) Z NK .none (.some Z ((Int.toNat_of_nonneg c389.1).symm)) (by first | omega | (dsimp only; omega)) (by simp)) Z ?_;obtain⟨x390,hx393,h⟩:=Ny h;refine KM ag 1 Z (Mb Z .u (.fn Tryz.call28 Z) (yL (y16.take ((a2 % ((y16.length:Int)+1)).toNat)) a1 _ _ _ hx393) (fun _ hs=>(K7 hs (Lf hX))) Z ?_);rintro _ _ _ ⟨A391,c392,rfl,rfl,rfl⟩;refine Lt [0,0,0,0,0] Z (KO Z (K4 Z OU) Z (KX ag Z (T.block (LY 38 24 bW ?_))));obtain⟨E403,hE404,hO405⟩:=Ny h;refine T.blen 1 Z (fun w G h=>xm w G h) (fun hk409len=> ?_);try dsimp only at hk409len
    refine LB (fun m e Rs=> ∃ (y394:Bool) (y395:List ay) (A396:Option Addr) (c397:Nat) (k398:Nat) (y399:Int) (y400:Int) (y401:List UInt8) (y402:Int),k398+m=x390.length/\e = [(6,.bool y394),(9,.slice A21 y20.length c22),(12,jI (a2 % ((y16.length:Int)+1))),(13,jI (k361:Int)),(14,jI y362),(15,jP b388),(16,.slice A396 y395.length c397),(93,.slice A391 x390.length c392),(94,jI (x390.length:Int)),(95,jI (k398:Int))]/\Rs = [bG 38 24 bW (.slice A396 y395.length c397) y395,RdR (aq 1 mW) [.slice A391 x390.length c392] x390,aV b388 149 (vA20 y399 y400 y401 y402),bG 53 18 (eW w S eV) (.slice A21 y20.length c22) y20,bG 3 1 ea (.slice A18 y17.length c19) y17,aL]/\dx (x390.drop k398) y394 y395 y399 y400 y401 y402=some E403) (x390.length) [0,0,0,0,0,0] ⟨y15,[],none,0,0,st386.fcount.fmany,st386.fcount.fat,st386.fheld,st386.ferr,by simp,Z,Z,by rw[List.drop_zero]; exact hE404⟩ QW QW ?_;clear hE404 h;rintro m406 _ _ ⟨y394,y395,A396,c397,k398,y399,y400,y401,y402,hk409,rfl,rfl,h⟩
    cases m406 with
    | zero =>
     rw[List.drop_of_length_le QR,dx] at h;have hk409ge: ¬ ((k398:Int)<(x390.length:Int)):=by omega
     refine KN Z (KX ag Z (T.seq (Li Z (NC hk409ge) ?_)));obtain rfl:=Nz h;replace h:=hO405;clear hO405;refine T.exit (K5 (K5 (Ly (X.seq (KN Z (KX ag Z (T.seq (KN Z (KX ag Z ?_)))))))));obtain⟨y464,h,hk465⟩:=Ny h;refine LE (fun e Rs=>e = [(6,.bool y394),(9,.slice A21 y20.length c22),(13,jI (k361:Int)),(14,jI y362),(15,jP b388),(16,.slice A396 y395.length c397),(21,jI y464)]/\Rs = [bG 38 24 bW (.slice A396 y395.length c397) y395,RdR (aq 1 mW) [.slice A391 x390.length c392] x390,aV b388 149 (vA20 y399 y400 y401 y402),bG 53 18 (eW w S eV) (.slice A21 y20.length c22) y20,bG 3 1 ea (.slice A18 y17.length c19) y17,aL]) ?_ ?_
     ·clear hk465;rcases jF h with⟨c466,h⟩ | ⟨c466,h⟩
      ·refine L2 Z c466 (T.region Z (KM ag 1 Z ?_));cases h;exact TL.nil (K0 [0,0,0,0,0,0])
      refine L3 Z c466 ?_;cases h;exact T.skip (K0 [0,0,0,0,0,0])
     rintro _ _ ⟨rfl,rfl⟩;clear h;have h:=hk465;clear hk465;refine X.seq (T.seq ?_);obtain⟨⟨y478,y479,y480,y481,y482⟩,h,hk483⟩:=Ny h;refine LE (fun e Rs=>e = [(6,.bool y478)]/\Rs = [bG 38 24 bW (.slice A396 y395.length c397) y395,RdR (aq 1 mW) [.slice A391 x390.length c392] x390,aV b388 149 (vA20 y479 y480 y481 y482),bG 53 18 (eW w S eV) (.slice A21 y20.length c22) y20,bG 3 1 ea (.slice A18 y17.length c19) y17,aL]) ?_ ?_
     ·clear hk483;refine T.region Z ?_;obtain⟨c484,h⟩:=al h;refine KM ag 3 Z ?_;refine KO Z (Ex.subS (p:=0) (q:=k361) (mm:=(y20.take k361).length) (cap_of 3 Z (fun w G h=>bX QS w G h)) Z P2 Ot .none (.some Z Z) (NY _) c484 (by rw[On,Nat.min_eq_left c484]; exact (Nat.sub_zero _).symm)) Z ?_;obtain⟨x485,hx486,h⟩:=Ny h;refine Lb Z .u (.fn Tryz.call30 Z) (wF y395 _ _ (y20.take k361) _ _ _ hx486) (fun _ hs=>(RX.reads_and (SrcE.res 0 hs Z (fun w G h=>bX QS w G h)) (L7 3 hs Z (fun w1 G1 h W h1 h2=>RX.sub ((fun w G h=>B9 QS w G h) w1 G1 h W h1 h2) (NY _) c484 (by rw[List.drop_zero,Nat.sub_zero])) hSF))) Z ?_;rcases jF h with⟨c487,h⟩ | ⟨c487,h⟩
      ·refine KM ag 1 Z (KV 119 Z c487 ?_);obtain⟨⟨x488,st489⟩,hx490,h⟩:=Ny h;refine KW ag 1 Z (KZ 2 Z Z (.g Z Z Z) (.fn Tryz.call31 Z) (o7 b388 (⟨(⟨y399,y400⟩:eJ),y401,y402⟩:aX) _ hx490) sT Z Z ?_);rcases jF h with⟨c491,h⟩ | ⟨c491,h⟩
       ·refine KW ag 4 Z (KV 125 Z (NB c491) ?_);obtain⟨⟨x492,st493⟩,hx494,h⟩:=Ny h;refine KW ag 1 Z (KZ 2 Z Z (.g Z Z Z) (.fn Tryz.call32 Z) (jl b388 st489 _ hx494) sT Z Z (KW ag 4 Z ?_));rcases jF h with⟨c495,h⟩ | ⟨c495,h⟩
        ·cases h;exact TL.nil (LH (d:=6) (v':= .bool true) Z (congrArg Value.bool (NB c495)) (K0 [0,0,0,0,0,0]))
        cases h;exact TL.nil (LH (d:=6) (v':= .bool false) Z (congrArg Value.bool (NC c495)) (K0 [0,0,0,0,0,0]))
       refine KW ag 4 Z (KV 125 Z (NC c491) (KW ag 6 Z ?_));cases h;exact TL.nil (K0 [0,0,0,0,0,0])
      replace c487:=NF c487;refine KM ag 1 Z (KV 119 Z c487 (KW ag 12 Z ?_));cases h;exact TL.nil (K0 [0,0,0,0,0,0])
     rintro _ _ ⟨rfl,rfl⟩;clear h;have h:=hk483;clear hk483;obtain rfl:=Nz h;exact X.seq (T.ret (KY [5] Tryz.results6 (KQ Z)))
    | succ m406 =>
     obtain⟨x407,hxx407⟩: ∃ x,x390[k398]? = some x:=⟨_,List.getElem?_eq_getElem QR⟩;rw[bH hxx407,dx] at h;have hk409lt:(k398:Int)<(x390.length:Int):=by omega
     refine KN Z (KX ag Z (T.seq (K1 Z (NB hk409lt) (K8 (T.seq (T.block (KN Z (Mt (E:=mW) (k:=k398) 1 Z (fun w G h=>xm w G h) QS hxx407 ?_))))))));rintro gz410 oz410 _ ⟨⟩ _ ⟨_,_,rfl⟩;refine Lt [0,0,0,0,0,0] Z ?_;refine KO Z (K6 (k:=k398) Z Z Z OU N6 (ND hxx407).1) Z ?_;refine KO Z (Mq (cs := [jS x407]) 1 0 Z Oc Z (fun _ _ h=>h.2.2.1) Z) Z (Le ag Z Z ?_);obtain⟨⟨x411,x414,st415⟩,hx416,h⟩:=Ny h;refine KM ag 2 Z (TL.cg2 Z .u (.fn Tryz.call29 Z) (fW b388 (⟨(⟨y399,y400⟩:eJ),y401,y402⟩:aX) x407 _ hx416) sT Z ?_);rintro _ _ _ ⟨A412,c413,rfl,rfl,rfl⟩;refine Lt [0,0,0,0,0,0,0] Z (KX ag Z (T.seq (KN Z (KM ag 2 Z ?_))));rcases jF h with⟨c417,h⟩ | ⟨c417,h⟩
     ·refine Lr Z c417 (K8 (T.region Z ?_));obtain⟨c418,h⟩:=al h;refine KM ag 2 Z ?_;refine TL.appB (xs:=y395) (ys:=x411) (E:=bW) 1 0 Z .u qc Tryz.underlying60 rf Z QS Z Z Z Z c418 (by have hq:=c418; omega) Z (fun A419 c420=> ?_);refine Lt [0,0,0,0,0,0] Z (KM ag 1 Z (TL.nil (La (X.seq (T.region Z (KO Z (Ex.add Z Z QR) Z (KM ag 1 Z (TL.nil (X.unf 1 Z (LJ [0,0,0,0,0,0] Z ?_))))))))));exact X.back (m':=m406) [0,0,0,0,0,0] QR ⟨y394,(y395++x411),A419,c420,k398+1,st415.fcount.fmany,st415.fcount.fat,st415.fheld,st415.ferr,by omega,Z,Z,h⟩ QW QW
     exact Lq rfl c417 (nomatch h)
  | succ m27 =>
   obtain⟨x28,hxx28⟩: ∃ x,a0[k23]? = some x:=⟨_,List.getElem?_eq_getElem QR⟩;rw[bH hxx28,dw] at h;have hk30lt:(k23:Int)<(a0.length:Int):=by omega
   refine KN Z (KX ag Z (T.seq (K1 Z (NB hk30lt) ?_)));obtain⟨gz31,oz31,rfl,z31cs,z31cl,z31cc,z31nf,z31r⟩:=MC QS hS.1 hSF hxx28;obtain⟨A32,c33,A34,c35,A36,c37,rfl,z31s0,z31s1,z31s2⟩:=z31r;have hX38:(RX.of (aq 2 bh) [.slice A32 x28.Nj.MN.length c33] x28.Nj.MN).reads w F:=⟨S,z31s0,hSF⟩;have hX39:(RX.of (aq 5 bf) [.slice A34 x28.Nb.length c35] x28.Nb).reads w F:=⟨S,z31s1,hSF⟩;have hX40:(RX.of (aq 2 aP) [.slice A36 x28.MZ.MN.length c37] x28.MZ.MN).reads w F:=⟨S,z31s2,hSF⟩;refine K8 (T.seq (T.block (KN Z ?_)));refine KO Z (K6 (k:=k23) Z Z Z OZ NS (ND hxx28).1) Z ?_;refine KO Z (LM (us:=wd x28 A32 A34 A36 c33 c35 c37) 0 Z Og NS z31nf z31cc Z Z Z) Z (TL.alloc Z .u Tryz.zeroValue38 Z (fun b41=>(K3 0 Z (cs':=oh x28 A32 A34 A36 c33 c35 c37) Z .u Z Z NS Z Z Z Z Z (KP (L0 ?_)))));obtain⟨y55,h,hk56⟩:=Ny h;refine LE (fun e Rs=>e = [(1,.slice A3 a1.length c4),(2,.int .u16 a2),(6,.bool y15),(7,jS y16),(8,.slice A18 y17.length c19),(9,.slice A21 y20.length c22),(11,jP b41),(33,.slice (some ⟨gz31,oz31,none⟩) a0.length c2),(34,jI (a0.length:Int)),(35,jI (k23:Int)),(47,.bool y55)]/\Rs = [aV b41 38 (oh x28 A32 A34 A36 c33 c35 c37),bG 53 18 (eW w S eV) (.slice A21 y20.length c22) y20,bG 3 1 ea (.slice A18 y17.length c19) y17,aL]) ?_ ?_
   ·clear hk56;refine T.region Z (KO Z (K9 (us:=wd x28 A32 A34 A36 c33 c35 c37) 0 Z Og NS Z Z Z) Z ?_);obtain⟨x57,hx58,h⟩:=Ny h;refine Lb Z .u (.fn Tryz.call11 Z) (xK x28 _ _ _ _ _ _ _ hx58) (fun _ hs=>(RX.reads_and (K7 hs hX38) (RX.reads_and (K7 hs hX39) (K7 hs hX40)))) Z ?_;rcases jF h with⟨c59,h⟩ | ⟨c59,h⟩
    ·refine KM ag 2 Z (KV 42 Z (NB c59) (KW ag 5 Z ?_));cases h;exact TL.nil (K0 [0,0,0,0])
    refine KM ag 2 Z (KV 42 Z (NC c59) (TL.q Z (.g Z Z Z) (K9 (us:=wd x28 A32 A34 A36 c33 c35 c37) 0 Z Og NS Z Z Z) Z ?_));obtain⟨x60,hx67,h⟩:=Ny h;refine TL.cso  Z (.g Z Z Z) (.fn Tryz.call14 Z) (lC x28 _ _ _ _ _ _ _ hx67) ⟨z31s0,z31s1,z31s2⟩ hSF Z ?_;rintro _ _ _ ⟨A61,c62,A63,c64,A65,c66,rfl,rfl,rfl⟩;refine Lt [0,0,0,0,0,0,0] Z ?_;obtain⟨x68,hx69,h⟩:=Ny h;refine Lb Z (.g Z Z Z) (.fn Tryz.call13 Z) (vj x60 _ _ _ _ _ _ _ hx69) (fun _ hs=>(RX.reads_and (L7 0 hs Z mC hSF) (RX.reads_and (L7 1 hs Z mC hSF) (L7 2 hs Z mC hSF)))) Z (KW ag 2 Z ?_);rcases jF h with⟨c70,h⟩ | ⟨c70,h⟩
    ·cases h;exact TL.nil (LH (d:=47) (v':= .bool false) Z (congrArg Value.bool (bi (NB c70))) (K0 [3,3,3,3]))
    cases h;exact TL.nil (LH (d:=47) (v':= .bool true) Z (congrArg Value.bool (bF (NC c70))) (K0 [3,3,3,3]))
   rintro _ _ ⟨rfl,rfl⟩;clear h;have h:=hk56;clear hk56;try dsimp only at h
   rcases jF h with⟨c71,h⟩ | ⟨c71,h⟩
   ·refine X.seq (K1 Z c71 (KN Z (KM ag 1 Z ?_)));obtain rfl:=Nz h;obtain rfl:=Nz hO26;exact KP (T.ret (KT (K2 (KT (KT (K2 (KT (KY [3] Tryz.results6 (KQ Z)))))))))
   replace c71:=NF c71;refine X.seq (Li Z c71 (Lk Z (KM ag 1 Z (KO Z (K9 (us:=wd x28 A32 A34 A36 c33 c35 c37) 0 Z Og NS Z Z Z) Z ?_))));obtain⟨x72,hx79,h⟩:=Ny h;refine TL.cso  Z .u (.fn Tryz.call14 Z) (lC x28 _ _ _ _ _ _ _ hx79) ⟨z31s0,z31s1,z31s2⟩ hSF Z ?_;rintro _ _ _ ⟨A73,c74,A75,c76,A77,c78,rfl,rfl,rfl⟩;refine Lt [0,0,0,0,0,0,0] Z ?_;obtain⟨x80,hx81,h⟩:=Ny h;refine Lb Z .u (.fn Tryz.call16 Z) (tt x72 _ _ _ _ _ _ _ hx81) (fun _ hs=>(RX.reads_and (L7 0 hs Z mC hSF) (RX.reads_and (L7 1 hs Z mC hSF) (L7 2 hs Z mC hSF)))) Z ?_;obtain⟨c82,h⟩:=al h;refine KO Z (Ln Z Z c82) Z (KX ag Z (T.region Z (KM ag 1 Z (KO Z (K9 (us:=wd x28 A32 A34 A36 c33 c35 c37) 3 Z Og NS Z Z Z) Z ?_))));obtain⟨x83,hx90,h⟩:=Ny h;refine TL.cso  Z .u (.fn Tryz.call14 Z) (lC x28 _ _ _ _ _ _ _ hx90) ⟨z31s0,z31s1,z31s2⟩ hSF Z ?_;rintro _ _ _ ⟨A84,c85,A86,c87,A88,c89,rfl,rfl,rfl⟩;refine Lt [0,0,0,0,0,0,0,0,0,0] Z ?_;refine L4 (cells:=zb x83 A84 A86 A88 c85 c87 c89) Z .u pI Z QU Z (fun b91=> ?_);obtain⟨c92,h⟩:=al h;refine Lt [1,1,1,0,0,0,0,0,0,0,0] Z ?_;iterate 2 refine TL.pair ?_
   refine Lt [1,0,0,0,0,0,0,0,0] Z ?_;refine Mw 5 0 Z .u (us:=wL23 x83 A84 A86 A88 c85 c87 c89) (u:=x83) (l:=y20) (E:=(eW w S eV)) Tryz.underlying75 rg Z QS Z Z Z Z Z Z Z (fun w1 G1 hG W h1 h2=>⟨_,_,_,_,_,_,Z,(Gg hG).1 W h1 h2,(Gg hG).2.1 W h1 h2,(Gg hG).2.2 W h1 h2⟩) (by have hq:=c92; omega) (by have hq:=c92; omega) Z (fun A93 c94=> ?_);refine Lt [0,0,0,0,0,0,0] Z (KM ag 2 Z (KO Z (LD Z NK) Z (L4 (cells:= #[jI ((y16++x80).length:Int)]) Z .u pH Z QW Z (fun b95=> ?_))));obtain⟨c96,h⟩:=al h;refine MF 5 Z .u (us := [jI ((y16++x80).length:Int)]) (u:=((y16++x80).length:Int)) (l:=y17) (E:=ea) Tryz.underlying74 rY Z QS Z Z Z Z Z Z (fun _ _=>Z) (by have hq:=c96; omega) (by have hq:=c96; omega) Z (fun A97 c98=> ?_);exact Lt [0,0,0,0,0,0,0] Z (KM ag 2 Z (TL.nil (La (X.seq (T.region Z (KO Z (Ex.add Z Z QR) Z (KM ag 1 Z (TL.nil (X.back (m':=m27) [0,4,4] QR ⟨y15,(y16++x80),(y17 ++ [((y16++x80).length:Int)]),A97,c98,(y20 ++ [x83]),A93,c94,k23+1,by omega,Z,Z,h⟩ QW QW)))))))))
 replace c7:=NF c7;exact KP (K1 rfl (bF c7) (nomatch h))
theorem JG:mI=some true:=by kernel_rfl
theorem EG {c:eJ} {h:List UInt8} (h4:h.length<4):du ⟨c,h,0⟩=some (0,false,⟨c,h,0⟩):=by
 unfold du;rw[QX (by show (h.length:Int)<4; omega)]
theorem KI {c:eJ} {h r:List UInt8} {n:Nat} (hd:h=be (n:Int) 4++r) (hf:bn (n:Int) 4=true) (hn:n<=302000) (hl:h.length<=140737488355328):du ⟨c,h,0⟩=some (4+(n:Int),decide (4+n<=h.length),⟨c,h,0⟩):=by
 have hb4:(be (n:Int) 4).length=4:=aE _ _;have h4:4<=h.length:=by rw[hd,NE]; omega
 have hp:=(ei 4 QS QS).back h r 0 _ (NY _) hf (by rw[List.drop_zero]; exact hd);have g1: ∃ st,d9 ⟨h,0,0⟩ 4=some ((n:Int),st):=by
  rcases Q4.run h 0 (NY _) with⟨e,st,p1,g1,x1,y1⟩ | ⟨m,r',p1,g1,n1,l1⟩
  ·rw[hp] at p1; exact nomatch p1
  ·rw[hp] at p1;injection p1 with p1;obtain⟨rfl,rfl⟩:=N9 p1;rw[List.drop_zero] at g1;exact⟨_,g1⟩
 obtain⟨st,g1⟩:=g1;unfold du;dsimp only;rw[QY QR,kp _ QR,NA,g1,NA];dsimp only;rw[QY (show ¬ ((n:Int)<0) by omega),QY (show ¬ ((n:Int)>16777216) by omega),NA,QY QS,QX QR,QX QR];by_cases c:4+n<=h.length
 ·rw[QX QR,NB c]
 ·rw[QY QR,NC c]
def okFs (fs:List ay):Prop:= ∀ f,f∈fs->okFr f/\(gZ f).length<=302000
theorem sR (f:ay):(bx f).length=4+(gZ f).length:=by rw[bx,NE,aE]
structure Df (fs:List ay) (k j:Nat):Prop where
 le:j<=fs.length
 lo:(bb bx (fs.take j)).length<=k
 hi:j<fs.length->k<(bb bx (fs.take (j+1))).length
theorem feedL (y3:List ay) (y6:Int): ∀ (fuel:Nat) (fs acc:List ay) (h t:List UInt8) (m a:Int),okFs fs->h++t=bb bx fs->h.length<fuel->h.length<=10000000->acc.length+fs.length<=1000->0<=m->m+(fs.length:Int)<=1000000->0<=a->a+(h.length:Int)<=1000000000 ->
 ∃ j,Df fs h.length j/\cN fuel y3 y6 acc m a h 0=some (.ret (acc++fs.take j,0,⟨⟨m+(j:Int),a+((bb bx (fs.take j)).length:Int)⟩,h.drop (bb bx (fs.take j)).length,0⟩))
 | 0,fs,acc,h,t,m,a,_,_,h1,_,_,_,_,_,_=>by omega
 | fuel+1,fs,acc,h,t,m,a,hok,hs,h1,h2,h3,h4,h5,h6,h7=>by
  rw[cN];have hz: ∀ q:aX,(some (Lp.ret (acc,q.ferr,q)):Option (Lp (List ay×Int×aX) (List ay×Int×List ay×Int×Int×List UInt8×Int)))=some (Lp.ret (acc,q.ferr,q)):=fun _=>rfl;by_cases c4:h.length<4
  ·refine⟨0,⟨NY _,by rw[List.take_zero,bb]; exact NY _,fun hj=> ?_⟩,?_⟩
   ·cases fs with
    | nil=>exact absurd hj QS
    | cons f fs =>
     rw[List.take_succ_cons,List.take_zero,bb,bb,NW,sR];omega
   ·rw[EG c4,NA];dsimp only;rw[QY QS,List.take_zero,bb,NW,Of,List.drop_zero,Int.natCast_zero,Int.add_zero,Int.add_zero]
  cases fs with
  | nil =>
   have:=congrArg List.length hs;rw[bb,NE,Of] at this;omega
  | cons f fs =>
   have hf:=hok f (.head _);have hs2:h++t=bx f++bb bx fs:=hs;have hb4:(be ((gZ f).length:Int) 4).length=4:=aE _ _;have hd:h=be ((gZ f).length:Int) 4++h.drop 4:=by
    have e:=congrArg (List.take 4) hs2;rw[List.take_append_of_le_length QR,bx,NI,List.take_append_of_le_length QR,List.take_of_length_le (l:=be ((gZ f).length:Int) 4) QR] at e;rw[<- e,List.take_append_drop]
   rw[KI hd hf.1.2 hf.2 QR,NA];dsimp only;by_cases c:4+(gZ f).length<=h.length
   ·have hn:(4+((gZ f).length:Int)).toNat=(bx f).length:=by rw[sR]; omega
    have htk:h.take (bx f).length=bx f:=by
     have e:=congrArg (List.take (bx f).length) hs2;rw[List.take_append_of_le_length (by rw[sR]; exact c),List.take_append_of_le_length (N0 _),List.take_length] at e;exact e
    have hdr:h.drop (bx f).length++t=bb bx fs:=by
     have e:=congrArg (List.drop (bx f).length) hs2;rw[List.drop_append_of_le_length (by rw[sR]; exact c),List.drop_left] at e;exact e
    have hfl:=sR f;rw[NJ] at h3 h5;obtain⟨j,⟨j1,j2,j3⟩,j4⟩:=feedL y3 y6 fuel fs (acc ++ [f]) (h.drop (bx f).length) t (m+1) (a+(4+((gZ f).length:Int))) (fun g hg=>hok g (.tail _ hg)) hdr (by rw[NO]; omega) (by rw[NO]; omega) (by rw[NE,Or]; omega) QR QR QR (by rw[NO]; omega);rw[NO] at j2 j3;refine⟨j+1,⟨by rw[NJ]; omega,by rw[List.take_succ_cons,bb,NE]; omega,fun hj=> ?_⟩,?_⟩
    ·rw[NJ] at hj;have:=j3 QR;rw[List.take_succ_cons,bb,NE];omega
    ·rw[NB c,QX rfl,hn,QX ⟨by omega,by rw[hfl]; exact c⟩,htk,EF _ QR,Ha hf.1,NA];dsimp only;unfold jx;dsimp only;rw[QX rfl,QX QR,QX QR,QX QR,NA];dsimp only;rw[QX ⟨by omega,by rw[hfl]; exact c⟩,j4,List.take_succ_cons,bb,NE,Om,NI,show m+1+(j:Int)=m+((j+1:Nat):Int) by omega,show a+(4+((gZ f).length:Int))+((bb bx (fs.take j)).length:Int)=a+(((bx f).length+(bb bx (fs.take j)).length:Nat):Int) by omega];rfl
   ·refine⟨0,⟨NY _,by rw[List.take_zero,bb]; exact NY _,fun hj=> ?_⟩,?_⟩
    ·rw[List.take_succ_cons,List.take_zero,bb,bb,NW,sR];omega
    ·rw[NC c,QY QS,List.take_zero,bb,NW,Of,List.drop_zero,Int.natCast_zero,Int.add_zero,Int.add_zero]
theorem o9 {α:Type} (enc:α->List UInt8): ∀ (l m:List α),bb enc (l++m)=bb enc l++bb enc m
 | [],m=>rfl
 | x::l,m=>by rw[List.cons_append,bb,bb,o9 enc l m,NI]
def spS (fs:List ay) (p:List UInt8) (j:Nat):aX:=⟨⟨(j:Int),((bb bx (fs.take j)).length:Int)⟩,p.drop (bb bx (fs.take j)).length,0⟩
theorem KJ {fs:List ay} {p c t:List UInt8} {j:Nat} (hok:okFs fs) (hs:p++c++t=bb bx fs) (hn:fs.length<=500) (hl:(bb bx fs).length<=5000000) (hj:Df fs p.length j) :
 ∃ i,Df fs (p++c).length (j+i)/\dv (spS fs p j) c=some ((fs.drop j).take i,0,spS fs (p++c) (j+i)):=by
 obtain⟨j1,j2,j3⟩:=hj;have hls:=congrArg List.length hs;simp only[NE] at hls;have hsp:bb bx fs=bb bx (fs.take j)++bb bx (fs.drop j):=by rw[<- o9,List.take_append_drop]
 have hh:(p.drop (bb bx (fs.take j)).length++c)++t=bb bx (fs.drop j):=by
  have e:=congrArg (List.drop (bb bx (fs.take j)).length) hs;rw[hsp,List.drop_left,NI,List.drop_append_of_le_length j2,<- NI] at e;exact e
 have hdl:(fs.drop j).length=fs.length - j:=NO;obtain⟨i,⟨i1,i2,i3⟩,i4⟩:=feedL [] 0 ((((p.drop (bb bx (fs.take j)).length++c).length:Int)+1).toNat+1) (fs.drop j) [] (p.drop (bb bx (fs.take j)).length++c) t (j:Int) ((bb bx (fs.take j)).length:Int) (fun f hf=>hok f (List.mem_of_mem_drop hf)) hh QR (by rw[NE,NO]; omega) (by rw[Of]; omega) QR QR QR (by rw[NE,NO]; omega);have etk:fs.take (j+i)=fs.take j++(fs.drop j).take i:=List.take_add;have elen:(bb bx (fs.take (j+i))).length=(bb bx (fs.take j)).length+(bb bx ((fs.drop j).take i)).length:=by rw[etk,o9,NE]
 have elen2:(bb bx (fs.take (j+i+1))).length=(bb bx (fs.take j)).length+(bb bx ((fs.drop j).take (i+1))).length:=by rw[Nat.add_assoc,show fs.take (j+(i+1))=fs.take j++(fs.drop j).take (i+1) from List.take_add,o9,NE]
 simp only[NE,NO] at i2 i3;refine⟨i,⟨by omega,by rw[elen,NE]; omega,fun h=> ?_⟩,?_⟩
 ·have:=i3 QR;rw[elen2,NE];omega
 ·unfold dv spS;dsimp only;rw[QX rfl,QX (by rw[NO]; omega),i4,NA];dsimp only;rw[NV,elen];have e1:(p.drop (bb bx (fs.take j)).length++c).drop (bb bx ((fs.drop j).take i)).length=(p++c).drop ((bb bx (fs.take j)).length+(bb bx ((fs.drop j).take i)).length):=by
   rw[<- Om,List.drop_append_of_le_length j2]
  rw[e1];congr 4
theorem Hb {fs:List ay} {k i j:Nat} (hi:Df fs k i) (hj:Df fs k j):i=j:=by
 have mono: ∀ a b:Nat,a<=b->(bb bx (fs.take a)).length<=(bb bx (fs.take b)).length:=by
  intro a b h;have e:fs.take b=fs.take a++(fs.drop a).take (b - a):=by rw[<- List.take_add,show a+(b - a)=b by omega]
  rw[e,o9,NE];omega
 by_cases c:i<j
 ·have h1:=hi.hi (by have:=hj.le; omega);have h2:=mono (i+1) j QR;have h3:=hj.lo;omega
 by_cases c2:j<i
 ·have h1:=hj.hi (by have:=hi.le; omega);have h2:=mono (j+1) i QR;have h3:=hi.lo;omega
 ·omega
theorem srl3 (fs:List ay) (y:Bool) (hok:okFs fs) (hn:fs.length<=500) (hl:(bb bx fs).length<=5000000): ∀ (cs:List (List UInt8)) (p t:List UInt8) (j:Nat),p++cs.flatten++t=bb bx fs->Df fs p.length j ->
 ∃ i,Df fs (p++cs.flatten).length i/\dx cs y (fs.take j) (j:Int) ((bb bx (fs.take j)).length:Int) (p.drop (bb bx (fs.take j)).length) 0=some (.go (y,fs.take i,(i:Int),((bb bx (fs.take i)).length:Int),(p++cs.flatten).drop (bb bx (fs.take i)).length,0))
 | [],p,t,j,hs,hj=>by
  rw[List.flatten_nil,NW];exact⟨j,hj,rfl⟩
 | c::cs,p,t,j,hs,hj=>by
  rw[List.flatten_cons] at hs ⊢;obtain⟨i,i1,i2⟩:=KJ (c:=c) (t:=cs.flatten++t) hok (by rw[<- hs]; simp only[NI]) hn hl hj;obtain⟨q,q1,q2⟩:=srl3 fs y hok hn hl cs (p++c) t (j+i) (by rw[<- hs]; simp only[NI]) i1;rw[NI] at q1 q2;refine⟨q,q1,?_⟩;have hdl:((fs.drop j).take i).length<=fs.length:=by rw[On,NO]; omega
  have htl:(fs.take j).length<=fs.length:=by rw[On]; omega
  rw[dx,show (⟨(⟨(j:Int),((bb bx (fs.take j)).length:Int)⟩:eJ),p.drop (bb bx (fs.take j)).length,0⟩:aX)=spS fs p j from rfl,i2,NA];dsimp only;rw[QX rfl,QX QR,<- List.take_add];exact q2
def rh:Nat->List ay->List Int
 | _,[] => []
 | o,f::l=>((o+(bx f).length:Nat):Int)::rh (o+(bx f).length) l
theorem rB: ∀ (l:List ay) (o:Nat),(rh o l).length=l.length
 | [],_=>rfl
 | b::l,o=>by rw[rh,NJ,NJ,rB l]
theorem AB: ∀ (l:List ay) (o i:Nat),i<l.length->(rh o l)[i]? = some ((o+(bb bx (l.take (i+1))).length:Nat):Int)
 | b::l,o,0,h=>by rw[rh,List.getElem?_cons_zero,List.take_succ_cons,List.take_zero,bb,bb,NW]
 | b::l,o,i+1,h=>by
  rw[NJ] at h;rw[rh,List.getElem?_cons_succ,AB l _ i QR,List.take_succ_cons,bb,NE,Nat.add_assoc]
theorem AC (y:Bool): ∀ (l:List ay) (t:List UInt8) (es:List Int) (ws:List cI),(∀ x,x∈l->iE x)->t.length+302004*l.length<=5000000->es.length+l.length<=1000->ws.length+l.length<=1000 ->
 dw l y t es ws=some (.ret true)\/(dw l y t es ws=some (.go (y,t++bb bx (l.map nF),es++rh t.length (l.map nF),ws++l.map ofF))/\ ∀ x,x∈l->sQ x/\qa x=0)
 | [],t,es,ws,_,_,_,_=> .inr ⟨by rw[List.map_nil,List.map_nil,bb,rh,NW,NW,NW]; rfl,fun x h=>nomatch h⟩
 | x::l,t,es,ws,h,hl,he,hw=>by
  rw[NJ] at hl he hw;rw[dw];rcases few21 x (h x (.head _)) with g | ⟨g,hF⟩
  ·rw[g];exact .inl rfl
  rw[g,NA,QY QS,few_of hF,NA,KF hF,NA];by_cases hc:qa x=0;rotate_left
  ·rw[QY hc];exact .inl rfl
  have hlen:=AA hF hc;rw[QX hc,NA,QY QS,NA,KH hF hc,NA,QX QR,NA,QX QR,QX QR];rcases AC y l (t++bx (nF x)) (es ++ [(((t++bx (nF x)).length:Nat):Int)]) (ws ++ [ofF x]) (fun z hz=>h z (.tail _ hz)) (by rw[NE]; omega) (by rw[NE,Or]; omega) (by rw[NE,Or]; omega) with k | ⟨k,k2⟩
  ·exact .inl k
  ·refine .inr ⟨?_,fun z hz=> ?_⟩
   ·rw[k,List.map_cons,List.map_cons,bb,rh,NI,NI,NI,NE];rfl
   ·rcases List.mem_cons.1 hz with rfl | hz
    ·exact⟨hF,hc⟩
    ·exact k2 z hz
theorem AD (fs:List ay) (k:Nat) (E:Int) (s:List UInt8) (hE:E % ((s.length:Int)+1)=(k:Int)) (hn:fs.length<=1000): ∀ (m i:Nat) (v:Int),i+m=fs.length->v=((bb bx (fs.take i)).length:Int)->v<=(k:Int) ->
 ∃ j:Nat,Df fs k j/\dy E s (rh 0 fs) (m+1) i v=some (j,((bb bx (fs.take j)).length:Int))
 | 0,i,v,h1,h2,h3=>by
  refine⟨i,⟨by omega,by omega,fun h=>by omega⟩,?_⟩;rw[dy,QY (by rw[rB]; omega),NA,QY QS,h2]
 | m+1,i,v,h1,h2,h3=>by
  have hg:=AB fs 0 i QR;rw[Nat.zero_add] at hg;rw[dy,QX (by rw[rB]; omega),hg,NA,hE];by_cases c:(((bb bx (fs.take (i+1))).length:Nat):Int)<=(k:Int)
  ·obtain⟨j,j1,j5⟩:=AD fs k E s hE hn m (i+1) _ QR rfl c;refine⟨j,j1,?_⟩;rw[QX c,NA,QX rfl,NA,QX QR,j5]
  ·refine⟨i,⟨by omega,by omega,fun _=>by omega⟩,?_⟩;rw[QY c,NA,QY QS,h2]
theorem AE (b:List cI) (y:Bool): ∀ (l:List ay) (k:Nat),(∀ x,x∈l->sQ x/\qa x=0)->b.drop k=l.map ofF->gD b (l.map nF) y k=some (.go y)
 | [],k,_,_=>rfl
 | x::l,k,h,hd=>by
  obtain⟨hF,hc⟩:=h x (.head _);rw[List.map_cons] at hd;have hk:b[k]? = some (ofF x):=by
   have:=congrArg (·[0]?) hd;simpa using this
  have hd2:b.drop (k+1)=l.map ofF:=by
   have:=congrArg (List.drop 1) hd;rw[Om] at this;simpa using this
  rw[List.map_cons,gD,hk,NA,G9 hF (JB hc),NA,JA hF,NA,QX rfl];exact AE b y l (k+1) (fun z hz=>h z (.tail _ hz)) hd2
theorem same22 {l:List ay} (h: ∀ x,x∈l->sQ x/\qa x=0):lu (l.map nF) (l.map ofF)=some true:=by
 unfold lu;rw[QX (by rw[NU,NU]),AE (l.map ofF) false l 0 h rfl];rfl
theorem JH (fs:List ay) (p:List UInt8) (j:Nat): ∃ z,dh (spS fs p j)=some (if p.drop (bb bx (fs.take j)).length = [] then 0 else 1,z):=by
 unfold dh spS;dsimp only;rw[QX rfl];by_cases c:p.drop (bb bx (fs.take j)).length = []
 ·rw[QX c,QX c];exact⟨_,rfl⟩
 ·rw[QY c,QY c];exact⟨_,rfl⟩
theorem FS: ∀ (ns:List Int) (s:List UInt8) (l:List (List UInt8)),(∀ n,n∈ns->0<=n/\n<=255)->l.length+ns.length<=1000->s.length<=10000000-> ∃ t m,gw ns s l=some (t,m)/\m.flatten++t=l.flatten++s/\m.length=l.length+ns.length
 | [],s,l,_,_,_=>⟨s,l,rfl,rfl,rfl⟩
 | n::ns,s,l,hn,hl,hs=>by
  rw[NJ] at hl;have h0:=hn n (.head _);have key: ∀ k:Nat,k<=s.length-> ∃ t m,gw ns (s.drop k) (l ++ [s.take k])=some (t,m)/\m.flatten++t=l.flatten++s/\m.length=l.length+(n::ns).length:=by
   intro k hk;obtain⟨t,m,q1,q2,q3⟩:=FS ns (s.drop k) (l ++ [s.take k]) (fun z hz=>hn z (.tail _ hz)) (by rw[NE,Or]; omega) (by rw[NO]; omega);refine⟨t,m,q1,?_,by rw[q3,NE,Or,NJ]; omega⟩;rw[q2,List.flatten_append,List.flatten_cons,List.flatten_nil,NW,NI,List.take_append_drop]
  rw[gw,QX QR];by_cases c:(s.length:Int)<n
  ·obtain⟨t,m,q1,q2⟩:=key s.length (N0 _);refine⟨t,m,?_,q2⟩;rw[QX c,NA,QX QR,QX QR,QX QR,OB,q1]
  ·obtain⟨t,m,q1,q2⟩:=key n.toNat QR;refine⟨t,m,?_,q2⟩;rw[QY c,NA,QX QR,QX QR,QX QR,q1]
theorem KK {s:List UInt8} {ns:List Int} (hn: ∀ n,n∈ns->0<=n/\n<=255) (hl:ns.length<=200) (hs:s.length<=10000000): ∃ cs,o8 s ns=some cs/\cs.flatten=s:=by
 obtain⟨t,l,q1,q2,q3⟩:=FS ns s [] hn (by rw[Of]; omega) hs;refine⟨l ++ [t],?_,by rw[List.flatten_append,List.flatten_cons,List.flatten_nil,NW]; exact q2⟩;unfold o8;rw[q1,NA];dsimp only;rw[Of] at q3;rw[QX QR]
theorem Dg: ∀ (l:List ay),(∀ x,x∈l->sQ x/\qa x=0)->(bb bx (l.map nF)).length<=302004*l.length
 | [],_=>NY _
 | f::l,h=>by
  have h1:=AA (h f (.head _)).1 (h f (.head _)).2;have h2:=Dg l (fun g hg=>h g (.tail _ hg));rw[List.map_cons,bb,NE,NJ];omega
theorem pure_SplitRows (a0:List ay) (a1:List Int) (a2:Int) (w0:(wL iE) a0) (w1:(wL wU8) a1) (w2:0<=a2/\a2<=65535):jT a0 a1 a2=some true:=by
 unfold jT;rw[JG,NA,QX rfl];by_cases l1:(a0.length:Int)>6
 ·rw[QX l1,NA,QX rfl]
 by_cases l2:(a1.length:Int)>200
 ·rw[QY l1,QX l2,NA,QX rfl]
 rw[QY l1,QY l2,NA,QY QS];rcases AC false a0 [] [] [] w0.2 (by rw[Of]; omega) (by rw[Of]; omega) (by rw[Of]; omega) with g | ⟨g,g2⟩
 ·rw[g];rfl
 rw[NV,NV,NV,Of] at g;have hlen:=Dg a0 g2;have hok:okFs (a0.map nF):=by
  intro f hf;obtain⟨x,hx,rfl⟩:=List.mem_map.1 hf;obtain⟨k1,k2,k3,k4⟩:=vE (g2 x hx).1 (g2 x hx).2;exact⟨k1,k3⟩
 have hml:(a0.map nF).length=a0.length:=NU ..;rw[g,NA];dsimp only;generalize hfs:a0.map nF=fs at g hlen hok hml ⊢;rw[QX QR,QX QR,QX QR];obtain⟨k,hk⟩: ∃ k:Nat,a2 % (((bb bx fs).length:Int)+1)=(k:Int):=⟨(a2 % (((bb bx fs).length:Int)+1)).toNat,(Int.toNat_of_nonneg (Int.emod_nonneg _ QR)).symm⟩;have hk2:(k:Int)<((bb bx fs).length:Int)+1:=by rw[<- hk]; exact Int.emod_lt_of_pos _ QR
 obtain⟨j,j1,j5⟩:=AD fs k a2 (bb bx fs) hk QR fs.length 0 0 QR (by rw[List.take_zero]; rfl) QR;have hjl:=j1.le;rw[show (((rh 0 fs).length:Int)).toNat+1=fs.length+1 by rw[rB]; omega,j5,NA];dsimp only;have hlt:((bb bx fs).take k).length=k:=by rw[On]; omega
 obtain⟨cs,q1,q2⟩:=KK (s:=(bb bx fs).take k) (ns:=a1) (fun n hn=>w1.2 n hn) QR QR;obtain⟨i,i1,i2⟩:=srl3 fs false hok QR QR cs [] ((bb bx fs).drop k) 0 (by rw[q2,NV,List.take_append_drop]) ⟨NY _,by rw[List.take_zero,bb]; exact N0 _,fun h=>by
  cases fs with
  | nil=>exact absurd h QS
  | cons f fs=>rw[List.take_succ_cons,bb,NE,sR,Of]; omega⟩
 rw[NV,q2,hlt] at i1;obtain rfl:=Hb i1 j1;rw[NV,q2,List.take_zero,bb,Of,List.drop_nil] at i2;have hnew:lZ=some ⟨⟨0,0⟩,[],0⟩:=rfl;have hi2:dx cs false [] 0 0 [] 0= _:=i2;have hsame:lu (fs.take i) ((a0.map ofF).take i)=some true:=by
  rw[<- hfs,<- List.map_take,<- List.map_take];exact same22 (fun x hx=>g2 x (List.mem_of_mem_take hx))
 obtain⟨z,hz⟩:=JH fs ((bb bx fs).take k) i;have hc:dh ⟨⟨(i:Int),((bb bx (fs.take i)).length:Int)⟩,((bb bx fs).take k).drop (bb bx (fs.take i)).length,0⟩=some (if ((bb bx fs).take k).drop (bb bx (fs.take i)).length = [] then 0 else 1,z):=hz;have hdl:(((bb bx fs).take k).drop (bb bx (fs.take i)).length).length=k - (bb bx (fs.take i)).length:=by rw[NO,hlt]
 have hlo:=i1.lo;have hst:(if ((bb bx (fs.take i)).length:Int)<(k:Int) then ((some 1:Option (Int))) else ((some 0:Option (Int))))=some (if ((bb bx fs).take k).drop (bb bx (fs.take i)).length = [] then 0 else 1):=by
  by_cases c:(bb bx (fs.take i)).length=k
  ·rw[QY QR,QX (List.length_eq_zero_iff.1 QR)]
  ·rw[QX QR,QY (fun h=>by rw[h,Of] at hdl; omega)]
 rw[hnew,NA,hk,QX QR,OB,q1,NA];dsimp only;rw[hi2,NA];dsimp only;rw[hst,NA,QX (by rw[NU]; omega),hsame,NA,QX rfl];unfold ip;dsimp only;rw[NA];dsimp only;rw[QX rfl,hc,NA];dsimp only;rw[QX rfl];rfl
open Go.RowKit Go.Deep Go.ChangeShapes
theorem AF {H:Type} {enc:TypeId×Value->H}:eI enc Tryz.prog 23 (gX B6 xO) :=
 dP (fun x=>⟨x.1,x.2.1⟩) (cU Tryz.underlying23 QU (aN 1 QU QU (rq Tryz.underlying4) (aN 1 QU QU (vt Tryz.underlying9) (dl _)))) (by
  rintro w S cs ⟨x0,x1,_⟩ ⟨_,_,rfl,⟨p0,q0⟩,_,_,rfl,⟨p1,q1⟩,rfl⟩;obtain rfl:=p0;obtain rfl:=p1;exact⟨rfl,q0,q1⟩)
theorem KL {H:Type} {enc:TypeId×Value->H}:eI enc Tryz.prog 25 (gX JV EW) :=
 dP (fun x=>⟨x.1,x.2.1,x.2.2.1,x.2.2.2.1⟩) (cU Tryz.underlying25 QU (aN 1 QU QU (eN Tryz.underlying3) (aN 1 QU QU (eN Tryz.underlying3) (aN 1 QU QU (eN Tryz.underlying3) (aN 2 QU QU AF (dl _)))))) (by
  rintro w S cs ⟨x0,x1,x2,x3,_⟩ ⟨_,_,rfl,⟨p0,q0⟩,_,_,rfl,⟨p1,q1⟩,_,_,rfl,⟨p2,q2⟩,_,_,rfl,⟨p3,q3⟩,rfl⟩;obtain rfl:=p0;obtain rfl:=p1;obtain rfl:=p2;obtain rfl:=p3;exact⟨rfl,q0,q1,q2,q3⟩)
theorem Dh {H:Type} {enc:TypeId×Value->H}:eI enc Tryz.prog 27 (gX B7 qK) :=
 dP (fun x=>⟨x.1,x.2.1,x.2.2.1,x.2.2.2.1⟩) (cU Tryz.underlying27 QU (aN 2 QU QU AF (aN 1 QU QU (eN Tryz.underlying3) (aN 1 QU QU (eN Tryz.underlying3) (aN 1 QU QU (eN Tryz.underlying3) (dl _)))))) (by
  rintro w S cs ⟨x0,x1,x2,x3,_⟩ ⟨_,_,rfl,⟨p0,q0⟩,_,_,rfl,⟨p1,q1⟩,_,_,rfl,⟨p2,q2⟩,_,_,rfl,⟨p3,q3⟩,rfl⟩;obtain rfl:=p0;obtain rfl:=p1;obtain rfl:=p2;obtain rfl:=p3;exact⟨rfl,q0,q1,q2,q3⟩)
theorem JI {H:Type} {enc:TypeId×Value->H}:eI enc Tryz.prog 171 (gX bh kM) :=
 dP (fun x=>⟨x.1,x.2.1⟩) (cU Tryz.underlying171 QU (aN 1 QU QU (vt Tryz.underlying9) (aN 1 QU QU (op_slice 1 8 Tryz.underlying74 QU QU QS QS (eN Tryz.underlying3)) (dl _)))) (by
  rintro w S cs ⟨x0,x1,_⟩ ⟨_,_,rfl,⟨p0,q0⟩,_,_,rfl,⟨p1,q1⟩,rfl⟩;obtain rfl:=p0;obtain⟨A1,c1,rfl⟩:=slice_cells p1;exact⟨⟨A1,c1,rfl,p1⟩,q0,q1⟩)
theorem Hc {H:Type} {enc:TypeId×Value->H}:eI enc Tryz.prog 30 (gX F8 zT) :=
 dP (fun x=>⟨x.1,x.2.1,x.2.2.1,x.2.2.2.1⟩) (cU Tryz.underlying30 QU (aN 1 QU QU (vt Tryz.underlying9) (aN 1 QU QU (eN Tryz.underlying3) (aN 1 QU QU (eN Tryz.underlying3) (aN 1 QU QU (op_slice 2 40 Tryz.underlying28 QU QU QS QS JI) (dl _)))))) (by
  rintro w S cs ⟨x0,x1,x2,x3,_⟩ ⟨_,_,rfl,⟨p0,q0⟩,_,_,rfl,⟨p1,q1⟩,_,_,rfl,⟨p2,q2⟩,_,_,rfl,⟨p3,q3⟩,rfl⟩;obtain rfl:=p0;obtain rfl:=p1;obtain rfl:=p2;obtain⟨A3,c3,rfl⟩:=slice_cells p3;exact⟨⟨A3,c3,rfl,p3⟩,q0,q1,q2,q3⟩)
theorem He {H:Type} {enc:TypeId×Value->H}:eI enc Tryz.prog 32 (gX F7 zS) :=
 dP (fun x=>⟨x.1,x.2.1,x.2.2.1,x.2.2.2.1⟩) (cU Tryz.underlying32 QU (aN 1 QU QU (vt Tryz.underlying9) (aN 1 QU QU (eN Tryz.underlying3) (aN 1 QU QU (eN Tryz.underlying3) (aN 1 QU QU (rq Tryz.underlying4) (dl _)))))) (by
  rintro w S cs ⟨x0,x1,x2,x3,_⟩ ⟨_,_,rfl,⟨p0,q0⟩,_,_,rfl,⟨p1,q1⟩,_,_,rfl,⟨p2,q2⟩,_,_,rfl,⟨p3,q3⟩,rfl⟩;obtain rfl:=p0;obtain rfl:=p1;obtain rfl:=p2;obtain rfl:=p3;exact⟨rfl,q0,q1,q2,q3⟩)
theorem Di {H:Type} {enc:TypeId×Value->H}:eI enc Tryz.prog 173 (gX bf oa) :=
 dP (fun x=>⟨x.1,x.2.1,x.2.2.1,x.2.2.2.1,x.2.2.2.2.1⟩) (cU Tryz.underlying173 QU (aN 1 QU QU (eN Tryz.underlying3) (aN 1 QU QU (eN Tryz.underlying3) (aN 1 QU QU (rq Tryz.underlying4) (aN 1 QU QU (op_slice 2 40 Tryz.underlying28 QU QU QS QS JI) (aN 1 QU QU (eN Tryz.underlying3) (dl _))))))) (by
  rintro w S cs ⟨x0,x1,x2,x3,x4,_⟩ ⟨_,_,rfl,⟨p0,q0⟩,_,_,rfl,⟨p1,q1⟩,_,_,rfl,⟨p2,q2⟩,_,_,rfl,⟨p3,q3⟩,_,_,rfl,⟨p4,q4⟩,rfl⟩;obtain rfl:=p0;obtain rfl:=p1;obtain rfl:=p2;obtain⟨A3,c3,rfl⟩:=slice_cells p3;obtain rfl:=p4;exact⟨⟨A3,c3,rfl,p3⟩,q0,q1,q2,q3,q4⟩)
theorem op_Hd {H:Type} {enc:TypeId×Value->H}:eI enc Tryz.prog 245 (gX dn Ih) :=
 dP (fun x=>⟨x.1,x.2.1⟩) (cU Tryz.underlying245 QU (aN 1 QU QU (vt Tryz.underlying9) (aN 2 QU QU AF (dl _)))) (by
  rintro w S cs ⟨x0,x1,_⟩ ⟨_,_,rfl,⟨p0,q0⟩,_,_,rfl,⟨p1,q1⟩,rfl⟩;obtain rfl:=p0;obtain rfl:=p1;exact⟨rfl,q0,q1⟩)
theorem op_Rec {H:Type} {enc:TypeId×Value->H}:eI enc Tryz.prog 91 (gX cZ xP) :=
 dP (fun x=>⟨x.1,x.2.1,x.2.2.1,x.2.2.2.1,x.2.2.2.2.1⟩) (cU Tryz.underlying91 QU (aN 1 QU QU (eN Tryz.underlying3) (aN 1 QU QU (eN Tryz.underlying3) (aN 2 QU QU AF (aN 2 QU QU AF (aN 1 QU QU (op_slice 3 40 Tryz.underlying89 QU QU QS QS op_Hd) (dl _))))))) (by
  rintro w S cs ⟨x0,x1,x2,x3,x4,_⟩ ⟨_,_,rfl,⟨p0,q0⟩,_,_,rfl,⟨p1,q1⟩,_,_,rfl,⟨p2,q2⟩,_,_,rfl,⟨p3,q3⟩,_,_,rfl,⟨p4,q4⟩,rfl⟩;obtain rfl:=p0;obtain rfl:=p1;obtain rfl:=p2;obtain rfl:=p3;obtain⟨A4,c4,rfl⟩:=slice_cells p4;exact⟨⟨A4,c4,rfl,p4⟩,q0,q1,q2,q3,q4⟩)
theorem op_Bat {H:Type} {enc:TypeId×Value->H}:eI enc Tryz.prog 97 (gX dJ ot) :=
 dP (fun x=>⟨x.1,x.2.1,x.2.2.1,x.2.2.2.1,x.2.2.2.2.1,x.2.2.2.2.2.1,x.2.2.2.2.2.2.1,x.2.2.2.2.2.2.2.1,x.2.2.2.2.2.2.2.2.1,x.2.2.2.2.2.2.2.2.2.1,x.2.2.2.2.2.2.2.2.2.2.1,x.2.2.2.2.2.2.2.2.2.2.2.1⟩) (cU Tryz.underlying97 QU (aN 1 QU QU (eN Tryz.underlying3) (aN 1 QU QU (eN Tryz.underlying3) (aN 1 QU QU (rq Tryz.underlying4) (aN 1 QU QU (rq Tryz.underlying4) (aN 1 QU QU (rq Tryz.underlying4) (aN 1 QU QU (eN Tryz.underlying3) (aN 1 QU QU (eN Tryz.underlying3) (aN 1 QU QU (eN Tryz.underlying3) (aN 1 QU QU (eN Tryz.underlying3) (aN 1 QU QU (eN Tryz.underlying3) (aN 1 QU QU (eN Tryz.underlying3) (aN 1 QU QU (op_slice 7 88 Tryz.underlying95 QU QU QS QS op_Rec) (dl _)))))))))))))) (by
  rintro w S cs ⟨x0,x1,x2,x3,x4,x5,x6,x7,x8,x9,x10,x11,_⟩ ⟨_,_,rfl,⟨p0,q0⟩,_,_,rfl,⟨p1,q1⟩,_,_,rfl,⟨p2,q2⟩,_,_,rfl,⟨p3,q3⟩,_,_,rfl,⟨p4,q4⟩,_,_,rfl,⟨p5,q5⟩,_,_,rfl,⟨p6,q6⟩,_,_,rfl,⟨p7,q7⟩,_,_,rfl,⟨p8,q8⟩,_,_,rfl,⟨p9,q9⟩,_,_,rfl,⟨p10,q10⟩,_,_,rfl,⟨p11,q11⟩,rfl⟩;obtain rfl:=p0;obtain rfl:=p1;obtain rfl:=p2;obtain rfl:=p3;obtain rfl:=p4;obtain rfl:=p5;obtain rfl:=p6;obtain rfl:=p7;obtain rfl:=p8;obtain rfl:=p9;obtain rfl:=p10;obtain⟨A11,c11,rfl⟩:=slice_cells p11;exact⟨⟨A11,c11,rfl,p11⟩,q0,q1,q2,q3,q4,q5,q6,q7,q8,q9,q10,q11⟩)
theorem yM {H:Type} {enc:TypeId×Value->H}:eI enc Tryz.prog 179 (gX ca nC) :=
 dP (fun x=>⟨x.1,x.2.1⟩) (cU Tryz.underlying179 QU (aN 1 QU QU (eN Tryz.underlying3) (aN 1 QU QU (op_slice 12 96 Tryz.underlying177 QU QU QS QS op_Bat) (dl _)))) (by
  rintro w S cs ⟨x0,x1,_⟩ ⟨_,_,rfl,⟨p0,q0⟩,_,_,rfl,⟨p1,q1⟩,rfl⟩;obtain rfl:=p0;obtain⟨A1,c1,rfl⟩:=slice_cells p1;exact⟨⟨A1,c1,rfl,p1⟩,q0,q1⟩)
theorem wG {H:Type} {enc:TypeId×Value->H}:eI enc Tryz.prog 176 (gX aP mh) :=
 dP (fun x=>⟨x.1,x.2.1⟩) (cU Tryz.underlying176 QU (aN 1 QU QU (vt Tryz.underlying9) (aN 1 QU QU (zO 2 32 Tryz.underlying174 QU QU QS QS yM) (dl _)))) (by
  rintro w S cs ⟨x0,x1,_⟩ ⟨_,_,rfl,⟨p0,q0⟩,_,_,rfl,⟨p1,q1⟩,rfl⟩;obtain rfl:=p0;obtain⟨A1,c1,rfl⟩:=slice_cells p1;exact⟨⟨A1,c1,rfl,p1⟩,q0,q1⟩)
theorem t9 {H:Type} {enc:TypeId×Value->H}:eI enc Tryz.prog 36 (gX te gt) :=
 dP (fun x=>⟨x.1,x.2.1,x.2.2.1,x.2.2.2.1⟩) (cU Tryz.underlying36 QU (aN 2 QU QU AF (aN 1 QU QU (eN Tryz.underlying3) (aN 1 QU QU (eN Tryz.underlying3) (aN 1 QU QU (zO 2 40 Tryz.underlying34 QU QU QS QS wG) (dl _)))))) (by
  rintro w S cs ⟨x0,x1,x2,x3,_⟩ ⟨_,_,rfl,⟨p0,q0⟩,_,_,rfl,⟨p1,q1⟩,_,_,rfl,⟨p2,q2⟩,_,_,rfl,⟨p3,q3⟩,rfl⟩;obtain rfl:=p0;obtain rfl:=p1;obtain rfl:=p2;obtain⟨A3,c3,rfl⟩:=slice_cells p3;exact⟨⟨A3,c3,rfl,p3⟩,q0,q1,q2,q3⟩)
theorem op_FrameFrame {H:Type} {enc:TypeId×Value->H}:eI enc Tryz.prog 38 (gX bW iE) :=
 dP (fun x=>⟨x.1,x.2.1,x.2.2.1,x.2.2.2.1,x.2.2.2.2.1,x.2.2.2.2.2.1⟩) (cU Tryz.underlying38 QU (aN 5 QU QU KL (aN 5 QU QU Dh (aN 4 QU QU Hc (aN 4 QU QU He (aN 1 QU QU (op_slice 5 56 Tryz.underlying33 QU QU QS QS Di) (aN 5 QU QU t9 (dl _)))))))) (by
  rintro w S cs ⟨x0,x1,x2,x3,x4,x5,_⟩ ⟨_,_,rfl,⟨p0,q0⟩,_,_,rfl,⟨p1,q1⟩,_,_,rfl,⟨p2,q2⟩,_,_,rfl,⟨p3,q3⟩,_,_,rfl,⟨p4,q4⟩,_,_,rfl,⟨p5,q5⟩,rfl⟩;obtain rfl:=p0;obtain rfl:=p1;obtain⟨A2_0,c2_0,rfl,p2_0⟩:=p2;obtain rfl:=p3;obtain⟨A4,c4,rfl⟩:=slice_cells p4;obtain⟨A5_0,c5_0,rfl,p5_0⟩:=p5;exact⟨⟨A2_0,c2_0,A4,c4,A5_0,c5_0,rfl,p2_0,p4,p5_0⟩,q0,q1,q2,q3,q4,q5⟩)
end Go.Proofs.YtheikonlgjdopaaGreat.Sl
namespace Go.Proofs.YtheikonlgjdopaaGreat.splitRows
open Go.ChangeShapes Go.WideShapes Go.ChangeAt Go.RowKit
open Go.ChangeMaps (open_string shut_string)
set_option linter.unusedVariables false
theorem own:ownKnob Tryz.prog.godebug=none:=by kernel_rfl
theorem laidOut:laidOutB Tryz.prog=true:=by kernel_rfl
theorem lifted (os:Os) (started:os.Started) (H:Type) (enc:TypeId×Value->H) :
 ReturnsInHanded {} Tryz.checked os 6 .any (Rows.splitRowsSpec.pre6 enc Tryz.prog Tryz.f6 Rows.splitRowsRow.domain false) (Rows.splitRowsSpec.post enc Tryz.prog Tryz.f6 false true false false):=by
 refine returnsInHanded_of_change_sized (C:=Tryz.checked) own started (by kernel_rfl) Tryz.func6
  (ChangeSpec.witness6 (enc:=enc) (C:=Tryz.checked) false ⟨#[],#[.slice none 0 0,.slice none 0 0,.int .u16 0],[]⟩ 8 (by kernel_rfl) (by kernel_rfl) (by kernel_rfl) (by kernel_rfl)) ?_
 intro W base args ds gs before hval0 hW hcnd hsz0 _;have hsz:(DataW.weightsEach Tryz.prog (Tryz.f6.params.toList++Rows.splitRowsSpec.plain.varTypes Tryz.prog) (ds++gs)).all (· <= reachBytes)=true:=hsz0;have hval: ∀ (j:Nat) t v,Tryz.f6.params[j]? = some t->args[j]? = some v->Value.okWide Tryz.prog W .any base t v:=hval0;have hW':=hW;obtain⟨p,q,hA0,hV,rfl,hfz,hnd⟩:=hW;have hA:DataW.TrodAll enc Tryz.prog W 0 (fun _=>true) true Tryz.f6.params.toList args.toList ds p:=hA0;rw[Tryz.params6] at hA hval hsz;obtain⟨v0,vs0,d0,ds0,p0,q0,hargs,rfl,rfl,h0,r0⟩:=trodAll_cons hA;obtain⟨v1,vs1,d1,ds1,p1,q1,rfl,rfl,rfl,h1,r1⟩:=trodAll_cons r0;obtain⟨v2,vs2,d2,ds2,p2,q2,rfl,rfl,rfl,h2,r2⟩:=trodAll_cons r1;obtain⟨rfl,rfl,rfl⟩:=trodAll_nil r2;obtain rfl:args= #[v0,v1,v2]:=by cases args; simp_all
 obtain⟨rfl,rfl⟩:=trodVars_none hV;have k0:=h0;have lt0: ∀ x∈p0,x.block<W.heap.size:=by obtain⟨m,hm⟩:=k0; exact DataW.trod_lt m _ _ _ hm
 obtain⟨a0,r_0,w0⟩:=Sl.opens_arg1 Tryz.underlying60 (hval 0 60 v0 rfl rfl) (Sl.op_slice 24 280 Tryz.underlying60 (by kernel_rfl) (by kernel_rfl) (by decide) (by decide) Sl.op_FrameFrame) h0 (fun x hx=>of_decide_eq_true (List.all_eq_true.1 hsz x (Sl.weights_in 0 rfl rfl hx)));obtain⟨A0,c0,e0⟩:=Sl.slice_cells r_0;injection e0 with e0;subst e0;have k1:=h1;have lt1: ∀ x∈p1,x.block<W.heap.size:=by obtain⟨m,hm⟩:=k1; exact DataW.trod_lt m _ _ _ hm
 obtain⟨a1,r_1,w1⟩:=Sl.opens_arg1 Tryz.underlying72 (hval 1 72 v1 rfl rfl) (Sl.op_slice 1 1 Tryz.underlying72 (by kernel_rfl) (by kernel_rfl) (by decide) (by decide) (Sl.op_u8 Tryz.underlying5)) h1 (fun x hx=>of_decide_eq_true (List.all_eq_true.1 hsz x (Sl.weights_in 1 rfl rfl hx)));obtain⟨A1,c1,e1⟩:=Sl.slice_cells r_1;injection e1 with e1;subst e1;obtain⟨a2,rfl,rfl,rfl,u2⟩:=open_int Tryz.underlying73 (hval 2 73 v2 rfl rfl) h2;have w2:=Go.bounds_u16 u2;clear hA0 hval0 hsz0 hsz;refine (Sl.f_l22_SplitRows_spec a0 A0 c0 a1 A1 c1 a2 true (Sl.pure_SplitRows a0 a1 a2 w0 w1 w2) (fun _=>False) W (fun _ h=>h) (Sl.RX.reads_and (Sl.RX.reads_all r_0) (Sl.RX.reads_all r_1))).mono fun e W' hP=> ?_;obtain⟨v,A',Ns,rfl,⟨rfl,rfl,rfl⟩,hst⟩:=hP;have bel:=Sl.St.below hst;exact⟨_,rfl,_,_,_,[],_,[],hW',trodAll_mk1 (shut_bool Tryz.underlying4 _),(trodAll_cons_mk (Below.trod laidOut (by kernel_rfl) (of_decide_eq_true (by kernel_rfl)) k0 bel lt0) (trodAll_cons_mk (Below.trod laidOut (by kernel_rfl) (of_decide_eq_true (by kernel_rfl)) k1 bel lt1) (trodAll_cons_mk (shut_int Tryz.underlying73 u2) trodAll_mk0))),rfl,bel.frame _,fun h=>by cases h⟩
theorem loopsF:(Tryz.f6.params.toList++Rows.splitRowsSpec.plain.varTypes Tryz.prog).any (Tryz.prog.loopsFrom ·)=Rows.splitRowsRow.loops:=by kernel_rfl
theorem closedF:joinedFacts Tryz.prog 6 Tryz.f6 Rows.splitRowsSpec Rows.splitRowsRow=true:=by
 unfold joinedFacts;rw[loopsF];kernel_rfl
theorem over:Rows.splitRowsRow.holds Tryz.pinned (OpenSpec.ofChange Rows.splitRowsSpec) :=
 OpenClaim.holds_of_wide 6 Tryz.f6 rfl rfl rfl rfl rfl rfl rfl ⟨rfl,rfl,rfl,rfl,rfl⟩ rfl rfl rfl rfl rfl (by kernel_rfl) Tryz.func6 closedF
  (of_decide_eq_true (by kernel_rfl)) (by unfold Func.isWrapper; first | (rw[if_pos (by decide +kernel)]; kernel_rfl) | (rw[if_neg (by decide +kernel)]; exact⟨rfl,rfl⟩))
  (fun os started H enc _=>lifted os started H enc)
theorem proved:Rows.SplitRowsSaid:=over
end Go.Proofs.YtheikonlgjdopaaGreat.splitRows
namespace Go.Proofs.YtheikonlgjdopaaGreat
theorem splitRows_holds:Rows.SplitRowsSaid:=splitRows.proved
end Go.Proofs.YtheikonlgjdopaaGreat
