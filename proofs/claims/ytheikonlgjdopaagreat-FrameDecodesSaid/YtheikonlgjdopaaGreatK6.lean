/- frameDecodes_holds: part 6. -/
import Derived.Test.YtheikonlgjdopaaGreatK5
set_option maxRecDepth 100000
set_option maxHeartbeats 4000000
set_option linter.defProp false
namespace Go.Proofs.YtheikonlgjdopaaGreat.Sl
open Go.RowKit
set_option linter.unusedVariables false
set_option linter.unusedSimpArgs false
def Oi := @Tryz.sizeOf67
def Oo := @Tryz.sizeOf53
def Oq := @Tryz.results90
def OI := @Tryz.runUnderlying32
def OL := @Tryz.sizeOf32
def OP := @Tryz.runUnderlying30
def OU := @Tryz.runUnderlying27
def OY := @Tryz.isAgg53
def O0 := @Tryz.results22
def O1 := @Tryz.sizeOf27
def O3 := @Tryz.runUnderlying53
def O7 := @Tryz.runUnderlying103
def Pd := @Tryz.isAgg67
def Pe := @Tryz.sizeOf30
def Pl := @Tryz.isAgg32
def Ps := @Tryz.runUnderlying78
def Pu := @Tryz.results168
def PG := @Tryz.eqGuardType45
def PR := @Tryz.isAgg27
def P5 := @Tryz.runUnderlying67
def Qm := @Tryz.isAgg30
def QG := @Tryz.results189
def QH := @Tryz.results146
def uK:fw := [(45,0,0),(45,1,1),(53,0,0),(53,1,5),(53,2,12),(53,3,13)]
theorem aw:(uK).OK Tryz.prog:=⟨FOK.mk Pq rfl Nu rfl,FOK.mk Pq rfl Nu rfl,FOK.mk O3 rfl On rfl,FOK.mk O3 rfl NC rfl,FOK.mk O3 rfl Tryz.sizeOf48 rfl,FOK.mk O3 rfl NS rfl,trivial⟩
def uL:List Nat := [3,48]
theorem jM:NOK Tryz.prog uL:=⟨Nw,Tryz.isAgg48,trivial⟩
theorem kN:Tryz.prog.follows .mixedOrders=true:=by kernel_rfl
theorem qR:BOK Tryz.prog 53 #[.int .i64 0,.int .i64 0,.int .i64 0,.bool false,.string ⟨#[]⟩,.bool false,.string ⟨#[]⟩,.int .i64 0,.int .i64 0,.int .i64 0,.slice none 0 0,.bool false,.slice none 0 0,.bool false,.string ⟨#[]⟩,.int .i64 0,.int .i64 0,.slice none 0 0] [(0,5),(5,7),(12,1),(13,5)]:=BOK.mk Tryz.zeroValue53 O3 (by intro w; simp)
theorem bH:BOK Tryz.prog 67 #[.int .i64 0,.int .i64 0,.int .i64 0,.bool false,.string ⟨#[]⟩,.bool false,.string ⟨#[]⟩,.int .i64 0,.int .i64 0,.int .i64 0,.slice none 0 0,.bool false,.slice none 0 0,.bool false,.string ⟨#[]⟩,.int .i64 0,.int .i64 0,.slice none 0 0,.int .i64 0,.int .i64 0] [(0,18),(18,1),(19,1)]:=BOK.mk Tryz.zeroValue67 P5 (by intro w; simp)
theorem dR:fq Tryz.prog 3 45 [.int .i64,.int .i64,.int .i64,.bool,.string] true:=(fq.struct O6 On rfl Tryz.underlying45 Tryz.stoodInHeld45 ⟨by decide,rfl,[.int .i64],[.int .i64,.int .i64,.bool,.string],false,rfl,((Lz Nw Nu Tryz.underlying3).mono QS),⟨by decide,rfl,[.int .i64],[.int .i64,.bool,.string],false,rfl,((Lz Nw Nu Tryz.underlying3).mono QS),⟨by decide,rfl,[.int .i64],[.bool,.string],false,rfl,((Lz Nw Nu Tryz.underlying3).mono QS),⟨by decide,rfl,[.bool,.string],[],true,rfl,(fq.struct NW NA rfl Tryz.underlying23 Tryz.stoodInHeld23 ⟨by decide,rfl,[.bool],[.string],false,rfl,(Lz Or N6 Tryz.underlying4),⟨by decide,rfl,[.string],[],false,rfl,(Lz N8 N5 Tryz.underlying9),rfl⟩⟩),rfl⟩⟩⟩⟩)
def gD (a0:cA) (a1:cA):Option (Bool):=(if a0.MA.MH=a1.MA.MH then (if a0.MA.MG=a1.MA.MG then (if a0.MA.MO=a1.MA.MO then (if a0.MA.ME.null=a1.MA.ME.null then (if a0.MA.ME.data=a1.MA.ME.data then ((kf a0.M2 a1.M2).bind fun a=>if a=true then ((jk a0.MT a1.MT).bind fun b=>if b=true then ((eg a0.MF a1.MF).bind fun c=>some c) else some false) else some false) else some false) else some false) else some false) else some false) else some false).bind fun d=>some d
theorem pY (a0:cA) (s:AT) (c2:Nat) (A:AT) (B:Nat) (t:AT) (x:Nat) (a1:cA) (y:AT) (z:Nat) (C:AT) (o:Nat) (j:AT) (k:Nat) (r:Bool) (h:gD a0 a1=some r):aC Tryz.prog 17 #[.agg (wA12 a0 s A t c2 B x),.agg (wA12 a1 y C j z o k)] (RX.and (RX.of (ar 2 aT) [.slice s a0.M2.Mw.length c2] a0.M2.Mw) (RX.and (RX.of (ar 5 bc) [.slice A a0.MT.length B] a0.MT) (RX.and (RX.of (ar 2 aZ) [.slice t a0.MF.Mw.length x] a0.MF.Mw) (RX.and (RX.of (ar 2 aT) [.slice y a1.M2.Mw.length z] a1.M2.Mw) (RX.and (RX.of (ar 5 bc) [.slice C a1.MT.length o] a1.MT) (RX.of (ar 2 aZ) [.slice j a1.MF.Mw.length k] a1.MF.Mw)))))) (aJ) (fun v A' N=>v= .bool r/\A'=aJ/\N = []):=by
 refine aW Tryz.func17 Z Tryz.ntmps17 Z ?_;intro F w hX;unfold gD at h;refine Kv Z (TL.box Z .u Z Z (fun H=>(TL.box Z .u Z Z (fun I=>(KF aw Z (T.seq ?_))))));obtain⟨J,h,i⟩:=Nk h;refine Lu (fun e Rs=>e = [(4,.bool J)]/\Rs = [aV I 53 (wA12 a1 y C j z o k),aV H 53 (wA12 a0 s A t c2 B x),aJ]) ?_ ?_
 ·clear i;refine T.region Z (Ku aw 1 Z (Kw Z (KH (us := [jI a0.MA.MH,jI a0.MA.MG,jI a0.MA.MO,.bool a0.MA.ME.null,jS a0.MA.ME.data]) 1 Z O6 On Z Z Z) Z (Ku aw 1 Z (Kw Z (KH (us := [jI a1.MA.MH,jI a1.MA.MG,jI a1.MA.MO,.bool a1.MA.ME.null,jS a1.MA.ME.data]) 0 Z O6 On Z Z Z) Z ?_))));rcases jF h with⟨a,h⟩ | ⟨a,h⟩
  ·rcases jF h with⟨b,h⟩ | ⟨b,h⟩
   ·rcases jF h with⟨c,h⟩ | ⟨c,h⟩
    ·rcases jF h with⟨n,h⟩ | ⟨n,h⟩
     ·rcases jF h with⟨p,h⟩ | ⟨p,h⟩
      ·refine Kw Z (Lx (us := [jI a0.MA.MH,jI a0.MA.MG,jI a0.MA.MO,.bool a0.MA.ME.null,jS a0.MA.ME.data]) (vs := [jI a1.MA.MH,jI a1.MA.MG,jI a1.MA.MO,.bool a1.MA.ME.null,jS a1.MA.ME.data]) dR Z PG Z Z Z Z (bD (eN a) (bD (eN b) (bD (eN c) (bD (jW n) (bD (gc (l:=a0.MA.ME.data) (m:=a1.MA.ME.data) p) Z)))))) Z (KB aw 2 Z (TL.q Z (.g Z Z Z) (KH (us:=wL11 a0.M2 s c2) 1 Z NP NC Z Z Z) Z (KB aw 1 Z (TL.q Z (.g Z Z Z) (KH (us:=wL11 a1.M2 y z) 0 Z NP NC Z Z Z) Z ?_))));obtain⟨K,D,h⟩:=Nk h;refine KN Z (.g Z Z Z) (.fn Tryz.call64 Z) (wc a0.M2 _ _ a1.M2 _ _ _ D) (fun _ hs=>(Lb (K7 hs (Ls hX)) (K7 hs (Ls (La (La (La hX))))))) Z ?_;rcases jF h with⟨d,h⟩ | ⟨d,h⟩
       ·refine KB aw 2 Z (KC 17 Z d (KA aw jM 1 Z 3 Z Z ?_));obtain⟨L,E,h⟩:=Nk h;refine KA aw jM 0 Z 1 Z Z (KN Z (.g Z Z Z) (.fn Tryz.call65 Z) (we a0.MT _ _ a1.MT _ _ _ E) (fun _ hs=>(Lb (K7 hs (Ls (La hX))) (K7 hs (Ls (La (La (La (La hX)))))))) Z ?_);rcases jF h with⟨f,h⟩ | ⟨f,h⟩
        ·refine KB aw 2 Z (KC 24 Z f (KB aw 1 Z (TL.q Z (.g Z Z Z) (KH (us := [.bool a0.MF.MD.null,jS a0.MF.MD.data,jI a0.MF.MV,jI a0.MF.MC,.slice t a0.MF.Mw.length x]) 1 Z Oz NS Z Z Z) Z (KB aw 1 Z (TL.q Z (.g Z Z Z) (KH (us := [.bool a1.MF.MD.null,jS a1.MF.MD.data,jI a1.MF.MV,jI a1.MF.MC,.slice j a1.MF.Mw.length k]) 0 Z Oz NS Z Z Z) Z ?_)))));obtain⟨M,G,h⟩:=Nk h;refine KN Z (.g Z Z Z) (.fn Tryz.call66 Z) (f9 a0.MF _ _ a1.MF _ _ _ G) (fun _ hs=>(Lb (K7 hs (Ls (La (La hX)))) (K7 hs (La (La (La (La (La hX)))))))) Z (KB aw 2 Z ?_);cases h;exact TL.nil (KJ [0,0,0])
        replace f:=Nt f;refine KB aw 2 Z (KC 24 Z f (KB aw 7 Z ?_));cases h;exact TL.nil (KJ [0,0,0])
       replace d:=Nt d;refine KB aw 2 Z (KC 17 Z d (KB aw 14 Z ?_));cases h;exact TL.nil (KJ [0,0,0])
      refine Kw Z (Lx (us := [jI a0.MA.MH,jI a0.MA.MG,jI a0.MA.MO,.bool a0.MA.ME.null,jS a0.MA.ME.data]) (vs := [jI a1.MA.MH,jI a1.MA.MG,jI a1.MA.MO,.bool a1.MA.ME.null,jS a1.MA.ME.data]) dR Z PG Z Z Z Z (bD (eN a) (bD (eN b) (bD (eN c) (bD (jW n) (eT (mp (l:=a0.MA.ME.data) (m:=a1.MA.ME.data) p))))))) Z (KB aw 22 Z ?_);cases h;exact TL.nil (KJ [0,0,0])
     refine Kw Z (Lx (us := [jI a0.MA.MH,jI a0.MA.MG,jI a0.MA.MO,.bool a0.MA.ME.null,jS a0.MA.ME.data]) (vs := [jI a1.MA.MH,jI a1.MA.MG,jI a1.MA.MO,.bool a1.MA.ME.null,jS a1.MA.ME.data]) dR Z PG Z Z Z Z (bD (eN a) (bD (eN b) (bD (eN c) (eT (m1 n)))))) Z (KB aw 22 Z ?_);cases h;exact TL.nil (KJ [0,0,0])
    refine Kw Z (Lx (us := [jI a0.MA.MH,jI a0.MA.MG,jI a0.MA.MO,.bool a0.MA.ME.null,jS a0.MA.ME.data]) (vs := [jI a1.MA.MH,jI a1.MA.MG,jI a1.MA.MO,.bool a1.MA.ME.null,jS a1.MA.ME.data]) dR Z PG Z Z Z Z (bD (eN a) (bD (eN b) (eT (kH c))))) Z (KB aw 22 Z ?_);cases h;exact TL.nil (KJ [0,0,0])
   refine Kw Z (Lx (us := [jI a0.MA.MH,jI a0.MA.MG,jI a0.MA.MO,.bool a0.MA.ME.null,jS a0.MA.ME.data]) (vs := [jI a1.MA.MH,jI a1.MA.MG,jI a1.MA.MO,.bool a1.MA.ME.null,jS a1.MA.ME.data]) dR Z PG Z Z Z Z (bD (eN a) (eT (kH b)))) Z (KB aw 22 Z ?_);cases h;exact TL.nil (KJ [0,0,0])
  refine Kw Z (Lx (us := [jI a0.MA.MH,jI a0.MA.MG,jI a0.MA.MO,.bool a0.MA.ME.null,jS a0.MA.ME.data]) (vs := [jI a1.MA.MH,jI a1.MA.MG,jI a1.MA.MO,.bool a1.MA.ME.null,jS a1.MA.ME.data]) dR Z PG Z Z Z Z (eT (kH a))) Z (KB aw 22 Z ?_);cases h;exact TL.nil (KJ [0,0,0])
 rintro _ _ ⟨rfl,rfl⟩;clear h;have h:=i;clear i;obtain rfl:=Nl h;exact X.seq (T.ret (KI [2] Tryz.results17 (Ky Z)))
def nl (a0:AI):Option (gC):=if (a0.length:Int)<4 then (some (⟨(⟨(⟨0,0,0,(⟨false,[]⟩:Bl)⟩:d9),(⟨(⟨false,[]⟩:Bl),0,0,0,[],false⟩:aL),[],(⟨(⟨false,[]⟩:Bl),0,0,[]⟩:aQ)⟩:cA),0,1⟩:gC)) else (if 4<=a0.length then ((gK (a0.take 4)).bind fun b=>if b<0 then (some (⟨(⟨(⟨0,0,0,(⟨false,[]⟩:Bl)⟩:d9),(⟨(⟨false,[]⟩:Bl),0,0,0,[],false⟩:aL),[],(⟨(⟨false,[]⟩:Bl),0,0,[]⟩:aQ)⟩:cA),0,4⟩:gC)) else (if A0 ((a0.length:Int) - 4) then (if b>((a0.length:Int) - 4) then (some (⟨(⟨(⟨0,0,0,(⟨false,[]⟩:Bl)⟩:d9),(⟨(⟨false,[]⟩:Bl),0,0,0,[],false⟩:aL),[],(⟨(⟨false,[]⟩:Bl),0,0,[]⟩:aQ)⟩:cA),0,1⟩:gC)) else (if A0 (4+b) then (if 0<=(4+b)/\4<=(4+b).toNat/\(4+b).toNat<=a0.length then ((ni ((a0.drop 4).take (((4+b).toNat) - 4))).bind fun (c,a,g)=>if g=0 then (if c.MH=0 then (if 0<=a/\a.toNat<=((a0.drop 4).take (((4+b).toNat) - 4)).length then ((lB (((a0.drop 4).take (((4+b).toNat) - 4)).drop a.toNat) c.MG).bind fun (k,d,h)=>if h=0 then (if A0 (a+d) then (if (a+d)<b then (some (⟨(⟨(⟨0,0,0,(⟨false,[]⟩:Bl)⟩:d9),(⟨(⟨false,[]⟩:Bl),0,0,0,[],false⟩:aL),[],(⟨(⟨false,[]⟩:Bl),0,0,[]⟩:aQ)⟩:cA),0,2⟩:gC)) else (if A0 (4+b) then (some (⟨(⟨c,(⟨(⟨false,[]⟩:Bl),0,0,0,[],false⟩:aL),[],k⟩:cA),(4+b),0⟩:gC)) else none)) else none) else (some (⟨(⟨(⟨0,0,0,(⟨false,[]⟩:Bl)⟩:d9),(⟨(⟨false,[]⟩:Bl),0,0,0,[],false⟩:aL),[],(⟨(⟨false,[]⟩:Bl),0,0,[]⟩:aQ)⟩:cA),0,h⟩:gC))) else none) else (if c.MH=27 then (if 0<=a/\a.toNat<=((a0.drop 4).take (((4+b).toNat) - 4)).length then ((nk (((a0.drop 4).take (((4+b).toNat) - 4)).drop a.toNat) c.MG).bind fun (l,e,i)=>if i=0 then (if A0 (a+e) then (if (a+e)<b then (some (⟨(⟨(⟨0,0,0,(⟨false,[]⟩:Bl)⟩:d9),(⟨(⟨false,[]⟩:Bl),0,0,0,[],false⟩:aL),[],(⟨(⟨false,[]⟩:Bl),0,0,[]⟩:aQ)⟩:cA),0,2⟩:gC)) else (if A0 (4+b) then (some (⟨(⟨c,(⟨(⟨false,[]⟩:Bl),0,0,0,[],false⟩:aL),l,(⟨(⟨false,[]⟩:Bl),0,0,[]⟩:aQ)⟩:cA),(4+b),0⟩:gC)) else none)) else none) else (some (⟨(⟨(⟨0,0,0,(⟨false,[]⟩:Bl)⟩:d9),(⟨(⟨false,[]⟩:Bl),0,0,0,[],false⟩:aL),[],(⟨(⟨false,[]⟩:Bl),0,0,[]⟩:aQ)⟩:cA),0,i⟩:gC))) else none) else (if 0<=a/\a.toNat<=((a0.drop 4).take (((4+b).toNat) - 4)).length then ((ji c.MH c.MG (((a0.drop 4).take (((4+b).toNat) - 4)).drop a.toNat)).bind fun (m,f,j)=>if j=0 then (if A0 (a+f) then (if (a+f)<b then (some (⟨(⟨(⟨0,0,0,(⟨false,[]⟩:Bl)⟩:d9),(⟨(⟨false,[]⟩:Bl),0,0,0,[],false⟩:aL),[],(⟨(⟨false,[]⟩:Bl),0,0,[]⟩:aQ)⟩:cA),0,2⟩:gC)) else (if A0 (4+b) then (some (⟨(⟨c,m,[],(⟨(⟨false,[]⟩:Bl),0,0,[]⟩:aQ)⟩:cA),(4+b),0⟩:gC)) else none)) else none) else (some (⟨(⟨(⟨0,0,0,(⟨false,[]⟩:Bl)⟩:d9),(⟨(⟨false,[]⟩:Bl),0,0,0,[],false⟩:aL),[],(⟨(⟨false,[]⟩:Bl),0,0,[]⟩:aQ)⟩:cA),0,j⟩:gC))) else none))) else (some (⟨(⟨(⟨0,0,0,(⟨false,[]⟩:Bl)⟩:d9),(⟨(⟨false,[]⟩:Bl),0,0,0,[],false⟩:aL),[],(⟨(⟨false,[]⟩:Bl),0,0,[]⟩:aQ)⟩:cA),0,g⟩:gC))) else none) else none)) else none)) else none)
theorem wg (a0:AI) (r:gC) (h:nl a0=some r):aC Tryz.prog 22 #[jS a0] .triv (aJ) (fun v A' N=> ∃ (O:AT) (P:Nat) (Q:AT) (R:Nat) (S:AT) (U:Nat),v= .agg (wA13 r O Q S P R U)/\A'=aJ/\N = [RdR (ar 2 aT) [.slice O r.MQ.M2.Mw.length P] r.MQ.M2.Mw,RdR (ar 5 bc) [.slice Q r.MQ.MT.length R] r.MQ.MT,RdR (ar 2 aZ) [.slice S r.MQ.MF.Mw.length U] r.MQ.MF.Mw]):=by
 refine aW Tryz.func22 Z Tryz.ntmps22 Z ?_;intro F w hX;unfold nl at h;refine Kv Z (TL.alloc Z .u Tryz.zeroValue67 Z (fun b1=>(Kx (T.seq (Kv Z (Ku aw 1 Z (Kw Z (Lh Z Nv) Z (Ku aw 1 Z ?_))))))));rcases jF h with⟨c2,h⟩ | ⟨c2,h⟩
 ·refine KY Z c2 (Kv Z ?_);refine Kw Z (KT (cells:=FP) bH Z QU) Z ?_;refine KE 0 Z (cs':=FP) Z .u Z Z Oi Z Z Z Z Z ?_;obtain rfl:=Nl h;exact Kx (T.ret (Kz (KG 2 aT (KG 5 bc (KG 2 aZ (KO [4,2,1,0] O0 (KV (us:=FP) 3 Z Pd Oi Z Z) ⟨_,_,_,_,_,_,Z,Z,Z⟩ QW (.inl Z)))))))
 refine KW Z c2 (KP Z ?_);obtain⟨c3,h⟩:=al h;refine Ku aw 1 Z ?_;replace c3:4<=a0.length:=c3;refine Kw Z (Lm (p:=0) (q:=4) (m:=(a0.take 4)) Z Nv .none (.some Z Z) (by first | omega | (dsimp only; omega)) (by simp)) Z ?_;obtain⟨d,ae,h⟩:=Nk h;refine KN Z .u (.fn Tryz.call25 Z) (K6 (fun w=>bu (a0.take 4) _ ae w)) (fun _ _=>RX.reads_triv _ _) Z (KF aw Z (T.seq (Kv Z (Ku aw 2 Z ?_))));rcases jF h with⟨V,h⟩ | ⟨V,h⟩
 ·refine KY Z V (Kv Z ?_);refine Kw Z (KT (cells:=vA27) bH Z QU) Z ?_;refine KE 0 Z (cs':=vA27) Z .u Z Z Oi Z Z Z Z Z ?_;obtain rfl:=Nl h;exact Kx (T.ret (Kz (KG 2 aT (KG 5 bc (KG 2 aZ (KO [4,2,1,0] O0 (KV (us:=vA27) 3 Z Pd Oi Z Z) ⟨_,_,_,_,_,_,Z,Z,Z⟩ QW (.inl Z)))))))
 refine KW Z V (KQ (T.seq (Kv Z (Ku aw 2 Z (Kw Z (Lh Z Nv) Z ?_)))));obtain⟨c7,h⟩:=al h;refine Kw Z (Ex.sub Z Z c7) Z (Ku aw 1 Z ?_);rcases jF h with⟨W,h⟩ | ⟨W,h⟩
 ·refine KY Z W (Kv Z ?_);refine Kw Z (KT (cells:=FP) bH Z QU) Z ?_;refine KE 0 Z (cs':=FP) Z .u Z Z Oi Z Z Z Z Z ?_;obtain rfl:=Nl h;exact Kx (T.ret (Kz (KG 2 aT (KG 5 bc (KG 2 aZ (KO [4,2,1,0] O0 (KV (us:=FP) 3 Z Pd Oi Z Z) ⟨_,_,_,_,_,_,Z,Z,Z⟩ QW (.inl Z)))))))
 refine KW Z W (KP Z ?_);obtain⟨c9,h⟩:=al h;refine Ku aw 2 Z (Kw Z (Ex.add Z Z c9) Z ?_);obtain⟨s,h⟩:=al h;replace s:0<=(4+d)/\4<=(4+d).toNat/\(4+d).toNat<=a0.length:=s;refine Kw Z (Lm (p:=4) (q:=(4+d).toNat) (m:=((a0.drop 4).take (((4+d).toNat) - 4))) Z Nv (.some Z Z) (.some Z ((Int.toNat_of_nonneg s.1).symm)) (by first | omega | (dsimp only; omega)) Z) Z ?_;refine K3 aw Z Z ?_;obtain⟨⟨a,f,t⟩,Y,h⟩:=Nk h;refine Ku aw 1 Z (KN Z .u (.fn Tryz.call72 Z) (wb ((a0.drop 4).take (((4+d).toNat) - 4)) _ Y) rT Z (Ku aw 4 Z (TL.alloc Z .u Tryz.zeroValue45 Z (fun am=>(KE 0 Z (cs':= #[jI a.MH,jI a.MG,jI a.MO,.bool a.ME.null,jS a.ME.data]) Z .u Z Z On Z Z Z Z Z (KF aw Z (T.seq (Kv Z (Ku aw 2 Z ?_)))))))));rcases jF h with⟨x,h⟩ | ⟨x,h⟩
 ·refine K1 Z x (KP Z (Kw Z (KH (us := [jI a.MH,jI a.MG,jI a.MO,.bool a.ME.null,jS a.ME.data]) 0 Z O6 On Z Z Z) Z ?_));refine Kw Z (KT (cells:= #[jI a.MH,jI a.MG,jI a.MO,.bool a.ME.null,jS a.ME.data,.bool false,.string ⟨#[]⟩,jI 0,jI 0,jI 0,.slice none 0 0,.bool false,.slice none 0 0,.bool false,.string ⟨#[]⟩,jI 0,jI 0,.slice none 0 0]) qR Z QU) Z ?_;refine TL.alloc Z .u Tryz.zeroValue53 Z (fun an=>(KE 0 Z (cs':= #[jI a.MH,jI a.MG,jI a.MO,.bool a.ME.null,jS a.ME.data,.bool false,.string ⟨#[]⟩,jI 0,jI 0,jI 0,.slice none 0 0,.bool false,.slice none 0 0,.bool false,.string ⟨#[]⟩,jI 0,jI 0,.slice none 0 0]) Z .u Z Z Oo Z Z Z Z Z (KU Z (KF aw Z (T.seq (Kv Z (LQ aw jM 1 Z Z Z (T.block (Kv Z (Ku aw 2 Z ?_))))))))));rcases jF h with⟨y,h⟩ | ⟨y,h⟩
  ·refine KY Z y ?_;refine Lc (.q 0 (.q 1 (.q 2 (.q 3 (.q 4 (.e 5 (.q 6 (.q 7 (.q 8 (.q 9 (.q 10 (.e 11 (.q 12 (.q 13 .nil)))))))))))))) [1,1,1] Z kN (NoP.blk (NoP.seq bj)) QU ?_;obtain⟨z,h⟩:=al h;refine TD.run aw [0,1] Z Z ?_;replace z:0<=f/\f.toNat<=((a0.drop 4).take (((4+d).toNat) - 4)).length:=z;refine KD Z (Lm (p:=f.toNat) (q:=((a0.drop 4).take (((4+d).toNat) - 4)).length) (m:=(((a0.drop 4).take (((4+d).toNat) - 4)).drop f.toNat)) Z Nv (.some Z ((Int.toNat_of_nonneg z.1).symm)) .none (by first | omega | (dsimp only; omega)) (eo _ _)) Z ?_;refine TD.run aw [3] Z Z (KD Z (K4 0 Z Nw Z Z) Z ?_);obtain⟨⟨c,ao,A⟩,aa,h⟩:=Nk h;refine Mp Z .u (.fn Tryz.call73 Z) (wa (((a0.drop 4).take (((4+d).toNat) - 4)).drop f.toNat) a.MG _ aa) rT Z [2,2,2] ?_ ?_
   ·rintro _ _ _ ⟨g,i,rfl,rfl,rfl⟩;rfl
   rintro _ _ _ ⟨g,i,rfl,rfl,rfl⟩;refine LA [0,0,0,0,0] Z (TD.run aw [6,7,8,9,10] Z Z (Lv 1 Z (cs':= #[jI a.MH,jI a.MG,jI a.MO,.bool a.ME.null,jS a.ME.data,.bool false,.string ⟨#[]⟩,jI 0,jI 0,jI 0,.slice none 0 0,.bool false,.slice none 0 0,.bool c.MD.null,jS c.MD.data,jI c.MV,jI c.MC,.slice g c.Mw.length i]) Z .u Z Z NS Z Z Z Z Z [2,2,2] (Z) (TD.run aw [12,13] Z Z (TD.nil (KZ (X.seq (T.seq (Kv Z (Ku aw 2 Z ?_)))))))));rcases jF h with⟨B,h⟩ | ⟨B,h⟩
   ·refine K1 Z B (KQ (T.seq (Kv Z ?_)));obtain⟨af,h⟩:=al h;refine Ku aw 2 Z (Kw Z (Ex.add Z Z af) Z (Ku aw 2 Z ?_));rcases jF h with⟨C,h⟩ | ⟨C,h⟩
    ·refine KY Z C (Kv Z ?_);refine Kw Z (KT (cells:=Ap) bH Z QU) Z ?_;refine KE 3 Z (cs':=Ap) Z .u Z Z Oi Z Z Z Z Z ?_;obtain rfl:=Nl h;exact Kx (T.ret (Kz (KG 2 aT (KG 5 bc (KG 2 aZ (KO [7,2,1,0] O0 (KV (us:=Ap) 6 Z Pd Oi Z Z) ⟨_,_,_,_,_,_,Z,Z,Z⟩ QW (.inl Z)))))))
    refine KW Z C (KP Z (Kw Z (KH (us := [jI a.MH,jI a.MG,jI a.MO,.bool a.ME.null,jS a.ME.data,.bool false,.string ⟨#[]⟩,jI 0,jI 0,jI 0,.slice none 0 0,.bool false,.slice none 0 0,.bool c.MD.null,jS c.MD.data,jI c.MV,jI c.MC,.slice g c.Mw.length i]) 1 Z OY Oo Z Z Z) Z ?_));obtain⟨ag,h⟩:=al h;refine Ku aw 1 Z (Kw Z (Ex.add Z Z ag) Z ?_);refine Kw Z (KT (cells:= #[jI a.MH,jI a.MG,jI a.MO,.bool a.ME.null,jS a.ME.data,.bool false,.string ⟨#[]⟩,jI 0,jI 0,jI 0,.slice none 0 0,.bool false,.slice none 0 0,.bool c.MD.null,jS c.MD.data,jI c.MV,jI c.MC,.slice g c.Mw.length i,jI (4+d),jI 0]) bH Z QU) Z ?_;refine KE 3 Z (cs':= #[jI a.MH,jI a.MG,jI a.MO,.bool a.ME.null,jS a.ME.data,.bool false,.string ⟨#[]⟩,jI 0,jI 0,jI 0,.slice none 0 0,.bool false,.slice none 0 0,.bool c.MD.null,jS c.MD.data,jI c.MV,jI c.MC,.slice g c.Mw.length i,jI (4+d),jI 0]) Z .u Z Z Oi Z Z Z Z Z ?_;obtain rfl:=Nl h;exact Kx (T.ret (KG 2 aT (KG 5 bc (KO [6,1,0,0] O0 (KV (us:= #[jI a.MH,jI a.MG,jI a.MO,.bool a.ME.null,jS a.ME.data,.bool false,.string ⟨#[]⟩,jI 0,jI 0,jI 0,.slice none 0 0,.bool false,.slice none 0 0,.bool c.MD.null,jS c.MD.data,jI c.MV,jI c.MC,.slice g c.Mw.length i,jI (4+d),jI 0]) 5 Z Pd Oi Z Z) ⟨_,_,_,_,_,_,Z,Z,Z⟩ QW (.inl Z)))))
   refine K0 Z B (Kv Z (Ku aw 1 Z ?_));refine Kw Z (KT (cells:=vM A) bH Z QU) Z ?_;refine KE 3 Z (cs':=vM A) Z .u Z Z Oi Z Z Z Z Z ?_;obtain rfl:=Nl h;exact Kx (T.ret (Kz (KG 2 aT (KG 5 bc (KG 2 aZ (KO [7,2,1,0] O0 (KV (us:=vM A) 6 Z Pd Oi Z Z) ⟨_,_,_,_,_,_,Z,Z,Z⟩ QW (.inl Z)))))))
  refine KW Z y (Kv Z (Ku aw 2 Z ?_));rcases jF h with⟨D,h⟩ | ⟨D,h⟩
  ·refine KY Z D ?_;refine Lc (.q 0 (.q 1 (.q 2 (.q 3 (.q 4 (.e 5 (.q 6 (.q 7 (.q 8 (.q 9 (.q 10 (.e 11 (.q 12 (.q 13 .nil)))))))))))))) [1,1,1] Z kN (NoP.blk (NoP.seq bj)) QU ?_;obtain⟨E,h⟩:=al h;refine TD.run aw [0,1] Z Z ?_;replace E:0<=f/\f.toNat<=((a0.drop 4).take (((4+d).toNat) - 4)).length:=E;refine KD Z (Lm (p:=f.toNat) (q:=((a0.drop 4).take (((4+d).toNat) - 4)).length) (m:=(((a0.drop 4).take (((4+d).toNat) - 4)).drop f.toNat)) Z Nv (.some Z ((Int.toNat_of_nonneg E.1).symm)) .none (by first | omega | (dsimp only; omega)) (eo _ _)) Z ?_;refine TD.run aw [3] Z Z (KD Z (K4 0 Z Nw Z Z) Z ?_);obtain⟨⟨o,ap,G⟩,ab,h⟩:=Nk h;refine Mp Z .u (.fn Tryz.call74 Z) (wf (((a0.drop 4).take (((4+d).toNat) - 4)).drop f.toNat) a.MG _ ab) rT Z [2,2,2] ?_ ?_
   ·rintro _ _ _ ⟨j,k,rfl,rfl,rfl⟩;rfl
   rintro _ _ _ ⟨j,k,rfl,rfl,rfl⟩;refine LA [0,0,0,0,0] Z (TD.run aw [6,7,8,9,10] Z Z (Lv 1 Z (cs':= #[jI a.MH,jI a.MG,jI a.MO,.bool a.ME.null,jS a.ME.data,.bool false,.string ⟨#[]⟩,jI 0,jI 0,jI 0,.slice none 0 0,.bool false,.slice j o.length k,.bool false,.string ⟨#[]⟩,jI 0,jI 0,.slice none 0 0]) Z .u Z Z Tryz.sizeOf48 Z Z Z Z Z [2,2,2] (Z) (TD.run aw [12,13] Z Z (TD.nil (KZ (X.seq (T.seq (Kv Z (Ku aw 2 Z ?_)))))))));rcases jF h with⟨H,h⟩ | ⟨H,h⟩
   ·refine K1 Z H (KQ (T.seq (Kv Z ?_)));obtain⟨ah,h⟩:=al h;refine Ku aw 2 Z (Kw Z (Ex.add Z Z ah) Z (Ku aw 2 Z ?_));rcases jF h with⟨I,h⟩ | ⟨I,h⟩
    ·refine KY Z I (Kv Z ?_);refine Kw Z (KT (cells:=Ap) bH Z QU) Z ?_;refine KE 3 Z (cs':=Ap) Z .u Z Z Oi Z Z Z Z Z ?_;obtain rfl:=Nl h;exact Kx (T.ret (Kz (KG 2 aT (KG 5 bc (KG 2 aZ (KO [7,2,1,0] O0 (KV (us:=Ap) 6 Z Pd Oi Z Z) ⟨_,_,_,_,_,_,Z,Z,Z⟩ QW (.inl Z)))))))
    refine KW Z I (KP Z (Kw Z (KH (us := [jI a.MH,jI a.MG,jI a.MO,.bool a.ME.null,jS a.ME.data,.bool false,.string ⟨#[]⟩,jI 0,jI 0,jI 0,.slice none 0 0,.bool false,.slice j o.length k,.bool false,.string ⟨#[]⟩,jI 0,jI 0,.slice none 0 0]) 1 Z OY Oo Z Z Z) Z ?_));obtain⟨ai,h⟩:=al h;refine Ku aw 1 Z (Kw Z (Ex.add Z Z ai) Z ?_);refine Kw Z (KT (cells:= #[jI a.MH,jI a.MG,jI a.MO,.bool a.ME.null,jS a.ME.data,.bool false,.string ⟨#[]⟩,jI 0,jI 0,jI 0,.slice none 0 0,.bool false,.slice j o.length k,.bool false,.string ⟨#[]⟩,jI 0,jI 0,.slice none 0 0,jI (4+d),jI 0]) bH Z QU) Z ?_;refine KE 3 Z (cs':= #[jI a.MH,jI a.MG,jI a.MO,.bool a.ME.null,jS a.ME.data,.bool false,.string ⟨#[]⟩,jI 0,jI 0,jI 0,.slice none 0 0,.bool false,.slice j o.length k,.bool false,.string ⟨#[]⟩,jI 0,jI 0,.slice none 0 0,jI (4+d),jI 0]) Z .u Z Z Oi Z Z Z Z Z ?_;obtain rfl:=Nl h;exact Kx (T.ret (KG 2 aT (KG 2 aZ (KO [6,1,1,0] O0 (KV (us:= #[jI a.MH,jI a.MG,jI a.MO,.bool a.ME.null,jS a.ME.data,.bool false,.string ⟨#[]⟩,jI 0,jI 0,jI 0,.slice none 0 0,.bool false,.slice j o.length k,.bool false,.string ⟨#[]⟩,jI 0,jI 0,.slice none 0 0,jI (4+d),jI 0]) 5 Z Pd Oi Z Z) ⟨_,_,_,_,_,_,Z,Z,Z⟩ QW (.inl Z)))))
   refine K0 Z H (Kv Z (Ku aw 1 Z ?_));refine Kw Z (KT (cells:=vM G) bH Z QU) Z ?_;refine KE 3 Z (cs':=vM G) Z .u Z Z Oi Z Z Z Z Z ?_;obtain rfl:=Nl h;exact Kx (T.ret (Kz (KG 2 aT (KG 5 bc (KG 2 aZ (KO [7,2,1,0] O0 (KV (us:=vM G) 6 Z Pd Oi Z Z) ⟨_,_,_,_,_,_,Z,Z,Z⟩ QW (.inl Z)))))))
  refine KW Z D ?_;refine Lc (.q 0 (.q 1 (.q 2 (.q 3 (.q 4 (.q 5 (.q 6 (.e 7 (.q 8 (.q 9 (.q 10 (.q 11 (.q 12 (.e 13 (.q 14 (.q 15 .nil)))))))))))))))) [1,1,1] Z kN (NoP.blk (NoP.seq bj)) QU ?_;refine TD.run aw [0] Z Z (KD Z (K4 0 Z Nw Z Z) Z (TD.run aw [2] Z Z (KD Z (K4 0 Z Nw Z Z) Z ?_)));obtain⟨J,h⟩:=al h;refine TD.run aw [4,5] Z Z ?_;replace J:0<=f/\f.toNat<=((a0.drop 4).take (((4+d).toNat) - 4)).length:=J;refine KD Z (Lm (p:=f.toNat) (q:=((a0.drop 4).take (((4+d).toNat) - 4)).length) (m:=(((a0.drop 4).take (((4+d).toNat) - 4)).drop f.toNat)) Z Nv (.some Z ((Int.toNat_of_nonneg J.1).symm)) .none (by first | omega | (dsimp only; omega)) (eo _ _)) Z ?_;obtain⟨⟨b,aq,K⟩,ad,h⟩:=Nk h;refine Mp Z .u (.fn Tryz.call75 Z) (wd a.MH a.MG (((a0.drop 4).take (((4+d).toNat) - 4)).drop f.toNat) _ ad) rT Z [2,2,2] ?_ ?_
  ·rintro _ _ _ ⟨l,n,rfl,rfl,rfl⟩;rfl
  rintro _ _ _ ⟨l,n,rfl,rfl,rfl⟩;refine LA [0,0,0,0,0] Z (TD.run aw [8,9,10,11,12] Z Z (Lv 1 Z (cs':= #[jI a.MH,jI a.MG,jI a.MO,.bool a.ME.null,jS a.ME.data,.bool b.MD.null,jS b.MD.data,jI b.MC,jI b.Mx,jI b.Mz,.slice l b.Mw.length n,.bool b.MU,.slice none 0 0,.bool false,.string ⟨#[]⟩,jI 0,jI 0,.slice none 0 0]) Z .u Z Z NC Z Z Z Z Z [2,2,2] (Z) (TD.run aw [14,15] Z Z (TD.nil (KZ (X.seq (T.seq (Kv Z (Ku aw 2 Z ?_)))))))));rcases jF h with⟨L,h⟩ | ⟨L,h⟩
  ·refine K1 Z L (KQ (T.seq (Kv Z ?_)));obtain⟨aj,h⟩:=al h;refine Ku aw 2 Z (Kw Z (Ex.add Z Z aj) Z (Ku aw 2 Z ?_));rcases jF h with⟨M,h⟩ | ⟨M,h⟩
   ·refine KY Z M (Kv Z ?_);refine Kw Z (KT (cells:=Ap) bH Z QU) Z ?_;refine KE 3 Z (cs':=Ap) Z .u Z Z Oi Z Z Z Z Z ?_;obtain rfl:=Nl h;exact Kx (T.ret (Kz (KG 2 aT (KG 5 bc (KG 2 aZ (KO [7,2,1,0] O0 (KV (us:=Ap) 6 Z Pd Oi Z Z) ⟨_,_,_,_,_,_,Z,Z,Z⟩ QW (.inl Z)))))))
   refine KW Z M (KP Z (Kw Z (KH (us := [jI a.MH,jI a.MG,jI a.MO,.bool a.ME.null,jS a.ME.data,.bool b.MD.null,jS b.MD.data,jI b.MC,jI b.Mx,jI b.Mz,.slice l b.Mw.length n,.bool b.MU,.slice none 0 0,.bool false,.string ⟨#[]⟩,jI 0,jI 0,.slice none 0 0]) 1 Z OY Oo Z Z Z) Z ?_));obtain⟨ak,h⟩:=al h;refine Ku aw 1 Z (Kw Z (Ex.add Z Z ak) Z ?_);refine Kw Z (KT (cells:= #[jI a.MH,jI a.MG,jI a.MO,.bool a.ME.null,jS a.ME.data,.bool b.MD.null,jS b.MD.data,jI b.MC,jI b.Mx,jI b.Mz,.slice l b.Mw.length n,.bool b.MU,.slice none 0 0,.bool false,.string ⟨#[]⟩,jI 0,jI 0,.slice none 0 0,jI (4+d),jI 0]) bH Z QU) Z ?_;refine KE 3 Z (cs':= #[jI a.MH,jI a.MG,jI a.MO,.bool a.ME.null,jS a.ME.data,.bool b.MD.null,jS b.MD.data,jI b.MC,jI b.Mx,jI b.Mz,.slice l b.Mw.length n,.bool b.MU,.slice none 0 0,.bool false,.string ⟨#[]⟩,jI 0,jI 0,.slice none 0 0,jI (4+d),jI 0]) Z .u Z Z Oi Z Z Z Z Z ?_;obtain rfl:=Nl h;exact Kx (T.ret (KG 5 bc (KG 2 aZ (KO [6,2,1,0] O0 (KV (us:= #[jI a.MH,jI a.MG,jI a.MO,.bool a.ME.null,jS a.ME.data,.bool b.MD.null,jS b.MD.data,jI b.MC,jI b.Mx,jI b.Mz,.slice l b.Mw.length n,.bool b.MU,.slice none 0 0,.bool false,.string ⟨#[]⟩,jI 0,jI 0,.slice none 0 0,jI (4+d),jI 0]) 5 Z Pd Oi Z Z) ⟨_,_,_,_,_,_,Z,Z,Z⟩ QW (.inl Z)))))
  refine K0 Z L (Kv Z (Ku aw 1 Z ?_));refine Kw Z (KT (cells:=vM K) bH Z QU) Z ?_;refine KE 3 Z (cs':=vM K) Z .u Z Z Oi Z Z Z Z Z ?_;obtain rfl:=Nl h;exact Kx (T.ret (Kz (KG 2 aT (KG 5 bc (KG 2 aZ (KO [7,2,1,0] O0 (KV (us:=vM K) 6 Z Pd Oi Z Z) ⟨_,_,_,_,_,_,Z,Z,Z⟩ QW (.inl Z)))))))
 refine K0 Z x (Kv Z (Ku aw 1 Z ?_));refine Kw Z (KT (cells:=vM t) bH Z QU) Z ?_;refine KE 1 Z (cs':=vM t) Z .u Z Z Oi Z Z Z Z Z ?_;obtain rfl:=Nl h;exact Kx (T.ret (Kz (KG 2 aT (KG 5 bc (KG 2 aZ (KO [5,2,1,0] O0 (KV (us:=vM t) 4 Z Pd Oi Z Z) ⟨_,_,_,_,_,_,Z,Z,Z⟩ QW (.inl Z)))))))
def Ha:fw := [(103,0,0),(103,1,1),(103,2,2),(103,3,3),(103,4,4),(103,5,5),(103,6,6),(171,0,0),(171,1,1)]
theorem an:(Ha).OK Tryz.prog:=⟨FOK.mk O7 rfl Nu rfl,FOK.mk O7 rfl Nu rfl,FOK.mk O7 rfl Nu rfl,FOK.mk O7 rfl Nu rfl,FOK.mk O7 rfl Pn rfl,FOK.mk O7 rfl Nu rfl,FOK.mk O7 rfl Nu rfl,FOK.mk O5 rfl N5 rfl,FOK.mk O5 rfl Po rfl,trivial⟩
def Hb:List Nat := [3,9,28,74]
theorem bO:NOK Tryz.prog Hb:=⟨Nw,N8,Pw,OR,trivial⟩
theorem ro:Tryz.prog.follows .mixedOrders=true:=by kernel_rfl
theorem yK:BOK Tryz.prog 171 #[.string ⟨#[]⟩,.slice none 0 0] [(0,1),(1,1)]:=BOK.mk Tryz.zeroValue171 O5 (by intro w; simp)
theorem xe:SOK Tryz.prog 28 171 1 2 #[.string ⟨#[]⟩,.slice none 0 0]:=SOK.mk NK N0 Tryz.zeroValue171 QS QU
theorem np:SOK Tryz.prog 74 3 1 1 #[.int .i64 0]:=SOK.mk ND Nu Tryz.zeroValue3 QS QU
theorem xf:SOK Tryz.prog 78 9 1 1 #[.string ⟨#[]⟩]:=SOK.mk Ps N5 Tryz.zeroValue9 QS QU
theorem qS:(Tryz.prog.info? 3).map (fun i=>(i.zero,i.size,i.bytes))=some (some (.int .i64 0),1,8):=by kernel_rfl
theorem BO:(Tryz.prog.info? 9).map (fun i=>(i.zero,i.size,i.bytes))=some (some (.string ⟨#[]⟩),1,16):=by kernel_rfl
theorem yL:(Tryz.prog.info? 171).map (fun i=>(i.zero,i.size,i.bytes))=some (some (.agg #[.string ⟨#[]⟩,.slice none 0 0]),2,40):=by kernel_rfl
def cW:List Int->(AI×Int)->Option (AI×Int)
 | [],a=>some a
 | c::xs,a=>(ed a c 4).bind fun b=>cW xs b
def cX:List Top->(AI×Int)->Option (AI×Int)
 | [],a=>some a
 | b::xs,a=>(kF a b.MI).bind fun c=>(ed c (b.My.length:Int) 4).bind fun d=>(cW b.My d).bind fun e=>cX xs e
def fp (st:AI×Int) (a1:List Top):Option (AI×Int):=(ed st (a1.length:Int) 4).bind fun b=>(cX a1 b).bind fun a=>some a
theorem kO (g:Nat) (st:AI×Int) (a1:List Top) (P:AT) (c2:Nat) (r:AI×Int) (h:fp st a1=some r):aC Tryz.prog 91 #[jP g,.slice P a1.length c2] (RX.of (ar 2 aT) [.slice P a1.length c2] a1) (bz g st) (fun v A' N=>v= .tuple #[]/\A'=bz g r/\N = []):=by
 refine aW Tryz.func91 Z Tryz.ntmps91 Z ?_;intro F w hX;unfold fp at h;refine Kv Z (Ku an 2 Z (Kw Z (K2 Z NK) Z ?_));obtain⟨af,ag,h⟩:=Nk h;refine KK 0 Z Z .u (.fn Tryz.call51 Z) (bq g st (a1.length:Int) 4 _ ag) sT Z Z (KU Z (Ku an 1 Z (Kw Z (K2 Z NK) Z (KF an Z (T.block ?_)))));obtain⟨E7,M,ah⟩:=Nk h;have ad:=Ly hX;refine Lq (fun m e Rs=> ∃ (d:Nat) (p:AI×Int),d+m=a1.length/\e = [(0,jP g),(12,.slice P a1.length c2),(13,jI (a1.length:Int)),(14,jI (d:Int))]/\Rs = [bz g p]/\cX (a1.drop d) p=some E7) (a1.length) [0] ⟨0,af,by simp,Z,Z,by rw[List.drop_zero]; exact M⟩ QW QW ?_;clear M h;rintro q _ _ ⟨d,p,ap,rfl,rfl,h⟩
 cases q with
 | zero =>
  rw[List.drop_of_length_le QR,cX] at h;have s: ¬ ((d:Int)<(a1.length:Int)):=by omega
  refine Kv Z (KF an Z (T.seq (K8 Z (Np s) ?_)));obtain rfl:=Nl h;obtain rfl:=Nl ah;exact T.exit (KR (KR (Ll (LK [0] Tryz.results91 ⟨Z,Z,Z⟩ QW (.inr Z)))))
 | succ q =>
  obtain⟨a,f⟩: ∃ x,a1[d]? = some x:=⟨_,List.getElem?_eq_getElem QR⟩;rw[bY f,cX] at h;have t:(d:Int)<(a1.length:Int):=by omega
  refine Kv Z (KF an Z (T.seq (KM Z (Nn t) ?_)));obtain⟨Q,R,rfl,ak,al,E,G,n⟩:=Lg QS hX f;obtain⟨S,n,H⟩:=n;obtain⟨j,l,rfl,I⟩:=n;have y:(RX.of (ar 1 cR) [.slice j a.My.length l] a.My).reads w F:=⟨S,I,H⟩;refine KQ (T.seq (T.block (Kv Z ?_)));refine Kw Z (KX (k:=d) Z Z Z NK N0 (Nq f).1) Z ?_;refine Kw Z (LE (us := [jS a.MI,.slice j a.My.length l]) 0 Z P8 N0 G E Z Z Z) Z (TL.alloc Z .u Tryz.zeroValue171 Z (fun ai=>(KE 0 Z (cs':= #[jS a.MI,.slice j a.My.length l]) Z .u Z Z N0 Z Z Z Z Z (KU Z ?_))));obtain⟨U,V,h⟩:=Nk h;refine KA an bO 0 Z 3 Z Z (KK 1 Z Z .u (.fn Tryz.call88 Z) (lP g p a.MI _ V) sT Z Z (KU Z (KA an bO 0 Z 3 Z Z (Kw Z (K2 Z ND) Z ?_))));obtain⟨W,Y,h⟩:=Nk h;refine KK 1 Z Z .u (.fn Tryz.call51 Z) (bq g U (a.My.length:Int) 4 _ Y) sT Z Z (KU Z (KA an bO 0 Z 2 Z Z (Kw Z (K2 Z ND) Z (KF an Z (T.block ?_)))));obtain⟨aj,z,A⟩:=Nk h;have ae:=Ly y;refine Lq (fun m e Rs=> ∃ (b:Nat) (c:AI×Int),b+m=a.My.length/\e = [(0,jP g),(12,.slice (some ⟨Q,R,none⟩) a1.length c2),(13,jI (a1.length:Int)),(14,jI (d:Int)),(28,.slice j a.My.length l),(29,jI (a.My.length:Int)),(30,jI (b:Int))]/\Rs = [aV ai 171 #[jS a.MI,.slice j a.My.length l],bz g c]/\cW (a.My.drop b) c=some aj) (a.My.length) [0,0] ⟨0,W,by simp,Z,Z,by rw[List.drop_zero]; exact z⟩ QW QW ?_;clear z h;rintro B _ _ ⟨b,c,aq,rfl,rfl,h⟩
  cases B with
  | zero =>
   rw[List.drop_of_length_le QR,cW] at h;have C: ¬ ((b:Int)<(a.My.length:Int)):=by omega
   refine Kv Z (KF an Z (T.seq (K8 Z (Np C) ?_)));obtain rfl:=Nl h;replace h:=A;clear A;exact T.exit (KR (KR (Ll (KZ (X.seq (T.region Z (Kw Z (Ex.add Z Z QR) Z (Ku an 1 Z (TL.nil (X.back (m':=q) [1] QR ⟨d+1,c,by omega,Z,Z,h⟩ QW QW))))))))))
  | succ B =>
   obtain⟨O,i⟩: ∃ x,a.My[b]? = some x:=⟨_,List.getElem?_eq_getElem QR⟩;rw[bY i,cW] at h;have D:(b:Int)<(a.My.length:Int):=by omega
   refine Kv Z (KF an Z (T.seq (KM Z (Nn D) ?_)));obtain⟨au,av,rfl,J,am,K,L,o⟩:=Lg QS y i;obtain⟨aw,o,ao⟩:=o;obtain rfl:J = [jI O]:=o;refine KQ (T.seq (T.block (Kv Z ?_)));refine Kw Z (KX (k:=b) Z Z Z ND Nu (Nq i).1) Z ?_;refine Kw Z (Lo 0 Z Nw L K Z Z) Z (KF an Z (T.region Z ?_));obtain⟨aa,ab,h⟩:=Nk h;exact Ku an 2 Z (KK 1 Z Z .u (.fn Tryz.call51 Z) (bq g c O 4 _ ab) sT Z Z (TL.nil (KZ (X.seq (T.region Z (Kw Z (Ex.add Z Z QR) Z (Ku an 1 Z (TL.nil (X.back (m':=B) [0,0] QR ⟨b+1,aa,by omega,Z,Z,h⟩ QW QW)))))))))
def mK (a0:Int):Option (Bool):=if a0=0 then some true else (if a0>=4 then some true else some false)
theorem th (a0:Int) (r:Bool) (h:mK a0=some r):aC Tryz.prog 145 #[jI a0] .triv (aJ) (fun v A' N=>v= .bool r/\A'=aJ/\N = []):=by
 refine aW Tryz.func145 Z Tryz.ntmps145 Z ?_;intro F w hX;unfold mK at h;refine Kv Z (K3 an Z Z ?_);rcases jF h with⟨a,h⟩ | ⟨a,h⟩
 ·refine Ku an 3 Z (KC 5 Z (Nn a) (KB an 4 Z ?_));obtain rfl:=Nl h;exact Kx (T.ret (KI [0] Tryz.results145 (Ky Z)))
 refine Ku an 3 Z (KC 5 Z (Np a) (KB an 4 Z ?_));rcases jF h with⟨c2,h⟩ | ⟨c2,h⟩
 ·obtain rfl:=Nl h;exact Kx (T.ret (KO [0] Tryz.results145 (Ky (v:= .bool true) (congrArg (fun b=>some (Value.bool b)) (Nn c2))) ⟨Z,Z,Z⟩ QW (.inl Z)))
 obtain rfl:=Nl h;exact Kx (T.ret (KO [0] Tryz.results145 (Ky (v:= .bool false) (congrArg (fun b=>some (Value.bool b)) (Np c2))) ⟨Z,Z,Z⟩ QW (.inl Z)))
def cY (a0:List Int):Nat->Bool->Int->Option (Lp Bool (Bool×Int))
 | 0,_,_=>none
 | e+1,b,a=>if a<(a0.length:Int) then (if A0 (a - 1) then (if 0<=(a - 1) then ((a0[(a - 1).toNat]?).bind fun c=>if 0<=a then ((a0[a.toNat]?).bind fun d=>if c>=d then some (Lp.ret false) else (if A0 (a+1) then (cY a0 e b (a+1)) else none)) else none) else none) else none) else (some (Lp.go (b,a)))
def gl (a0:List Int):Option (Bool):=(cY a0 ((((a0.length:Int)) - (1)).toNat+1) false 1).bind fun e=>match e with | .ret r=>some r | .go (a,b)=>some true
theorem pK (a0:List Int) (y:AT) (c2:Nat) (r:Bool) (h:gl a0=some r):aC Tryz.prog 218 #[.slice y a0.length c2] (RX.of (ar 1 cR) [.slice y a0.length c2] a0) (aJ) (fun v A' N=>v= .bool r/\A'=aJ/\N = []):=by
 refine aW Tryz.func218 Z Tryz.ntmps218 Z ?_;intro F w hX;unfold gl at h;refine Kv Z (KF an Z (T.seq (Kv Z (KF an Z (T.block ?_)))));obtain⟨L,x,d⟩:=Nk h;refine Lq (fun m e Rs=> ∃ (l:Bool) (c:Int),e = [(0,.slice y a0.length c2),(2,.bool l),(3,jI c)]/\Rs = [aJ]/\cY a0 m l c=some L) ((((a0.length:Int)) - (1)).toNat+1) [0] ⟨false,1,Z,Z,by exact x⟩ QW QW ?_;clear x h;rintro z _ _ ⟨l,c,rfl,rfl,h⟩
 cases z with
 | zero =>
  rw[cY] at h;cases h
 | succ z =>
  rw[cY] at h;refine T.seq (Kv Z (Ku an 2 Z (Kw Z (K2 Z ND) Z (Ku an 1 Z ?_))));rcases jF h with⟨f,h⟩ | ⟨f,h⟩
  ·refine KY Z f ?_;refine KQ (T.seq (T.block (T.seq (Lc (.q 0 (.q 1 (.q 2 (.q 3 (.q 4 (.q 5 (.q 6 (.q 7 (.q 8 (.q 9 .nil)))))))))) [0] Z ro (NoP.seq (NoP.blk (NoP.seq (NoP.seq (NoP.blk (NoP.seq bj)))))) QU ?_))));obtain⟨A,h⟩:=al h;refine TD.run an [0,1] Z Z (KD Z (Ex.sub Z Z A) Z ?_);obtain⟨B,h⟩:=al h;obtain⟨C,g,h⟩:=Nk h;obtain⟨M,O,rfl,n,H,o,p,a⟩:=Lg QS hX g;obtain⟨P,a,I⟩:=a;obtain rfl:n = [jI C]:=a;refine KD Z (KX (k:=(c - 1).toNat) Z Z ((Int.toNat_of_nonneg B).symm) ND Nu (Nq g).1) Z ?_;refine KD Z (Lo 0 Z Nw p o Z Z) Z ?_;obtain⟨D,h⟩:=al h;obtain⟨E,i,h⟩:=Nk h;obtain⟨s,J,t,u,b⟩:=L8 QS hX i;obtain⟨Q,b,K⟩:=b;obtain rfl:s = [jI E]:=b;refine TD.run an [5,6] Z Z ?_;refine KD Z (KX (k:=c.toNat) Z Z ((Int.toNat_of_nonneg D).symm) ND Nu (Nq i).1) Z ?_;refine KD Z (Lo 0 Z Nw u t Z Z) Z (TD.run an [9] Z Z ?_);rcases jF h with⟨j,h⟩ | ⟨j,h⟩
   ·refine Lt (LT Z j (Kv Z (Ku an 1 Z ?_)));obtain rfl:=Nl h;obtain rfl:=Nl d;exact Kx (T.ret (KL (Kz (Kz (KL (Kz (KI [0] Tryz.results218 (Ky Z))))))))
   refine Lt (LX Z j (T.skip (KZ (X.seq (T.region Z ?_)))));obtain⟨G,h⟩:=al h;exact Ku an 1 Z (Kw Z (Ex.add Z Z G) Z (Ku an 1 Z (TL.nil (X.back (m':=z) [0] QR ⟨l,(c+1),Z,Z,h⟩ QW QW))))
  refine KW Z f ?_;obtain rfl:=Nl h;replace h:=d;clear d;refine T.exit (KR (KR (Ll (X.seq (Kv Z (Ku an 1 Z ?_))))));obtain rfl:=Nl h;exact Kx (T.ret (KI [0] Tryz.results218 (Ky Z)))
def eV:List Int->Bool->Option (Lp Bool Bool)
 | [],a=>some (Lp.go a)
 | b::xs,a=>if b<0 then some (Lp.ret false) else ((jG b 4).bind fun c=>if c=true then (eV xs a) else some (Lp.ret false))
def jZ (a0:List Int):Option (Bool):=(eV a0 false).bind fun e=>match e with | .ret r=>some r | .go b=>(if (a0.length:Int)>0 then ((gl a0).bind fun a=>some a) else some false)
theorem sp (a0:List Int) (o:AT) (c2:Nat) (r:Bool) (h:jZ a0=some r):aC Tryz.prog 189 #[.slice o a0.length c2] (RX.of (ar 1 cR) [.slice o a0.length c2] a0) (aJ) (fun v A' N=>v= .bool r/\A'=aJ/\N = []):=by
 refine aW Tryz.func189 Z Tryz.ntmps189 Z ?_;intro F w hX;unfold jZ at h;refine Kv Z (KF an Z (T.seq (Kv Z (Ku an 1 Z (Kw Z (K2 Z ND) Z (KF an Z (T.block ?_)))))));obtain⟨G,u,f⟩:=Nk h;have B:=Ly hX;refine Lq (fun m e Rs=> ∃ (p:Bool) (a:Nat),a+m=a0.length/\e = [(0,.slice o a0.length c2),(2,.bool p),(5,.slice o a0.length c2),(6,jI (a0.length:Int)),(7,jI (a:Int))]/\Rs = [aJ]/\eV (a0.drop a) p=some G) (a0.length) [0] ⟨false,0,by simp,Z,Z,by rw[List.drop_zero]; exact u⟩ QW QW ?_;clear u h;rintro y _ _ ⟨p,a,H,rfl,rfl,h⟩
 cases y with
 | zero =>
  rw[List.drop_of_length_le QR,eV] at h;have i: ¬ ((a:Int)<(a0.length:Int)):=by omega
  refine Kv Z (KF an Z (T.seq (K8 Z (Np i) ?_)));obtain rfl:=Nl h;replace h:=f;clear f;refine T.exit (KR (KR (Ll (X.seq (Kv Z (Ku an 1 Z (Kw Z (K2 Z ND) Z ?_)))))));rcases jF h with⟨j,h⟩ | ⟨j,h⟩
  ·refine Ku an 2 Z (KC 22 Z (Nn j) ?_);obtain⟨L,z,h⟩:=Nk h;refine KB an 1 Z (KN Z (.g Z Z Z) (.fn Tryz.call218 Z) (pK a0 _ _ _ z) (fun _ hs=>(K7 hs hX)) Z (KB an 2 Z ?_));obtain rfl:=Nl h;exact Kx (T.ret (KI [0] QG (Ky Z)))
  refine Ku an 2 Z (KC 22 Z (Np j) (KB an 4 Z ?_));obtain rfl:=Nl h;exact Kx (T.ret (KI [0] QG (Ky Z)))
 | succ y =>
  obtain⟨C,c⟩: ∃ x,a0[a]? = some x:=⟨_,List.getElem?_eq_getElem QR⟩;rw[bY c,eV] at h;have l:(a:Int)<(a0.length:Int):=by omega
  refine Kv Z (KF an Z (T.seq (KM Z (Nn l) ?_)));obtain⟨I,J,rfl,q,D,s,t,d⟩:=Lg QS hX c;obtain⟨K,d,E⟩:=d;obtain rfl:q = [jI C]:=d;refine KQ (T.seq (T.block (Kv Z ?_)));refine Kw Z (KX (k:=a) Z Z Z ND Nu (Nq c).1) Z ?_;refine Kw Z (Lo 0 Z Nw t s Z Z) Z (K3 an Z Z ?_);rcases jF h with⟨n,h⟩ | ⟨n,h⟩
  ·refine Ku an 3 Z (KC 13 Z (Nn n) (Lk an Z (KM Z Z (Kv Z (Ku an 1 Z ?_)))));obtain rfl:=Nl h;obtain rfl:=Nl f;exact Kx (T.ret (KL (Kz (Kz (KL (Kz (KI [0] QG (Ky Z))))))))
  refine Ku an 3 Z (KC 13 Z (Np n) ?_);obtain⟨M,A,h⟩:=Nk h;refine KB an 1 Z (KN Z (.g Z Z Z) (.fn Tryz.call101 Z) (K6 (fun w=>dH C 4 _ A w)) (fun _ _=>RX.reads_triv _ _) Z (KB an 2 Z ?_));rcases jF h with⟨b,h⟩ | ⟨b,h⟩
  ·exact Kx (K8 Z (bb b) (T.skip (KZ (X.seq (T.region Z (Kw Z (Ex.add Z Z QR) Z (Ku an 1 Z (TL.nil (X.back (m':=y) [0] QR ⟨p,a+1,by omega,Z,Z,h⟩ QW QW)))))))))
  replace b:=Nt b;refine Kx (KM Z (bp b) (Kv Z (Ku an 1 Z ?_)));obtain rfl:=Nl h;obtain rfl:=Nl f;exact Kx (T.ret (KL (Kz (Kz (KL (Kz (KI [0] QG (Ky Z))))))))
def cw (a0:List AI):Nat->Bool->Int->Option (Lp Bool (Bool×Int))
 | 0,_,_=>none
 | e+1,b,a=>if a<(a0.length:Int) then (if A0 (a - 1) then (if 0<=(a - 1) then ((a0[(a - 1).toNat]?).bind fun c=>if 0<=a then ((a0[a.toNat]?).bind fun d=>if (Op.bytesLess c d)=true then (if A0 (a+1) then (cw a0 e b (a+1)) else none) else some (Lp.ret false)) else none) else none) else none) else (some (Lp.go (b,a)))
def fg (a0:List AI):Option (Bool):=(cw a0 ((((a0.length:Int)) - (1)).toNat+1) false 1).bind fun e=>match e with | .ret r=>some r | .go (a,b)=>some true
theorem nK (a0:List AI) (y:AT) (c2:Nat) (r:Bool) (h:fg a0=some r):aC Tryz.prog 190 #[.slice y a0.length c2] (RX.of (ar 1 wV) [.slice y a0.length c2] a0) (aJ) (fun v A' N=>v= .bool r/\A'=aJ/\N = []):=by
 refine aW Tryz.func190 Z Tryz.ntmps190 Z ?_;intro F w hX;unfold fg at h;refine Kv Z (KF an Z (T.seq (Kv Z (KF an Z (T.block ?_)))));obtain⟨L,x,f⟩:=Nk h;refine Lq (fun m e Rs=> ∃ (l:Bool) (d:Int),e = [(0,.slice y a0.length c2),(2,.bool l),(3,jI d)]/\Rs = [aJ]/\cw a0 m l d=some L) ((((a0.length:Int)) - (1)).toNat+1) [0] ⟨false,1,Z,Z,by exact x⟩ QW QW ?_;clear x h;rintro z _ _ ⟨l,d,rfl,rfl,h⟩
 cases z with
 | zero =>
  rw[cw] at h;cases h
 | succ z =>
  rw[cw] at h;refine T.seq (Kv Z (Ku an 2 Z (Kw Z (K2 Z Ps) Z (Ku an 1 Z ?_))));rcases jF h with⟨g,h⟩ | ⟨g,h⟩
  ·refine KY Z g ?_;refine KQ (T.seq (T.block (T.seq (Lc (.q 0 (.q 1 (.q 2 (.q 3 (.q 4 (.q 5 (.q 6 (.q 7 (.q 8 (.q 9 .nil)))))))))) [0] Z ro (NoP.seq (NoP.blk (NoP.seq (NoP.seq (NoP.blk (NoP.seq bj)))))) QU ?_))));obtain⟨A,h⟩:=al h;refine TD.run an [0,1] Z Z (KD Z (Ex.sub Z Z A) Z ?_);obtain⟨B,h⟩:=al h;obtain⟨C,i,h⟩:=Nk h;obtain⟨M,O,rfl,n,H,o,p,b⟩:=Lg QS hX i;obtain⟨P,b,I⟩:=b;obtain rfl:n = [jS C]:=b;refine KD Z (KX (k:=(d - 1).toNat) Z Z ((Int.toNat_of_nonneg B).symm) Ps N5 (Nq i).1) Z ?_;refine KD Z (Lo 0 Z N8 p o Z Z) Z ?_;obtain⟨D,h⟩:=al h;obtain⟨E,j,h⟩:=Nk h;obtain⟨s,J,t,u,c⟩:=L8 QS hX j;obtain⟨Q,c,K⟩:=c;obtain rfl:s = [jS E]:=c;refine TD.run an [5,6] Z Z ?_;refine KD Z (KX (k:=d.toNat) Z Z ((Int.toNat_of_nonneg D).symm) Ps N5 (Nq j).1) Z ?_;refine KD Z (Lo 0 Z N8 u t Z Z) Z (KD Z (Ex.sGe Z Z) Z ?_);rcases jF h with⟨a,h⟩ | ⟨a,h⟩
   ·refine Lt (K8 Z (bb a) (T.skip (KZ (X.seq (T.region Z ?_)))));obtain⟨G,h⟩:=al h;exact Ku an 1 Z (Kw Z (Ex.add Z Z G) Z (Ku an 1 Z (TL.nil (X.back (m':=z) [0] QR ⟨l,(d+1),Z,Z,h⟩ QW QW))))
   replace a:=Nt a;refine Lt (KM Z (bp a) (Kv Z (Ku an 1 Z ?_)));obtain rfl:=Nl h;obtain rfl:=Nl f;exact Kx (T.ret (KL (Kz (Kz (KL (Kz (KI [0] Tryz.results190 (Ky Z))))))))
  refine KW Z g ?_;obtain rfl:=Nl h;replace h:=f;clear f;refine T.exit (KR (KR (Ll (X.seq (Kv Z (Ku an 1 Z ?_))))));obtain rfl:=Nl h;exact Kx (T.ret (KI [0] Tryz.results190 (Ky Z)))
def dL:List Top->Bool->List AI->Option (Lp Bool (Bool×List AI))
 | [],c,b=>some (Lp.go (c,b))
 | a::xs,c,b=>if a.MI = [] then some (Lp.ret false) else (if (a.MI.length:Int)>32767 then some (Lp.ret false) else ((jZ a.My).bind fun d=>if d=true then (if (b.length+1)*16<=140737488355328 then (dL xs c (b ++ [a.MI])) else none) else some (Lp.ret false)))
def fh (a0:List Top):Option (Bool):=(dL a0 false []).bind fun e=>match e with | .ret r=>some r | .go (c,a)=>((fg a).bind fun b=>some b)
theorem gM (a0:List Top) (K:AT) (c2:Nat) (r:Bool) (h:fh a0=some r):aC Tryz.prog 146 #[.slice K a0.length c2] (RX.of (ar 2 aT) [.slice K a0.length c2] a0) (aJ) (fun v A' N=>v= .bool r/\A'=aJ/\N = []):=by
 refine aW Tryz.func146 Z Tryz.ntmps146 Z ?_;intro F w hX;unfold fh at h;refine Kv Z (K3 an Z Z (KF an Z (T.seq (Kv Z (Ku an 1 Z (Kw Z (K2 Z NK) Z (Ku an 1 Z ?_)))))));refine Kx (T.block (LF 9 1 wV ?_));obtain⟨E8,I,b⟩:=Nk h;have S:=Ly hX;refine Lq (fun m e Rs=> ∃ (A:Bool) (f:List AI) (L:AT) (M:Nat) (c:Nat),c+m=a0.length/\e = [(2,.bool A),(3,.slice L f.length M),(6,.slice K a0.length c2),(7,jI (a0.length:Int)),(8,jI (c:Int))]/\Rs = [bK 9 1 wV (.slice L f.length M) f,aJ]/\dL (a0.drop c) A f=some E8) (a0.length) [0,0] ⟨false,[],none,0,0,by simp,Z,Z,by rw[List.drop_zero]; exact I⟩ QW QW ?_;clear I h;rintro n _ _ ⟨A,f,L,M,c,aa,rfl,rfl,h⟩
 cases n with
 | zero =>
  rw[List.drop_of_length_le QR,dL] at h;have o: ¬ ((c:Int)<(a0.length:Int)):=by omega
  refine Kv Z (KF an Z (T.seq (K8 Z (Np o) ?_)));obtain rfl:=Nl h;replace h:=b;clear b;refine T.exit (KR (KR (Ll (X.seq (Kv Z ?_)))));obtain⟨ae,O,h⟩:=Nk h;refine Ku an 1 Z (KN Z .u (.fn Tryz.call190 Z) (nK f _ _ _ O) (fun _ hs=>(SrcE.res 0 hs Z (fun w G h=>bF QS w G h))) Z (Ku an 1 Z ?_));obtain rfl:=Nl h;exact Kx (T.ret (KI [1] QH (Ky Z)))
 | succ n =>
  obtain⟨a,d⟩: ∃ x,a0[c]? = some x:=⟨_,List.getElem?_eq_getElem QR⟩;rw[bY d,dL] at h;have p:(c:Int)<(a0.length:Int):=by omega
  refine Kv Z (KF an Z (T.seq (KM Z (Nn p) ?_)));obtain⟨ab,ad,rfl,W,Y,B,C,j⟩:=Lg QS hX d;obtain⟨P,j,D⟩:=j;obtain⟨s,t,rfl,H⟩:=j;have Q:(RX.of (ar 1 cR) [.slice s a.My.length t] a.My).reads w F:=⟨P,H,D⟩;refine KQ (T.seq (T.block (Kv Z ?_)));refine Kw Z (KX (k:=c) Z Z Z NK N0 (Nq d).1) Z ?_;refine Kw Z (LE (us := [jS a.MI,.slice s a.My.length t]) 0 Z P8 N0 C B Z Z Z) Z (TL.alloc Z .u Tryz.zeroValue171 Z (fun af=>(KE 0 Z (cs':= #[jS a.MI,.slice s a.My.length t]) Z .u Z Z N0 Z Z Z Z Z (Kx (T.seq (Kv Z (KA an bO 0 Z 2 Z Z (Kw Z (Ex.sEq Z (m := []) Z) Z ?_))))))));rcases jF h with⟨y,h⟩ | ⟨y,h⟩
  ·refine Ku an 1 Z (KC 15 Z (Nn y) (Lk an Z (KM Z Z (Kv Z (Ku an 1 Z ?_)))));obtain rfl:=Nl h;obtain rfl:=Nl b;exact Kx (T.ret (Kz (KL (Kz (Kz (KL (Kz (KI [2] QH (Ky Z)))))))))
  refine Ku an 1 Z (KC 15 Z (Np y) (KA an bO 0 Z 2 Z Z (TL.q Z (.g Z Z Z) (Lh Z Nv) Z ?_)));rcases jF h with⟨z,h⟩ | ⟨z,h⟩
  ·refine KB an 3 Z (KC 21 Z (Nn z) (Lk an Z (KM Z Z (Kv Z (Ku an 1 Z ?_)))));obtain rfl:=Nl h;obtain rfl:=Nl b;exact Kx (T.ret (Kz (KL (Kz (Kz (KL (Kz (KI [2] QH (Ky Z)))))))))
  refine KB an 3 Z (KC 21 Z (Np z) ?_);obtain⟨ag,R,h⟩:=Nk h;refine KA an bO 0 Z 2 Z Z (KN Z (.g Z Z Z) (.fn Tryz.call189 Z) (sp a.My _ _ _ R) (fun _ hs=>(K7 hs Q)) Z (KB an 2 Z ?_));rcases jF h with⟨i,h⟩ | ⟨i,h⟩
  ·refine Kx (K8 Z (bb i) (KQ (T.region Z (KA an bO 0 Z 3 Z Z (LI (cells:= #[jS a.MI]) Z .u xf Z QW Z (fun ah=> ?_))))));obtain⟨J,h⟩:=al h;refine TL.app1 1 Z .u (us := [jS a.MI]) (u:=a.MI) (l:=f) (E:=wV) Tryz.underlying78 BO Z QS Z Z Z Z Z Z (fun _ _=>Z) (by have hq:=J; omega) (by have hq:=J; omega) Z (fun U V=> ?_);exact K5 [0,0,0] Z (Ku an 1 Z (TL.nil (KZ (X.seq (T.region Z (Kw Z (Ex.add Z Z QR) Z (Ku an 1 Z (TL.nil (X.back (m':=n) [1,1] QR ⟨A,(f ++ [a.MI]),U,V,c+1,by omega,Z,Z,h⟩ QW QW)))))))))
  replace i:=Nt i;refine Kx (KM Z (bp i) (Kv Z (Ku an 1 Z ?_)));obtain rfl:=Nl h;obtain rfl:=Nl b;exact Kx (T.ret (Kz (KL (Kz (Kz (KL (Kz (KI [2] QH (Ky Z)))))))))
def j0 (a0:Val):Option (Int):=if a0.Mx<0 then some 11 else (if a0.Mz<0 then some 11 else ((jG a0.Mz 2).bind fun g=>if g=true then (if a0.MC<0 then some 11 else ((jG a0.MC 4).bind fun a=>if a=true then (if a0.Nj<0 then some 11 else (if a0.Ni<(-1) then some 11 else (if a0.Ng<0 then some 12 else (if a0.Ng>=7 then some 12 else ((mK a0.Ng).bind fun b=>if b=true then (if (a0.Mw.length:Int)=0 then (if a0.Ng=0 then (if a0.Ni=(-1) then ((fh a0.Mw).bind fun c=>if c=true then some 0 else some 13) else some 10) else (if a0.Ni=(-1) then some 10 else ((fh a0.Mw).bind fun d=>if d=true then some 0 else some 13))) else some 10) else (if (a0.Mw.length:Int)=0 then some 10 else (if a0.Ng=0 then (if a0.Ni=(-1) then ((fh a0.Mw).bind fun e=>if e=true then some 0 else some 13) else some 10) else (if a0.Ni=(-1) then some 10 else ((fh a0.Mw).bind fun f=>if f=true then some 0 else some 13))))))))) else some 11)) else some 11))
theorem su (a0:Val) (L:AT) (c2:Nat) (r:Int) (h:j0 a0=some r):aC Tryz.prog 90 #[.agg #[jI a0.Mx,jI a0.Mz,jI a0.MC,jI a0.Ng,.slice L a0.Mw.length c2,jI a0.Nj,jI a0.Ni]] (RX.of (ar 2 aT) [.slice L a0.Mw.length c2] a0.Mw) (aJ) (fun v A' N=>v=jI r/\A'=aJ/\N = []):=by
 refine aW Tryz.func90 Z Tryz.ntmps90 Z ?_;intro F w hX;unfold j0 at h;refine Kv Z (TL.box Z .u Z Z (fun V=>(KF an Z (T.seq (T.block (Kv Z ?_))))));rcases jF h with⟨B,h⟩ | ⟨B,h⟩
 ·refine KA an bO 0 Z 4 Z Z (KC 7 Z (Nn B) (Lk an Z (KM Z Z (Kv Z (Ku an 1 Z ?_)))));obtain rfl:=Nl h;exact Kx (T.ret (KL (Kz (KI [1] Oq (Ky Z)))))
 refine KA an bO 0 Z 4 Z Z (KC 7 Z (Np B) ?_);rcases jF h with⟨C,h⟩ | ⟨C,h⟩
 ·refine KA an bO 0 Z 5 Z Z (KC 12 Z (Nn C) (Lk an Z (KM Z Z (Kv Z (Ku an 1 Z ?_)))));obtain rfl:=Nl h;exact Kx (T.ret (KL (Kz (KI [1] Oq (Ky Z)))))
 refine KA an bO 0 Z 5 Z Z (KC 12 Z (Np C) ?_);obtain⟨W,M,h⟩:=Nk h;refine KA an bO 0 Z 2 Z Z (KN Z (.g Z Z Z) (.fn Tryz.call101 Z) (K6 (fun w=>dH a0.Mz 2 _ M w)) (fun _ _=>RX.reads_triv _ _) Z ?_);rcases jF h with⟨l,h⟩ | ⟨l,h⟩
 ·refine KB an 3 Z (KC 18 Z (bb l) ?_);rcases jF h with⟨D,h⟩ | ⟨D,h⟩
  ·refine KA an bO 0 Z 5 Z Z (KC 23 Z (Nn D) (Lk an Z (KM Z Z (Kv Z (Ku an 1 Z ?_)))));obtain rfl:=Nl h;exact Kx (T.ret (KL (Kz (KI [1] Oq (Ky Z)))))
  refine KA an bO 0 Z 5 Z Z (KC 23 Z (Np D) ?_);obtain⟨O,E,h⟩:=Nk h;refine KA an bO 0 Z 2 Z Z (KN Z (.g Z Z Z) (.fn Tryz.call101 Z) (K6 (fun w=>dH a0.MC 4 _ E w)) (fun _ _=>RX.reads_triv _ _) Z ?_);rcases jF h with⟨b,h⟩ | ⟨b,h⟩
  ·refine KB an 3 Z (KC 29 Z (bb b) ?_);rcases jF h with⟨m,h⟩ | ⟨m,h⟩
   ·refine KA an bO 0 Z 5 Z Z (KC 34 Z (Nn m) (Lk an Z (KM Z Z (Kv Z (Ku an 1 Z ?_)))));obtain rfl:=Nl h;exact Kx (T.ret (KL (Kz (KI [1] Oq (Ky Z)))))
   refine KA an bO 0 Z 5 Z Z (KC 34 Z (Np m) (KA an bO 0 Z 5 Z Z ?_));rcases jF h with⟨n,h⟩ | ⟨n,h⟩
   ·refine KY Z n (Kv Z (Ku an 1 Z ?_));obtain rfl:=Nl h;exact Kx (T.ret (KL (Kz (KI [1] Oq (Ky Z)))))
   refine KW Z n (Kv Z ?_);rcases jF h with⟨o,h⟩ | ⟨o,h⟩
   ·refine KA an bO 0 Z 4 Z Z (KC 43 Z (Nn o) (Lk an Z (KM Z Z (Kv Z (Ku an 1 Z ?_)))));obtain rfl:=Nl h;exact Kx (T.ret (KL (Kz (KI [1] Oq (Ky Z)))))
   refine KA an bO 0 Z 4 Z Z (KC 43 Z (Np o) (KA an bO 0 Z 5 Z Z ?_));rcases jF h with⟨p,h⟩ | ⟨p,h⟩
   ·refine KY Z p (Kv Z (Ku an 1 Z ?_));obtain rfl:=Nl h;exact Kx (T.ret (KL (Kz (KI [1] Oq (Ky Z)))))
   refine KW Z p ?_;refine T.seq (Lc (.q 0 (.q 1 (.q 3 (.q 4 (.q 5 (.q 6 (.e 2 (.q 7 (.q 8 (.q 9 (.q 10 (.q 11 (.q 12 (.q 13 (.q 14 (.q 15 (.q 16 (.q 17 .nil)))))))))))))))))) [0,0] Z ro (NoP.seq (NoP.blk (NoP.seq bj))) QU ?_);refine TD.run an [0] Z Z (KD Z (K4 0 Z Nw Z Z) Z (TD.run an [3] Z Z (KD Z (K4 0 Z Pw Z Z) Z (KD Z (K2 Z NK) Z ?_))));obtain⟨P,G,h⟩:=Nk h;refine TD.run an [6] Z Z (LD Z .u (.fn Tryz.call145 Z) (th a0.Ng _ G) rT Z [0,0] (Z) ?_);rcases jF h with⟨a,h⟩ | ⟨a,h⟩
   ·rcases jF h with⟨s,h⟩ | ⟨s,h⟩
    ·refine KD Z (LP Z a Z (Nn s) N1) Z (TD.run an [8] Z Z (TD.q Z (.g Z Z Z) (Lf an Z) Z (TD.q Z (.g Z Z Z) (K4 0 Z Nw Z Z) Z ?_)));iterate 2 refine TD.q Z (.g Z Z Z) (Lf an Z) Z ?_
     refine TD.q Z (.g Z Z Z) (K4 0 Z Nw Z Z) Z (TD.q Z (.g Z Z Z) (Lf an Z) Z ?_);rcases jF h with⟨c,h⟩ | ⟨c,h⟩
     ·rcases jF h with⟨t,h⟩ | ⟨t,h⟩
      ·refine TD.q Z (.g Z Z Z) (LP Z (Nn c) Z (Nn t) N1) Z (KD Z (LC Z Z Z) Z (TD.run an [17] Z Z (Lt (K8 Z Z (Kv Z ?_)))));obtain⟨Q,H,h⟩:=Nk h;refine KA an bO 0 Z 2 Z Z (KN Z .u (.fn Tryz.call146 Z) (gM a0.Mw _ _ _ H) (fun _ hs=>(K7 hs hX)) Z (Ku an 2 Z ?_));rcases jF h with⟨d,h⟩ | ⟨d,h⟩
       ·refine Kx (K8 Z (bb d) (T.skip (KZ (X.seq (Kv Z (Ku an 1 Z ?_))))));obtain rfl:=Nl h;exact Kx (T.ret (KI [1] Oq (Ky Z)))
       replace d:=Nt d;refine Kx (KM Z (bp d) (Kv Z (Ku an 1 Z ?_)));obtain rfl:=Nl h;exact Kx (T.ret (KL (Kz (KI [1] Oq (Ky Z)))))
      refine TD.q Z (.g Z Z Z) (LP Z (Nn c) Z (Np t) N1) Z (KD Z (LC Z Z Z) Z (TD.run an [17] Z Z (Lt (KM Z Z (Kv Z (Ku an 1 Z ?_))))));obtain rfl:=Nl h;exact Kx (T.ret (KL (Kz (KI [1] Oq (Ky Z)))))
     rcases jF h with⟨x,h⟩ | ⟨x,h⟩
     ·refine TD.q Z (.g Z Z Z) (LP Z (Np c) Z (Nn x) N1) Z (KD Z (LC Z Z Z) Z (TD.run an [17] Z Z (Lt (KM Z Z (Kv Z (Ku an 1 Z ?_))))));obtain rfl:=Nl h;exact Kx (T.ret (KL (Kz (KI [1] Oq (Ky Z)))))
     refine TD.q Z (.g Z Z Z) (LP Z (Np c) Z (Np x) N1) Z (KD Z (LC Z Z Z) Z (TD.run an [17] Z Z (Lt (K8 Z Z (Kv Z ?_)))));obtain⟨R,I,h⟩:=Nk h;refine KA an bO 0 Z 2 Z Z (KN Z .u (.fn Tryz.call146 Z) (gM a0.Mw _ _ _ I) (fun _ hs=>(K7 hs hX)) Z (Ku an 2 Z ?_));rcases jF h with⟨f,h⟩ | ⟨f,h⟩
     ·refine Kx (K8 Z (bb f) (T.skip (KZ (X.seq (Kv Z (Ku an 1 Z ?_))))));obtain rfl:=Nl h;exact Kx (T.ret (KI [1] Oq (Ky Z)))
     replace f:=Nt f;refine Kx (KM Z (bp f) (Kv Z (Ku an 1 Z ?_)));obtain rfl:=Nl h;exact Kx (T.ret (KL (Kz (KI [1] Oq (Ky Z)))))
    refine KD Z (LP Z a Z (Np s) N1) Z (TD.run an [8] Z Z ?_);iterate 7 refine Le Z (.gn Z Z Z) Z ?_
    refine KD Z (LB Z Z Z) Z (TD.run an [17] Z Z (Lt (KM Z Z (Kv Z (Ku an 1 Z ?_)))));obtain rfl:=Nl h;exact Kx (T.ret (KL (Kz (KI [1] Oq (Ky Z)))))
   replace a:=Nt a;rcases jF h with⟨y,h⟩ | ⟨y,h⟩
   ·refine KD Z (LP Z a Z (Nn y) N1) Z (TD.run an [8] Z Z ?_);iterate 7 refine Le Z (.gn Z Z Z) Z ?_
    refine KD Z (LB Z Z Z) Z (TD.run an [17] Z Z (Lt (KM Z Z (Kv Z (Ku an 1 Z ?_)))));obtain rfl:=Nl h;exact Kx (T.ret (KL (Kz (KI [1] Oq (Ky Z)))))
   refine KD Z (LP Z a Z (Np y) N1) Z (TD.run an [8] Z Z (TD.q Z (.g Z Z Z) (Lf an Z) Z (TD.q Z (.g Z Z Z) (K4 0 Z Nw Z Z) Z ?_)));iterate 2 refine TD.q Z (.g Z Z Z) (Lf an Z) Z ?_
   refine TD.q Z (.g Z Z Z) (K4 0 Z Nw Z Z) Z (TD.q Z (.g Z Z Z) (Lf an Z) Z ?_);rcases jF h with⟨i,h⟩ | ⟨i,h⟩
   ·rcases jF h with⟨z,h⟩ | ⟨z,h⟩
    ·refine TD.q Z (.g Z Z Z) (LP Z (Nn i) Z (Nn z) N1) Z (KD Z (LC Z Z Z) Z (TD.run an [17] Z Z (Lt (K8 Z Z (Kv Z ?_)))));obtain⟨S,J,h⟩:=Nk h;refine KA an bO 0 Z 2 Z Z (KN Z .u (.fn Tryz.call146 Z) (gM a0.Mw _ _ _ J) (fun _ hs=>(K7 hs hX)) Z (Ku an 2 Z ?_));rcases jF h with⟨j,h⟩ | ⟨j,h⟩
     ·refine Kx (K8 Z (bb j) (T.skip (KZ (X.seq (Kv Z (Ku an 1 Z ?_))))));obtain rfl:=Nl h;exact Kx (T.ret (KI [1] Oq (Ky Z)))
     replace j:=Nt j;refine Kx (KM Z (bp j) (Kv Z (Ku an 1 Z ?_)));obtain rfl:=Nl h;exact Kx (T.ret (KL (Kz (KI [1] Oq (Ky Z)))))
    refine TD.q Z (.g Z Z Z) (LP Z (Nn i) Z (Np z) N1) Z (KD Z (LC Z Z Z) Z (TD.run an [17] Z Z (Lt (KM Z Z (Kv Z (Ku an 1 Z ?_))))));obtain rfl:=Nl h;exact Kx (T.ret (KL (Kz (KI [1] Oq (Ky Z)))))
   rcases jF h with⟨A,h⟩ | ⟨A,h⟩
   ·refine TD.q Z (.g Z Z Z) (LP Z (Np i) Z (Nn A) N1) Z (KD Z (LC Z Z Z) Z (TD.run an [17] Z Z (Lt (KM Z Z (Kv Z (Ku an 1 Z ?_))))));obtain rfl:=Nl h;exact Kx (T.ret (KL (Kz (KI [1] Oq (Ky Z)))))
   refine TD.q Z (.g Z Z Z) (LP Z (Np i) Z (Np A) N1) Z (KD Z (LC Z Z Z) Z (TD.run an [17] Z Z (Lt (K8 Z Z (Kv Z ?_)))));obtain⟨U,K,h⟩:=Nk h;refine KA an bO 0 Z 2 Z Z (KN Z .u (.fn Tryz.call146 Z) (gM a0.Mw _ _ _ K) (fun _ hs=>(K7 hs hX)) Z (Ku an 2 Z ?_));rcases jF h with⟨k,h⟩ | ⟨k,h⟩
   ·refine Kx (K8 Z (bb k) (T.skip (KZ (X.seq (Kv Z (Ku an 1 Z ?_))))));obtain rfl:=Nl h;exact Kx (T.ret (KI [1] Oq (Ky Z)))
   replace k:=Nt k;refine Kx (KM Z (bp k) (Kv Z (Ku an 1 Z ?_)));obtain rfl:=Nl h;exact Kx (T.ret (KL (Kz (KI [1] Oq (Ky Z)))))
  replace b:=Nt b;refine KB an 3 Z (KC 29 Z (bp b) (Lk an Z (KM Z Z (Kv Z (Ku an 1 Z ?_)))));obtain rfl:=Nl h;exact Kx (T.ret (KL (Kz (KI [1] Oq (Ky Z)))))
 replace l:=Nt l;refine KB an 3 Z (KC 18 Z (bp l) (Lk an Z (KM Z Z (Kv Z (Ku an 1 Z ?_)))));obtain rfl:=Nl h;exact Kx (T.ret (KL (Kz (KI [1] Oq (Ky Z)))))
def cU (d:Int):Nat->Nat->List Int->I->Option (Nat×List Int×I)
 | 0,_,_,_=>none
 | f+1,a,b,c=>if (a:Int)<d then ((eu c 4).bind fun (g,e)=>if (b.length+1)*8<=140737488355328 then (if A0 ((a:Int)+1) then (cU d f (a+1) (b ++ [g]) e) else none) else none) else some (a,b,c)
def cj (i:Int):Nat->List Top->List Top->Nat->I->Option (Lp (List Top×I) (List Top×List Top×Nat×I))
 | 0,_,_,_,_=>none
 | j+1,k,e,a,b=>if (a:Int)<i then ((sZ b).bind fun (l,f)=>(jK f 4 4).bind fun (d,g)=>(cU d ((d).toNat+1) 0 [] g).bind fun (o,m,h)=>if (e.length+1)*40<=140737488355328 then ((iC h).bind fun (n,c)=>if n=0 then (if A0 ((a:Int)+1) then (cj i j k (e ++ [(⟨l,m⟩:Top)]) (a+1) c) else none) else (some (Lp.ret ([],c)))) else none) else (some (Lp.go (k,e,a,b)))
def dW (st:I)  : Option (List Top×I):=(jK st 4 6).bind fun (b,c)=>(cj b ((b).toNat+1) [] [] 0 c).bind fun e=>match e with | .ret r=>some r | .go (f,d,g,a)=>some (d,a)
theorem mB (g:Nat) (st:I)  (r:List Top×I) (h:dW st  = some r):aC Tryz.prog 89 #[jP g] .triv (InR g st) (fun v A' N=> ∃ (Y:AT) (aa:Nat),v= .slice Y r.1.length aa/\A'=InR g r.2/\N = [RdR (ar 2 aT) [.slice Y r.1.length aa] r.1]):=by
 refine aW Tryz.func89 Z Tryz.ntmps89 Z ?_;intro F w hX;unfold dW at h;refine Kv Z (K3 an Z Z (KF an Z (T.seq (Kv Z ?_))));obtain⟨⟨K,aj⟩,ak,h⟩:=Nk h;refine Ku an 1 Z (KK 0 Z Z .u (.fn Tryz.call144 Z) (lV g st 4 6 _ ak) sT Z Z (KF an Z (T.block ?_)));iterate 2 refine LF 171 2 aT ?_
 obtain⟨am,L,B⟩:=Nk h;refine Lq (fun m e Rs=> ∃ (k:List Top) (y:AT) (z:Nat) (i:List Top) (C:AT) (D:Nat) (o:Nat) (x:I),e = [(0,jP g),(2,.slice y k.length z),(3,.slice C i.length D),(6,jI K),(7,jI (o:Int))]/\Rs = [bK 171 2 aT (.slice y k.length z) k,bK 171 2 aT (.slice C i.length D) i,InR g x]/\cj K m k i o x=some am) ((K).toNat+1) [0,0,0] ⟨[],none,0,[],none,0,0,aj,Z,Z,by exact L⟩ QW QW ?_;clear L h;rintro M _ _ ⟨k,y,z,i,C,D,o,x,rfl,rfl,h⟩
 cases M with
 | zero =>
  rw[cj] at h;cases h
 | succ M =>
  rw[cj] at h;refine Kv Z (Ku an 1 Z ?_);rcases jF h with⟨O,h⟩ | ⟨O,h⟩
  ·refine Kx (T.seq (LT Z O (KQ (T.seq (T.block (Kv Z ?_))))));obtain⟨⟨f,ad⟩,ae,h⟩:=Nk h;refine Ku an 1 Z (KK 2 Z Z .u (.fn Tryz.call86 Z) (pv g x _ ae) sT Z Z ?_);refine Kw Z (KT (cells:= #[jS f,.slice none 0 0]) yK Z QU) Z ?_;refine TL.alloc Z .u Tryz.zeroValue171 Z (fun H=>(KE 0 Z (cs':= #[jS f,.slice none 0 0]) Z .u Z Z N0 Z Z Z Z Z (Kx (T.seq (Kv Z ?_)))));obtain⟨⟨J,af⟩,ag,h⟩:=Nk h;refine Ku an 1 Z (KK 3 Z Z .u (.fn Tryz.call144 Z) (lV g ad 4 4 _ ag) sT Z Z (KF an Z (T.block (LF 3 1 cR ?_))));obtain⟨ao,P,Q⟩:=Nk h;refine Lq (fun m e Rs=> ∃ (A:Nat) (a:List Int) (p:AT) (s:Nat) (j:I),e = [(0,jP g),(2,.slice y k.length z),(3,.slice C i.length D),(4,jP H),(6,jI K),(7,jI (o:Int)),(13,jI J),(14,jI (A:Int))]/\Rs = [bK 3 1 cR (.slice p a.length s) a,aV H 171 #[jS f,.slice p a.length s],bK 171 2 aT (.slice y k.length z) k,bK 171 2 aT (.slice C i.length D) i,InR g j]/\cU J m A a j=some ao) ((J).toNat+1) [0,0,0,0,0] ⟨0,[],none,0,af,Z,Z,by exact P⟩ QW QW ?_;clear P h;rintro R _ _ ⟨A,a,p,s,j,rfl,rfl,h⟩
   cases R with
   | zero =>
    rw[cU] at h;cases h
   | succ R =>
    rw[cU] at h;refine Kv Z (Ku an 1 Z ?_);rcases jF h with⟨S,h⟩ | ⟨S,h⟩
    ·refine Kx (T.seq (LT Z S ?_));obtain⟨⟨b,U⟩,V,h⟩:=Nk h;try dsimp only at h
     obtain⟨t,h⟩:=al h;refine KQ (T.seq (T.block ?_));refine L7 (fun e Rs=> ∃ (n:Nat) (c:AT) (d:Nat),e = [(0,jP g),(2,.slice y k.length z),(3,.slice C i.length D),(4,jP H),(6,jI K),(7,jI (o:Int)),(13,jI J),(14,jI (A:Int))]/\Rs = [bK 3 1 cR (.slice c (a ++ [b]).length d) (a ++ [b]),aV H 171 #[jS f,.slice c (a ++ [b]).length d],bK 171 2 aT (.slice y k.length z) k,bK 171 2 aT (.slice C i.length D) i,InR g U]) ?_ ?_
     ·refine Lc (.q 0 (.q 2 (.br 1 (.e 3 (.e 4 (.e 5 (.q 6 (.e 7 .nil))))) (.e 3 (.br 1 (.e 4 (.e 5 (.q 6 (.e 7 .nil)))) (.e 4 (.e 1 (.e 5 (.q 6 (.e 7 .nil)))))))))) [2,2] Z ro pX QU ?_;refine TD.run an [0,2] Z Z ?_;refine TD.br ?_ ?_
      ·refine L3 Z .u (K4 1 Z OR Z Z) Z [2,2] Z (LG 4 Z Z .u (.fn Tryz.call68 Z) (bx g j 4 _ V) sT Z Z [2,2] (Z) (LR (cells:= #[jI b]) Z .u np Z QW Z [3,3] (fun _=>Z) (fun n=> ?_)));refine Mg 0 Z .u (us := [jI b]) (u:=b) (l:=a) (E:=cR) Tryz.underlying74 qS Z QS Z Z Z Z Z Z (fun _ _=>Z) (by have hq:=t; omega) (by have hq:=t; omega) Z [2,2] (fun _ _=>Z) (fun c d=> ?_);exact LA [0,0,0,0,0] Z (TD.run an [6] Z Z (Lv 1 Z (cs':= #[jS f,.slice c (a ++ [b]).length d]) Z .u Z Z Po Z Z Z Z Z [2,2] (Z) (TD.nil (LO [0,0,0,0,0] ⟨n,c,d,Z,Z⟩ QW QW))))
      refine LG 4 Z Z .u (.fn Tryz.call68 Z) (bx g j 4 _ V) sT Z Z [2,2] (Z) ?_;refine TD.br ?_ ?_
      ·refine L3 Z .u (K4 1 Z OR Z Z) Z [2,2] Z (LR (cells:= #[jI b]) Z .u np Z QW Z [3,3] (fun _=>Z) (fun n=> ?_));refine Mg 0 Z .u (us := [jI b]) (u:=b) (l:=a) (E:=cR) Tryz.underlying74 qS Z QS Z Z Z Z Z Z (fun _ _=>Z) (by have hq:=t; omega) (by have hq:=t; omega) Z [2,2] (fun _ _=>Z) (fun c d=> ?_);exact LA [0,0,0,0,0] Z (TD.run an [6] Z Z (Lv 1 Z (cs':= #[jS f,.slice c (a ++ [b]).length d]) Z .u Z Z Po Z Z Z Z Z [2,2] (Z) (TD.nil (LO [0,0,0,0,0] ⟨n,c,d,Z,Z⟩ QW QW))))
      refine LR (cells:= #[jI b]) Z .u np Z QW Z [3,3] (fun _=>Z) (fun n=>(L3 Z .u (K4 2 Z OR Z Z) Z [3,3] Z ?_));refine Mg 0 Z .u (us := [jI b]) (u:=b) (l:=a) (E:=cR) Tryz.underlying74 qS Z QS Z Z Z Z Z Z (fun _ _=>Z) (by have hq:=t; omega) (by have hq:=t; omega) Z [2,2] (fun _ _=>Z) (fun c d=> ?_);exact LA [0,0,0,0,0] Z (TD.run an [6] Z Z (Lv 1 Z (cs':= #[jS f,.slice c (a ++ [b]).length d]) Z .u Z Z Po Z Z Z Z Z [2,2] (Z) (TD.nil (LO [0,0,0,0,0] ⟨n,c,d,Z,Z⟩ QW QW))))
     rintro _ _ ⟨n,c,d,rfl,rfl⟩;obtain⟨ap,h⟩:=al h;exact KZ (X.seq (T.region Z (Kw Z (Ex.add Z Z ap) Z (Ku an 1 Z (TL.nil (X.back (m':=R) [0,0,0,0,0] QR ⟨A+1,(a ++ [b]),c,d,U,Z,Z,h⟩ QW QW))))))
    refine Kx (T.seq (LX Z S ?_));obtain rfl:=Nl h;replace h:=Q;clear Q;refine T.exit (KR (KR (Ll (X.seq (Kv Z (Ku an 1 Z (Kw Z (KH (us := [jS f,.slice p a.length s]) 1 Z P8 N0 Z Z Z) Z (LI (cells:= #[jS f,.slice p a.length s]) Z .u xe Z QW Z (fun aw=> ?_)))))))));obtain⟨ab,h⟩:=al h;refine LZ 3 0 Z .u (us := [jS f,.slice p a.length s]) (u:=(⟨f,a⟩:Top)) (l:=i) (E:=aT) Tryz.underlying28 yL Z QS Z Z Z Z Z Z Z (fun w G hG=>⟨_,_,Z,bF QS _ _ hG⟩) (by have hq:=ab; omega) (by have hq:=ab; omega) Z (fun aq au=> ?_);refine K5 [0,0,0,0] Z (K3 an Z Z ?_);obtain⟨⟨ax,ah⟩,ai,h⟩:=Nk h;refine Ku an 1 Z (KK 3 Z Z .u (.fn Tryz.call23 Z) (cu g j _ ai) sT Z Z (Ku an 1 Z ?_));rcases jF h with⟨W,h⟩ | ⟨W,h⟩
    ·refine K1 Z W ?_;obtain⟨av,h⟩:=al h;exact T.skip (KZ (X.seq (T.region Z (Kw Z (Ex.add Z Z av) Z (Ku an 1 Z (TL.nil (X.back (m':=M) [2,0,1] QR ⟨k,y,z,(i ++ [(⟨f,a⟩:Top)]),aq,au,o+1,ah,Z,Z,h⟩ QW QW)))))))
    refine K0 Z W (Kv Z (Ku an 1 Z ?_));obtain rfl:=Nl h;obtain rfl:=Nl B;exact Kx (T.ret (KL (Kz (Kz (KL (Kz (KG 2 aT (KO [4,0] Tryz.results89 (Ky Z) ⟨_,_,Z,Z,Z⟩ QW (.inl Z)))))))))
  refine Kx (T.seq (LX Z O ?_));obtain rfl:=Nl h;replace h:=B;clear B;refine T.exit (KR (KR (Ll (X.seq (Kv Z (Ku an 2 Z ?_))))));obtain rfl:=Nl h;exact Kx (T.ret (LM QS 1 Z (Lj [0,0,0] Z (KO [2,1] Tryz.results89 (Ky Z) ⟨_,_,Z,Z,Z⟩ QW (.inl Z)))))
def ft_txn:fw := [(23,0,0),(23,1,1),(27,0,0),(27,1,2),(27,2,3),(27,3,4),(30,0,0),(30,1,1),(30,2,2),(30,3,3),(32,0,0),(32,1,1),(32,2,2),(32,3,3)]
theorem ax:(ft_txn).OK Tryz.prog:=⟨FOK.mk NV rfl N6 rfl,FOK.mk NV rfl N5 rfl,FOK.mk OU rfl NA rfl,FOK.mk OU rfl Nu rfl,FOK.mk OU rfl Nu rfl,FOK.mk OU rfl Nu rfl,FOK.mk OP rfl N5 rfl,FOK.mk OP rfl Nu rfl,FOK.mk OP rfl Nu rfl,FOK.mk OP rfl Pn rfl,FOK.mk OI rfl N5 rfl,FOK.mk OI rfl Nu rfl,FOK.mk OI rfl Nu rfl,FOK.mk OI rfl N6 rfl,trivial⟩
def nt_txn:List Nat := [3,4,9,28]
theorem ci:NOK Tryz.prog nt_txn:=⟨Nw,Or,N8,Pw,trivial⟩
theorem tj (v : Value) (w : World) : (method (Tryz.prog.types.size + Made.depth) 30 v "Check").run Tryz.prog w = .ok (170, v) w := wZ (k := Tryz.prog.types.size + Made.depth - 1) QU QU OP v w
theorem tk (v : Value) (w : World) : (method (Tryz.prog.types.size + Made.depth) 32 v "Check").run Tryz.prog w = .ok (172, v) w := wZ (k := Tryz.prog.types.size + Made.depth - 1) QU QU OI v w
theorem xg:BOK Tryz.prog 27 #[.bool false,.string ⟨#[]⟩,.int .i64 0,.int .i64 0,.int .i64 0] [(0,2),(2,1),(3,1),(4,1)]:=BOK.mk Tryz.zeroValue27 OU (by intro w; simp)
theorem xh:BOK Tryz.prog 30 #[.string ⟨#[]⟩,.int .i64 0,.int .i64 0,.slice none 0 0] [(0,1),(1,1),(2,1),(3,1)]:=BOK.mk Tryz.zeroValue30 OP (by intro w; simp)
theorem xi:BOK Tryz.prog 32 #[.string ⟨#[]⟩,.int .i64 0,.int .i64 0,.bool false] [(0,1),(1,1),(2,1),(3,1)]:=BOK.mk Tryz.zeroValue32 OI (by intro w; simp)
theorem BP:BOK Tryz.prog 103 #[.int .i64 0,.int .i64 0,.int .i64 0,.int .i64 0,.slice none 0 0,.int .i64 0,.int .i64 0] [(0,1),(1,1),(2,1),(3,1),(4,1),(5,1),(6,1)]:=BOK.mk Tryz.zeroValue103 O7 (by intro w; simp)
def kg (st:AI×Int) (a1:Int):Option (Bool×(AI×Int)):=(if a1=0 then some st else ((lu st a1).bind fun b=>some b)).bind fun a=>if a1=0 then some (false,a) else some (true,a)
theorem ms (g:Nat) (st:AI×Int) (a1:Int) (r:Bool×(AI×Int)) (h:kg st a1=some r):aC Tryz.prog 151 #[jP g,jI a1] .triv (bz g st) (fun v A' N=>v= .bool r.1/\A'=bz g r.2/\N = []):=by
 refine aW Tryz.func151 Z Tryz.ntmps151 Z ?_;intro F w hX;unfold kg at h;refine Kv Z (KF ax Z (T.seq (Kv Z (KF ax Z ?_))));obtain⟨f,h,a⟩:=Nk h;refine Lu (fun e Rs=>e = [(1,jI a1),(4,.bool false)]/\Rs = [bz g f]) ?_ ?_
 ·clear a;rcases jF h with⟨c,h⟩ | ⟨c,h⟩
  ·refine T.nn Z c ?_;cases h;exact T.skip (KJ [0])
  refine T.yn Z c (T.region Z ?_);obtain⟨j,i,h⟩:=Nk h;refine Ku ax 2 Z (KK 0 Z Z .u (.fn Tryz.call94 Z) (hO g st a1 _ i) sT Z Z ?_);cases h;exact TL.nil (KJ [0])
 rintro _ _ ⟨rfl,rfl⟩;clear h;have h:=a;clear a;refine X.seq (Kv Z (Ku ax 3 Z ?_));rcases jF h with⟨d,h⟩ | ⟨d,h⟩
 ·obtain rfl:=Nl h;exact Kx (T.ret (KO [0] Tryz.results151 (Ky (v:= .bool false) (congrArg (fun b=>some (Value.bool b)) (bb (Nn d)))) ⟨Z,Z,Z⟩ QW (.inl Z)))
 obtain rfl:=Nl h;exact Kx (T.ret (KO [0] Tryz.results151 (Ky (v:= .bool true) (congrArg (fun b=>some (Value.bool b)) (bp (Np d)))) ⟨Z,Z,Z⟩ QW (.inl Z)))
def kv (a0:Int) (a1:Int):Option (Bool):=(if a0>=0 then (if a1>=0 then ((jG a1 2).bind fun a=>some a) else some false) else some false).bind fun b=>some b
theorem kP (a0:Int) (a1:Int) (r:Bool) (h:kv a0 a1=some r):aC Tryz.prog 192 #[jI a0,jI a1] .triv (aJ) (fun v A' N=>v= .bool r/\A'=aJ/\N = []):=by
 refine aW Tryz.func192 Z Tryz.ntmps192 Z ?_;intro F w hX;unfold kv at h;refine Kv Z (KF ax Z (T.seq ?_));obtain⟨f,h,a⟩:=Nk h;refine Lu (fun e Rs=>e = [(4,.bool f)]/\Rs = [aJ]) ?_ ?_
 ·clear a;refine T.region Z ?_;rcases jF h with⟨b,h⟩ | ⟨b,h⟩
  ·refine Ku ax 3 Z (KC 7 Z (Nn b) ?_);rcases jF h with⟨c,h⟩ | ⟨c,h⟩
   ·refine KB ax 4 Z (KC 11 Z (Nn c) ?_);obtain⟨i,d,h⟩:=Nk h;refine KB ax 1 Z (KN Z (.g Z Z Z) (.fn Tryz.call101 Z) (K6 (fun w=>dH a1 2 _ d w)) (fun _ _=>RX.reads_triv _ _) Z (KB ax 2 Z ?_));cases h;exact TL.nil (KJ [0])
   refine KB ax 4 Z (KC 11 Z (Np c) (KB ax 4 Z ?_));cases h;exact TL.nil (KJ [0])
  refine Ku ax 3 Z (KC 7 Z (Np b) (KB ax 8 Z ?_));cases h;exact TL.nil (KJ [0])
 rintro _ _ ⟨rfl,rfl⟩;clear h;have h:=a;clear a;obtain rfl:=Nl h;exact X.seq (T.ret (KI [0] Tryz.results192 (Ky Z)))
def fP (a0:bf) (a1:Int):Option (Int):=(if a0.Mx=(-1) then (if a0.Mz=(-1) then some true else some false) else some false).bind fun i=>((qH a0.MD).bind fun a=>if a=true then (if a0.MD.null=true then some false else ((nP a0.MD.data).bind fun b=>if b=true then some false else some true)) else some true).bind fun c=>if c=true then some 4 else ((if a0.MC<0 then some true else ((jG a0.MC 4).bind fun d=>if d=true then some false else some true)).bind fun e=>(if e=true then some true else ((if i=true then some false else (if a1>0 then ((kv a0.Mx a0.Mz).bind fun f=>if f=true then some false else some true) else some true)).bind fun g=>some g)).bind fun h=>if h=true then some 11 else some 0)
theorem lm (a0:bf) (a1:Int) (r:Int) (h:fP a0 a1=some r):aC Tryz.prog 152 #[.agg #[.bool a0.MD.null,jS a0.MD.data,jI a0.MC,jI a0.Mx,jI a0.Mz],jI a1] .triv (aJ) (fun v A' N=>v=jI r/\A'=aJ/\N = []):=by
 refine aW Tryz.func152 Z Tryz.ntmps152 Z ?_;intro F w hX;unfold fP at h;refine Kv Z (TL.box Z .u Z Z (fun b=>(KF ax Z (T.seq ?_))));obtain⟨z,h,t⟩:=Nk h;refine Lu (fun e Rs=>e = [(1,jI a1),(2,jP b),(4,jI 0),(5,.bool z)]/\Rs = [aV b 27 #[.bool a0.MD.null,jS a0.MD.data,jI a0.MC,jI a0.Mx,jI a0.Mz],aJ]) ?_ ?_
 ·clear t;refine T.region Z ?_;rcases jF h with⟨A,h⟩ | ⟨A,h⟩
  ·refine KA ax ci 0 Z 4 Z Z (KC 9 Z (Nn A) (KA ax ci 0 Z 5 Z Z ?_));rcases jF h with⟨B,h⟩ | ⟨B,h⟩
   ·cases h;exact TL.nil (Lr (d:=5) (v':= .bool true) Z (congrArg Value.bool (Nn B)) (KJ [0,0]))
   cases h;exact TL.nil (Lr (d:=5) (v':= .bool false) Z (congrArg Value.bool (Np B)) (KJ [0,0]))
  refine KA ax ci 0 Z 4 Z Z (KC 9 Z (Np A) (KB ax 5 Z ?_));cases h;exact TL.nil (KJ [0,0])
 rintro _ _ ⟨rfl,rfl⟩;clear h;have h:=t;clear t;refine X.seq (T.seq (T.block (T.seq ?_)));obtain⟨H,h,o⟩:=Nk h;refine Lu (fun e Rs=>e = [(1,jI a1),(2,jP b),(4,jI 0),(5,.bool z),(14,.bool H)]/\Rs = [aV b 27 #[.bool a0.MD.null,jS a0.MD.data,jI a0.MC,jI a0.Mx,jI a0.Mz],aJ]) ?_ ?_
 ·clear o;refine T.region Z (Ku ax 1 Z (Kw Z (KH (us:=wL0 a0.MD) 0 Z NW NA Z Z Z) Z ?_));obtain⟨L,C,h⟩:=Nk h;refine KN Z .u (.fn Tryz.call148 Z) (nO a0.MD _ C) rT Z ?_;rcases jF h with⟨c,h⟩ | ⟨c,h⟩
  ·refine Ku ax 2 Z (KC 19 Z (bb c) ?_);rcases jF h with⟨f,h⟩ | ⟨f,h⟩
   ·refine KA ax ci 0 Z 5 Z Z (KC 24 Z (bb f) (KB ax 8 Z ?_));cases h;exact TL.nil (KJ [0,0])
   replace f:=Nt f;refine KA ax ci 0 Z 5 Z Z (KC 24 Z (bp f) ?_);obtain⟨M,D,h⟩:=Nk h;refine KA ax ci 0 Z 3 Z Z (KN Z (.g Z Z Z) (.fn Tryz.call87 Z) (K6 (fun w=>mI a0.MD.data _ D w)) (fun _ _=>RX.reads_triv _ _) Z (KB ax 4 Z ?_));rcases jF h with⟨i,h⟩ | ⟨i,h⟩
   ·cases h;exact TL.nil (Lr (d:=14) (v':= .bool false) Z (congrArg Value.bool (bb i)) (KJ [0,0]))
   replace i:=Nt i;cases h;exact TL.nil (Lr (d:=14) (v':= .bool true) Z (congrArg Value.bool (bp i)) (KJ [0,0]))
  replace c:=Nt c;refine Ku ax 2 Z (KC 19 Z (bp c) (KB ax 13 Z ?_));cases h;exact TL.nil (KJ [0,0])
 rintro _ _ ⟨rfl,rfl⟩;clear h;have h:=o;clear o;try dsimp only at h
 rcases jF h with⟨j,h⟩ | ⟨j,h⟩
 ·refine X.seq (KM Z j (Kv Z (Ku ax 1 Z ?_)));obtain rfl:=Nl h;exact Kx (T.ret (KL (Kz (KI [1] Tryz.results152 (Ky Z)))))
 replace j:=Nt j;refine X.seq (K8 Z j (LS ?_));obtain⟨I,h,p⟩:=Nk h;refine Lu (fun e Rs=>e = [(1,jI a1),(2,jP b),(4,jI 0),(5,.bool z),(32,.bool I)]/\Rs = [aV b 27 #[.bool a0.MD.null,jS a0.MD.data,jI a0.MC,jI a0.Mx,jI a0.Mz],aJ]) ?_ ?_
 ·clear p;refine T.region Z ?_;rcases jF h with⟨x,h⟩ | ⟨x,h⟩
  ·refine KA ax ci 0 Z 4 Z Z (KC 36 Z (Nn x) (KB ax 6 Z ?_));cases h;exact TL.nil (KJ [0,0])
  refine KA ax ci 0 Z 4 Z Z (KC 36 Z (Np x) ?_);obtain⟨O,E,h⟩:=Nk h;refine KA ax ci 0 Z 2 Z Z (KN Z (.g Z Z Z) (.fn Tryz.call101 Z) (K6 (fun w=>dH a0.MC 4 _ E w)) (fun _ _=>RX.reads_triv _ _) Z (KB ax 3 Z ?_));rcases jF h with⟨k,h⟩ | ⟨k,h⟩
  ·cases h;exact TL.nil (Lr (d:=32) (v':= .bool false) Z (congrArg Value.bool (bb k)) (KJ [0,0]))
  replace k:=Nt k;cases h;exact TL.nil (Lr (d:=32) (v':= .bool true) Z (congrArg Value.bool (bp k)) (KJ [0,0]))
 rintro _ _ ⟨rfl,rfl⟩;clear h;have h:=p;clear p;refine X.seq ?_;obtain⟨J,h,q⟩:=Nk h;refine Lu (fun e Rs=>e = [(4,jI 0),(32,.bool J)]/\Rs = [aV b 27 #[.bool a0.MD.null,jS a0.MD.data,jI a0.MC,jI a0.Mx,jI a0.Mz],aJ]) ?_ ?_
 ·clear q;rcases jF h with⟨a,h⟩ | ⟨a,h⟩
  ·refine KM Z a ?_;cases h;exact T.skip (Lr (d:=32) (v':= .bool true) Z (congrArg Value.bool a) (KJ [0,0]))
  replace a:=Nt a;refine K8 Z a ?_;obtain⟨K,h,s⟩:=Nk h;refine Lu (fun e Rs=>e = [(4,jI 0),(32,.bool K)]/\Rs = [aV b 27 #[.bool a0.MD.null,jS a0.MD.data,jI a0.MC,jI a0.Mx,jI a0.Mz],aJ]) ?_ ?_
  ·clear s;refine T.region Z ?_;rcases jF h with⟨l,h⟩ | ⟨l,h⟩
   ·refine Ku ax 3 Z (KC 44 Z (bb l) (KB ax 12 Z ?_));cases h;exact TL.nil (KJ [0,0])
   replace l:=Nt l;refine Ku ax 3 Z (KC 44 Z (bp l) ?_);rcases jF h with⟨y,h⟩ | ⟨y,h⟩
   ·refine KB ax 3 Z (KC 47 Z (Nn y) ?_);obtain⟨P,G,h⟩:=Nk h;refine KA ax ci 0 Z 4 Z Z (KN Z (.g Z Z Z) (.fn Tryz.call192 Z) (kP a0.Mx a0.Mz _ G) rT Z (KB ax 4 Z ?_));rcases jF h with⟨m,h⟩ | ⟨m,h⟩
    ·cases h;exact TL.nil (Lr (d:=32) (v':= .bool false) Z (congrArg Value.bool (bb m)) (KJ [0,0]))
    replace m:=Nt m;cases h;exact TL.nil (Lr (d:=32) (v':= .bool true) Z (congrArg Value.bool (bp m)) (KJ [0,0]))
   refine KB ax 3 Z (KC 47 Z (Np y) (KB ax 9 Z ?_));cases h;exact TL.nil (KJ [0,0])
  rintro _ _ ⟨rfl,rfl⟩;clear h;have h:=s;clear s;try dsimp only at h
  cases h;exact KJ [0,0]
 rintro _ _ ⟨rfl,rfl⟩;clear h;have h:=q;clear q;try dsimp only at h
 rcases jF h with⟨n,h⟩ | ⟨n,h⟩
 ·refine X.seq (KM Z n (Kv Z (Ku ax 1 Z ?_)));obtain rfl:=Nl h;exact Kx (T.ret (KL (Kz (KI [1] Tryz.results152 (Ky Z)))))
 replace n:=Nt n;refine X.seq (K8 Z n (T.skip (KZ (X.seq (Kv Z (Ku ax 1 Z ?_))))));obtain rfl:=Nl h;exact Kx (T.ret (KI [1] Tryz.results152 (Ky Z)))
def gS (st:AI×Int) (a0:bf) (a2:Int):Option (AI×Int):=(fP a0 a2).bind fun g=>(kg st g).bind fun (h,b)=>if h=true then some b else ((km b a0.MD 2).bind fun f=>(ed f a0.MC 4).bind fun a=>(if a2>0 then ((ed a a0.Mx 8).bind fun c=>(ed c a0.Mz 2).bind fun d=>some d) else some a).bind fun e=>some e)
theorem qq (g:Nat) (st:AI×Int) (a0:bf) (a2:Int) (r:AI×Int) (h:gS st a0 a2=some r):aC Tryz.prog 96 #[.agg #[.bool a0.MD.null,jS a0.MD.data,jI a0.MC,jI a0.Mx,jI a0.Mz],jP g,jI a2] .triv (bz g st) (fun v A' N=>v= .tuple #[]/\A'=bz g r/\N = []):=by
 refine aW Tryz.func96 Z Tryz.ntmps96 Z ?_;intro F w hX;unfold gS at h;refine Kv Z (TL.box Z .u Z Z (fun s=>(Kx (T.seq (Kv Z (Ku ax 1 Z (Kw Z (KH (us := [.bool a0.MD.null,jS a0.MD.data,jI a0.MC,jI a0.Mx,jI a0.Mz]) 0 Z PR O1 Z Z Z) Z ?_)))))));obtain⟨t,m,h⟩:=Nk h;refine Ku ax 1 Z (KN Z .u (.fn Tryz.call152 Z) (lm a0 a2 _ m) rT Z ?_);obtain⟨⟨y,n⟩,o,h⟩:=Nk h;refine KK 1 Z Z .u (.fn Tryz.call151 Z) (ms g st t _ o) sT Z Z ?_;rcases jF h with⟨b,h⟩ | ⟨b,h⟩
 ·refine Kx (KM Z b ?_);obtain rfl:=Nl h;exact T.ret (Kz (LK [1] Tryz.results96 ⟨Z,Z,Z⟩ QW (.inl Z)))
 replace b:=Nt b;refine Kx (K8 Z b (KP Z (Ku ax 2 Z (Kw Z (KH (us:=wL0 a0.MD) 0 Z NW NA Z Z Z) Z ?_))));obtain⟨p,q,h⟩:=Nk h;refine KK 1 Z Z .u (.fn Tryz.call95 Z) (kE g n a0.MD 2 _ q) sT Z Z (KU Z ?_);obtain⟨d,f,h⟩:=Nk h;refine KA ax ci 0 Z 3 Z Z (KK 1 Z Z .u (.fn Tryz.call51 Z) (bq g p a0.MC 4 _ f) sT Z Z (KU Z (KF ax Z ?_)));obtain⟨i,h,a⟩:=Nk h;refine Lu (fun e Rs=>e = []/\Rs = [aV s 27 #[.bool a0.MD.null,jS a0.MD.data,jI a0.MC,jI a0.Mx,jI a0.Mz],bz g i]) ?_ ?_
 ·clear a;rcases jF h with⟨c,h⟩ | ⟨c,h⟩
  ·refine LT Z c (Kv Z ?_);obtain⟨j,k,h⟩:=Nk h;refine KA ax ci 0 Z 3 Z Z (KK 1 Z Z .u (.fn Tryz.call51 Z) (bq g d a0.Mx 8 _ k) sT Z Z (Kx (T.region Z ?_)));obtain⟨x,l,h⟩:=Nk h;refine KA ax ci 0 Z 3 Z Z (KK 1 Z Z .u (.fn Tryz.call51 Z) (bq g j a0.Mz 2 _ l) sT Z Z ?_);cases h;exact TL.nil (KJ [0,0])
  refine LX Z c ?_;cases h;exact T.skip (KJ [0,0])
 rintro _ _ ⟨rfl,rfl⟩;clear h;have h:=a;clear a;obtain rfl:=Nl h;exact LK [1] Tryz.results96 ⟨Z,Z,Z⟩ QW (.inr Z)
def lD (a0:List Top):Option (Int):=if (a0.length:Int)=0 then some 10 else ((j0 (⟨0,0,0,1,a0,0,0⟩:Val)).bind fun a=>some a)
theorem pZ (a0:List Top) (a:AT) (c2:Nat) (r:Int) (h:lD a0=some r):aC Tryz.prog 210 #[.slice a a0.length c2] (RX.of (ar 2 aT) [.slice a a0.length c2] a0) (aJ) (fun v A' N=>v=jI r/\A'=aJ/\N = []):=by
 refine aW Tryz.func210 Z Tryz.ntmps210 Z ?_;intro F w hX;unfold lD at h;refine Kv Z (KF ax Z (T.seq (Kv Z (Ku ax 1 Z (Kw Z (K2 Z NK) Z (Ku ax 1 Z ?_))))));rcases jF h with⟨b,h⟩ | ⟨b,h⟩
 ·refine KY Z b (Kv Z (Ku ax 1 Z ?_));obtain rfl:=Nl h;exact Kx (T.ret (Kz (KI [0] Tryz.results210 (Ky Z))))
 refine KW Z b (KP Z (Ku ax 1 Z ?_));refine Kw Z (KT (cells:= #[jI 0,jI 0,jI 0,jI 1,.slice a a0.length c2,jI 0,jI 0]) BP Z QU) Z ?_;refine TL.alloc Z .u Tryz.zeroValue103 Z (fun d=>(KE 0 Z (cs':= #[jI 0,jI 0,jI 0,jI 1,.slice a a0.length c2,jI 0,jI 0]) Z .u Z Z Tryz.sizeOf103 Z Z Z Z Z (KU Z (Kw Z (KH (us := [jI 0,jI 0,jI 0,jI 1,.slice a a0.length c2,jI 0,jI 0]) 0 Z Tryz.isAgg103 Tryz.sizeOf103 Z Z Z) Z ?_))));obtain⟨e,c,h⟩:=Nk h;refine KN Z .u (.fn Tryz.call90 Z) (su (⟨0,0,0,1,a0,0,0⟩:Val) _ _ _ c) (fun _ hs=>(K7 hs hX)) Z (Ku ax 1 Z ?_);obtain rfl:=Nl h;exact Kx (T.ret (KI [1] Tryz.results210 (Ky Z)))
def gT (a0:bQ):Option (Int):=(nP a0.MD).bind fun b=>if b=true then ((kv a0.Mx a0.Mz).bind fun c=>if c=true then ((lD a0.Mw).bind fun a=>some a) else some 11) else some 4
theorem mC (a0:bQ) (d:AT) (c2:Nat) (r:Int) (h:gT a0=some r):aC Tryz.prog 170 #[.agg (wA14 a0 d c2)] (RX.of (ar 2 aT) [.slice d a0.Mw.length c2] a0.Mw) (aJ) (fun v A' N=>v=jI r/\A'=aJ/\N = []):=by
 refine aW Tryz.func170 Z Tryz.ntmps170 Z ?_;intro F w hX;unfold gT at h;refine Kv Z (TL.box Z .u Z Z (fun i=>(KF ax Z (T.seq (T.block (Kv Z ?_))))));obtain⟨j,e,h⟩:=Nk h;refine KA ax ci 0 Z 2 Z Z (KN Z .u (.fn Tryz.call87 Z) (K6 (fun w=>mI a0.MD _ e w)) (fun _ _=>RX.reads_triv _ _) Z (Ku ax 2 Z ?_));rcases jF h with⟨a,h⟩ | ⟨a,h⟩
 ·refine Kx (K8 Z (bb a) (Kv Z ?_));obtain⟨k,f,h⟩:=Nk h;refine KA ax ci 0 Z 4 Z Z (KN Z .u (.fn Tryz.call192 Z) (kP a0.Mx a0.Mz _ f) rT Z (Ku ax 2 Z ?_));rcases jF h with⟨b,h⟩ | ⟨b,h⟩
  ·refine Kx (K8 Z (bb b) (T.skip (KZ (X.seq (Kv Z ?_)))));obtain⟨g,c,h⟩:=Nk h;refine KA ax ci 0 Z 2 Z Z (KN Z .u (.fn Tryz.call210 Z) (pZ a0.Mw _ _ _ c) (fun _ hs=>(K7 hs hX)) Z (Ku ax 1 Z ?_));obtain rfl:=Nl h;exact Kx (T.ret (KI [1] Tryz.results170 (Ky Z)))
  replace b:=Nt b;refine Kx (KM Z (bp b) (Kv Z (Ku ax 1 Z ?_)));obtain rfl:=Nl h;exact Kx (T.ret (KL (Kz (KI [1] Tryz.results170 (Ky Z)))))
 replace a:=Nt a;refine Kx (KM Z (bp a) (Kv Z (Ku ax 1 Z ?_)));obtain rfl:=Nl h;exact Kx (T.ret (KL (Kz (KI [1] Tryz.results170 (Ky Z)))))
def ip (st:AI×Int) (a1:bQ):Option (Bool×(AI×Int)):=(gT a1).bind fun b=>(kg st b).bind fun (c,a)=>some (c,a)
theorem o5 (g:Nat) (st:AI×Int) (a1:bQ) (a:AT) (c2:Nat) (r:Bool×(AI×Int)) (h:ip st a1=some r):aC Tryz.prog 153 #[jP g,.iface 30 (.agg (wA14 a1 a c2))] (RX.of (ar 2 aT) [.slice a a1.Mw.length c2] a1.Mw) (bz g st) (fun v A' N=>v= .bool r.1/\A'=bz g r.2/\N = []):=by
 refine aW Tryz.func153 Z Tryz.ntmps153 Z ?_;intro F w hX;unfold ip at h;refine Kv Z (K3 ax Z Z ?_);obtain⟨d,b,h⟩:=Nk h;refine Ku ax 2 Z (KN Z .u (.inv Z (tj _) Tryz.call170 Z) (mC a1 _ _ _ b) (fun _ hs=>(K7 hs hX)) Z ?_);obtain⟨⟨f,e⟩,c,h⟩:=Nk h;refine KK 0 Z Z .u (.fn Tryz.call151 Z) (ms g st d _ c) sT Z Z (Ku ax 1 Z ?_);obtain rfl:=Nl h;exact Kx (T.ret (KI [0] Tryz.results153 (Ky Z)))
def jl (st:AI×Int) (a0:bQ):Option (AI×Int):=(ip st a0).bind fun (f,a)=>if f=true then some a else ((kF a a0.MD).bind fun e=>(ed e a0.Mx 8).bind fun b=>(ed b a0.Mz 2).bind fun c=>(fp c a0.Mw).bind fun d=>some d)
theorem rC (g:Nat) (st:AI×Int) (a0:bQ) (b:AT) (c2:Nat) (r:AI×Int) (h:jl st a0=some r):aC Tryz.prog 97 #[.agg (wA14 a0 b c2),jP g] (RX.of (ar 2 aT) [.slice b a0.Mw.length c2] a0.Mw) (bz g st) (fun v A' N=>v= .tuple #[]/\A'=bz g r/\N = []):=by
 refine aW Tryz.func97 Z Tryz.ntmps97 Z ?_;intro F w hX;unfold jl at h;refine Kv Z (TL.box Z .u Z Z (fun o=>(Kx (T.seq (Kv Z (Ku ax 1 Z (Kw Z (KH (us:=wL15 a0 b c2) 0 Z Qm Pe Z Z Z) Z (Kw Z (Ex.mkI Z OP) Z ?_))))))));obtain⟨⟨p,j⟩,k,h⟩:=Nk h;refine KK 1 Z Z .u (.fn Tryz.call153 Z) (o5 g st a0 _ _ _ k) (fun _ hs=>(L5 hs hX)) Z Z ?_;rcases jF h with⟨a,h⟩ | ⟨a,h⟩
 ·refine Kx (KM Z a ?_);obtain rfl:=Nl h;exact T.ret (Kz (LK [1] Tryz.results97 ⟨Z,Z,Z⟩ QW (.inl Z)))
 replace a:=Nt a;refine Kx (K8 Z a (KP Z ?_));obtain⟨l,m,h⟩:=Nk h;refine KA ax ci 0 Z 3 Z Z (KK 1 Z Z .u (.fn Tryz.call88 Z) (lP g j a0.MD _ m) sT Z Z (KU Z ?_));obtain⟨c,d,h⟩:=Nk h;refine KA ax ci 0 Z 3 Z Z (KK 1 Z Z .u (.fn Tryz.call51 Z) (bq g l a0.Mx 8 _ d) sT Z Z (KU Z ?_));obtain⟨e,f,h⟩:=Nk h;refine KA ax ci 0 Z 3 Z Z (KK 1 Z Z .u (.fn Tryz.call51 Z) (bq g c a0.Mz 2 _ f) sT Z Z (Kx (T.region Z ?_)));obtain⟨n,i,h⟩:=Nk h;refine KA ax ci 0 Z 3 Z Z (KK 1 Z Z .u (.fn Tryz.call91 Z) (kO g e a0.Mw _ _ _ i) (fun _ hs=>(L5 hs hX)) Z Z ?_);obtain rfl:=Nl h;exact TL.nil (LK [1] Tryz.results97 ⟨Z,Z,Z⟩ QW (.inr Z))
def iM (st:AI×Int) (a1:Bool):Option (AI×Int):=(if a1=true then ((tV st 1).bind fun b=>some b) else ((tV st 0).bind fun a=>some a)).bind fun c=>some c
theorem nq (g:Nat) (st:AI×Int) (a1:Bool) (r:AI×Int) (h:iM st a1=some r):aC Tryz.prog 154 #[jP g,.bool a1] .triv (bz g st) (fun v A' N=>v= .tuple #[]/\A'=bz g r/\N = []):=by
 refine aW Tryz.func154 Z Tryz.ntmps154 Z ?_;intro F w hX;unfold iM at h;refine Kv Z (KF ax Z ?_);obtain⟨f,h,a⟩:=Nk h;refine Lu (fun e Rs=>e = []/\Rs = [bz g f]) ?_ ?_
 ·clear a;rcases jF h with⟨b,h⟩ | ⟨b,h⟩
  ·refine KM Z b (T.region Z ?_);obtain⟨j,c,h⟩:=Nk h;refine Ku ax 1 Z (KK 0 Z Z .u (.fn Tryz.call102 Z) (qF g st 1 _ c) sT Z Z ?_);cases h;exact TL.nil (KJ [0])
  replace b:=Nt b;refine K8 Z b (T.region Z ?_);obtain⟨i,d,h⟩:=Nk h;refine Ku ax 1 Z (KK 0 Z Z .u (.fn Tryz.call102 Z) (qF g st 0 _ d) sT Z Z ?_);cases h;exact TL.nil (KJ [0])
 rintro _ _ ⟨rfl,rfl⟩;clear h;have h:=a;clear a;obtain rfl:=Nl h;exact LK [0] Tryz.results154 ⟨Z,Z,Z⟩ QW (.inr Z)
def gU (a0:bP):Option (Int):=(nP a0.MD).bind fun a=>if a=true then ((kv a0.Mx a0.Mz).bind fun b=>if b=true then some 0 else some 11) else some 4
theorem mD (a0:bP) (r:Int) (h:gU a0=some r):aC Tryz.prog 172 #[.agg (wA16 a0)] .triv (aJ) (fun v A' N=>v=jI r/\A'=aJ/\N = []):=by
 refine aW Tryz.func172 Z Tryz.ntmps172 Z ?_;intro F w hX;unfold gU at h;refine Kv Z (TL.box Z .u Z Z (fun e=>(KF ax Z (T.seq (T.block (Kv Z ?_))))));obtain⟨f,c,h⟩:=Nk h;refine KA ax ci 0 Z 2 Z Z (KN Z .u (.fn Tryz.call87 Z) (K6 (fun w=>mI a0.MD _ c w)) (fun _ _=>RX.reads_triv _ _) Z (Ku ax 2 Z ?_));rcases jF h with⟨a,h⟩ | ⟨a,h⟩
 ·refine Kx (K8 Z (bb a) (Kv Z ?_));obtain⟨g,d,h⟩:=Nk h;refine KA ax ci 0 Z 4 Z Z (KN Z .u (.fn Tryz.call192 Z) (kP a0.Mx a0.Mz _ d) rT Z (Ku ax 2 Z ?_));rcases jF h with⟨b,h⟩ | ⟨b,h⟩
  ·refine Kx (K8 Z (bb b) (T.skip (KZ (X.seq (Kv Z (Ku ax 1 Z ?_))))));obtain rfl:=Nl h;exact Kx (T.ret (KI [1] Tryz.results172 (Ky Z)))
  replace b:=Nt b;refine Kx (KM Z (bp b) (Kv Z (Ku ax 1 Z ?_)));obtain rfl:=Nl h;exact Kx (T.ret (KL (Kz (KI [1] Tryz.results172 (Ky Z)))))
 replace a:=Nt a;refine Kx (KM Z (bp a) (Kv Z (Ku ax 1 Z ?_)));obtain rfl:=Nl h;exact Kx (T.ret (KL (Kz (KI [1] Tryz.results172 (Ky Z)))))
def iq (st:AI×Int) (a1:bP):Option (Bool×(AI×Int)):=(gU a1).bind fun b=>(kg st b).bind fun (c,a)=>some (c,a)
theorem o6 (g:Nat) (st:AI×Int) (a1:bP) (r:Bool×(AI×Int)) (h:iq st a1=some r):aC Tryz.prog 153 #[jP g,.iface 32 (.agg (wA16 a1))] .triv (bz g st) (fun v A' N=>v= .bool r.1/\A'=bz g r.2/\N = []):=by
 refine aW Tryz.func153 Z Tryz.ntmps153 Z ?_;intro F w hX;unfold iq at h;refine Kv Z (K3 ax Z Z ?_);obtain⟨c,a,h⟩:=Nk h;refine Ku ax 2 Z (KN Z .u (.inv Z (tk _) Tryz.call172 Z) (mD a1 _ a) rT Z ?_);obtain⟨⟨e,d⟩,b,h⟩:=Nk h;refine KK 0 Z Z .u (.fn Tryz.call151 Z) (ms g st c _ b) sT Z Z (Ku ax 1 Z ?_);obtain rfl:=Nl h;exact Kx (T.ret (KI [0] Tryz.results153 (Ky Z)))
def jm (st:AI×Int) (a0:bP):Option (AI×Int):=(iq st a0).bind fun (f,a)=>if f=true then some a else ((kF a a0.MD).bind fun d=>(ed d a0.Mx 8).bind fun e=>(ed e a0.Mz 2).bind fun b=>(iM b a0.MU).bind fun c=>some c)
theorem rD (g:Nat) (st:AI×Int) (a0:bP) (r:AI×Int) (h:jm st a0=some r):aC Tryz.prog 98 #[.agg (wA16 a0),jP g] .triv (bz g st) (fun v A' N=>v= .tuple #[]/\A'=bz g r/\N = []):=by
 refine aW Tryz.func98 Z Tryz.ntmps98 Z ?_;intro F w hX;unfold jm at h;refine Kv Z (TL.box Z .u Z Z (fun n=>(Kx (T.seq (Kv Z (Ku ax 1 Z (Kw Z (KH (us:=lX a0) 0 Z Pl OL Z Z Z) Z (Kw Z (Ex.mkI Z OI) Z ?_))))))));obtain⟨⟨o,e⟩,f,h⟩:=Nk h;refine KK 1 Z Z .u (.fn Tryz.call153 Z) (o6 g st a0 _ f) sT Z Z ?_;rcases jF h with⟨a,h⟩ | ⟨a,h⟩
 ·refine Kx (KM Z a ?_);obtain rfl:=Nl h;exact T.ret (Kz (LK [1] Tryz.results98 ⟨Z,Z,Z⟩ QW (.inl Z)))
 replace a:=Nt a;refine Kx (K8 Z a (KP Z ?_));obtain⟨i,j,h⟩:=Nk h;refine KA ax ci 0 Z 3 Z Z (KK 1 Z Z .u (.fn Tryz.call88 Z) (lP g e a0.MD _ j) sT Z Z (KU Z ?_));obtain⟨k,l,h⟩:=Nk h;refine KA ax ci 0 Z 3 Z Z (KK 1 Z Z .u (.fn Tryz.call51 Z) (bq g i a0.Mx 8 _ l) sT Z Z (KU Z ?_));obtain⟨b,c,h⟩:=Nk h;refine KA ax ci 0 Z 3 Z Z (KK 1 Z Z .u (.fn Tryz.call51 Z) (bq g k a0.Mz 2 _ c) sT Z Z (Kx (T.region Z ?_)));obtain⟨m,d,h⟩:=Nk h;refine KA ax ci 0 Z 3 Z Z (KK 1 Z Z .u (.fn Tryz.call154 Z) (nq g b a0.MU _ d) sT Z Z ?_);obtain rfl:=Nl h;exact TL.nil (LK [1] Tryz.results98 ⟨Z,Z,Z⟩ QW (.inr Z))
def ir (a0:bf) (a1:Int):Option (Int):=(fP a0 a1).bind fun a=>some a
theorem o7 (a0:bf) (ba0:Nat) (a1:Int) (ba1:Nat) (r:Int) (h:ir a0 a1=some r):aC Tryz.prog 169 #[jP ba0,jP ba1] (RX.and (RX.blk ba0 27 #[.bool a0.MD.null,jS a0.MD.data,jI a0.MC,jI a0.Mx,jI a0.Mz]) (RX.blk ba1 3 #[jI a1])) (aJ) (fun v A' N=>v=jI r/\A'=aJ/\N = []):=by
 refine aW Tryz.func169 Z Tryz.ntmps169 Z ?_;intro F w hX;unfold ir at h;refine Kv Z (K3 ax Z Z (Kw Z (Ex.xbS (us := [.bool a0.MD.null,jS a0.MD.data,jI a0.MC,jI a0.Mx,jI a0.Mz]) (Ls hX) Z PR O1 Z Z) Z (Kw Z (Ex.xb1 (La hX) Z Nw Z) Z ?_)));obtain⟨b,a,h⟩:=Nk h;refine KN Z .u (.fn Tryz.call152 Z) (lm a0 a1 _ a) rT Z (Ku ax 1 Z ?_);obtain rfl:=Nl h;exact Kx (T.ret (KI [0] Tryz.results169 (Ky Z)))
def cL (st:I) (a1_0:bf) (a1_1:Int):Option (Bool×I):=(iC st).bind fun (d,a)=>if d=0 then ((ir a1_0 a1_1).bind fun b=>if b=0 then some (true,a) else ((cm a b).bind fun c=>some (false,c))) else some (false,a)
theorem kQ (g:Nat) (st:I) (a1_0:bf) (ba1_0:Nat) (a1_1:Int) (ba1_1:Nat) (r:Bool×I) (h:cL st a1_0 a1_1=some r):aC Tryz.prog 168 #[jP g,.func (.func 169) #[] #[jP ba1_0,jP ba1_1]] (RX.and (RX.blk ba1_0 27 #[.bool a1_0.MD.null,jS a1_0.MD.data,jI a1_0.MC,jI a1_0.Mx,jI a1_0.Mz]) (RX.blk ba1_1 3 #[jI a1_1])) (InR g st) (fun v A' N=>v= .bool r.1/\A'=InR g r.2/\N = []):=by
 refine aW Tryz.func168 Z Tryz.ntmps168 Z ?_;intro F w hX;unfold cL at h;refine Kv Z (KF ax Z (T.seq (Kv Z ?_)));obtain⟨⟨k,c⟩,d,h⟩:=Nk h;refine Ku ax 1 Z (KK 0 Z Z .u (.fn Tryz.call23 Z) (cu g st _ d) sT Z Z (Ku ax 1 Z ?_));rcases jF h with⟨a,h⟩ | ⟨a,h⟩
 ·refine K1 Z a (KQ (T.seq (Kv Z ?_)));obtain⟨i,e,h⟩:=Nk h;refine Ku ax 1 Z (KN Z .u (.val Z Tryz.call169 Z Z) (o7 a1_0 ba1_0 a1_1 ba1_1 _ e) (fun _ hs=>(Lb (K7 hs (Ls hX)) (K7 hs (La hX)))) Z (K3 ax Z Z (Ku ax 2 Z ?_)));rcases jF h with⟨b,h⟩ | ⟨b,h⟩
  ·refine K1 Z b (KP Z (Ku ax 1 Z ?_));obtain rfl:=Nl h;exact Kx (T.ret (KI [0] Pu (Ky Z)))
  refine K0 Z b (Kv Z ?_);obtain⟨j,f,h⟩:=Nk h;refine Ku ax 2 Z (KK 0 Z Z .u (.fn Tryz.call70 Z) (bG g c i _ f) sT Z Z (KU Z (Ku ax 1 Z ?_)));obtain rfl:=Nl h;exact Kx (T.ret (Kz (KI [0] Pu (Ky Z))))
 refine K0 Z a (Kv Z (Ku ax 1 Z ?_));obtain rfl:=Nl h;exact Kx (T.ret (Kz (KI [0] Pu (Ky Z))))
def eO (st:I) (a1:Int):Option (bf×I):=(lw st 2).bind fun (h,i)=>(eu i 4).bind fun (j,b)=>(if a1>0 then ((eu b 8).bind fun (k,e)=>(eu e 2).bind fun (l,f)=>some (k,l,f)) else ((some (-1,-1,b):Option (Int×Int×I)))).bind fun (c,d,g)=>(cL g (⟨h,j,c,d⟩:bf) a1).bind fun (m,a)=>if m=true then (some ((⟨h,j,c,d⟩:bf),a)) else (some ((⟨(⟨false,[]⟩:Bl),0,0,0⟩:bf),a))
theorem qT (g:Nat) (st:I) (a1:Int) (r:bf×I) (h:eO st a1=some r):aC Tryz.prog 116 #[jP g,jI a1] .triv (InR g st) (fun v A' N=>v= .agg #[.bool r.1.MD.null,jS r.1.MD.data,jI r.1.MC,jI r.1.Mx,jI r.1.Mz]/\A'=InR g r.2/\N = []):=by
 refine aW Tryz.func116 Z Tryz.ntmps116 Z ?_;intro F w hX;unfold eO at h;refine Kv Z (TL.box Z .u Z Z (fun m=>(TL.alloc Z .u Tryz.zeroValue27 Z (fun t=>(KU Z ?_)))));obtain⟨⟨a,x⟩,y,h⟩:=Nk h;refine Ku ax 1 Z (KK 2 Z Z .u (.fn Tryz.call142 Z) (kn g st 2 _ y) sT Z Z ?_);obtain⟨⟨b,z⟩,A,h⟩:=Nk h;refine Ku ax 1 Z (KK 2 Z Z .u (.fn Tryz.call68 Z) (bx g x 4 _ A) sT Z Z ?_);refine Kw Z (KT (cells:= #[.bool a.null,jS a.data,jI b,jI (-1),jI (-1)]) xg Z QU) Z ?_;refine TL.alloc Z .u Tryz.zeroValue27 Z (fun n=>(KE 0 Z (cs':= #[.bool a.null,jS a.data,jI b,jI (-1),jI (-1)]) Z .u Z Z O1 Z Z Z Z Z (Kx (T.seq (Kv Z (LQ ax ci 2 Z Z Z ?_))))));obtain⟨⟨c,d,j⟩,h,i⟩:=Nk h;refine Lu (fun e Rs=>e = [(0,jP g),(3,jP m),(4,jP t),(5,jP n)]/\Rs = [aV n 27 (vA30 b c d a),aV t 27 vA31,aV m 3 #[jI a1],InR g j]) ?_ ?_
 ·clear i;rcases jF h with⟨k,h⟩ | ⟨k,h⟩
  ·refine LT Z k (T.region Z ?_);obtain⟨⟨l,o⟩,p,h⟩:=Nk h;refine Ku ax 1 Z (KK 3 Z Z .u (.fn Tryz.call68 Z) (bx g z 8 _ p) sT Z Z ?_);obtain⟨⟨B,C⟩,q,h⟩:=Nk h;refine Ku ax 1 Z (KK 3 Z Z .u (.fn Tryz.call68 Z) (bx g o 2 _ q) sT Z Z (Ku ax 1 Z (KE 0 Z (cs':= #[.bool a.null,jS a.data,jI b,jI l,jI (-1)]) Z .u Z Z Nu Z Z Z Z Z (Ku ax 1 Z (KE 0 Z (cs':=vA30 b l B a) Z .u Z Z Nu Z Z Z Z Z ?_)))));cases h;exact TL.nil (KJ [0,0,0,0])
  refine LX Z k ?_;cases h;exact T.skip (KJ [0,0,0,0])
 rintro _ _ ⟨rfl,rfl⟩;clear h;have h:=i;clear i;refine X.seq (T.seq (Kv Z (Ku ax 1 Z (Kw Z (Ex.mkF Z Z (fun _=>Z)) Z ?_))));obtain⟨⟨E,D⟩,s,h⟩:=Nk h;refine KK 3 Z Z .u (.fn Tryz.call168 Z) (kQ g j (⟨a,b,c,d⟩:bf) n a1 m _ s) (fun _ hs=>(Src.and (Src.res 0 Z ze) (Src.res 2 Z ze))) Z Z (Ku ax 1 Z ?_);rcases jF h with⟨f,h⟩ | ⟨f,h⟩
 ·refine Kx (K8 Z (bb f) (KP Z (Kw Z (KH (us := [.bool a.null,jS a.data,jI b,jI c,jI d]) 0 Z PR O1 Z Z Z) Z (KE 1 Z (cs':=vA30 b c d a) Z .u Z Z O1 Z Z Z Z Z ?_))));obtain rfl:=Nl h;exact Kx (T.ret (KI [3] Tryz.results116 (KV (us:=vA30 b c d a) 1 Z PR O1 Z Z)))
 replace f:=Nt f;refine Kx (KM Z (bp f) (Kv Z ?_));refine Kw Z (KT (cells:=vA31) xg Z QU) Z ?_;refine KE 1 Z (cs':=vA31) Z .u Z Z O1 Z Z Z Z Z ?_;obtain rfl:=Nl h;exact Kx (T.ret (Kz (KI [3] Tryz.results116 (KV (us:=vA31) 1 Z PR O1 Z Z))))
def cZ (st:I) (a1_0:bQ):Option (Bool×I):=(iC st).bind fun (d,a)=>if d=0 then ((gT a1_0).bind fun c=>if c=0 then some (true,a) else ((cm a c).bind fun b=>some (false,b))) else some (false,a)
theorem lE (g:Nat) (st:I) (a1_0:bQ) (d:AT) (c2:Nat) (r:Bool×I) (h:cZ st a1_0=some r):aC Tryz.prog 168 #[jP g,.func (.func 170) #[.agg (wA14 a1_0 d c2)] #[]] (RX.of (ar 2 aT) [.slice d a1_0.Mw.length c2] a1_0.Mw) (InR g st) (fun v A' N=>v= .bool r.1/\A'=InR g r.2/\N = []):=by
 refine aW Tryz.func168 Z Tryz.ntmps168 Z ?_;intro F w hX;unfold cZ at h;refine Kv Z (KF ax Z (T.seq (Kv Z ?_)));obtain⟨⟨l,e⟩,f,h⟩:=Nk h;refine Ku ax 1 Z (KK 0 Z Z .u (.fn Tryz.call23 Z) (cu g st _ f) sT Z Z (Ku ax 1 Z ?_));rcases jF h with⟨a,h⟩ | ⟨a,h⟩
 ·refine K1 Z a (KQ (T.seq (Kv Z ?_)));obtain⟨j,i,h⟩:=Nk h;refine Ku ax 1 Z (KN Z .u (.val Z Tryz.call170 Z Z) (mC a1_0 _ _ _ i) (fun _ hs=>(K7 hs hX)) Z (K3 ax Z Z (Ku ax 2 Z ?_)));rcases jF h with⟨b,h⟩ | ⟨b,h⟩
  ·refine K1 Z b (KP Z (Ku ax 1 Z ?_));obtain rfl:=Nl h;exact Kx (T.ret (KI [0] Pu (Ky Z)))
  refine K0 Z b (Kv Z ?_);obtain⟨k,c,h⟩:=Nk h;refine Ku ax 2 Z (KK 0 Z Z .u (.fn Tryz.call70 Z) (bG g e j _ c) sT Z Z (KU Z (Ku ax 1 Z ?_)));obtain rfl:=Nl h;exact Kx (T.ret (Kz (KI [0] Pu (Ky Z))))
 refine K0 Z a (Kv Z (Ku ax 1 Z ?_));obtain rfl:=Nl h;exact Kx (T.ret (Kz (KI [0] Pu (Ky Z))))
def lQ (st:I)  : Option (bQ×I):=(sZ st).bind fun (d,e)=>(eu e 8).bind fun (f,g)=>(eu g 2).bind fun (h,i)=>(dW i).bind fun (b,c)=>(cZ c (⟨d,f,h,b⟩:bQ)).bind fun (j,a)=>if j=true then (some ((⟨d,f,h,b⟩:bQ),a)) else (some ((⟨[],0,0,[]⟩:bQ),a))
theorem sv (g:Nat) (st:I)  (r:bQ×I) (h:lQ st  = some r):aC Tryz.prog 117 #[jP g] .triv (InR g st) (fun v A' N=> ∃ (j:AT) (k:Nat),v= .agg #[jS r.1.MD,jI r.1.Mx,jI r.1.Mz,.slice j r.1.Mw.length k]/\A'=InR g r.2/\N = [RdR (ar 2 aT) [.slice j r.1.Mw.length k] r.1.Mw]):=by
 refine aW Tryz.func117 Z Tryz.ntmps117 Z ?_;intro F w hX;unfold lQ at h;refine Kv Z (TL.alloc Z .u Tryz.zeroValue30 Z (fun B=>(KU Z ?_)));obtain⟨⟨b,p⟩,q,h⟩:=Nk h;refine Ku ax 1 Z (KK 1 Z Z .u (.fn Tryz.call86 Z) (pv g st _ q) sT Z Z ?_);obtain⟨⟨c,s⟩,t,h⟩:=Nk h;refine Ku ax 1 Z (KK 1 Z Z .u (.fn Tryz.call68 Z) (bx g p 8 _ t) sT Z Z ?_);obtain⟨⟨d,x⟩,l,h⟩:=Nk h;refine Ku ax 1 Z (KK 1 Z Z .u (.fn Tryz.call68 Z) (bx g s 2 _ l) sT Z Z ?_);refine Kw Z (KT (cells:= #[jS b,jI c,jI d,.slice none 0 0]) xh Z QU) Z ?_;refine TL.alloc Z .u Tryz.zeroValue30 Z (fun z=>(KE 0 Z (cs':= #[jS b,jI c,jI d,.slice none 0 0]) Z .u Z Z Pe Z Z Z Z Z (KU Z ?_)));obtain⟨⟨a,m⟩,n,h⟩:=Nk h;refine Ku ax 1 Z (TL.cg2 Z .u (.fn Tryz.call89 Z) (mB g x _ n) sT Z ?_);rintro _ _ _ ⟨e,f,rfl,rfl,rfl⟩;refine K5 [0,0,0,0] Z (Ku ax 1 Z (KE 1 Z (cs':= #[jS b,jI c,jI d,.slice e a.length f]) Z .u Z Z Pn Z Z Z Z Z (Kx (T.seq (Kv Z (Ku ax 1 Z (Kw Z (KH (us := [jS b,jI c,jI d,.slice e a.length f]) 1 Z Qm Pe Z Z Z) Z (Kw Z (Ex.mkF Z Z (fun _=>Z)) Z ?_))))))));obtain⟨⟨A,y⟩,o,h⟩:=Nk h;refine KK 3 Z Z .u (.fn Tryz.call168 Z) (lE g m (⟨b,c,d,a⟩:bQ) _ _ _ o) (fun _ hs=>(Src.res 0 Z (fun w G h=>cc w G h))) Z Z (Ku ax 1 Z ?_);rcases jF h with⟨i,h⟩ | ⟨i,h⟩
 ·refine Kx (K8 Z (bb i) (KP Z (Kw Z (KH (us := [jS b,jI c,jI d,.slice e a.length f]) 1 Z Qm Pe Z Z Z) Z (KE 2 Z (cs':= #[jS b,jI c,jI d,.slice e a.length f]) Z .u Z Z Pe Z Z Z Z Z ?_))));obtain rfl:=Nl h;exact Kx (T.ret (KO [3,0] Tryz.results117 (KV (us:= #[jS b,jI c,jI d,.slice e a.length f]) 2 Z Qm Pe Z Z) ⟨_,_,Z,Z,Z⟩ QW (.inl Z)))
 replace i:=Nt i;refine Kx (KM Z (bp i) (Kv Z ?_));refine Kw Z (KT (cells:=vA32) xh Z QU) Z ?_;refine KE 2 Z (cs':=vA32) Z .u Z Z Pe Z Z Z Z Z ?_;obtain rfl:=Nl h;exact Kx (T.ret (Kz (KG 2 aT (KO [4,0] Tryz.results117 (KV (us:=vA32) 3 Z Qm Pe Z Z) ⟨_,_,Z,Z,Z⟩ QW (.inl Z)))))
def gF (st:I)  : Option (Bool×I):=(eu st 1).bind fun (c,b)=>(if c=0 then some false else (if c=1 then some false else some true)).bind fun e=>(if e=true then ((cm b 11).bind fun d=>some d) else some b).bind fun a=>if c=1 then some (true,a) else some (false,a)
theorem qa (g:Nat) (st:I)  (r:Bool×I) (h:gF st  = some r):aC Tryz.prog 171 #[jP g] .triv (InR g st) (fun v A' N=>v= .bool r.1/\A'=InR g r.2/\N = []):=by
 refine aW Tryz.func171 Z Tryz.ntmps171 Z ?_;intro F w hX;unfold gF at h;refine Kv Z (K3 ax Z Z ?_);obtain⟨⟨o,j⟩,p,h⟩:=Nk h;refine Ku ax 1 Z (KK 0 Z Z .u (.fn Tryz.call68 Z) (bx g st 1 _ p) sT Z Z (KF ax Z (LS ?_)));obtain⟨q,h,f⟩:=Nk h;refine Lu (fun e Rs=>e = [(0,jP g),(2,.bool false),(3,jI o),(11,.bool q)]/\Rs = [InR g j]) ?_ ?_
 ·clear f;refine T.region Z ?_;rcases jF h with⟨k,h⟩ | ⟨k,h⟩
  ·refine Ku ax 3 Z (KC 8 Z (bb (Nn k)) (KB ax 3 Z ?_));cases h;exact TL.nil (KJ [0])
  refine Ku ax 3 Z (KC 8 Z (bp (Np k)) (KB ax 3 Z ?_));rcases jF h with⟨l,h⟩ | ⟨l,h⟩
  ·cases h;exact TL.nil (Lr (d:=11) (v':= .bool false) Z (congrArg Value.bool (bb (Nn l))) (KJ [0]))
  cases h;exact TL.nil (Lr (d:=11) (v':= .bool true) Z (congrArg Value.bool (bp (Np l))) (KJ [0]))
 rintro _ _ ⟨rfl,rfl⟩;clear h;have h:=f;clear f;refine X.seq ?_;obtain⟨m,h,c⟩:=Nk h;refine Lu (fun e Rs=>e = [(2,.bool false),(3,jI o)]/\Rs = [InR g m]) ?_ ?_
 ·clear c;rcases jF h with⟨a,h⟩ | ⟨a,h⟩
  ·refine KM Z a (T.region Z ?_);obtain⟨s,n,h⟩:=Nk h;refine Ku ax 1 Z (KK 0 Z Z .u (.fn Tryz.call70 Z) (bG g j 11 _ n) sT Z Z ?_);cases h;exact TL.nil (KJ [0])
  replace a:=Nt a;refine K8 Z a ?_;cases h;exact T.skip (KJ [0])
 rintro _ _ ⟨rfl,rfl⟩;clear h;have h:=c;clear c;refine X.seq (Kv Z (Ku ax 3 Z ?_));rcases jF h with⟨i,h⟩ | ⟨i,h⟩
 ·obtain rfl:=Nl h;exact Kx (T.ret (KO [0] Tryz.results171 (Ky (v:= .bool true) (congrArg (fun b=>some (Value.bool b)) (Nn i))) ⟨Z,Z,Z⟩ QW (.inl Z)))
 obtain rfl:=Nl h;exact Kx (T.ret (KO [0] Tryz.results171 (Ky (v:= .bool false) (congrArg (fun b=>some (Value.bool b)) (Np i))) ⟨Z,Z,Z⟩ QW (.inl Z)))
def da (st:I) (a1_0:bP):Option (Bool×I):=(iC st).bind fun (d,a)=>if d=0 then ((gU a1_0).bind fun b=>if b=0 then some (true,a) else ((cm a b).bind fun c=>some (false,c))) else some (false,a)
theorem lF (g:Nat) (st:I) (a1_0:bP) (r:Bool×I) (h:da st a1_0=some r):aC Tryz.prog 168 #[jP g,.func (.func 172) #[.agg (wA16 a1_0)] #[]] .triv (InR g st) (fun v A' N=>v= .bool r.1/\A'=InR g r.2/\N = []):=by
 refine aW Tryz.func168 Z Tryz.ntmps168 Z ?_;intro F w hX;unfold da at h;refine Kv Z (KF ax Z (T.seq (Kv Z ?_)));obtain⟨⟨k,c⟩,d,h⟩:=Nk h;refine Ku ax 1 Z (KK 0 Z Z .u (.fn Tryz.call23 Z) (cu g st _ d) sT Z Z (Ku ax 1 Z ?_));rcases jF h with⟨a,h⟩ | ⟨a,h⟩
 ·refine K1 Z a (KQ (T.seq (Kv Z ?_)));obtain⟨i,e,h⟩:=Nk h;refine Ku ax 1 Z (KN Z .u (.val Z Tryz.call172 Z Z) (mD a1_0 _ e) rT Z (K3 ax Z Z (Ku ax 2 Z ?_)));rcases jF h with⟨b,h⟩ | ⟨b,h⟩
  ·refine K1 Z b (KP Z (Ku ax 1 Z ?_));obtain rfl:=Nl h;exact Kx (T.ret (KI [0] Pu (Ky Z)))
  refine K0 Z b (Kv Z ?_);obtain⟨j,f,h⟩:=Nk h;refine Ku ax 2 Z (KK 0 Z Z .u (.fn Tryz.call70 Z) (bG g c i _ f) sT Z Z (KU Z (Ku ax 1 Z ?_)));obtain rfl:=Nl h;exact Kx (T.ret (Kz (KI [0] Pu (Ky Z))))
 refine K0 Z a (Kv Z (Ku ax 1 Z ?_));obtain rfl:=Nl h;exact Kx (T.ret (Kz (KI [0] Pu (Ky Z))))
def lR (st:I)  : Option (bP×I):=(sZ st).bind fun (d,e)=>(eu e 8).bind fun (f,g)=>(eu g 2).bind fun (h,i)=>(gF i).bind fun (b,c)=>(da c (⟨d,f,h,b⟩:bP)).bind fun (j,a)=>if j=true then (some ((⟨d,f,h,b⟩:bP),a)) else (some ((⟨[],0,0,false⟩:bP),a))
theorem sw (g:Nat) (st:I)  (r:bP×I) (h:lR st  = some r):aC Tryz.prog 118 #[jP g] .triv (InR g st) (fun v A' N=>v= .agg #[jS r.1.MD,jI r.1.Mx,jI r.1.Mz,.bool r.1.MU]/\A'=InR g r.2/\N = []):=by
 refine aW Tryz.func118 Z Tryz.ntmps118 Z ?_;intro F w hX;unfold lR at h;refine Kv Z (TL.alloc Z .u Tryz.zeroValue32 Z (fun x=>(KU Z ?_)));obtain⟨⟨b,l⟩,m,h⟩:=Nk h;refine Ku ax 1 Z (KK 1 Z Z .u (.fn Tryz.call86 Z) (pv g st _ m) sT Z Z ?_);obtain⟨⟨c,n⟩,o,h⟩:=Nk h;refine Ku ax 1 Z (KK 1 Z Z .u (.fn Tryz.call68 Z) (bx g l 8 _ o) sT Z Z ?_);obtain⟨⟨d,p⟩,f,h⟩:=Nk h;refine Ku ax 1 Z (KK 1 Z Z .u (.fn Tryz.call68 Z) (bx g n 2 _ f) sT Z Z ?_);refine Kw Z (KT (cells:= #[jS b,jI c,jI d,.bool false]) xi Z QU) Z ?_;refine TL.alloc Z .u Tryz.zeroValue32 Z (fun s=>(KE 0 Z (cs':= #[jS b,jI c,jI d,.bool false]) Z .u Z Z OL Z Z Z Z Z (KU Z ?_)));obtain⟨⟨a,i⟩,j,h⟩:=Nk h;refine Ku ax 1 Z (KK 2 Z Z .u (.fn Tryz.call171 Z) (qa g p _ j) sT Z Z (Ku ax 1 Z (KE 0 Z (cs':= #[jS b,jI c,jI d,.bool a]) Z .u Z Z N6 Z Z Z Z Z (Kx (T.seq (Kv Z (Ku ax 1 Z (Kw Z (KH (us := [jS b,jI c,jI d,.bool a]) 0 Z Pl OL Z Z Z) Z (Kw Z (Ex.mkF Z Z (fun _=>Z)) Z ?_)))))))));obtain⟨⟨t,q⟩,k,h⟩:=Nk h;refine KK 2 Z Z .u (.fn Tryz.call168 Z) (lF g i (⟨b,c,d,a⟩:bP) _ k) sT Z Z (Ku ax 1 Z ?_);rcases jF h with⟨e,h⟩ | ⟨e,h⟩
 ·refine Kx (K8 Z (bb e) (KP Z (Kw Z (KH (us := [jS b,jI c,jI d,.bool a]) 0 Z Pl OL Z Z Z) Z (KE 1 Z (cs':= #[jS b,jI c,jI d,.bool a]) Z .u Z Z OL Z Z Z Z Z ?_))));obtain rfl:=Nl h;exact Kx (T.ret (KO [2] Tryz.results118 (KV (us:= #[jS b,jI c,jI d,.bool a]) 1 Z Pl OL Z Z) ⟨Z,Z,Z⟩ QW (.inl Z)))
 replace e:=Nt e;refine Kx (KM Z (bp e) (Kv Z ?_));refine Kw Z (KT (cells:=FQ) xi Z QU) Z ?_;refine KE 1 Z (cs':=FQ) Z .u Z Z OL Z Z Z Z Z ?_;obtain rfl:=Nl h;exact Kx (T.ret (Kz (KI [2] Tryz.results118 (KV (us:=FQ) 1 Z Pl OL Z Z))))
end Go.Proofs.YtheikonlgjdopaaGreat.Sl
