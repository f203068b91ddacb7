/- splitFeeds_holds: part 6. -/
import Derived.Test.YtheikonlgjdopaaGreatK5
set_option maxRecDepth 100000
set_option maxHeartbeats 4000000
set_option linter.defProp false
namespace Go.Proofs.YtheikonlgjdopaaGreat.Sl
open Go.RowKit
set_option linter.unusedVariables false
set_option linter.unusedSimpArgs false
def NS := @Tryz.sizeOf53
def N0 := @Tryz.sizeOf67
def N7 := @Tryz.results90
def Ok := @Tryz.runUnderlying32
def Or := @Tryz.runUnderlying30
def Oy := @Tryz.isAgg53
def Oz := @Tryz.runUnderlying78
def OD := @Tryz.results22
def OI := @Tryz.runUnderlying53
def OJ := @Tryz.runUnderlying27
def ON := @Tryz.runUnderlying103
def OT := @Tryz.isAgg67
def OU := @Tryz.sizeOf27
def OV := @Tryz.sizeOf30
def OW := @Tryz.sizeOf32
def Pc := @Tryz.results168
def Pn := @Tryz.runUnderlying67
def Ps := @Tryz.eqGuardType45
def P7 := @Tryz.isAgg27
def P8 := @Tryz.isAgg30
def P9 := @Tryz.isAgg32
def Qt := @Tryz.results189
def Qu := @Tryz.results146
def uB:eY := [(45,0,0),(45,1,1),(53,0,0),(53,1,5),(53,2,12),(53,3,13)]
theorem aw:(uB).OK Tryz.prog:=⟨FOK.mk O8 rfl M9 rfl,FOK.mk O8 rfl M9 rfl,FOK.mk OI rfl N5 rfl,FOK.mk OI rfl Ni rfl,FOK.mk OI rfl Tryz.sizeOf48 rfl,FOK.mk OI rfl NC rfl,trivial⟩
def uC:List Nat := [3,48]
theorem jD:NOK Tryz.prog uC:=⟨Nc,Tryz.isAgg48,trivial⟩
theorem ky:Tryz.prog.follows .mixedOrders=true:=by kernel_rfl
theorem qD:BOK Tryz.prog 53 #[.int .i64 0,.int .i64 0,.int .i64 0,.bool false,A7,.bool false,A7,.int .i64 0,.int .i64 0,.int .i64 0,A5,.bool false,A5,.bool false,A7,.int .i64 0,.int .i64 0,A5] [(0,5),(5,7),(12,1),(13,5)]:=BOK.mk Tryz.zeroValue53 OI (by intro w; simp)
theorem bF:BOK Tryz.prog 67 #[.int .i64 0,.int .i64 0,.int .i64 0,.bool false,A7,.bool false,A7,.int .i64 0,.int .i64 0,.int .i64 0,A5,.bool false,A5,.bool false,A7,.int .i64 0,.int .i64 0,A5,.int .i64 0,.int .i64 0] [(0,18),(18,1),(19,1)]:=BOK.mk Tryz.zeroValue67 Pn (by intro w; simp)
theorem dQ:iH Tryz.prog 3 45 [.int .i64,.int .i64,.int .i64,.bool,.string] true:=(iH.struct OM N5 rfl Tryz.underlying45 Tryz.stoodInHeld45 ⟨by decide,rfl,[.int .i64],[.int .i64,.int .i64,.bool,.string],false,rfl,((Ls Nc M9 Tryz.underlying3).mono QJ),⟨by decide,rfl,[.int .i64],[.int .i64,.bool,.string],false,rfl,((Ls Nc M9 Tryz.underlying3).mono QJ),⟨by decide,rfl,[.int .i64],[.bool,.string],false,rfl,((Ls Nc M9 Tryz.underlying3).mono QJ),⟨by decide,rfl,[.bool,.string],[],true,rfl,(iH.struct NL Nh rfl Tryz.underlying23 Tryz.stoodInHeld23 ⟨by decide,rfl,[.bool],[.string],false,rfl,(Ls Oa NP Tryz.underlying4),⟨by decide,rfl,[.string],[],false,rfl,(Ls NQ NG Tryz.underlying9),rfl⟩⟩),rfl⟩⟩⟩⟩)
def j2 (a0:bE) (a1:bE):Option (Bool):=(if a0.Mi.Mn=a1.Mi.Mn then (if a0.Mi.Ml=a1.Mi.Ml then (if a0.Mi.Mt=a1.Mi.Mt then (if a0.Mi.Mj.null=a1.Mi.Mj.null then (if a0.Mi.Mj.data=a1.Mi.Mj.data then ((j1 a0.MI a1.MI).bind fun a=>if a=true then ((jf a0.MF a1.MF).bind fun b=>if b=true then ((il a0.Mp a1.Mp).bind fun c=>some c) else some false) else some false) else some false) else some false) else some false) else some false) else some false).bind fun d=>some d
theorem wc (a0:bE) (s:AT) (c2:Nat) (A:AT) (B:Nat) (t:AT) (x:Nat) (a1:bE) (y:AT) (z:Nat) (C:AT) (o:Nat) (j:AT) (k:Nat) (r:Bool) (h:j2 a0 a1=some r):aB Tryz.prog 17 #[.agg (FG a0 s A t c2 B x),.agg (FG a1 y C j z o k)] (RX.and (RX.of (ar 2 aU) [.slice s a0.MI.Mc.length c2] a0.MI.Mc) (RX.and (RX.of (ar 5 bd) [.slice A a0.MF.length B] a0.MF) (RX.and (RX.of (ar 2 ba) [.slice t a0.Mp.Mc.length x] a0.Mp.Mc) (RX.and (RX.of (ar 2 aU) [.slice y a1.MI.Mc.length z] a1.MI.Mc) (RX.and (RX.of (ar 5 bd) [.slice C a1.MF.length o] a1.MF) (RX.of (ar 2 ba) [.slice j a1.Mp.Mc.length k] a1.Mp.Mc)))))) (aI) (fun v A' N=>v= .bool r/\A'=aI/\N = []):=by
 refine aS Tryz.func17 Z Tryz.ntmps17 Z ?_;intro F w hX;unfold j2 at h;refine Ka Z (TL.box Z .u Z Z (fun H=>(TL.box Z .u Z Z (fun I=>(Kk aw Z (T.seq ?_))))));obtain⟨J,h,i⟩:=M1 h;refine K7 (fun e Rs=>e = [(4,.bool J)]/\Rs = [aR I 53 (FG a1 y C j z o k),aR H 53 (FG a0 s A t c2 B x),aI]) ?_ ?_
 ·clear i;refine T.region Z (J9 aw 1 Z (Kb Z (Kp (us := [jI a0.Mi.Mn,jI a0.Mi.Ml,jI a0.Mi.Mt,.bool a0.Mi.Mj.null,jS a0.Mi.Mj.data]) 1 Z OM N5 Z Z Z) Z (J9 aw 1 Z (Kb Z (Kp (us := [jI a1.Mi.Mn,jI a1.Mi.Ml,jI a1.Mi.Mt,.bool a1.Mi.Mj.null,jS a1.Mi.Mj.data]) 0 Z OM N5 Z Z Z) Z ?_))));rcases jF h with⟨a,h⟩ | ⟨a,h⟩
  ·rcases jF h with⟨b,h⟩ | ⟨b,h⟩
   ·rcases jF h with⟨c,h⟩ | ⟨c,h⟩
    ·rcases jF h with⟨n,h⟩ | ⟨n,h⟩
     ·rcases jF h with⟨p,h⟩ | ⟨p,h⟩
      ·refine Kb Z (LE (us := [jI a0.Mi.Mn,jI a0.Mi.Ml,jI a0.Mi.Mt,.bool a0.Mi.Mj.null,jS a0.Mi.Mj.data]) (vs := [jI a1.Mi.Mn,jI a1.Mi.Ml,jI a1.Mi.Mt,.bool a1.Mi.Mj.null,jS a1.Mi.Mj.data]) dQ Z Ps Z Z Z Z (fm (pF a) (fm (pF b) (fm (pF c) (fm (pG n) (fm (sU (l:=a0.Mi.Mj.data) (m:=a1.Mi.Mj.data) p) Z)))))) Z (Ki aw 2 Z (TL.q Z (.g Z Z Z) (Kp (us:=wL11 a0.MI s c2) 1 Z Nz Ni Z Z Z) Z (Ki aw 1 Z (TL.q Z (.g Z Z Z) (Kp (us:=wL11 a1.MI y z) 0 Z Nz Ni Z Z Z) Z ?_))));obtain⟨K,D,h⟩:=M1 h;refine Kt Z (.g Z Z Z) (.fn Tryz.call64 Z) (v8 a0.MI _ _ a1.MI _ _ _ D) (fun _ hs=>(La (KL hs (K8 hX)) (KL hs (K8 (KP (KP (KP hX))))))) Z ?_;rcases jF h with⟨d,h⟩ | ⟨d,h⟩
       ·refine Ki aw 2 Z (Kh 17 Z d (Kf aw jD 1 Z 3 Z Z ?_));obtain⟨L,E,h⟩:=M1 h;refine Kf aw jD 0 Z 1 Z Z (Kt Z (.g Z Z Z) (.fn Tryz.call65 Z) (wa a0.MF _ _ a1.MF _ _ _ E) (fun _ hs=>(La (KL hs (K8 (KP hX))) (KL hs (K8 (KP (KP (KP (KP hX)))))))) Z ?_);rcases jF h with⟨f,h⟩ | ⟨f,h⟩
        ·refine Ki aw 2 Z (Kh 24 Z f (Ki aw 1 Z (TL.q Z (.g Z Z Z) (Kp (us := [.bool a0.Mp.Mk.null,jS a0.Mp.Mk.data,jI a0.Mp.Mz,jI a0.Mp.Mh,.slice t a0.Mp.Mc.length x]) 1 Z Oe NC Z Z Z) Z (Ki aw 1 Z (TL.q Z (.g Z Z Z) (Kp (us := [.bool a1.Mp.Mk.null,jS a1.Mp.Mk.data,jI a1.Mp.Mz,jI a1.Mp.Mh,.slice j a1.Mp.Mc.length k]) 0 Z Oe NC Z Z Z) Z ?_)))));obtain⟨M,G,h⟩:=M1 h;refine Kt Z (.g Z Z Z) (.fn Tryz.call66 Z) (vY a0.Mp _ _ a1.Mp _ _ _ G) (fun _ hs=>(La (KL hs (K8 (KP (KP hX)))) (KL hs (KP (KP (KP (KP (KP hX)))))))) Z (Ki aw 2 Z ?_);cases h;exact TL.nil (Kq [0,0,0])
        replace f:=M7 f;refine Ki aw 2 Z (Kh 24 Z f (Ki aw 7 Z ?_));cases h;exact TL.nil (Kq [0,0,0])
       replace d:=M7 d;refine Ki aw 2 Z (Kh 17 Z d (Ki aw 14 Z ?_));cases h;exact TL.nil (Kq [0,0,0])
      refine Kb Z (LE (us := [jI a0.Mi.Mn,jI a0.Mi.Ml,jI a0.Mi.Mt,.bool a0.Mi.Mj.null,jS a0.Mi.Mj.data]) (vs := [jI a1.Mi.Mn,jI a1.Mi.Ml,jI a1.Mi.Mt,.bool a1.Mi.Mj.null,jS a1.Mi.Mj.data]) dQ Z Ps Z Z Z Z (fm (pF a) (fm (pF b) (fm (pF c) (fm (pG n) (mi (sf (l:=a0.Mi.Mj.data) (m:=a1.Mi.Mj.data) p))))))) Z (Ki aw 22 Z ?_);cases h;exact TL.nil (Kq [0,0,0])
     refine Kb Z (LE (us := [jI a0.Mi.Mn,jI a0.Mi.Ml,jI a0.Mi.Mt,.bool a0.Mi.Mj.null,jS a0.Mi.Mj.data]) (vs := [jI a1.Mi.Mn,jI a1.Mi.Ml,jI a1.Mi.Mt,.bool a1.Mi.Mj.null,jS a1.Mi.Mj.data]) dQ Z Ps Z Z Z Z (fm (pF a) (fm (pF b) (fm (pF c) (mi (tS n)))))) Z (Ki aw 22 Z ?_);cases h;exact TL.nil (Kq [0,0,0])
    refine Kb Z (LE (us := [jI a0.Mi.Mn,jI a0.Mi.Ml,jI a0.Mi.Mt,.bool a0.Mi.Mj.null,jS a0.Mi.Mj.data]) (vs := [jI a1.Mi.Mn,jI a1.Mi.Ml,jI a1.Mi.Mt,.bool a1.Mi.Mj.null,jS a1.Mi.Mj.data]) dQ Z Ps Z Z Z Z (fm (pF a) (fm (pF b) (mi (C0 c))))) Z (Ki aw 22 Z ?_);cases h;exact TL.nil (Kq [0,0,0])
   refine Kb Z (LE (us := [jI a0.Mi.Mn,jI a0.Mi.Ml,jI a0.Mi.Mt,.bool a0.Mi.Mj.null,jS a0.Mi.Mj.data]) (vs := [jI a1.Mi.Mn,jI a1.Mi.Ml,jI a1.Mi.Mt,.bool a1.Mi.Mj.null,jS a1.Mi.Mj.data]) dQ Z Ps Z Z Z Z (fm (pF a) (mi (C0 b)))) Z (Ki aw 22 Z ?_);cases h;exact TL.nil (Kq [0,0,0])
  refine Kb Z (LE (us := [jI a0.Mi.Mn,jI a0.Mi.Ml,jI a0.Mi.Mt,.bool a0.Mi.Mj.null,jS a0.Mi.Mj.data]) (vs := [jI a1.Mi.Mn,jI a1.Mi.Ml,jI a1.Mi.Mt,.bool a1.Mi.Mj.null,jS a1.Mi.Mj.data]) dQ Z Ps Z Z Z Z (mi (C0 a))) Z (Ki aw 22 Z ?_);cases h;exact TL.nil (Kq [0,0,0])
 rintro _ _ ⟨rfl,rfl⟩;clear h;have h:=i;clear i;obtain rfl:=M2 h;exact X.seq (T.ret (Km [2] Tryz.results17 (Kd Z)))
def mX (a0:AI):Option (gJ):=if (a0.length:Int)<4 then (some (⟨(⟨(⟨0,0,0,(⟨false,[]⟩:Bl)⟩:dZ),(⟨(⟨false,[]⟩:Bl),0,0,0,[],false⟩:aJ),[],(⟨(⟨false,[]⟩:Bl),0,0,[]⟩:aX)⟩:bE),0,1⟩:gJ)) else (if 4<=a0.length then ((gy (a0.take 4)).bind fun b=>if b<0 then (some (⟨(⟨(⟨0,0,0,(⟨false,[]⟩:Bl)⟩:dZ),(⟨(⟨false,[]⟩:Bl),0,0,0,[],false⟩:aJ),[],(⟨(⟨false,[]⟩:Bl),0,0,[]⟩:aX)⟩:bE),0,4⟩:gJ)) else (if A0 ((a0.length:Int) - 4) then (if b>((a0.length:Int) - 4) then (some (⟨(⟨(⟨0,0,0,(⟨false,[]⟩:Bl)⟩:dZ),(⟨(⟨false,[]⟩:Bl),0,0,0,[],false⟩:aJ),[],(⟨(⟨false,[]⟩:Bl),0,0,[]⟩:aX)⟩:bE),0,1⟩:gJ)) else (if A0 (4+b) then (if 0<=(4+b)/\4<=(4+b).toNat/\(4+b).toNat<=a0.length then ((mU ((a0.drop 4).take (((4+b).toNat) - 4))).bind fun (c,a,g)=>if g=0 then (if c.Mn=0 then (if 0<=a/\a.toNat<=((a0.drop 4).take (((4+b).toNat) - 4)).length then ((li (((a0.drop 4).take (((4+b).toNat) - 4)).drop a.toNat) c.Ml).bind fun (k,d,h)=>if h=0 then (if A0 (a+d) then (if (a+d)<b then (some (⟨(⟨(⟨0,0,0,(⟨false,[]⟩:Bl)⟩:dZ),(⟨(⟨false,[]⟩:Bl),0,0,0,[],false⟩:aJ),[],(⟨(⟨false,[]⟩:Bl),0,0,[]⟩:aX)⟩:bE),0,2⟩:gJ)) else (if A0 (4+b) then (some (⟨(⟨c,(⟨(⟨false,[]⟩:Bl),0,0,0,[],false⟩:aJ),[],k⟩:bE),(4+b),0⟩:gJ)) else none)) else none) else (some (⟨(⟨(⟨0,0,0,(⟨false,[]⟩:Bl)⟩:dZ),(⟨(⟨false,[]⟩:Bl),0,0,0,[],false⟩:aJ),[],(⟨(⟨false,[]⟩:Bl),0,0,[]⟩:aX)⟩:bE),0,h⟩:gJ))) else none) else (if c.Mn=27 then (if 0<=a/\a.toNat<=((a0.drop 4).take (((4+b).toNat) - 4)).length then ((mW (((a0.drop 4).take (((4+b).toNat) - 4)).drop a.toNat) c.Ml).bind fun (l,e,i)=>if i=0 then (if A0 (a+e) then (if (a+e)<b then (some (⟨(⟨(⟨0,0,0,(⟨false,[]⟩:Bl)⟩:dZ),(⟨(⟨false,[]⟩:Bl),0,0,0,[],false⟩:aJ),[],(⟨(⟨false,[]⟩:Bl),0,0,[]⟩:aX)⟩:bE),0,2⟩:gJ)) else (if A0 (4+b) then (some (⟨(⟨c,(⟨(⟨false,[]⟩:Bl),0,0,0,[],false⟩:aJ),l,(⟨(⟨false,[]⟩:Bl),0,0,[]⟩:aX)⟩:bE),(4+b),0⟩:gJ)) else none)) else none) else (some (⟨(⟨(⟨0,0,0,(⟨false,[]⟩:Bl)⟩:dZ),(⟨(⟨false,[]⟩:Bl),0,0,0,[],false⟩:aJ),[],(⟨(⟨false,[]⟩:Bl),0,0,[]⟩:aX)⟩:bE),0,i⟩:gJ))) else none) else (if 0<=a/\a.toNat<=((a0.drop 4).take (((4+b).toNat) - 4)).length then ((je c.Mn c.Ml (((a0.drop 4).take (((4+b).toNat) - 4)).drop a.toNat)).bind fun (m,f,j)=>if j=0 then (if A0 (a+f) then (if (a+f)<b then (some (⟨(⟨(⟨0,0,0,(⟨false,[]⟩:Bl)⟩:dZ),(⟨(⟨false,[]⟩:Bl),0,0,0,[],false⟩:aJ),[],(⟨(⟨false,[]⟩:Bl),0,0,[]⟩:aX)⟩:bE),0,2⟩:gJ)) else (if A0 (4+b) then (some (⟨(⟨c,m,[],(⟨(⟨false,[]⟩:Bl),0,0,[]⟩:aX)⟩:bE),(4+b),0⟩:gJ)) else none)) else none) else (some (⟨(⟨(⟨0,0,0,(⟨false,[]⟩:Bl)⟩:dZ),(⟨(⟨false,[]⟩:Bl),0,0,0,[],false⟩:aJ),[],(⟨(⟨false,[]⟩:Bl),0,0,[]⟩:aX)⟩:bE),0,j⟩:gJ))) else none))) else (some (⟨(⟨(⟨0,0,0,(⟨false,[]⟩:Bl)⟩:dZ),(⟨(⟨false,[]⟩:Bl),0,0,0,[],false⟩:aJ),[],(⟨(⟨false,[]⟩:Bl),0,0,[]⟩:aX)⟩:bE),0,g⟩:gJ))) else none) else none)) else none)) else none)
theorem wd (a0:AI) (r:gJ) (h:mX a0=some r):aB Tryz.prog 22 #[jS a0] .triv (aI) (fun v A' N=> ∃ (O:AT) (P:Nat) (Q:AT) (R:Nat) (S:AT) (U:Nat),v= .agg (wA13 r O Q S P R U)/\A'=aI/\N = [RdR (ar 2 aU) [.slice O r.MP.MI.Mc.length P] r.MP.MI.Mc,RdR (ar 5 bd) [.slice Q r.MP.MF.length R] r.MP.MF,RdR (ar 2 ba) [.slice S r.MP.Mp.Mc.length U] r.MP.Mp.Mc]):=by
 refine aS Tryz.func22 Z Tryz.ntmps22 Z ?_;intro F w hX;unfold mX at h;refine Ka Z (TL.alloc Z .u Tryz.zeroValue67 Z (fun b1=>(Kc (T.seq (Ka Z (J9 aw 1 Z (Kb Z (KT Z Na) Z (J9 aw 1 Z ?_))))))));rcases jF h with⟨c2,h⟩ | ⟨c2,h⟩
 ·refine KE Z c2 (Ka Z ?_);refine Kb Z (KH (cells:=FH) bF Z QK) Z ?_;refine Kj 0 Z (cs':=FH) Z .u Z Z N0 Z Z Z Z Z ?_;obtain rfl:=M2 h;exact Kc (T.ret (Ke (Kl 2 aU (Kl 5 bd (Kl 2 ba (Ks [4,2,1,0] OD (Kz (us:=FH) 3 Z OT N0 Z Z) ⟨_,_,_,_,_,_,Z,Z,Z⟩ QL (.inl Z)))))))
 refine KA Z c2 (Kv Z ?_);obtain⟨c3,h⟩:=aj h;refine J9 aw 1 Z ?_;replace c3:4<=a0.length:=c3;refine Kb Z (KZ (p:=0) (q:=4) (m:=(a0.take 4)) Z Na .none (.some Z Z) (by first | omega | (dsimp only; omega)) (by simp)) Z ?_;obtain⟨d,ae,h⟩:=M1 h;refine Kt Z .u (.fn Tryz.call25 Z) (KM (fun w=>bv (a0.take 4) _ ae w)) (fun _ _=>Ku _ _) Z (Kk aw Z (T.seq (Ka Z (J9 aw 2 Z ?_))));rcases jF h with⟨V,h⟩ | ⟨V,h⟩
 ·refine KE Z V (Ka Z ?_);refine Kb Z (KH (cells:=vA27) bF Z QK) Z ?_;refine Kj 0 Z (cs':=vA27) Z .u Z Z N0 Z Z Z Z Z ?_;obtain rfl:=M2 h;exact Kc (T.ret (Ke (Kl 2 aU (Kl 5 bd (Kl 2 ba (Ks [4,2,1,0] OD (Kz (us:=vA27) 3 Z OT N0 Z Z) ⟨_,_,_,_,_,_,Z,Z,Z⟩ QL (.inl Z)))))))
 refine KA Z V (Kw (T.seq (Ka Z (J9 aw 2 Z (Kb Z (KT Z Na) Z ?_)))));obtain⟨c7,h⟩:=aj h;refine Kb Z (Ex.sub Z Z c7) Z (J9 aw 1 Z ?_);rcases jF h with⟨W,h⟩ | ⟨W,h⟩
 ·refine KE Z W (Ka Z ?_);refine Kb Z (KH (cells:=FH) bF Z QK) Z ?_;refine Kj 0 Z (cs':=FH) Z .u Z Z N0 Z Z Z Z Z ?_;obtain rfl:=M2 h;exact Kc (T.ret (Ke (Kl 2 aU (Kl 5 bd (Kl 2 ba (Ks [4,2,1,0] OD (Kz (us:=FH) 3 Z OT N0 Z Z) ⟨_,_,_,_,_,_,Z,Z,Z⟩ QL (.inl Z)))))))
 refine KA Z W (Kv Z ?_);obtain⟨c9,h⟩:=aj h;refine J9 aw 2 Z (Kb Z (Ex.add Z Z c9) Z ?_);obtain⟨s,h⟩:=aj h;replace s:0<=(4+d)/\4<=(4+d).toNat/\(4+d).toNat<=a0.length:=s;refine Kb Z (KZ (p:=4) (q:=(4+d).toNat) (m:=((a0.drop 4).take (((4+d).toNat) - 4))) Z Na (.some Z Z) (.some Z ((Int.toNat_of_nonneg s.1).symm)) (by first | omega | (dsimp only; omega)) Z) Z ?_;refine KJ aw Z Z ?_;obtain⟨⟨a,f,t⟩,Y,h⟩:=M1 h;refine J9 aw 1 Z (Kt Z .u (.fn Tryz.call72 Z) (v7 ((a0.drop 4).take (((4+d).toNat) - 4)) _ Y) rT Z (J9 aw 4 Z (TL.alloc Z .u Tryz.zeroValue45 Z (fun am=>(Kj 0 Z (cs':= #[jI a.Mn,jI a.Ml,jI a.Mt,.bool a.Mj.null,jS a.Mj.data]) Z .u Z Z N5 Z Z Z Z Z (Kk aw Z (T.seq (Ka Z (J9 aw 2 Z ?_)))))))));rcases jF h with⟨x,h⟩ | ⟨x,h⟩
 ·refine KG Z x (Kv Z (Kb Z (Kp (us := [jI a.Mn,jI a.Ml,jI a.Mt,.bool a.Mj.null,jS a.Mj.data]) 0 Z OM N5 Z Z Z) Z ?_));refine Kb Z (KH (cells:= #[jI a.Mn,jI a.Ml,jI a.Mt,.bool a.Mj.null,jS a.Mj.data,.bool false,A7,jI 0,jI 0,jI 0,A5,.bool false,A5,.bool false,A7,jI 0,jI 0,A5]) qD Z QK) Z ?_;refine TL.alloc Z .u Tryz.zeroValue53 Z (fun an=>(Kj 0 Z (cs':= #[jI a.Mn,jI a.Ml,jI a.Mt,.bool a.Mj.null,jS a.Mj.data,.bool false,A7,jI 0,jI 0,jI 0,A5,.bool false,A5,.bool false,A7,jI 0,jI 0,A5]) Z .u Z Z NS Z Z Z Z Z (Ky Z (Kk aw Z (T.seq (Ka Z (Lw aw jD 1 Z Z Z (T.block (Ka Z (J9 aw 2 Z ?_))))))))));rcases jF h with⟨y,h⟩ | ⟨y,h⟩
  ·refine KE Z y ?_;refine KQ (.q 0 (.q 1 (.q 2 (.q 3 (.q 4 (.e 5 (.q 6 (.q 7 (.q 8 (.q 9 (.q 10 (.e 11 (.q 12 (.q 13 .nil)))))))))))))) [1,1,1] Z ky (NoP.blk (NoP.seq bi)) QK ?_;obtain⟨z,h⟩:=aj h;refine TD.run aw [0,1] Z Z ?_;replace z:0<=f/\f.toNat<=((a0.drop 4).take (((4+d).toNat) - 4)).length:=z;refine Kg Z (KZ (p:=f.toNat) (q:=((a0.drop 4).take (((4+d).toNat) - 4)).length) (m:=(((a0.drop 4).take (((4+d).toNat) - 4)).drop f.toNat)) Z Na (.some Z ((Int.toNat_of_nonneg z.1).symm)) .none (by first | omega | (dsimp only; omega)) (dy _ _)) Z ?_;refine TD.run aw [3] Z Z (Kg Z (KI 0 Z Nc Z Z) Z ?_);obtain⟨⟨c,ao,A⟩,aa,h⟩:=M1 h;refine L4 Z .u (.fn Tryz.call73 Z) (v6 (((a0.drop 4).take (((4+d).toNat) - 4)).drop f.toNat) a.Ml _ aa) rT Z [2,2,2] ?_ ?_
   ·rintro _ _ _ ⟨g,i,rfl,rfl,rfl⟩;rfl
   rintro _ _ _ ⟨g,i,rfl,rfl,rfl⟩;refine Lg [0,0,0,0,0] Z (TD.run aw [6,7,8,9,10] Z Z (K9 1 Z (cs':= #[jI a.Mn,jI a.Ml,jI a.Mt,.bool a.Mj.null,jS a.Mj.data,.bool false,A7,jI 0,jI 0,jI 0,A5,.bool false,A5,.bool c.Mk.null,jS c.Mk.data,jI c.Mz,jI c.Mh,.slice g c.Mc.length i]) Z .u Z Z NC Z Z Z Z Z [2,2,2] (Z) (TD.run aw [12,13] Z Z (TD.nil (KD (X.seq (T.seq (Ka Z (J9 aw 2 Z ?_)))))))));rcases jF h with⟨B,h⟩ | ⟨B,h⟩
   ·refine KG Z B (Kw (T.seq (Ka Z ?_)));obtain⟨af,h⟩:=aj h;refine J9 aw 2 Z (Kb Z (Ex.add Z Z af) Z (J9 aw 2 Z ?_));rcases jF h with⟨C,h⟩ | ⟨C,h⟩
    ·refine KE Z C (Ka Z ?_);refine Kb Z (KH (cells:=Ai) bF Z QK) Z ?_;refine Kj 3 Z (cs':=Ai) Z .u Z Z N0 Z Z Z Z Z ?_;obtain rfl:=M2 h;exact Kc (T.ret (Ke (Kl 2 aU (Kl 5 bd (Kl 2 ba (Ks [7,2,1,0] OD (Kz (us:=Ai) 6 Z OT N0 Z Z) ⟨_,_,_,_,_,_,Z,Z,Z⟩ QL (.inl Z)))))))
    refine KA Z C (Kv Z (Kb Z (Kp (us := [jI a.Mn,jI a.Ml,jI a.Mt,.bool a.Mj.null,jS a.Mj.data,.bool false,A7,jI 0,jI 0,jI 0,A5,.bool false,A5,.bool c.Mk.null,jS c.Mk.data,jI c.Mz,jI c.Mh,.slice g c.Mc.length i]) 1 Z Oy NS Z Z Z) Z ?_));obtain⟨ag,h⟩:=aj h;refine J9 aw 1 Z (Kb Z (Ex.add Z Z ag) Z ?_);refine Kb Z (KH (cells:= #[jI a.Mn,jI a.Ml,jI a.Mt,.bool a.Mj.null,jS a.Mj.data,.bool false,A7,jI 0,jI 0,jI 0,A5,.bool false,A5,.bool c.Mk.null,jS c.Mk.data,jI c.Mz,jI c.Mh,.slice g c.Mc.length i,jI (4+d),jI 0]) bF Z QK) Z ?_;refine Kj 3 Z (cs':= #[jI a.Mn,jI a.Ml,jI a.Mt,.bool a.Mj.null,jS a.Mj.data,.bool false,A7,jI 0,jI 0,jI 0,A5,.bool false,A5,.bool c.Mk.null,jS c.Mk.data,jI c.Mz,jI c.Mh,.slice g c.Mc.length i,jI (4+d),jI 0]) Z .u Z Z N0 Z Z Z Z Z ?_;obtain rfl:=M2 h;exact Kc (T.ret (Kl 2 aU (Kl 5 bd (Ks [6,1,0,0] OD (Kz (us:= #[jI a.Mn,jI a.Ml,jI a.Mt,.bool a.Mj.null,jS a.Mj.data,.bool false,A7,jI 0,jI 0,jI 0,A5,.bool false,A5,.bool c.Mk.null,jS c.Mk.data,jI c.Mz,jI c.Mh,.slice g c.Mc.length i,jI (4+d),jI 0]) 5 Z OT N0 Z Z) ⟨_,_,_,_,_,_,Z,Z,Z⟩ QL (.inl Z)))))
   refine KF Z B (Ka Z (J9 aw 1 Z ?_));refine Kb Z (KH (cells:=vG A) bF Z QK) Z ?_;refine Kj 3 Z (cs':=vG A) Z .u Z Z N0 Z Z Z Z Z ?_;obtain rfl:=M2 h;exact Kc (T.ret (Ke (Kl 2 aU (Kl 5 bd (Kl 2 ba (Ks [7,2,1,0] OD (Kz (us:=vG A) 6 Z OT N0 Z Z) ⟨_,_,_,_,_,_,Z,Z,Z⟩ QL (.inl Z)))))))
  refine KA Z y (Ka Z (J9 aw 2 Z ?_));rcases jF h with⟨D,h⟩ | ⟨D,h⟩
  ·refine KE Z D ?_;refine KQ (.q 0 (.q 1 (.q 2 (.q 3 (.q 4 (.e 5 (.q 6 (.q 7 (.q 8 (.q 9 (.q 10 (.e 11 (.q 12 (.q 13 .nil)))))))))))))) [1,1,1] Z ky (NoP.blk (NoP.seq bi)) QK ?_;obtain⟨E,h⟩:=aj h;refine TD.run aw [0,1] Z Z ?_;replace E:0<=f/\f.toNat<=((a0.drop 4).take (((4+d).toNat) - 4)).length:=E;refine Kg Z (KZ (p:=f.toNat) (q:=((a0.drop 4).take (((4+d).toNat) - 4)).length) (m:=(((a0.drop 4).take (((4+d).toNat) - 4)).drop f.toNat)) Z Na (.some Z ((Int.toNat_of_nonneg E.1).symm)) .none (by first | omega | (dsimp only; omega)) (dy _ _)) Z ?_;refine TD.run aw [3] Z Z (Kg Z (KI 0 Z Nc Z Z) Z ?_);obtain⟨⟨o,ap,G⟩,ab,h⟩:=M1 h;refine L4 Z .u (.fn Tryz.call74 Z) (wb (((a0.drop 4).take (((4+d).toNat) - 4)).drop f.toNat) a.Ml _ ab) rT Z [2,2,2] ?_ ?_
   ·rintro _ _ _ ⟨j,k,rfl,rfl,rfl⟩;rfl
   rintro _ _ _ ⟨j,k,rfl,rfl,rfl⟩;refine Lg [0,0,0,0,0] Z (TD.run aw [6,7,8,9,10] Z Z (K9 1 Z (cs':= #[jI a.Mn,jI a.Ml,jI a.Mt,.bool a.Mj.null,jS a.Mj.data,.bool false,A7,jI 0,jI 0,jI 0,A5,.bool false,.slice j o.length k,.bool false,A7,jI 0,jI 0,A5]) Z .u Z Z Tryz.sizeOf48 Z Z Z Z Z [2,2,2] (Z) (TD.run aw [12,13] Z Z (TD.nil (KD (X.seq (T.seq (Ka Z (J9 aw 2 Z ?_)))))))));rcases jF h with⟨H,h⟩ | ⟨H,h⟩
   ·refine KG Z H (Kw (T.seq (Ka Z ?_)));obtain⟨ah,h⟩:=aj h;refine J9 aw 2 Z (Kb Z (Ex.add Z Z ah) Z (J9 aw 2 Z ?_));rcases jF h with⟨I,h⟩ | ⟨I,h⟩
    ·refine KE Z I (Ka Z ?_);refine Kb Z (KH (cells:=Ai) bF Z QK) Z ?_;refine Kj 3 Z (cs':=Ai) Z .u Z Z N0 Z Z Z Z Z ?_;obtain rfl:=M2 h;exact Kc (T.ret (Ke (Kl 2 aU (Kl 5 bd (Kl 2 ba (Ks [7,2,1,0] OD (Kz (us:=Ai) 6 Z OT N0 Z Z) ⟨_,_,_,_,_,_,Z,Z,Z⟩ QL (.inl Z)))))))
    refine KA Z I (Kv Z (Kb Z (Kp (us := [jI a.Mn,jI a.Ml,jI a.Mt,.bool a.Mj.null,jS a.Mj.data,.bool false,A7,jI 0,jI 0,jI 0,A5,.bool false,.slice j o.length k,.bool false,A7,jI 0,jI 0,A5]) 1 Z Oy NS Z Z Z) Z ?_));obtain⟨ai,h⟩:=aj h;refine J9 aw 1 Z (Kb Z (Ex.add Z Z ai) Z ?_);refine Kb Z (KH (cells:= #[jI a.Mn,jI a.Ml,jI a.Mt,.bool a.Mj.null,jS a.Mj.data,.bool false,A7,jI 0,jI 0,jI 0,A5,.bool false,.slice j o.length k,.bool false,A7,jI 0,jI 0,A5,jI (4+d),jI 0]) bF Z QK) Z ?_;refine Kj 3 Z (cs':= #[jI a.Mn,jI a.Ml,jI a.Mt,.bool a.Mj.null,jS a.Mj.data,.bool false,A7,jI 0,jI 0,jI 0,A5,.bool false,.slice j o.length k,.bool false,A7,jI 0,jI 0,A5,jI (4+d),jI 0]) Z .u Z Z N0 Z Z Z Z Z ?_;obtain rfl:=M2 h;exact Kc (T.ret (Kl 2 aU (Kl 2 ba (Ks [6,1,1,0] OD (Kz (us:= #[jI a.Mn,jI a.Ml,jI a.Mt,.bool a.Mj.null,jS a.Mj.data,.bool false,A7,jI 0,jI 0,jI 0,A5,.bool false,.slice j o.length k,.bool false,A7,jI 0,jI 0,A5,jI (4+d),jI 0]) 5 Z OT N0 Z Z) ⟨_,_,_,_,_,_,Z,Z,Z⟩ QL (.inl Z)))))
   refine KF Z H (Ka Z (J9 aw 1 Z ?_));refine Kb Z (KH (cells:=vG G) bF Z QK) Z ?_;refine Kj 3 Z (cs':=vG G) Z .u Z Z N0 Z Z Z Z Z ?_;obtain rfl:=M2 h;exact Kc (T.ret (Ke (Kl 2 aU (Kl 5 bd (Kl 2 ba (Ks [7,2,1,0] OD (Kz (us:=vG G) 6 Z OT N0 Z Z) ⟨_,_,_,_,_,_,Z,Z,Z⟩ QL (.inl Z)))))))
  refine KA Z D ?_;refine KQ (.q 0 (.q 1 (.q 2 (.q 3 (.q 4 (.q 5 (.q 6 (.e 7 (.q 8 (.q 9 (.q 10 (.q 11 (.q 12 (.e 13 (.q 14 (.q 15 .nil)))))))))))))))) [1,1,1] Z ky (NoP.blk (NoP.seq bi)) QK ?_;refine TD.run aw [0] Z Z (Kg Z (KI 0 Z Nc Z Z) Z (TD.run aw [2] Z Z (Kg Z (KI 0 Z Nc Z Z) Z ?_)));obtain⟨J,h⟩:=aj h;refine TD.run aw [4,5] Z Z ?_;replace J:0<=f/\f.toNat<=((a0.drop 4).take (((4+d).toNat) - 4)).length:=J;refine Kg Z (KZ (p:=f.toNat) (q:=((a0.drop 4).take (((4+d).toNat) - 4)).length) (m:=(((a0.drop 4).take (((4+d).toNat) - 4)).drop f.toNat)) Z Na (.some Z ((Int.toNat_of_nonneg J.1).symm)) .none (by first | omega | (dsimp only; omega)) (dy _ _)) Z ?_;obtain⟨⟨b,aq,K⟩,ad,h⟩:=M1 h;refine L4 Z .u (.fn Tryz.call75 Z) (v9 a.Mn a.Ml (((a0.drop 4).take (((4+d).toNat) - 4)).drop f.toNat) _ ad) rT Z [2,2,2] ?_ ?_
  ·rintro _ _ _ ⟨l,n,rfl,rfl,rfl⟩;rfl
  rintro _ _ _ ⟨l,n,rfl,rfl,rfl⟩;refine Lg [0,0,0,0,0] Z (TD.run aw [8,9,10,11,12] Z Z (K9 1 Z (cs':= #[jI a.Mn,jI a.Ml,jI a.Mt,.bool a.Mj.null,jS a.Mj.data,.bool b.Mk.null,jS b.Mk.data,jI b.Mh,jI b.Md,jI b.Mf,.slice l b.Mc.length n,.bool b.Mx,A5,.bool false,A7,jI 0,jI 0,A5]) Z .u Z Z Ni Z Z Z Z Z [2,2,2] (Z) (TD.run aw [14,15] Z Z (TD.nil (KD (X.seq (T.seq (Ka Z (J9 aw 2 Z ?_)))))))));rcases jF h with⟨L,h⟩ | ⟨L,h⟩
  ·refine KG Z L (Kw (T.seq (Ka Z ?_)));obtain⟨ak,h⟩:=aj h;refine J9 aw 2 Z (Kb Z (Ex.add Z Z ak) Z (J9 aw 2 Z ?_));rcases jF h with⟨M,h⟩ | ⟨M,h⟩
   ·refine KE Z M (Ka Z ?_);refine Kb Z (KH (cells:=Ai) bF Z QK) Z ?_;refine Kj 3 Z (cs':=Ai) Z .u Z Z N0 Z Z Z Z Z ?_;obtain rfl:=M2 h;exact Kc (T.ret (Ke (Kl 2 aU (Kl 5 bd (Kl 2 ba (Ks [7,2,1,0] OD (Kz (us:=Ai) 6 Z OT N0 Z Z) ⟨_,_,_,_,_,_,Z,Z,Z⟩ QL (.inl Z)))))))
   refine KA Z M (Kv Z (Kb Z (Kp (us := [jI a.Mn,jI a.Ml,jI a.Mt,.bool a.Mj.null,jS a.Mj.data,.bool b.Mk.null,jS b.Mk.data,jI b.Mh,jI b.Md,jI b.Mf,.slice l b.Mc.length n,.bool b.Mx,A5,.bool false,A7,jI 0,jI 0,A5]) 1 Z Oy NS Z Z Z) Z ?_));obtain⟨al,h⟩:=aj h;refine J9 aw 1 Z (Kb Z (Ex.add Z Z al) Z ?_);refine Kb Z (KH (cells:= #[jI a.Mn,jI a.Ml,jI a.Mt,.bool a.Mj.null,jS a.Mj.data,.bool b.Mk.null,jS b.Mk.data,jI b.Mh,jI b.Md,jI b.Mf,.slice l b.Mc.length n,.bool b.Mx,A5,.bool false,A7,jI 0,jI 0,A5,jI (4+d),jI 0]) bF Z QK) Z ?_;refine Kj 3 Z (cs':= #[jI a.Mn,jI a.Ml,jI a.Mt,.bool a.Mj.null,jS a.Mj.data,.bool b.Mk.null,jS b.Mk.data,jI b.Mh,jI b.Md,jI b.Mf,.slice l b.Mc.length n,.bool b.Mx,A5,.bool false,A7,jI 0,jI 0,A5,jI (4+d),jI 0]) Z .u Z Z N0 Z Z Z Z Z ?_;obtain rfl:=M2 h;exact Kc (T.ret (Kl 5 bd (Kl 2 ba (Ks [6,2,1,0] OD (Kz (us:= #[jI a.Mn,jI a.Ml,jI a.Mt,.bool a.Mj.null,jS a.Mj.data,.bool b.Mk.null,jS b.Mk.data,jI b.Mh,jI b.Md,jI b.Mf,.slice l b.Mc.length n,.bool b.Mx,A5,.bool false,A7,jI 0,jI 0,A5,jI (4+d),jI 0]) 5 Z OT N0 Z Z) ⟨_,_,_,_,_,_,Z,Z,Z⟩ QL (.inl Z)))))
  refine KF Z L (Ka Z (J9 aw 1 Z ?_));refine Kb Z (KH (cells:=vG K) bF Z QK) Z ?_;refine Kj 3 Z (cs':=vG K) Z .u Z Z N0 Z Z Z Z Z ?_;obtain rfl:=M2 h;exact Kc (T.ret (Ke (Kl 2 aU (Kl 5 bd (Kl 2 ba (Ks [7,2,1,0] OD (Kz (us:=vG K) 6 Z OT N0 Z Z) ⟨_,_,_,_,_,_,Z,Z,Z⟩ QL (.inl Z)))))))
 refine KF Z x (Ka Z (J9 aw 1 Z ?_));refine Kb Z (KH (cells:=vG t) bF Z QK) Z ?_;refine Kj 1 Z (cs':=vG t) Z .u Z Z N0 Z Z Z Z Z ?_;obtain rfl:=M2 h;exact Kc (T.ret (Ke (Kl 2 aU (Kl 5 bd (Kl 2 ba (Ks [5,2,1,0] OD (Kz (us:=vG t) 4 Z OT N0 Z Z) ⟨_,_,_,_,_,_,Z,Z,Z⟩ QL (.inl Z)))))))
def GR:eY := [(103,0,0),(103,1,1),(103,2,2),(103,3,3),(103,4,4),(103,5,5),(103,6,6),(171,0,0),(171,1,1)]
theorem an:(GR).OK Tryz.prog:=⟨FOK.mk ON rfl M9 rfl,FOK.mk ON rfl M9 rfl,FOK.mk ON rfl M9 rfl,FOK.mk ON rfl M9 rfl,FOK.mk ON rfl O4 rfl,FOK.mk ON rfl M9 rfl,FOK.mk ON rfl M9 rfl,FOK.mk OL rfl NG rfl,FOK.mk OL rfl O5 rfl,trivial⟩
def GS:List Nat := [3,9,28,74]
theorem bL:NOK Tryz.prog GS:=⟨Nc,NQ,Pe,Ou,trivial⟩
theorem rf:Tryz.prog.follows .mixedOrders=true:=by kernel_rfl
theorem yC:BOK Tryz.prog 171 #[A7,A5] [(0,1),(1,1)]:=BOK.mk Tryz.zeroValue171 OL (by intro w; simp)
theorem xd:SOK Tryz.prog 28 171 1 2 #[A7,A5]:=SOK.mk Nr NJ Tryz.zeroValue171 QJ QK
theorem mY:SOK Tryz.prog 74 3 1 1 #[.int .i64 0]:=SOK.mk Nj M9 Tryz.zeroValue3 QJ QK
theorem xe:SOK Tryz.prog 78 9 1 1 #[A7]:=SOK.mk Oz NG Tryz.zeroValue9 QJ QK
theorem qE:(Tryz.prog.info? 3).map (fun i=>(i.zero,i.size,i.bytes))=some (some (.int .i64 0),1,8):=by kernel_rfl
theorem BI:(Tryz.prog.info? 9).map (fun i=>(i.zero,i.size,i.bytes))=some (some A7,1,16):=by kernel_rfl
theorem yD:(Tryz.prog.info? 171).map (fun i=>(i.zero,i.size,i.bytes))=some (some (.agg #[A7,A5]),2,40):=by kernel_rfl
def fa:List Int->(AI×Int)->Option (AI×Int)
 | [],a=>some a
 | c::xs,a=>(ed a c 4).bind fun b=>fa xs b
def fb:List Top->(AI×Int)->Option (AI×Int)
 | [],a=>some a
 | b::xs,a=>(oh a b.Mm).bind fun c=>(ed c (b.Me.length:Int) 4).bind fun d=>(fa b.Me d).bind fun e=>fb xs e
def iO (st:AI×Int) (a1:List Top):Option (AI×Int):=(ed st (a1.length:Int) 4).bind fun b=>(fb a1 b).bind fun a=>some a
theorem kz (g:Nat) (st:AI×Int) (a1:List Top) (P:AT) (c2:Nat) (r:AI×Int) (h:iO st a1=some r):aB Tryz.prog 91 #[jP g,.slice P a1.length c2] (RX.of (ar 2 aU) [.slice P a1.length c2] a1) (bz g st) (fun v A' N=>v= .tuple #[]/\A'=bz g r/\N = []):=by
 refine aS Tryz.func91 Z Tryz.ntmps91 Z ?_;intro F w hX;unfold iO at h;refine Ka Z (J9 an 2 Z (Kb Z (KC Z Nr) Z ?_));obtain⟨af,ag,h⟩:=M1 h;refine Kn 0 Z Z .u (.fn Tryz.call51 Z) (bu g st (a1.length:Int) 4 _ ag) sT Z Z (Ky Z (J9 an 1 Z (Kb Z (KC Z Nr) Z (Kk an Z (T.block ?_)))));obtain⟨E7,M,ah⟩:=M1 h;have ad:=Lb hX;refine K4 (fun m e Rs=> ∃ (d:Nat) (p:AI×Int),d+m=a1.length/\e = [(0,jP g),(12,.slice P a1.length c2),(13,jI (a1.length:Int)),(14,jI (d:Int))]/\Rs = [bz g p]/\fb (a1.drop d) p=some E7) (a1.length) [0] ⟨0,af,by simp,Z,Z,by rw[List.drop_zero]; exact M⟩ QL QL ?_;clear M h;rintro q _ _ ⟨d,p,ap,rfl,rfl,h⟩
 cases q with
 | zero =>
  rw[List.drop_of_length_le QI,fb] at h;have s: ¬ ((d:Int)<(a1.length:Int)):=by omega
  refine Ka Z (Kk an Z (T.seq (KN Z (M5 s) ?_)));obtain rfl:=M2 h;obtain rfl:=M2 ah;exact T.exit (Kx (Kx (K1 (Lm [0] Tryz.results91 ⟨Z,Z,Z⟩ QL (.inr Z)))))
 | succ q =>
  obtain⟨a,f⟩: ∃ x,a1[d]? = some x:=⟨_,List.getElem?_eq_getElem QI⟩;rw[bN f,fb] at h;have t:(d:Int)<(a1.length:Int):=by omega
  refine Ka Z (Kk an Z (T.seq (Kr Z (M4 t) ?_)));obtain⟨Q,R,rfl,ak,al,E,G,n⟩:=KU QJ hX f;obtain⟨S,n,H⟩:=n;obtain⟨j,l,rfl,I⟩:=n;have y:(RX.of (ar 1 cO) [.slice j a.Me.length l] a.Me).reads w F:=⟨S,I,H⟩;refine Kw (T.seq (T.block (Ka Z ?_)));refine Kb Z (KB (k:=d) Z Z Z Nr NJ (M6 f).1) Z ?_;refine Kb Z (Lf (us := [jS a.Mm,.slice j a.Me.length l]) 0 Z PT NJ G E Z Z Z) Z (TL.alloc Z .u Tryz.zeroValue171 Z (fun ai=>(Kj 0 Z (cs':= #[jS a.Mm,.slice j a.Me.length l]) Z .u Z Z NJ Z Z Z Z Z (Ky Z ?_))));obtain⟨U,V,h⟩:=M1 h;refine Kf an bL 0 Z 3 Z Z (Kn 1 Z Z .u (.fn Tryz.call88 Z) (ly g p a.Mm _ V) sT Z Z (Ky Z (Kf an bL 0 Z 3 Z Z (Kb Z (KC Z Nj) Z ?_))));obtain⟨W,Y,h⟩:=M1 h;refine Kn 1 Z Z .u (.fn Tryz.call51 Z) (bu g U (a.Me.length:Int) 4 _ Y) sT Z Z (Ky Z (Kf an bL 0 Z 2 Z Z (Kb Z (KC Z Nj) Z (Kk an Z (T.block ?_)))));obtain⟨aj,z,A⟩:=M1 h;have ae:=Lb y;refine K4 (fun m e Rs=> ∃ (b:Nat) (c:AI×Int),b+m=a.Me.length/\e = [(0,jP g),(12,.slice (some ⟨Q,R,none⟩) a1.length c2),(13,jI (a1.length:Int)),(14,jI (d:Int)),(28,.slice j a.Me.length l),(29,jI (a.Me.length:Int)),(30,jI (b:Int))]/\Rs = [aR ai 171 #[jS a.Mm,.slice j a.Me.length l],bz g c]/\fa (a.Me.drop b) c=some aj) (a.Me.length) [0,0] ⟨0,W,by simp,Z,Z,by rw[List.drop_zero]; exact z⟩ QL QL ?_;clear z h;rintro B _ _ ⟨b,c,aq,rfl,rfl,h⟩
  cases B with
  | zero =>
   rw[List.drop_of_length_le QI,fa] at h;have C: ¬ ((b:Int)<(a.Me.length:Int)):=by omega
   refine Ka Z (Kk an Z (T.seq (KN Z (M5 C) ?_)));obtain rfl:=M2 h;replace h:=A;clear A;exact T.exit (Kx (Kx (K1 (KD (X.seq (T.region Z (Kb Z (Ex.add Z Z QI) Z (J9 an 1 Z (TL.nil (X.back (m':=q) [1] QI ⟨d+1,c,by omega,Z,Z,h⟩ QL QL))))))))))
  | succ B =>
   obtain⟨O,i⟩: ∃ x,a.Me[b]? = some x:=⟨_,List.getElem?_eq_getElem QI⟩;rw[bN i,fa] at h;have D:(b:Int)<(a.Me.length:Int):=by omega
   refine Ka Z (Kk an Z (T.seq (Kr Z (M4 D) ?_)));obtain⟨au,av,rfl,J,am,K,L,o⟩:=KU QJ y i;obtain⟨aw,o,ao⟩:=o;obtain rfl:J = [jI O]:=o;refine Kw (T.seq (T.block (Ka Z ?_)));refine Kb Z (KB (k:=b) Z Z Z Nj M9 (M6 i).1) Z ?_;refine Kb Z (K5 0 Z Nc L K Z Z) Z (Kk an Z (T.region Z ?_));obtain⟨aa,ab,h⟩:=M1 h;exact J9 an 2 Z (Kn 1 Z Z .u (.fn Tryz.call51 Z) (bu g c O 4 _ ab) sT Z Z (TL.nil (KD (X.seq (T.region Z (Kb Z (Ex.add Z Z QI) Z (J9 an 1 Z (TL.nil (X.back (m':=B) [0,0] QI ⟨b+1,aa,by omega,Z,Z,h⟩ QL QL)))))))))
def my (a0:Int):Option (Bool):=if a0=0 then some true else (if a0>=4 then some true else some false)
theorem ta (a0:Int) (r:Bool) (h:my a0=some r):aB Tryz.prog 145 #[jI a0] .triv (aI) (fun v A' N=>v= .bool r/\A'=aI/\N = []):=by
 refine aS Tryz.func145 Z Tryz.ntmps145 Z ?_;intro F w hX;unfold my at h;refine Ka Z (KJ an Z Z ?_);rcases jF h with⟨a,h⟩ | ⟨a,h⟩
 ·refine J9 an 3 Z (Kh 5 Z (M4 a) (Ki an 4 Z ?_));obtain rfl:=M2 h;exact Kc (T.ret (Km [0] Tryz.results145 (Kd Z)))
 refine J9 an 3 Z (Kh 5 Z (M5 a) (Ki an 4 Z ?_));rcases jF h with⟨c2,h⟩ | ⟨c2,h⟩
 ·obtain rfl:=M2 h;exact Kc (T.ret (Ks [0] Tryz.results145 (Kd (v:= .bool true) (congrArg (fun b=>some (Value.bool b)) (M4 c2))) ⟨Z,Z,Z⟩ QL (.inl Z)))
 obtain rfl:=M2 h;exact Kc (T.ret (Ks [0] Tryz.results145 (Kd (v:= .bool false) (congrArg (fun b=>some (Value.bool b)) (M5 c2))) ⟨Z,Z,Z⟩ QL (.inl Z)))
def cT (a0:List Int):Nat->Bool->Int->Option (Lp Bool (Bool×Int))
 | 0,_,_=>none
 | e+1,b,a=>if a<(a0.length:Int) then (if A0 (a - 1) then (if 0<=(a - 1) then ((a0[(a - 1).toNat]?).bind fun c=>if 0<=a then ((a0[a.toNat]?).bind fun d=>if c>=d then some (Lp.ret false) else (if A0 (a+1) then (cT a0 e b (a+1)) else none)) else none) else none) else none) else (some (Lp.go (b,a)))
def gb (a0:List Int):Option (Bool):=(cT a0 ((((a0.length:Int)) - (1)).toNat+1) false 1).bind fun e=>match e with | .ret r=>some r | .go (a,b)=>some true
theorem pp (a0:List Int) (y:AT) (c2:Nat) (r:Bool) (h:gb a0=some r):aB Tryz.prog 218 #[.slice y a0.length c2] (RX.of (ar 1 cO) [.slice y a0.length c2] a0) (aI) (fun v A' N=>v= .bool r/\A'=aI/\N = []):=by
 refine aS Tryz.func218 Z Tryz.ntmps218 Z ?_;intro F w hX;unfold gb at h;refine Ka Z (Kk an Z (T.seq (Ka Z (Kk an Z (T.block ?_)))));obtain⟨L,x,d⟩:=M1 h;refine K4 (fun m e Rs=> ∃ (l:Bool) (c:Int),e = [(0,.slice y a0.length c2),(2,.bool l),(3,jI c)]/\Rs = [aI]/\cT a0 m l c=some L) ((((a0.length:Int)) - (1)).toNat+1) [0] ⟨false,1,Z,Z,by exact x⟩ QL QL ?_;clear x h;rintro z _ _ ⟨l,c,rfl,rfl,h⟩
 cases z with
 | zero =>
  rw[cT] at h;cases h
 | succ z =>
  rw[cT] at h;refine T.seq (Ka Z (J9 an 2 Z (Kb Z (KC Z Nj) Z (J9 an 1 Z ?_))));rcases jF h with⟨f,h⟩ | ⟨f,h⟩
  ·refine KE Z f ?_;refine Kw (T.seq (T.block (T.seq (KQ (.q 0 (.q 1 (.q 2 (.q 3 (.q 4 (.q 5 (.q 6 (.q 7 (.q 8 (.q 9 .nil)))))))))) [0] Z rf (NoP.seq (NoP.blk (NoP.seq (NoP.seq (NoP.blk (NoP.seq bi)))))) QK ?_))));obtain⟨A,h⟩:=aj h;refine TD.run an [0,1] Z Z (Kg Z (Ex.sub Z Z A) Z ?_);obtain⟨B,h⟩:=aj h;obtain⟨C,g,h⟩:=M1 h;obtain⟨M,O,rfl,n,H,o,p,a⟩:=KU QJ hX g;obtain⟨P,a,I⟩:=a;obtain rfl:n = [jI C]:=a;refine Kg Z (KB (k:=(c - 1).toNat) Z Z ((Int.toNat_of_nonneg B).symm) Nj M9 (M6 g).1) Z ?_;refine Kg Z (K5 0 Z Nc p o Z Z) Z ?_;obtain⟨D,h⟩:=aj h;obtain⟨E,i,h⟩:=M1 h;obtain⟨s,J,t,u,b⟩:=LM QJ hX i;obtain⟨Q,b,K⟩:=b;obtain rfl:s = [jI E]:=b;refine TD.run an [5,6] Z Z ?_;refine Kg Z (KB (k:=c.toNat) Z Z ((Int.toNat_of_nonneg D).symm) Nj M9 (M6 i).1) Z ?_;refine Kg Z (K5 0 Z Nc u t Z Z) Z (TD.run an [9] Z Z ?_);rcases jF h with⟨j,h⟩ | ⟨j,h⟩
   ·refine K6 (Lx Z j (Ka Z (J9 an 1 Z ?_)));obtain rfl:=M2 h;obtain rfl:=M2 d;exact Kc (T.ret (Ko (Ke (Ke (Ko (Ke (Km [0] Tryz.results218 (Kd Z))))))))
   refine K6 (LC Z j (T.skip (KD (X.seq (T.region Z ?_)))));obtain⟨G,h⟩:=aj h;exact J9 an 1 Z (Kb Z (Ex.add Z Z G) Z (J9 an 1 Z (TL.nil (X.back (m':=z) [0] QI ⟨l,(c+1),Z,Z,h⟩ QL QL))))
  refine KA Z f ?_;obtain rfl:=M2 h;replace h:=d;clear d;refine T.exit (Kx (Kx (K1 (X.seq (Ka Z (J9 an 1 Z ?_))))));obtain rfl:=M2 h;exact Kc (T.ret (Km [0] Tryz.results218 (Kd Z)))
def eO:List Int->Bool->Option (Lp Bool Bool)
 | [],a=>some (Lp.go a)
 | b::xs,a=>if b<0 then some (Lp.ret false) else ((jy b 4).bind fun c=>if c=true then (eO xs a) else some (Lp.ret false))
def jN (a0:List Int):Option (Bool):=(eO a0 false).bind fun e=>match e with | .ret r=>some r | .go b=>(if (a0.length:Int)>0 then ((gb a0).bind fun a=>some a) else some false)
theorem sj (a0:List Int) (o:AT) (c2:Nat) (r:Bool) (h:jN a0=some r):aB Tryz.prog 189 #[.slice o a0.length c2] (RX.of (ar 1 cO) [.slice o a0.length c2] a0) (aI) (fun v A' N=>v= .bool r/\A'=aI/\N = []):=by
 refine aS Tryz.func189 Z Tryz.ntmps189 Z ?_;intro F w hX;unfold jN at h;refine Ka Z (Kk an Z (T.seq (Ka Z (J9 an 1 Z (Kb Z (KC Z Nj) Z (Kk an Z (T.block ?_)))))));obtain⟨G,u,f⟩:=M1 h;have B:=Lb hX;refine K4 (fun m e Rs=> ∃ (p:Bool) (a:Nat),a+m=a0.length/\e = [(0,.slice o a0.length c2),(2,.bool p),(5,.slice o a0.length c2),(6,jI (a0.length:Int)),(7,jI (a:Int))]/\Rs = [aI]/\eO (a0.drop a) p=some G) (a0.length) [0] ⟨false,0,by simp,Z,Z,by rw[List.drop_zero]; exact u⟩ QL QL ?_;clear u h;rintro y _ _ ⟨p,a,H,rfl,rfl,h⟩
 cases y with
 | zero =>
  rw[List.drop_of_length_le QI,eO] at h;have i: ¬ ((a:Int)<(a0.length:Int)):=by omega
  refine Ka Z (Kk an Z (T.seq (KN Z (M5 i) ?_)));obtain rfl:=M2 h;replace h:=f;clear f;refine T.exit (Kx (Kx (K1 (X.seq (Ka Z (J9 an 1 Z (Kb Z (KC Z Nj) Z ?_)))))));rcases jF h with⟨j,h⟩ | ⟨j,h⟩
  ·refine J9 an 2 Z (Kh 22 Z (M4 j) ?_);obtain⟨L,z,h⟩:=M1 h;refine Ki an 1 Z (Kt Z (.g Z Z Z) (.fn Tryz.call218 Z) (pp a0 _ _ _ z) (fun _ hs=>(KL hs hX)) Z (Ki an 2 Z ?_));obtain rfl:=M2 h;exact Kc (T.ret (Km [0] Qt (Kd Z)))
  refine J9 an 2 Z (Kh 22 Z (M5 j) (Ki an 4 Z ?_));obtain rfl:=M2 h;exact Kc (T.ret (Km [0] Qt (Kd Z)))
 | succ y =>
  obtain⟨C,c⟩: ∃ x,a0[a]? = some x:=⟨_,List.getElem?_eq_getElem QI⟩;rw[bN c,eO] at h;have l:(a:Int)<(a0.length:Int):=by omega
  refine Ka Z (Kk an Z (T.seq (Kr Z (M4 l) ?_)));obtain⟨I,J,rfl,q,D,s,t,d⟩:=KU QJ hX c;obtain⟨K,d,E⟩:=d;obtain rfl:q = [jI C]:=d;refine Kw (T.seq (T.block (Ka Z ?_)));refine Kb Z (KB (k:=a) Z Z Z Nj M9 (M6 c).1) Z ?_;refine Kb Z (K5 0 Z Nc t s Z Z) Z (KJ an Z Z ?_);rcases jF h with⟨n,h⟩ | ⟨n,h⟩
  ·refine J9 an 3 Z (Kh 13 Z (M4 n) (K0 an Z (Kr Z Z (Ka Z (J9 an 1 Z ?_)))));obtain rfl:=M2 h;obtain rfl:=M2 f;exact Kc (T.ret (Ko (Ke (Ke (Ko (Ke (Km [0] Qt (Kd Z))))))))
  refine J9 an 3 Z (Kh 13 Z (M5 n) ?_);obtain⟨M,A,h⟩:=M1 h;refine Ki an 1 Z (Kt Z (.g Z Z Z) (.fn Tryz.call101 Z) (KM (fun w=>dG C 4 _ A w)) (fun _ _=>Ku _ _) Z (Ki an 2 Z ?_));rcases jF h with⟨b,h⟩ | ⟨b,h⟩
  ·exact Kc (KN Z (bc b) (T.skip (KD (X.seq (T.region Z (Kb Z (Ex.add Z Z QI) Z (J9 an 1 Z (TL.nil (X.back (m':=y) [0] QI ⟨p,a+1,by omega,Z,Z,h⟩ QL QL)))))))))
  replace b:=M7 b;refine Kc (Kr Z (bt b) (Ka Z (J9 an 1 Z ?_)));obtain rfl:=M2 h;obtain rfl:=M2 f;exact Kc (T.ret (Ko (Ke (Ke (Ko (Ke (Km [0] Qt (Kd Z))))))))
def cm (a0:List AI):Nat->Bool->Int->Option (Lp Bool (Bool×Int))
 | 0,_,_=>none
 | e+1,b,a=>if a<(a0.length:Int) then (if A0 (a - 1) then (if 0<=(a - 1) then ((a0[(a - 1).toNat]?).bind fun c=>if 0<=a then ((a0[a.toNat]?).bind fun d=>if (Op.bytesLess c d)=true then (if A0 (a+1) then (cm a0 e b (a+1)) else none) else some (Lp.ret false)) else none) else none) else none) else (some (Lp.go (b,a)))
def fc (a0:List AI):Option (Bool):=(cm a0 ((((a0.length:Int)) - (1)).toNat+1) false 1).bind fun e=>match e with | .ret r=>some r | .go (a,b)=>some true
theorem nA (a0:List AI) (y:AT) (c2:Nat) (r:Bool) (h:fc a0=some r):aB Tryz.prog 190 #[.slice y a0.length c2] (RX.of (ar 1 lF) [.slice y a0.length c2] a0) (aI) (fun v A' N=>v= .bool r/\A'=aI/\N = []):=by
 refine aS Tryz.func190 Z Tryz.ntmps190 Z ?_;intro F w hX;unfold fc at h;refine Ka Z (Kk an Z (T.seq (Ka Z (Kk an Z (T.block ?_)))));obtain⟨L,x,f⟩:=M1 h;refine K4 (fun m e Rs=> ∃ (l:Bool) (d:Int),e = [(0,.slice y a0.length c2),(2,.bool l),(3,jI d)]/\Rs = [aI]/\cm a0 m l d=some L) ((((a0.length:Int)) - (1)).toNat+1) [0] ⟨false,1,Z,Z,by exact x⟩ QL QL ?_;clear x h;rintro z _ _ ⟨l,d,rfl,rfl,h⟩
 cases z with
 | zero =>
  rw[cm] at h;cases h
 | succ z =>
  rw[cm] at h;refine T.seq (Ka Z (J9 an 2 Z (Kb Z (KC Z Oz) Z (J9 an 1 Z ?_))));rcases jF h with⟨g,h⟩ | ⟨g,h⟩
  ·refine KE Z g ?_;refine Kw (T.seq (T.block (T.seq (KQ (.q 0 (.q 1 (.q 2 (.q 3 (.q 4 (.q 5 (.q 6 (.q 7 (.q 8 (.q 9 .nil)))))))))) [0] Z rf (NoP.seq (NoP.blk (NoP.seq (NoP.seq (NoP.blk (NoP.seq bi)))))) QK ?_))));obtain⟨A,h⟩:=aj h;refine TD.run an [0,1] Z Z (Kg Z (Ex.sub Z Z A) Z ?_);obtain⟨B,h⟩:=aj h;obtain⟨C,i,h⟩:=M1 h;obtain⟨M,O,rfl,n,H,o,p,b⟩:=KU QJ hX i;obtain⟨P,b,I⟩:=b;obtain rfl:n = [jS C]:=b;refine Kg Z (KB (k:=(d - 1).toNat) Z Z ((Int.toNat_of_nonneg B).symm) Oz NG (M6 i).1) Z ?_;refine Kg Z (K5 0 Z NQ p o Z Z) Z ?_;obtain⟨D,h⟩:=aj h;obtain⟨E,j,h⟩:=M1 h;obtain⟨s,J,t,u,c⟩:=LM QJ hX j;obtain⟨Q,c,K⟩:=c;obtain rfl:s = [jS E]:=c;refine TD.run an [5,6] Z Z ?_;refine Kg Z (KB (k:=d.toNat) Z Z ((Int.toNat_of_nonneg D).symm) Oz NG (M6 j).1) Z ?_;refine Kg Z (K5 0 Z NQ u t Z Z) Z (Kg Z (Ex.sGe Z Z) Z ?_);rcases jF h with⟨a,h⟩ | ⟨a,h⟩
   ·refine K6 (KN Z (bc a) (T.skip (KD (X.seq (T.region Z ?_)))));obtain⟨G,h⟩:=aj h;exact J9 an 1 Z (Kb Z (Ex.add Z Z G) Z (J9 an 1 Z (TL.nil (X.back (m':=z) [0] QI ⟨l,(d+1),Z,Z,h⟩ QL QL))))
   replace a:=M7 a;refine K6 (Kr Z (bt a) (Ka Z (J9 an 1 Z ?_)));obtain rfl:=M2 h;obtain rfl:=M2 f;exact Kc (T.ret (Ko (Ke (Ke (Ko (Ke (Km [0] Tryz.results190 (Kd Z))))))))
  refine KA Z g ?_;obtain rfl:=M2 h;replace h:=f;clear f;refine T.exit (Kx (Kx (K1 (X.seq (Ka Z (J9 an 1 Z ?_))))));obtain rfl:=M2 h;exact Kc (T.ret (Km [0] Tryz.results190 (Kd Z)))
def dL:List Top->Bool->List AI->Option (Lp Bool (Bool×List AI))
 | [],c,b=>some (Lp.go (c,b))
 | a::xs,c,b=>if a.Mm = [] then some (Lp.ret false) else (if (a.Mm.length:Int)>32767 then some (Lp.ret false) else ((jN a.Me).bind fun d=>if d=true then (if (b.length+1)*16<=140737488355328 then (dL xs c (b ++ [a.Mm])) else none) else some (Lp.ret false)))
def fd (a0:List Top):Option (Bool):=(dL a0 false []).bind fun e=>match e with | .ret r=>some r | .go (c,a)=>((fc a).bind fun b=>some b)
theorem gC (a0:List Top) (K:AT) (c2:Nat) (r:Bool) (h:fd a0=some r):aB Tryz.prog 146 #[.slice K a0.length c2] (RX.of (ar 2 aU) [.slice K a0.length c2] a0) (aI) (fun v A' N=>v= .bool r/\A'=aI/\N = []):=by
 refine aS Tryz.func146 Z Tryz.ntmps146 Z ?_;intro F w hX;unfold fd at h;refine Ka Z (KJ an Z Z (Kk an Z (T.seq (Ka Z (J9 an 1 Z (Kb Z (KC Z Nr) Z (J9 an 1 Z ?_)))))));refine Kc (T.block (Le 9 1 lF ?_));obtain⟨E8,I,b⟩:=M1 h;have S:=Lb hX;refine K4 (fun m e Rs=> ∃ (A:Bool) (f:List AI) (L:AT) (M:Nat) (c:Nat),c+m=a0.length/\e = [(2,.bool A),(3,.slice L f.length M),(6,.slice K a0.length c2),(7,jI (a0.length:Int)),(8,jI (c:Int))]/\Rs = [bC 9 1 lF (.slice L f.length M) f,aI]/\dL (a0.drop c) A f=some E8) (a0.length) [0,0] ⟨false,[],none,0,0,by simp,Z,Z,by rw[List.drop_zero]; exact I⟩ QL QL ?_;clear I h;rintro n _ _ ⟨A,f,L,M,c,aa,rfl,rfl,h⟩
 cases n with
 | zero =>
  rw[List.drop_of_length_le QI,dL] at h;have o: ¬ ((c:Int)<(a0.length:Int)):=by omega
  refine Ka Z (Kk an Z (T.seq (KN Z (M5 o) ?_)));obtain rfl:=M2 h;replace h:=b;clear b;refine T.exit (Kx (Kx (K1 (X.seq (Ka Z ?_)))));obtain⟨ae,O,h⟩:=M1 h;refine J9 an 1 Z (Kt Z .u (.fn Tryz.call190 Z) (nA f _ _ _ O) (fun _ hs=>(SrcE.res 0 hs Z (fun w G h=>bB QJ w G h))) Z (J9 an 1 Z ?_));obtain rfl:=M2 h;exact Kc (T.ret (Km [1] Qu (Kd Z)))
 | succ n =>
  obtain⟨a,d⟩: ∃ x,a0[c]? = some x:=⟨_,List.getElem?_eq_getElem QI⟩;rw[bN d,dL] at h;have p:(c:Int)<(a0.length:Int):=by omega
  refine Ka Z (Kk an Z (T.seq (Kr Z (M4 p) ?_)));obtain⟨ab,ad,rfl,W,Y,B,C,j⟩:=KU QJ hX d;obtain⟨P,j,D⟩:=j;obtain⟨s,t,rfl,H⟩:=j;have Q:(RX.of (ar 1 cO) [.slice s a.Me.length t] a.Me).reads w F:=⟨P,H,D⟩;refine Kw (T.seq (T.block (Ka Z ?_)));refine Kb Z (KB (k:=c) Z Z Z Nr NJ (M6 d).1) Z ?_;refine Kb Z (Lf (us := [jS a.Mm,.slice s a.Me.length t]) 0 Z PT NJ C B Z Z Z) Z (TL.alloc Z .u Tryz.zeroValue171 Z (fun af=>(Kj 0 Z (cs':= #[jS a.Mm,.slice s a.Me.length t]) Z .u Z Z NJ Z Z Z Z Z (Kc (T.seq (Ka Z (Kf an bL 0 Z 2 Z Z (Kb Z (Ex.sEq Z (m := []) Z) Z ?_))))))));rcases jF h with⟨y,h⟩ | ⟨y,h⟩
  ·refine J9 an 1 Z (Kh 15 Z (M4 y) (K0 an Z (Kr Z Z (Ka Z (J9 an 1 Z ?_)))));obtain rfl:=M2 h;obtain rfl:=M2 b;exact Kc (T.ret (Ke (Ko (Ke (Ke (Ko (Ke (Km [2] Qu (Kd Z)))))))))
  refine J9 an 1 Z (Kh 15 Z (M5 y) (Kf an bL 0 Z 2 Z Z (TL.q Z (.g Z Z Z) (KT Z Na) Z ?_)));rcases jF h with⟨z,h⟩ | ⟨z,h⟩
  ·refine Ki an 3 Z (Kh 21 Z (M4 z) (K0 an Z (Kr Z Z (Ka Z (J9 an 1 Z ?_)))));obtain rfl:=M2 h;obtain rfl:=M2 b;exact Kc (T.ret (Ke (Ko (Ke (Ke (Ko (Ke (Km [2] Qu (Kd Z)))))))))
  refine Ki an 3 Z (Kh 21 Z (M5 z) ?_);obtain⟨ag,R,h⟩:=M1 h;refine Kf an bL 0 Z 2 Z Z (Kt Z (.g Z Z Z) (.fn Tryz.call189 Z) (sj a.Me _ _ _ R) (fun _ hs=>(KL hs Q)) Z (Ki an 2 Z ?_));rcases jF h with⟨i,h⟩ | ⟨i,h⟩
  ·refine Kc (KN Z (bc i) (Kw (T.region Z (Kf an bL 0 Z 3 Z Z (Lj (cells:= #[jS a.Mm]) Z .u xe Z QL Z (fun ah=> ?_))))));obtain⟨J,h⟩:=aj h;refine L2 1 Z .u (us := [jS a.Mm]) (u:=a.Mm) (l:=f) (E:=lF) Tryz.underlying78 BI Z QJ Z Z Z Z Z Z (fun _ _=>Z) (by have hq:=J; omega) (by have hq:=J; omega) Z (fun U V=> ?_);exact KK [0,0,0] Z (J9 an 1 Z (TL.nil (KD (X.seq (T.region Z (Kb Z (Ex.add Z Z QI) Z (J9 an 1 Z (TL.nil (X.back (m':=n) [1,1] QI ⟨A,(f ++ [a.Mm]),U,V,c+1,by omega,Z,Z,h⟩ QL QL)))))))))
  replace i:=M7 i;refine Kc (Kr Z (bt i) (Ka Z (J9 an 1 Z ?_)));obtain rfl:=M2 h;obtain rfl:=M2 b;exact Kc (T.ret (Ke (Ko (Ke (Ke (Ko (Ke (Km [2] Qu (Kd Z)))))))))
def jO (a0:Val):Option (Int):=if a0.Md<0 then some 11 else (if a0.Mf<0 then some 11 else ((jy a0.Mf 2).bind fun g=>if g=true then (if a0.Mh<0 then some 11 else ((jy a0.Mh 4).bind fun a=>if a=true then (if a0.MZ<0 then some 11 else (if a0.MY<(-1) then some 11 else (if a0.MU<0 then some 12 else (if a0.MU>=7 then some 12 else ((my a0.MU).bind fun b=>if b=true then (if (a0.Mc.length:Int)=0 then (if a0.MU=0 then (if a0.MY=(-1) then ((fd a0.Mc).bind fun c=>if c=true then some 0 else some 13) else some 10) else (if a0.MY=(-1) then some 10 else ((fd a0.Mc).bind fun d=>if d=true then some 0 else some 13))) else some 10) else (if (a0.Mc.length:Int)=0 then some 10 else (if a0.MU=0 then (if a0.MY=(-1) then ((fd a0.Mc).bind fun e=>if e=true then some 0 else some 13) else some 10) else (if a0.MY=(-1) then some 10 else ((fd a0.Mc).bind fun f=>if f=true then some 0 else some 13))))))))) else some 11)) else some 11))
theorem sk (a0:Val) (L:AT) (c2:Nat) (r:Int) (h:jO a0=some r):aB Tryz.prog 90 #[.agg #[jI a0.Md,jI a0.Mf,jI a0.Mh,jI a0.MU,.slice L a0.Mc.length c2,jI a0.MZ,jI a0.MY]] (RX.of (ar 2 aU) [.slice L a0.Mc.length c2] a0.Mc) (aI) (fun v A' N=>v=jI r/\A'=aI/\N = []):=by
 refine aS Tryz.func90 Z Tryz.ntmps90 Z ?_;intro F w hX;unfold jO at h;refine Ka Z (TL.box Z .u Z Z (fun V=>(Kk an Z (T.seq (T.block (Ka Z ?_))))));rcases jF h with⟨B,h⟩ | ⟨B,h⟩
 ·refine Kf an bL 0 Z 4 Z Z (Kh 7 Z (M4 B) (K0 an Z (Kr Z Z (Ka Z (J9 an 1 Z ?_)))));obtain rfl:=M2 h;exact Kc (T.ret (Ko (Ke (Km [1] N7 (Kd Z)))))
 refine Kf an bL 0 Z 4 Z Z (Kh 7 Z (M5 B) ?_);rcases jF h with⟨C,h⟩ | ⟨C,h⟩
 ·refine Kf an bL 0 Z 5 Z Z (Kh 12 Z (M4 C) (K0 an Z (Kr Z Z (Ka Z (J9 an 1 Z ?_)))));obtain rfl:=M2 h;exact Kc (T.ret (Ko (Ke (Km [1] N7 (Kd Z)))))
 refine Kf an bL 0 Z 5 Z Z (Kh 12 Z (M5 C) ?_);obtain⟨W,M,h⟩:=M1 h;refine Kf an bL 0 Z 2 Z Z (Kt Z (.g Z Z Z) (.fn Tryz.call101 Z) (KM (fun w=>dG a0.Mf 2 _ M w)) (fun _ _=>Ku _ _) Z ?_);rcases jF h with⟨l,h⟩ | ⟨l,h⟩
 ·refine Ki an 3 Z (Kh 18 Z (bc l) ?_);rcases jF h with⟨D,h⟩ | ⟨D,h⟩
  ·refine Kf an bL 0 Z 5 Z Z (Kh 23 Z (M4 D) (K0 an Z (Kr Z Z (Ka Z (J9 an 1 Z ?_)))));obtain rfl:=M2 h;exact Kc (T.ret (Ko (Ke (Km [1] N7 (Kd Z)))))
  refine Kf an bL 0 Z 5 Z Z (Kh 23 Z (M5 D) ?_);obtain⟨O,E,h⟩:=M1 h;refine Kf an bL 0 Z 2 Z Z (Kt Z (.g Z Z Z) (.fn Tryz.call101 Z) (KM (fun w=>dG a0.Mh 4 _ E w)) (fun _ _=>Ku _ _) Z ?_);rcases jF h with⟨b,h⟩ | ⟨b,h⟩
  ·refine Ki an 3 Z (Kh 29 Z (bc b) ?_);rcases jF h with⟨m,h⟩ | ⟨m,h⟩
   ·refine Kf an bL 0 Z 5 Z Z (Kh 34 Z (M4 m) (K0 an Z (Kr Z Z (Ka Z (J9 an 1 Z ?_)))));obtain rfl:=M2 h;exact Kc (T.ret (Ko (Ke (Km [1] N7 (Kd Z)))))
   refine Kf an bL 0 Z 5 Z Z (Kh 34 Z (M5 m) (Kf an bL 0 Z 5 Z Z ?_));rcases jF h with⟨n,h⟩ | ⟨n,h⟩
   ·refine KE Z n (Ka Z (J9 an 1 Z ?_));obtain rfl:=M2 h;exact Kc (T.ret (Ko (Ke (Km [1] N7 (Kd Z)))))
   refine KA Z n (Ka Z ?_);rcases jF h with⟨o,h⟩ | ⟨o,h⟩
   ·refine Kf an bL 0 Z 4 Z Z (Kh 43 Z (M4 o) (K0 an Z (Kr Z Z (Ka Z (J9 an 1 Z ?_)))));obtain rfl:=M2 h;exact Kc (T.ret (Ko (Ke (Km [1] N7 (Kd Z)))))
   refine Kf an bL 0 Z 4 Z Z (Kh 43 Z (M5 o) (Kf an bL 0 Z 5 Z Z ?_));rcases jF h with⟨p,h⟩ | ⟨p,h⟩
   ·refine KE Z p (Ka Z (J9 an 1 Z ?_));obtain rfl:=M2 h;exact Kc (T.ret (Ko (Ke (Km [1] N7 (Kd Z)))))
   refine KA Z p ?_;refine T.seq (KQ (.q 0 (.q 1 (.q 3 (.q 4 (.q 5 (.q 6 (.e 2 (.q 7 (.q 8 (.q 9 (.q 10 (.q 11 (.q 12 (.q 13 (.q 14 (.q 15 (.q 16 (.q 17 .nil)))))))))))))))))) [0,0] Z rf (NoP.seq (NoP.blk (NoP.seq bi))) QK ?_);refine TD.run an [0] Z Z (Kg Z (KI 0 Z Nc Z Z) Z (TD.run an [3] Z Z (Kg Z (KI 0 Z Pe Z Z) Z (Kg Z (KC Z Nr) Z ?_))));obtain⟨P,G,h⟩:=M1 h;refine TD.run an [6] Z Z (Lh Z .u (.fn Tryz.call145 Z) (ta a0.MU _ G) rT Z [0,0] (Z) ?_);rcases jF h with⟨a,h⟩ | ⟨a,h⟩
   ·rcases jF h with⟨s,h⟩ | ⟨s,h⟩
    ·refine Kg Z (Lv Z a Z (M4 s) NK) Z (TD.run an [8] Z Z (TD.q Z (.g Z Z Z) (KV an Z) Z (TD.q Z (.g Z Z Z) (KI 0 Z Nc Z Z) Z ?_)));iterate 2 refine TD.q Z (.g Z Z Z) (KV an Z) Z ?_
     refine TD.q Z (.g Z Z Z) (KI 0 Z Nc Z Z) Z (TD.q Z (.g Z Z Z) (KV an Z) Z ?_);rcases jF h with⟨c,h⟩ | ⟨c,h⟩
     ·rcases jF h with⟨t,h⟩ | ⟨t,h⟩
      ·refine TD.q Z (.g Z Z Z) (Lv Z (M4 c) Z (M4 t) NK) Z (Kg Z (Li Z Z Z) Z (TD.run an [17] Z Z (K6 (KN Z Z (Ka Z ?_)))));obtain⟨Q,H,h⟩:=M1 h;refine Kf an bL 0 Z 2 Z Z (Kt Z .u (.fn Tryz.call146 Z) (gC a0.Mc _ _ _ H) (fun _ hs=>(KL hs hX)) Z (J9 an 2 Z ?_));rcases jF h with⟨d,h⟩ | ⟨d,h⟩
       ·refine Kc (KN Z (bc d) (T.skip (KD (X.seq (Ka Z (J9 an 1 Z ?_))))));obtain rfl:=M2 h;exact Kc (T.ret (Km [1] N7 (Kd Z)))
       replace d:=M7 d;refine Kc (Kr Z (bt d) (Ka Z (J9 an 1 Z ?_)));obtain rfl:=M2 h;exact Kc (T.ret (Ko (Ke (Km [1] N7 (Kd Z)))))
      refine TD.q Z (.g Z Z Z) (Lv Z (M4 c) Z (M5 t) NK) Z (Kg Z (Li Z Z Z) Z (TD.run an [17] Z Z (K6 (Kr Z Z (Ka Z (J9 an 1 Z ?_))))));obtain rfl:=M2 h;exact Kc (T.ret (Ko (Ke (Km [1] N7 (Kd Z)))))
     rcases jF h with⟨x,h⟩ | ⟨x,h⟩
     ·refine TD.q Z (.g Z Z Z) (Lv Z (M5 c) Z (M4 x) NK) Z (Kg Z (Li Z Z Z) Z (TD.run an [17] Z Z (K6 (Kr Z Z (Ka Z (J9 an 1 Z ?_))))));obtain rfl:=M2 h;exact Kc (T.ret (Ko (Ke (Km [1] N7 (Kd Z)))))
     refine TD.q Z (.g Z Z Z) (Lv Z (M5 c) Z (M5 x) NK) Z (Kg Z (Li Z Z Z) Z (TD.run an [17] Z Z (K6 (KN Z Z (Ka Z ?_)))));obtain⟨R,I,h⟩:=M1 h;refine Kf an bL 0 Z 2 Z Z (Kt Z .u (.fn Tryz.call146 Z) (gC a0.Mc _ _ _ I) (fun _ hs=>(KL hs hX)) Z (J9 an 2 Z ?_));rcases jF h with⟨f,h⟩ | ⟨f,h⟩
     ·refine Kc (KN Z (bc f) (T.skip (KD (X.seq (Ka Z (J9 an 1 Z ?_))))));obtain rfl:=M2 h;exact Kc (T.ret (Km [1] N7 (Kd Z)))
     replace f:=M7 f;refine Kc (Kr Z (bt f) (Ka Z (J9 an 1 Z ?_)));obtain rfl:=M2 h;exact Kc (T.ret (Ko (Ke (Km [1] N7 (Kd Z)))))
    refine Kg Z (Lv Z a Z (M5 s) NK) Z (TD.run an [8] Z Z ?_);iterate 7 refine KW Z (.gn Z Z Z) Z ?_
    refine Kg Z (Ld Z Z Z) Z (TD.run an [17] Z Z (K6 (Kr Z Z (Ka Z (J9 an 1 Z ?_)))));obtain rfl:=M2 h;exact Kc (T.ret (Ko (Ke (Km [1] N7 (Kd Z)))))
   replace a:=M7 a;rcases jF h with⟨y,h⟩ | ⟨y,h⟩
   ·refine Kg Z (Lv Z a Z (M4 y) NK) Z (TD.run an [8] Z Z ?_);iterate 7 refine KW Z (.gn Z Z Z) Z ?_
    refine Kg Z (Ld Z Z Z) Z (TD.run an [17] Z Z (K6 (Kr Z Z (Ka Z (J9 an 1 Z ?_)))));obtain rfl:=M2 h;exact Kc (T.ret (Ko (Ke (Km [1] N7 (Kd Z)))))
   refine Kg Z (Lv Z a Z (M5 y) NK) Z (TD.run an [8] Z Z (TD.q Z (.g Z Z Z) (KV an Z) Z (TD.q Z (.g Z Z Z) (KI 0 Z Nc Z Z) Z ?_)));iterate 2 refine TD.q Z (.g Z Z Z) (KV an Z) Z ?_
   refine TD.q Z (.g Z Z Z) (KI 0 Z Nc Z Z) Z (TD.q Z (.g Z Z Z) (KV an Z) Z ?_);rcases jF h with⟨i,h⟩ | ⟨i,h⟩
   ·rcases jF h with⟨z,h⟩ | ⟨z,h⟩
    ·refine TD.q Z (.g Z Z Z) (Lv Z (M4 i) Z (M4 z) NK) Z (Kg Z (Li Z Z Z) Z (TD.run an [17] Z Z (K6 (KN Z Z (Ka Z ?_)))));obtain⟨S,J,h⟩:=M1 h;refine Kf an bL 0 Z 2 Z Z (Kt Z .u (.fn Tryz.call146 Z) (gC a0.Mc _ _ _ J) (fun _ hs=>(KL hs hX)) Z (J9 an 2 Z ?_));rcases jF h with⟨j,h⟩ | ⟨j,h⟩
     ·refine Kc (KN Z (bc j) (T.skip (KD (X.seq (Ka Z (J9 an 1 Z ?_))))));obtain rfl:=M2 h;exact Kc (T.ret (Km [1] N7 (Kd Z)))
     replace j:=M7 j;refine Kc (Kr Z (bt j) (Ka Z (J9 an 1 Z ?_)));obtain rfl:=M2 h;exact Kc (T.ret (Ko (Ke (Km [1] N7 (Kd Z)))))
    refine TD.q Z (.g Z Z Z) (Lv Z (M4 i) Z (M5 z) NK) Z (Kg Z (Li Z Z Z) Z (TD.run an [17] Z Z (K6 (Kr Z Z (Ka Z (J9 an 1 Z ?_))))));obtain rfl:=M2 h;exact Kc (T.ret (Ko (Ke (Km [1] N7 (Kd Z)))))
   rcases jF h with⟨A,h⟩ | ⟨A,h⟩
   ·refine TD.q Z (.g Z Z Z) (Lv Z (M5 i) Z (M4 A) NK) Z (Kg Z (Li Z Z Z) Z (TD.run an [17] Z Z (K6 (Kr Z Z (Ka Z (J9 an 1 Z ?_))))));obtain rfl:=M2 h;exact Kc (T.ret (Ko (Ke (Km [1] N7 (Kd Z)))))
   refine TD.q Z (.g Z Z Z) (Lv Z (M5 i) Z (M5 A) NK) Z (Kg Z (Li Z Z Z) Z (TD.run an [17] Z Z (K6 (KN Z Z (Ka Z ?_)))));obtain⟨U,K,h⟩:=M1 h;refine Kf an bL 0 Z 2 Z Z (Kt Z .u (.fn Tryz.call146 Z) (gC a0.Mc _ _ _ K) (fun _ hs=>(KL hs hX)) Z (J9 an 2 Z ?_));rcases jF h with⟨k,h⟩ | ⟨k,h⟩
   ·refine Kc (KN Z (bc k) (T.skip (KD (X.seq (Ka Z (J9 an 1 Z ?_))))));obtain rfl:=M2 h;exact Kc (T.ret (Km [1] N7 (Kd Z)))
   replace k:=M7 k;refine Kc (Kr Z (bt k) (Ka Z (J9 an 1 Z ?_)));obtain rfl:=M2 h;exact Kc (T.ret (Ko (Ke (Km [1] N7 (Kd Z)))))
  replace b:=M7 b;refine Ki an 3 Z (Kh 29 Z (bt b) (K0 an Z (Kr Z Z (Ka Z (J9 an 1 Z ?_)))));obtain rfl:=M2 h;exact Kc (T.ret (Ko (Ke (Km [1] N7 (Kd Z)))))
 replace l:=M7 l;refine Ki an 3 Z (Kh 18 Z (bt l) (K0 an Z (Kr Z Z (Ka Z (J9 an 1 Z ?_)))));obtain rfl:=M2 h;exact Kc (T.ret (Ko (Ke (Km [1] N7 (Kd Z)))))
def cQ (d:Int):Nat->Nat->List Int->I->Option (Nat×List Int×I)
 | 0,_,_,_=>none
 | f+1,a,b,c=>if (a:Int)<d then ((ea c 4).bind fun (g,e)=>if (b.length+1)*8<=140737488355328 then (if A0 ((a:Int)+1) then (cQ d f (a+1) (b ++ [g]) e) else none) else none) else some (a,b,c)
def cf (i:Int):Nat->List Top->List Top->Nat->I->Option (Lp (List Top×I) (List Top×List Top×Nat×I))
 | 0,_,_,_,_=>none
 | j+1,k,e,a,b=>if (a:Int)<i then ((sR b).bind fun (l,f)=>(jB f 4 4).bind fun (d,g)=>(cQ d ((d).toNat+1) 0 [] g).bind fun (o,m,h)=>if (e.length+1)*40<=140737488355328 then ((iG h).bind fun (n,c)=>if n=0 then (if A0 ((a:Int)+1) then (cf i j k (e ++ [(⟨l,m⟩:Top)]) (a+1) c) else none) else (some (Lp.ret ([],c)))) else none) else (some (Lp.go (k,e,a,b)))
def dV (st:I)  : Option (List Top×I):=(jB st 4 6).bind fun (b,c)=>(cf b ((b).toNat+1) [] [] 0 c).bind fun e=>match e with | .ret r=>some r | .go (f,d,g,a)=>some (d,a)
theorem mo (g:Nat) (st:I)  (r:List Top×I) (h:dV st  = some r):aB Tryz.prog 89 #[jP g] .triv (InR g st) (fun v A' N=> ∃ (Y:AT) (aa:Nat),v= .slice Y r.1.length aa/\A'=InR g r.2/\N = [RdR (ar 2 aU) [.slice Y r.1.length aa] r.1]):=by
 refine aS Tryz.func89 Z Tryz.ntmps89 Z ?_;intro F w hX;unfold dV at h;refine Ka Z (KJ an Z Z (Kk an Z (T.seq (Ka Z ?_))));obtain⟨⟨K,ak⟩,al,h⟩:=M1 h;refine J9 an 1 Z (Kn 0 Z Z .u (.fn Tryz.call144 Z) (lE g st 4 6 _ al) sT Z Z (Kk an Z (T.block ?_)));iterate 2 refine Le 171 2 aU ?_
 obtain⟨am,L,B⟩:=M1 h;refine K4 (fun m e Rs=> ∃ (k:List Top) (y:AT) (z:Nat) (i:List Top) (C:AT) (D:Nat) (o:Nat) (x:I),e = [(0,jP g),(2,.slice y k.length z),(3,.slice C i.length D),(6,jI K),(7,jI (o:Int))]/\Rs = [bC 171 2 aU (.slice y k.length z) k,bC 171 2 aU (.slice C i.length D) i,InR g x]/\cf K m k i o x=some am) ((K).toNat+1) [0,0,0] ⟨[],none,0,[],none,0,0,ak,Z,Z,by exact L⟩ QL QL ?_;clear L h;rintro M _ _ ⟨k,y,z,i,C,D,o,x,rfl,rfl,h⟩
 cases M with
 | zero =>
  rw[cf] at h;cases h
 | succ M =>
  rw[cf] at h;refine Ka Z (J9 an 1 Z ?_);rcases jF h with⟨O,h⟩ | ⟨O,h⟩
  ·refine Kc (T.seq (Lx Z O (Kw (T.seq (T.block (Ka Z ?_))))));obtain⟨⟨f,ad⟩,ae,h⟩:=M1 h;refine J9 an 1 Z (Kn 2 Z Z .u (.fn Tryz.call86 Z) (o9 g x _ ae) sT Z Z ?_);refine Kb Z (KH (cells:= #[jS f,A5]) yC Z QK) Z ?_;refine TL.alloc Z .u Tryz.zeroValue171 Z (fun H=>(Kj 0 Z (cs':= #[jS f,A5]) Z .u Z Z NJ Z Z Z Z Z (Kc (T.seq (Ka Z ?_)))));obtain⟨⟨J,af⟩,ag,h⟩:=M1 h;refine J9 an 1 Z (Kn 3 Z Z .u (.fn Tryz.call144 Z) (lE g ad 4 4 _ ag) sT Z Z (Kk an Z (T.block (Le 3 1 cO ?_))));obtain⟨ao,P,Q⟩:=M1 h;refine K4 (fun m e Rs=> ∃ (A:Nat) (a:List Int) (p:AT) (s:Nat) (j:I),e = [(0,jP g),(2,.slice y k.length z),(3,.slice C i.length D),(4,jP H),(6,jI K),(7,jI (o:Int)),(13,jI J),(14,jI (A:Int))]/\Rs = [bC 3 1 cO (.slice p a.length s) a,aR H 171 #[jS f,.slice p a.length s],bC 171 2 aU (.slice y k.length z) k,bC 171 2 aU (.slice C i.length D) i,InR g j]/\cQ J m A a j=some ao) ((J).toNat+1) [0,0,0,0,0] ⟨0,[],none,0,af,Z,Z,by exact P⟩ QL QL ?_;clear P h;rintro R _ _ ⟨A,a,p,s,j,rfl,rfl,h⟩
   cases R with
   | zero =>
    rw[cQ] at h;cases h
   | succ R =>
    rw[cQ] at h;refine Ka Z (J9 an 1 Z ?_);rcases jF h with⟨S,h⟩ | ⟨S,h⟩
    ·refine Kc (T.seq (Lx Z S ?_));obtain⟨⟨b,U⟩,V,h⟩:=M1 h;try dsimp only at h
     obtain⟨t,h⟩:=aj h;refine Kw (T.seq (T.block ?_));refine LJ (fun e Rs=> ∃ (n:Nat) (c:AT) (d:Nat),e = [(0,jP g),(2,.slice y k.length z),(3,.slice C i.length D),(4,jP H),(6,jI K),(7,jI (o:Int)),(13,jI J),(14,jI (A:Int))]/\Rs = [bC 3 1 cO (.slice c (a ++ [b]).length d) (a ++ [b]),aR H 171 #[jS f,.slice c (a ++ [b]).length d],bC 171 2 aU (.slice y k.length z) k,bC 171 2 aU (.slice C i.length D) i,InR g U]) ?_ ?_
     ·refine KQ (.q 0 (.q 2 (.br 1 (.e 3 (.e 4 (.e 5 (.q 6 (.e 7 .nil))))) (.e 3 (.br 1 (.e 4 (.e 5 (.q 6 (.e 7 .nil)))) (.e 4 (.e 1 (.e 5 (.q 6 (.e 7 .nil)))))))))) [2,2] Z rf om QK ?_;refine TD.run an [0,2] Z Z ?_;refine TD.br ?_ ?_
      ·refine LD Z .u (KI 1 Z Ou Z Z) Z [2,2] Z (Lk 4 Z Z .u (.fn Tryz.call68 Z) (bw g j 4 _ V) sT Z Z [2,2] (Z) (Lu (cells:= #[jI b]) Z .u mY Z QL Z [3,3] (fun _=>Z) (fun n=> ?_)));refine LP 0 Z .u (us := [jI b]) (u:=b) (l:=a) (E:=cO) Tryz.underlying74 qE Z QJ Z Z Z Z Z Z (fun _ _=>Z) (by have hq:=t; omega) (by have hq:=t; omega) Z [2,2] (fun _ _=>Z) (fun c d=> ?_);exact Lg [0,0,0,0,0] Z (TD.run an [6] Z Z (K9 1 Z (cs':= #[jS f,.slice c (a ++ [b]).length d]) Z .u Z Z O5 Z Z Z Z Z [2,2] (Z) (TD.nil (Lr [0,0,0,0,0] ⟨n,c,d,Z,Z⟩ QL QL))))
      refine Lk 4 Z Z .u (.fn Tryz.call68 Z) (bw g j 4 _ V) sT Z Z [2,2] (Z) ?_;refine TD.br ?_ ?_
      ·refine LD Z .u (KI 1 Z Ou Z Z) Z [2,2] Z (Lu (cells:= #[jI b]) Z .u mY Z QL Z [3,3] (fun _=>Z) (fun n=> ?_));refine LP 0 Z .u (us := [jI b]) (u:=b) (l:=a) (E:=cO) Tryz.underlying74 qE Z QJ Z Z Z Z Z Z (fun _ _=>Z) (by have hq:=t; omega) (by have hq:=t; omega) Z [2,2] (fun _ _=>Z) (fun c d=> ?_);exact Lg [0,0,0,0,0] Z (TD.run an [6] Z Z (K9 1 Z (cs':= #[jS f,.slice c (a ++ [b]).length d]) Z .u Z Z O5 Z Z Z Z Z [2,2] (Z) (TD.nil (Lr [0,0,0,0,0] ⟨n,c,d,Z,Z⟩ QL QL))))
      refine Lu (cells:= #[jI b]) Z .u mY Z QL Z [3,3] (fun _=>Z) (fun n=>(LD Z .u (KI 2 Z Ou Z Z) Z [3,3] Z ?_));refine LP 0 Z .u (us := [jI b]) (u:=b) (l:=a) (E:=cO) Tryz.underlying74 qE Z QJ Z Z Z Z Z Z (fun _ _=>Z) (by have hq:=t; omega) (by have hq:=t; omega) Z [2,2] (fun _ _=>Z) (fun c d=> ?_);exact Lg [0,0,0,0,0] Z (TD.run an [6] Z Z (K9 1 Z (cs':= #[jS f,.slice c (a ++ [b]).length d]) Z .u Z Z O5 Z Z Z Z Z [2,2] (Z) (TD.nil (Lr [0,0,0,0,0] ⟨n,c,d,Z,Z⟩ QL QL))))
     rintro _ _ ⟨n,c,d,rfl,rfl⟩;obtain⟨ap,h⟩:=aj h;exact KD (X.seq (T.region Z (Kb Z (Ex.add Z Z ap) Z (J9 an 1 Z (TL.nil (X.back (m':=R) [0,0,0,0,0] QI ⟨A+1,(a ++ [b]),c,d,U,Z,Z,h⟩ QL QL))))))
    refine Kc (T.seq (LC Z S ?_));obtain rfl:=M2 h;replace h:=Q;clear Q;refine T.exit (Kx (Kx (K1 (X.seq (Ka Z (J9 an 1 Z (Kb Z (Kp (us := [jS f,.slice p a.length s]) 1 Z PT NJ Z Z Z) Z (Lj (cells:= #[jS f,.slice p a.length s]) Z .u xd Z QL Z (fun aw=> ?_)))))))));obtain⟨ab,h⟩:=aj h;refine Ly 3 0 Z .u (us := [jS f,.slice p a.length s]) (u:=(⟨f,a⟩:Top)) (l:=i) (E:=aU) Tryz.underlying28 yD Z QJ Z Z Z Z Z Z Z (fun w G hG=>⟨_,_,Z,bB QJ _ _ hG⟩) (by have hq:=ab; omega) (by have hq:=ab; omega) Z (fun aq au=> ?_);refine KK [0,0,0,0] Z (KJ an Z Z ?_);obtain⟨⟨ax,ah⟩,ai,h⟩:=M1 h;refine J9 an 1 Z (Kn 3 Z Z .u (.fn Tryz.call23 Z) (cz g j _ ai) sT Z Z (J9 an 1 Z ?_));rcases jF h with⟨W,h⟩ | ⟨W,h⟩
    ·refine KG Z W ?_;obtain⟨av,h⟩:=aj h;exact T.skip (KD (X.seq (T.region Z (Kb Z (Ex.add Z Z av) Z (J9 an 1 Z (TL.nil (X.back (m':=M) [2,0,1] QI ⟨k,y,z,(i ++ [(⟨f,a⟩:Top)]),aq,au,o+1,ah,Z,Z,h⟩ QL QL)))))))
    refine KF Z W (Ka Z (J9 an 1 Z ?_));obtain rfl:=M2 h;obtain rfl:=M2 B;exact Kc (T.ret (Ko (Ke (Ke (Ko (Ke (Kl 2 aU (Ks [4,0] Tryz.results89 (Kd Z) ⟨_,_,Z,Z,Z⟩ QL (.inl Z)))))))))
  refine Kc (T.seq (LC Z O ?_));obtain rfl:=M2 h;replace h:=B;clear B;refine T.exit (Kx (Kx (K1 (X.seq (Ka Z (J9 an 2 Z ?_))))));obtain rfl:=M2 h;exact Kc (T.ret (Ll QJ 1 Z (KX [0,0,0] Z (Ks [2,1] Tryz.results89 (Kd Z) ⟨_,_,Z,Z,Z⟩ QL (.inl Z)))))
def ft_txn:eY := [(23,0,0),(23,1,1),(27,0,0),(27,1,2),(27,2,3),(27,3,4),(30,0,0),(30,1,1),(30,2,2),(30,3,3),(32,0,0),(32,1,1),(32,2,2),(32,3,3)]
theorem ax:(ft_txn).OK Tryz.prog:=⟨FOK.mk NF rfl NP rfl,FOK.mk NF rfl NG rfl,FOK.mk OJ rfl Nh rfl,FOK.mk OJ rfl M9 rfl,FOK.mk OJ rfl M9 rfl,FOK.mk OJ rfl M9 rfl,FOK.mk Or rfl NG rfl,FOK.mk Or rfl M9 rfl,FOK.mk Or rfl M9 rfl,FOK.mk Or rfl O4 rfl,FOK.mk Ok rfl NG rfl,FOK.mk Ok rfl M9 rfl,FOK.mk Ok rfl M9 rfl,FOK.mk Ok rfl NP rfl,trivial⟩
def nt_txn:List Nat := [3,4,9,28]
theorem cc:NOK Tryz.prog nt_txn:=⟨Nc,Oa,NQ,Pe,trivial⟩
theorem tb (v : Value) (w : World) : (method (Tryz.prog.types.size + Made.depth) 30 v "Check").run Tryz.prog w = .ok (170, v) w := wX (k := Tryz.prog.types.size + Made.depth - 1) QK QK Or v w
theorem tc (v : Value) (w : World) : (method (Tryz.prog.types.size + Made.depth) 32 v "Check").run Tryz.prog w = .ok (172, v) w := wX (k := Tryz.prog.types.size + Made.depth - 1) QK QK Ok v w
theorem xf:BOK Tryz.prog 27 #[.bool false,A7,.int .i64 0,.int .i64 0,.int .i64 0] [(0,2),(2,1),(3,1),(4,1)]:=BOK.mk Tryz.zeroValue27 OJ (by intro w; simp)
theorem xg:BOK Tryz.prog 30 #[A7,.int .i64 0,.int .i64 0,A5] [(0,1),(1,1),(2,1),(3,1)]:=BOK.mk Tryz.zeroValue30 Or (by intro w; simp)
theorem xh:BOK Tryz.prog 32 #[A7,.int .i64 0,.int .i64 0,.bool false] [(0,1),(1,1),(2,1),(3,1)]:=BOK.mk Tryz.zeroValue32 Ok (by intro w; simp)
theorem BJ:BOK Tryz.prog 103 #[.int .i64 0,.int .i64 0,.int .i64 0,.int .i64 0,A5,.int .i64 0,.int .i64 0] [(0,1),(1,1),(2,1),(3,1),(4,1),(5,1),(6,1)]:=BOK.mk Tryz.zeroValue103 ON (by intro w; simp)
def mZ (st:AI×Int) (a1:Int):Option (Bool×(AI×Int)):=(if a1=0 then some st else ((lX st a1).bind fun b=>some b)).bind fun a=>if a1=0 then some (false,a) else some (true,a)
theorem l9 (g:Nat) (st:AI×Int) (a1:Int) (r:Bool×(AI×Int)) (h:mZ st a1=some r):aB Tryz.prog 151 #[jP g,jI a1] .triv (bz g st) (fun v A' N=>v= .bool r.1/\A'=bz g r.2/\N = []):=by
 refine aS Tryz.func151 Z Tryz.ntmps151 Z ?_;intro F w hX;unfold mZ at h;refine Ka Z (Kk ax Z (T.seq (Ka Z (Kk ax Z ?_))));obtain⟨f,h,a⟩:=M1 h;refine K7 (fun e Rs=>e = [(1,jI a1),(4,.bool false)]/\Rs = [bz g f]) ?_ ?_
 ·clear a;rcases jF h with⟨c,h⟩ | ⟨c,h⟩
  ·refine T.nn Z c ?_;cases h;exact T.skip (Kq [0])
  refine T.yn Z c (T.region Z ?_);obtain⟨j,i,h⟩:=M1 h;refine J9 ax 2 Z (Kn 0 Z Z .u (.fn Tryz.call94 Z) (g6 g st a1 _ i) sT Z Z ?_);cases h;exact TL.nil (Kq [0])
 rintro _ _ ⟨rfl,rfl⟩;clear h;have h:=a;clear a;refine X.seq (Ka Z (J9 ax 3 Z ?_));rcases jF h with⟨d,h⟩ | ⟨d,h⟩
 ·obtain rfl:=M2 h;exact Kc (T.ret (Ks [0] Tryz.results151 (Kd (v:= .bool false) (congrArg (fun b=>some (Value.bool b)) (bc (M4 d)))) ⟨Z,Z,Z⟩ QL (.inl Z)))
 obtain rfl:=M2 h;exact Kc (T.ret (Ks [0] Tryz.results151 (Kd (v:= .bool true) (congrArg (fun b=>some (Value.bool b)) (bt (M5 d)))) ⟨Z,Z,Z⟩ QL (.inl Z)))
def kh (a0:Int) (a1:Int):Option (Bool):=(if a0>=0 then (if a1>=0 then ((jy a1 2).bind fun a=>some a) else some false) else some false).bind fun b=>some b
theorem kA (a0:Int) (a1:Int) (r:Bool) (h:kh a0 a1=some r):aB Tryz.prog 192 #[jI a0,jI a1] .triv (aI) (fun v A' N=>v= .bool r/\A'=aI/\N = []):=by
 refine aS Tryz.func192 Z Tryz.ntmps192 Z ?_;intro F w hX;unfold kh at h;refine Ka Z (Kk ax Z (T.seq ?_));obtain⟨f,h,a⟩:=M1 h;refine K7 (fun e Rs=>e = [(4,.bool f)]/\Rs = [aI]) ?_ ?_
 ·clear a;refine T.region Z ?_;rcases jF h with⟨b,h⟩ | ⟨b,h⟩
  ·refine J9 ax 3 Z (Kh 7 Z (M4 b) ?_);rcases jF h with⟨c,h⟩ | ⟨c,h⟩
   ·refine Ki ax 4 Z (Kh 11 Z (M4 c) ?_);obtain⟨i,d,h⟩:=M1 h;refine Ki ax 1 Z (Kt Z (.g Z Z Z) (.fn Tryz.call101 Z) (KM (fun w=>dG a1 2 _ d w)) (fun _ _=>Ku _ _) Z (Ki ax 2 Z ?_));cases h;exact TL.nil (Kq [0])
   refine Ki ax 4 Z (Kh 11 Z (M5 c) (Ki ax 4 Z ?_));cases h;exact TL.nil (Kq [0])
  refine J9 ax 3 Z (Kh 7 Z (M5 b) (Ki ax 8 Z ?_));cases h;exact TL.nil (Kq [0])
 rintro _ _ ⟨rfl,rfl⟩;clear h;have h:=a;clear a;obtain rfl:=M2 h;exact X.seq (T.ret (Km [0] Tryz.results192 (Kd Z)))
def fM (a0:bg) (a1:Int):Option (Int):=(if a0.Md=(-1) then (if a0.Mf=(-1) then some true else some false) else some false).bind fun i=>((qp a0.Mk).bind fun a=>if a=true then (if a0.Mk.null=true then some false else ((nJ a0.Mk.data).bind fun b=>if b=true then some false else some true)) else some true).bind fun c=>if c=true then some 4 else ((if a0.Mh<0 then some true else ((jy a0.Mh 4).bind fun d=>if d=true then some false else some true)).bind fun e=>(if e=true then some true else ((if i=true then some false else (if a1>0 then ((kh a0.Md a0.Mf).bind fun f=>if f=true then some false else some true) else some true)).bind fun g=>some g)).bind fun h=>if h=true then some 11 else some 0)
theorem kU (a0:bg) (a1:Int) (r:Int) (h:fM a0 a1=some r):aB Tryz.prog 152 #[.agg #[.bool a0.Mk.null,jS a0.Mk.data,jI a0.Mh,jI a0.Md,jI a0.Mf],jI a1] .triv (aI) (fun v A' N=>v=jI r/\A'=aI/\N = []):=by
 refine aS Tryz.func152 Z Tryz.ntmps152 Z ?_;intro F w hX;unfold fM at h;refine Ka Z (TL.box Z .u Z Z (fun b=>(Kk ax Z (T.seq ?_))));obtain⟨z,h,t⟩:=M1 h;refine K7 (fun e Rs=>e = [(1,jI a1),(2,jP b),(4,jI 0),(5,.bool z)]/\Rs = [aR b 27 #[.bool a0.Mk.null,jS a0.Mk.data,jI a0.Mh,jI a0.Md,jI a0.Mf],aI]) ?_ ?_
 ·clear t;refine T.region Z ?_;rcases jF h with⟨A,h⟩ | ⟨A,h⟩
  ·refine Kf ax cc 0 Z 4 Z Z (Kh 9 Z (M4 A) (Kf ax cc 0 Z 5 Z Z ?_));rcases jF h with⟨B,h⟩ | ⟨B,h⟩
   ·cases h;exact TL.nil (K3 (d:=5) (v':= .bool true) Z (congrArg Value.bool (M4 B)) (Kq [0,0]))
   cases h;exact TL.nil (K3 (d:=5) (v':= .bool false) Z (congrArg Value.bool (M5 B)) (Kq [0,0]))
  refine Kf ax cc 0 Z 4 Z Z (Kh 9 Z (M5 A) (Ki ax 5 Z ?_));cases h;exact TL.nil (Kq [0,0])
 rintro _ _ ⟨rfl,rfl⟩;clear h;have h:=t;clear t;refine X.seq (T.seq (T.block (T.seq ?_)));obtain⟨H,h,o⟩:=M1 h;refine K7 (fun e Rs=>e = [(1,jI a1),(2,jP b),(4,jI 0),(5,.bool z),(14,.bool H)]/\Rs = [aR b 27 #[.bool a0.Mk.null,jS a0.Mk.data,jI a0.Mh,jI a0.Md,jI a0.Mf],aI]) ?_ ?_
 ·clear o;refine T.region Z (J9 ax 1 Z (Kb Z (Kp (us:=wL0 a0.Mk) 0 Z NL Nh Z Z Z) Z ?_));obtain⟨L,C,h⟩:=M1 h;refine Kt Z .u (.fn Tryz.call148 Z) (nI a0.Mk _ C) rT Z ?_;rcases jF h with⟨c,h⟩ | ⟨c,h⟩
  ·refine J9 ax 2 Z (Kh 19 Z (bc c) ?_);rcases jF h with⟨f,h⟩ | ⟨f,h⟩
   ·refine Kf ax cc 0 Z 5 Z Z (Kh 24 Z (bc f) (Ki ax 8 Z ?_));cases h;exact TL.nil (Kq [0,0])
   replace f:=M7 f;refine Kf ax cc 0 Z 5 Z Z (Kh 24 Z (bt f) ?_);obtain⟨M,D,h⟩:=M1 h;refine Kf ax cc 0 Z 3 Z Z (Kt Z (.g Z Z Z) (.fn Tryz.call87 Z) (KM (fun w=>mv a0.Mk.data _ D w)) (fun _ _=>Ku _ _) Z (Ki ax 4 Z ?_));rcases jF h with⟨i,h⟩ | ⟨i,h⟩
   ·cases h;exact TL.nil (K3 (d:=14) (v':= .bool false) Z (congrArg Value.bool (bc i)) (Kq [0,0]))
   replace i:=M7 i;cases h;exact TL.nil (K3 (d:=14) (v':= .bool true) Z (congrArg Value.bool (bt i)) (Kq [0,0]))
  replace c:=M7 c;refine J9 ax 2 Z (Kh 19 Z (bt c) (Ki ax 13 Z ?_));cases h;exact TL.nil (Kq [0,0])
 rintro _ _ ⟨rfl,rfl⟩;clear h;have h:=o;clear o;try dsimp only at h
 rcases jF h with⟨j,h⟩ | ⟨j,h⟩
 ·refine X.seq (Kr Z j (Ka Z (J9 ax 1 Z ?_)));obtain rfl:=M2 h;exact Kc (T.ret (Ko (Ke (Km [1] Tryz.results152 (Kd Z)))))
 replace j:=M7 j;refine X.seq (KN Z j (Lq ?_));obtain⟨I,h,p⟩:=M1 h;refine K7 (fun e Rs=>e = [(1,jI a1),(2,jP b),(4,jI 0),(5,.bool z),(32,.bool I)]/\Rs = [aR b 27 #[.bool a0.Mk.null,jS a0.Mk.data,jI a0.Mh,jI a0.Md,jI a0.Mf],aI]) ?_ ?_
 ·clear p;refine T.region Z ?_;rcases jF h with⟨x,h⟩ | ⟨x,h⟩
  ·refine Kf ax cc 0 Z 4 Z Z (Kh 36 Z (M4 x) (Ki ax 6 Z ?_));cases h;exact TL.nil (Kq [0,0])
  refine Kf ax cc 0 Z 4 Z Z (Kh 36 Z (M5 x) ?_);obtain⟨O,E,h⟩:=M1 h;refine Kf ax cc 0 Z 2 Z Z (Kt Z (.g Z Z Z) (.fn Tryz.call101 Z) (KM (fun w=>dG a0.Mh 4 _ E w)) (fun _ _=>Ku _ _) Z (Ki ax 3 Z ?_));rcases jF h with⟨k,h⟩ | ⟨k,h⟩
  ·cases h;exact TL.nil (K3 (d:=32) (v':= .bool false) Z (congrArg Value.bool (bc k)) (Kq [0,0]))
  replace k:=M7 k;cases h;exact TL.nil (K3 (d:=32) (v':= .bool true) Z (congrArg Value.bool (bt k)) (Kq [0,0]))
 rintro _ _ ⟨rfl,rfl⟩;clear h;have h:=p;clear p;refine X.seq ?_;obtain⟨J,h,q⟩:=M1 h;refine K7 (fun e Rs=>e = [(4,jI 0),(32,.bool J)]/\Rs = [aR b 27 #[.bool a0.Mk.null,jS a0.Mk.data,jI a0.Mh,jI a0.Md,jI a0.Mf],aI]) ?_ ?_
 ·clear q;rcases jF h with⟨a,h⟩ | ⟨a,h⟩
  ·refine Kr Z a ?_;cases h;exact T.skip (K3 (d:=32) (v':= .bool true) Z (congrArg Value.bool a) (Kq [0,0]))
  replace a:=M7 a;refine KN Z a ?_;obtain⟨K,h,s⟩:=M1 h;refine K7 (fun e Rs=>e = [(4,jI 0),(32,.bool K)]/\Rs = [aR b 27 #[.bool a0.Mk.null,jS a0.Mk.data,jI a0.Mh,jI a0.Md,jI a0.Mf],aI]) ?_ ?_
  ·clear s;refine T.region Z ?_;rcases jF h with⟨l,h⟩ | ⟨l,h⟩
   ·refine J9 ax 3 Z (Kh 44 Z (bc l) (Ki ax 12 Z ?_));cases h;exact TL.nil (Kq [0,0])
   replace l:=M7 l;refine J9 ax 3 Z (Kh 44 Z (bt l) ?_);rcases jF h with⟨y,h⟩ | ⟨y,h⟩
   ·refine Ki ax 3 Z (Kh 47 Z (M4 y) ?_);obtain⟨P,G,h⟩:=M1 h;refine Kf ax cc 0 Z 4 Z Z (Kt Z (.g Z Z Z) (.fn Tryz.call192 Z) (kA a0.Md a0.Mf _ G) rT Z (Ki ax 4 Z ?_));rcases jF h with⟨m,h⟩ | ⟨m,h⟩
    ·cases h;exact TL.nil (K3 (d:=32) (v':= .bool false) Z (congrArg Value.bool (bc m)) (Kq [0,0]))
    replace m:=M7 m;cases h;exact TL.nil (K3 (d:=32) (v':= .bool true) Z (congrArg Value.bool (bt m)) (Kq [0,0]))
   refine Ki ax 3 Z (Kh 47 Z (M5 y) (Ki ax 9 Z ?_));cases h;exact TL.nil (Kq [0,0])
  rintro _ _ ⟨rfl,rfl⟩;clear h;have h:=s;clear s;try dsimp only at h
  cases h;exact Kq [0,0]
 rintro _ _ ⟨rfl,rfl⟩;clear h;have h:=q;clear q;try dsimp only at h
 rcases jF h with⟨n,h⟩ | ⟨n,h⟩
 ·refine X.seq (Kr Z n (Ka Z (J9 ax 1 Z ?_)));obtain rfl:=M2 h;exact Kc (T.ret (Ko (Ke (Km [1] Tryz.results152 (Kd Z)))))
 replace n:=M7 n;refine X.seq (KN Z n (T.skip (KD (X.seq (Ka Z (J9 ax 1 Z ?_))))));obtain rfl:=M2 h;exact Kc (T.ret (Km [1] Tryz.results152 (Kd Z)))
def lk (st:AI×Int) (a0:bg) (a2:Int):Option (AI×Int):=(fM a0 a2).bind fun g=>(mZ st g).bind fun (h,b)=>if h=true then some b else ((mC b a0.Mk 2).bind fun f=>(ed f a0.Mh 4).bind fun a=>(if a2>0 then ((ed a a0.Md 8).bind fun c=>(ed c a0.Mf 2).bind fun d=>some d) else some a).bind fun e=>some e)
theorem qa (g:Nat) (st:AI×Int) (a0:bg) (a2:Int) (r:AI×Int) (h:lk st a0 a2=some r):aB Tryz.prog 96 #[.agg #[.bool a0.Mk.null,jS a0.Mk.data,jI a0.Mh,jI a0.Md,jI a0.Mf],jP g,jI a2] .triv (bz g st) (fun v A' N=>v= .tuple #[]/\A'=bz g r/\N = []):=by
 refine aS Tryz.func96 Z Tryz.ntmps96 Z ?_;intro F w hX;unfold lk at h;refine Ka Z (TL.box Z .u Z Z (fun s=>(Kc (T.seq (Ka Z (J9 ax 1 Z (Kb Z (Kp (us := [.bool a0.Mk.null,jS a0.Mk.data,jI a0.Mh,jI a0.Md,jI a0.Mf]) 0 Z P7 OU Z Z Z) Z ?_)))))));obtain⟨t,m,h⟩:=M1 h;refine J9 ax 1 Z (Kt Z .u (.fn Tryz.call152 Z) (kU a0 a2 _ m) rT Z ?_);obtain⟨⟨y,n⟩,o,h⟩:=M1 h;refine Kn 1 Z Z .u (.fn Tryz.call151 Z) (l9 g st t _ o) sT Z Z ?_;rcases jF h with⟨b,h⟩ | ⟨b,h⟩
 ·refine Kc (Kr Z b ?_);obtain rfl:=M2 h;exact T.ret (Ke (Lm [1] Tryz.results96 ⟨Z,Z,Z⟩ QL (.inl Z)))
 replace b:=M7 b;refine Kc (KN Z b (Kv Z (J9 ax 2 Z (Kb Z (Kp (us:=wL0 a0.Mk) 0 Z NL Nh Z Z Z) Z ?_))));obtain⟨p,q,h⟩:=M1 h;refine Kn 1 Z Z .u (.fn Tryz.call95 Z) (kp g n a0.Mk 2 _ q) sT Z Z (Ky Z ?_);obtain⟨d,f,h⟩:=M1 h;refine Kf ax cc 0 Z 3 Z Z (Kn 1 Z Z .u (.fn Tryz.call51 Z) (bu g p a0.Mh 4 _ f) sT Z Z (Ky Z (Kk ax Z ?_)));obtain⟨i,h,a⟩:=M1 h;refine K7 (fun e Rs=>e = []/\Rs = [aR s 27 #[.bool a0.Mk.null,jS a0.Mk.data,jI a0.Mh,jI a0.Md,jI a0.Mf],bz g i]) ?_ ?_
 ·clear a;rcases jF h with⟨c,h⟩ | ⟨c,h⟩
  ·refine Lx Z c (Ka Z ?_);obtain⟨j,k,h⟩:=M1 h;refine Kf ax cc 0 Z 3 Z Z (Kn 1 Z Z .u (.fn Tryz.call51 Z) (bu g d a0.Md 8 _ k) sT Z Z (Kc (T.region Z ?_)));obtain⟨x,l,h⟩:=M1 h;refine Kf ax cc 0 Z 3 Z Z (Kn 1 Z Z .u (.fn Tryz.call51 Z) (bu g j a0.Mf 2 _ l) sT Z Z ?_);cases h;exact TL.nil (Kq [0,0])
  refine LC Z c ?_;cases h;exact T.skip (Kq [0,0])
 rintro _ _ ⟨rfl,rfl⟩;clear h;have h:=a;clear a;obtain rfl:=M2 h;exact Lm [1] Tryz.results96 ⟨Z,Z,Z⟩ QL (.inr Z)
def ll (a0:List Top):Option (Int):=if (a0.length:Int)=0 then some 10 else ((jO (⟨0,0,0,1,a0,0,0⟩:Val)).bind fun a=>some a)
theorem pH (a0:List Top) (a:AT) (c2:Nat) (r:Int) (h:ll a0=some r):aB Tryz.prog 210 #[.slice a a0.length c2] (RX.of (ar 2 aU) [.slice a a0.length c2] a0) (aI) (fun v A' N=>v=jI r/\A'=aI/\N = []):=by
 refine aS Tryz.func210 Z Tryz.ntmps210 Z ?_;intro F w hX;unfold ll at h;refine Ka Z (Kk ax Z (T.seq (Ka Z (J9 ax 1 Z (Kb Z (KC Z Nr) Z (J9 ax 1 Z ?_))))));rcases jF h with⟨b,h⟩ | ⟨b,h⟩
 ·refine KE Z b (Ka Z (J9 ax 1 Z ?_));obtain rfl:=M2 h;exact Kc (T.ret (Ke (Km [0] Tryz.results210 (Kd Z))))
 refine KA Z b (Kv Z (J9 ax 1 Z ?_));refine Kb Z (KH (cells:= #[jI 0,jI 0,jI 0,jI 1,.slice a a0.length c2,jI 0,jI 0]) BJ Z QK) Z ?_;refine TL.alloc Z .u Tryz.zeroValue103 Z (fun d=>(Kj 0 Z (cs':= #[jI 0,jI 0,jI 0,jI 1,.slice a a0.length c2,jI 0,jI 0]) Z .u Z Z Tryz.sizeOf103 Z Z Z Z Z (Ky Z (Kb Z (Kp (us := [jI 0,jI 0,jI 0,jI 1,.slice a a0.length c2,jI 0,jI 0]) 0 Z Tryz.isAgg103 Tryz.sizeOf103 Z Z Z) Z ?_))));obtain⟨e,c,h⟩:=M1 h;refine Kt Z .u (.fn Tryz.call90 Z) (sk (⟨0,0,0,1,a0,0,0⟩:Val) _ _ _ c) (fun _ hs=>(KL hs hX)) Z (J9 ax 1 Z ?_);obtain rfl:=M2 h;exact Kc (T.ret (Km [1] Tryz.results210 (Kd Z)))
def gL (a0:bU):Option (Int):=(nJ a0.Mk).bind fun b=>if b=true then ((kh a0.Md a0.Mf).bind fun c=>if c=true then ((ll a0.Mc).bind fun a=>some a) else some 11) else some 4
theorem mp (a0:bU) (d:AT) (c2:Nat) (r:Int) (h:gL a0=some r):aB Tryz.prog 170 #[.agg (wA14 a0 d c2)] (RX.of (ar 2 aU) [.slice d a0.Mc.length c2] a0.Mc) (aI) (fun v A' N=>v=jI r/\A'=aI/\N = []):=by
 refine aS Tryz.func170 Z Tryz.ntmps170 Z ?_;intro F w hX;unfold gL at h;refine Ka Z (TL.box Z .u Z Z (fun i=>(Kk ax Z (T.seq (T.block (Ka Z ?_))))));obtain⟨j,e,h⟩:=M1 h;refine Kf ax cc 0 Z 2 Z Z (Kt Z .u (.fn Tryz.call87 Z) (KM (fun w=>mv a0.Mk _ e w)) (fun _ _=>Ku _ _) Z (J9 ax 2 Z ?_));rcases jF h with⟨a,h⟩ | ⟨a,h⟩
 ·refine Kc (KN Z (bc a) (Ka Z ?_));obtain⟨k,f,h⟩:=M1 h;refine Kf ax cc 0 Z 4 Z Z (Kt Z .u (.fn Tryz.call192 Z) (kA a0.Md a0.Mf _ f) rT Z (J9 ax 2 Z ?_));rcases jF h with⟨b,h⟩ | ⟨b,h⟩
  ·refine Kc (KN Z (bc b) (T.skip (KD (X.seq (Ka Z ?_)))));obtain⟨g,c,h⟩:=M1 h;refine Kf ax cc 0 Z 2 Z Z (Kt Z .u (.fn Tryz.call210 Z) (pH a0.Mc _ _ _ c) (fun _ hs=>(KL hs hX)) Z (J9 ax 1 Z ?_));obtain rfl:=M2 h;exact Kc (T.ret (Km [1] Tryz.results170 (Kd Z)))
  replace b:=M7 b;refine Kc (Kr Z (bt b) (Ka Z (J9 ax 1 Z ?_)));obtain rfl:=M2 h;exact Kc (T.ret (Ko (Ke (Km [1] Tryz.results170 (Kd Z)))))
 replace a:=M7 a;refine Kc (Kr Z (bt a) (Ka Z (J9 ax 1 Z ?_)));obtain rfl:=M2 h;exact Kc (T.ret (Ko (Ke (Km [1] Tryz.results170 (Kd Z)))))
def j3 (st:AI×Int) (a1:bU):Option (Bool×(AI×Int)):=(gL a1).bind fun b=>(mZ st b).bind fun (c,a)=>some (c,a)
theorem oN (g:Nat) (st:AI×Int) (a1:bU) (a:AT) (c2:Nat) (r:Bool×(AI×Int)) (h:j3 st a1=some r):aB Tryz.prog 153 #[jP g,.iface 30 (.agg (wA14 a1 a c2))] (RX.of (ar 2 aU) [.slice a a1.Mc.length c2] a1.Mc) (bz g st) (fun v A' N=>v= .bool r.1/\A'=bz g r.2/\N = []):=by
 refine aS Tryz.func153 Z Tryz.ntmps153 Z ?_;intro F w hX;unfold j3 at h;refine Ka Z (KJ ax Z Z ?_);obtain⟨d,b,h⟩:=M1 h;refine J9 ax 2 Z (Kt Z .u (.inv Z (tb _) Tryz.call170 Z) (mp a1 _ _ _ b) (fun _ hs=>(KL hs hX)) Z ?_);obtain⟨⟨f,e⟩,c,h⟩:=M1 h;refine Kn 0 Z Z .u (.fn Tryz.call151 Z) (l9 g st d _ c) sT Z Z (J9 ax 1 Z ?_);obtain rfl:=M2 h;exact Kc (T.ret (Km [0] Tryz.results153 (Kd Z)))
def m0 (st:AI×Int) (a0:bU):Option (AI×Int):=(j3 st a0).bind fun (f,a)=>if f=true then some a else ((oh a a0.Mk).bind fun e=>(ed e a0.Md 8).bind fun b=>(ed b a0.Mf 2).bind fun c=>(iO c a0.Mc).bind fun d=>some d)
theorem rq (g:Nat) (st:AI×Int) (a0:bU) (b:AT) (c2:Nat) (r:AI×Int) (h:m0 st a0=some r):aB Tryz.prog 97 #[.agg (wA14 a0 b c2),jP g] (RX.of (ar 2 aU) [.slice b a0.Mc.length c2] a0.Mc) (bz g st) (fun v A' N=>v= .tuple #[]/\A'=bz g r/\N = []):=by
 refine aS Tryz.func97 Z Tryz.ntmps97 Z ?_;intro F w hX;unfold m0 at h;refine Ka Z (TL.box Z .u Z Z (fun o=>(Kc (T.seq (Ka Z (J9 ax 1 Z (Kb Z (Kp (us:=wL15 a0 b c2) 0 Z P8 OV Z Z Z) Z (Kb Z (Ex.mkI Z Or) Z ?_))))))));obtain⟨⟨p,j⟩,k,h⟩:=M1 h;refine Kn 1 Z Z .u (.fn Tryz.call153 Z) (oN g st a0 _ _ _ k) (fun _ hs=>(LI hs hX)) Z Z ?_;rcases jF h with⟨a,h⟩ | ⟨a,h⟩
 ·refine Kc (Kr Z a ?_);obtain rfl:=M2 h;exact T.ret (Ke (Lm [1] Tryz.results97 ⟨Z,Z,Z⟩ QL (.inl Z)))
 replace a:=M7 a;refine Kc (KN Z a (Kv Z ?_));obtain⟨l,m,h⟩:=M1 h;refine Kf ax cc 0 Z 3 Z Z (Kn 1 Z Z .u (.fn Tryz.call88 Z) (ly g j a0.Mk _ m) sT Z Z (Ky Z ?_));obtain⟨c,d,h⟩:=M1 h;refine Kf ax cc 0 Z 3 Z Z (Kn 1 Z Z .u (.fn Tryz.call51 Z) (bu g l a0.Md 8 _ d) sT Z Z (Ky Z ?_));obtain⟨e,f,h⟩:=M1 h;refine Kf ax cc 0 Z 3 Z Z (Kn 1 Z Z .u (.fn Tryz.call51 Z) (bu g c a0.Mf 2 _ f) sT Z Z (Kc (T.region Z ?_)));obtain⟨n,i,h⟩:=M1 h;refine Kf ax cc 0 Z 3 Z Z (Kn 1 Z Z .u (.fn Tryz.call91 Z) (kz g e a0.Mc _ _ _ i) (fun _ hs=>(LI hs hX)) Z Z ?_);obtain rfl:=M2 h;exact TL.nil (Lm [1] Tryz.results97 ⟨Z,Z,Z⟩ QL (.inr Z))
def lz (st:AI×Int) (a1:Bool):Option (AI×Int):=(if a1=true then ((wK st 1).bind fun b=>some b) else ((wK st 0).bind fun a=>some a)).bind fun c=>some c
theorem m1 (g:Nat) (st:AI×Int) (a1:Bool) (r:AI×Int) (h:lz st a1=some r):aB Tryz.prog 154 #[jP g,.bool a1] .triv (bz g st) (fun v A' N=>v= .tuple #[]/\A'=bz g r/\N = []):=by
 refine aS Tryz.func154 Z Tryz.ntmps154 Z ?_;intro F w hX;unfold lz at h;refine Ka Z (Kk ax Z ?_);obtain⟨f,h,a⟩:=M1 h;refine K7 (fun e Rs=>e = []/\Rs = [bz g f]) ?_ ?_
 ·clear a;rcases jF h with⟨b,h⟩ | ⟨b,h⟩
  ·refine Kr Z b (T.region Z ?_);obtain⟨j,c,h⟩:=M1 h;refine J9 ax 1 Z (Kn 0 Z Z .u (.fn Tryz.call102 Z) (qn g st 1 _ c) sT Z Z ?_);cases h;exact TL.nil (Kq [0])
  replace b:=M7 b;refine KN Z b (T.region Z ?_);obtain⟨i,d,h⟩:=M1 h;refine J9 ax 1 Z (Kn 0 Z Z .u (.fn Tryz.call102 Z) (qn g st 0 _ d) sT Z Z ?_);cases h;exact TL.nil (Kq [0])
 rintro _ _ ⟨rfl,rfl⟩;clear h;have h:=a;clear a;obtain rfl:=M2 h;exact Lm [0] Tryz.results154 ⟨Z,Z,Z⟩ QL (.inr Z)
def gM (a0:bT):Option (Int):=(nJ a0.Mk).bind fun a=>if a=true then ((kh a0.Md a0.Mf).bind fun b=>if b=true then some 0 else some 11) else some 4
theorem mq (a0:bT) (r:Int) (h:gM a0=some r):aB Tryz.prog 172 #[.agg (wA16 a0)] .triv (aI) (fun v A' N=>v=jI r/\A'=aI/\N = []):=by
 refine aS Tryz.func172 Z Tryz.ntmps172 Z ?_;intro F w hX;unfold gM at h;refine Ka Z (TL.box Z .u Z Z (fun e=>(Kk ax Z (T.seq (T.block (Ka Z ?_))))));obtain⟨f,c,h⟩:=M1 h;refine Kf ax cc 0 Z 2 Z Z (Kt Z .u (.fn Tryz.call87 Z) (KM (fun w=>mv a0.Mk _ c w)) (fun _ _=>Ku _ _) Z (J9 ax 2 Z ?_));rcases jF h with⟨a,h⟩ | ⟨a,h⟩
 ·refine Kc (KN Z (bc a) (Ka Z ?_));obtain⟨g,d,h⟩:=M1 h;refine Kf ax cc 0 Z 4 Z Z (Kt Z .u (.fn Tryz.call192 Z) (kA a0.Md a0.Mf _ d) rT Z (J9 ax 2 Z ?_));rcases jF h with⟨b,h⟩ | ⟨b,h⟩
  ·refine Kc (KN Z (bc b) (T.skip (KD (X.seq (Ka Z (J9 ax 1 Z ?_))))));obtain rfl:=M2 h;exact Kc (T.ret (Km [1] Tryz.results172 (Kd Z)))
  replace b:=M7 b;refine Kc (Kr Z (bt b) (Ka Z (J9 ax 1 Z ?_)));obtain rfl:=M2 h;exact Kc (T.ret (Ko (Ke (Km [1] Tryz.results172 (Kd Z)))))
 replace a:=M7 a;refine Kc (Kr Z (bt a) (Ka Z (J9 ax 1 Z ?_)));obtain rfl:=M2 h;exact Kc (T.ret (Ko (Ke (Km [1] Tryz.results172 (Kd Z)))))
def j4 (st:AI×Int) (a1:bT):Option (Bool×(AI×Int)):=(gM a1).bind fun b=>(mZ st b).bind fun (c,a)=>some (c,a)
theorem oO (g:Nat) (st:AI×Int) (a1:bT) (r:Bool×(AI×Int)) (h:j4 st a1=some r):aB Tryz.prog 153 #[jP g,.iface 32 (.agg (wA16 a1))] .triv (bz g st) (fun v A' N=>v= .bool r.1/\A'=bz g r.2/\N = []):=by
 refine aS Tryz.func153 Z Tryz.ntmps153 Z ?_;intro F w hX;unfold j4 at h;refine Ka Z (KJ ax Z Z ?_);obtain⟨c,a,h⟩:=M1 h;refine J9 ax 2 Z (Kt Z .u (.inv Z (tc _) Tryz.call172 Z) (mq a1 _ a) rT Z ?_);obtain⟨⟨e,d⟩,b,h⟩:=M1 h;refine Kn 0 Z Z .u (.fn Tryz.call151 Z) (l9 g st c _ b) sT Z Z (J9 ax 1 Z ?_);obtain rfl:=M2 h;exact Kc (T.ret (Km [0] Tryz.results153 (Kd Z)))
def m4 (st:AI×Int) (a0:bT):Option (AI×Int):=(j4 st a0).bind fun (f,a)=>if f=true then some a else ((oh a a0.Mk).bind fun d=>(ed d a0.Md 8).bind fun e=>(ed e a0.Mf 2).bind fun b=>(lz b a0.Mx).bind fun c=>some c)
theorem rr (g:Nat) (st:AI×Int) (a0:bT) (r:AI×Int) (h:m4 st a0=some r):aB Tryz.prog 98 #[.agg (wA16 a0),jP g] .triv (bz g st) (fun v A' N=>v= .tuple #[]/\A'=bz g r/\N = []):=by
 refine aS Tryz.func98 Z Tryz.ntmps98 Z ?_;intro F w hX;unfold m4 at h;refine Ka Z (TL.box Z .u Z Z (fun n=>(Kc (T.seq (Ka Z (J9 ax 1 Z (Kb Z (Kp (us:=wL17 a0) 0 Z P9 OW Z Z Z) Z (Kb Z (Ex.mkI Z Ok) Z ?_))))))));obtain⟨⟨o,e⟩,f,h⟩:=M1 h;refine Kn 1 Z Z .u (.fn Tryz.call153 Z) (oO g st a0 _ f) sT Z Z ?_;rcases jF h with⟨a,h⟩ | ⟨a,h⟩
 ·refine Kc (Kr Z a ?_);obtain rfl:=M2 h;exact T.ret (Ke (Lm [1] Tryz.results98 ⟨Z,Z,Z⟩ QL (.inl Z)))
 replace a:=M7 a;refine Kc (KN Z a (Kv Z ?_));obtain⟨i,j,h⟩:=M1 h;refine Kf ax cc 0 Z 3 Z Z (Kn 1 Z Z .u (.fn Tryz.call88 Z) (ly g e a0.Mk _ j) sT Z Z (Ky Z ?_));obtain⟨k,l,h⟩:=M1 h;refine Kf ax cc 0 Z 3 Z Z (Kn 1 Z Z .u (.fn Tryz.call51 Z) (bu g i a0.Md 8 _ l) sT Z Z (Ky Z ?_));obtain⟨b,c,h⟩:=M1 h;refine Kf ax cc 0 Z 3 Z Z (Kn 1 Z Z .u (.fn Tryz.call51 Z) (bu g k a0.Mf 2 _ c) sT Z Z (Kc (T.region Z ?_)));obtain⟨m,d,h⟩:=M1 h;refine Kf ax cc 0 Z 3 Z Z (Kn 1 Z Z .u (.fn Tryz.call154 Z) (m1 g b a0.Mx _ d) sT Z Z ?_);obtain rfl:=M2 h;exact TL.nil (Lm [1] Tryz.results98 ⟨Z,Z,Z⟩ QL (.inr Z))
def im (a0:bg) (a1:Int):Option (Int):=(fM a0 a1).bind fun a=>some a
theorem oP (a0:bg) (ba0:Nat) (a1:Int) (ba1:Nat) (r:Int) (h:im a0 a1=some r):aB Tryz.prog 169 #[jP ba0,jP ba1] (RX.and (RX.blk ba0 27 #[.bool a0.Mk.null,jS a0.Mk.data,jI a0.Mh,jI a0.Md,jI a0.Mf]) (RX.blk ba1 3 #[jI a1])) (aI) (fun v A' N=>v=jI r/\A'=aI/\N = []):=by
 refine aS Tryz.func169 Z Tryz.ntmps169 Z ?_;intro F w hX;unfold im at h;refine Ka Z (KJ ax Z Z (Kb Z (Ex.xbS (us := [.bool a0.Mk.null,jS a0.Mk.data,jI a0.Mh,jI a0.Md,jI a0.Mf]) (K8 hX) Z P7 OU Z Z) Z (Kb Z (Ex.xb1 (KP hX) Z Nc Z) Z ?_)));obtain⟨b,a,h⟩:=M1 h;refine Kt Z .u (.fn Tryz.call152 Z) (kU a0 a1 _ a) rT Z (J9 ax 1 Z ?_);obtain rfl:=M2 h;exact Kc (T.ret (Km [0] Tryz.results169 (Kd Z)))
def cH (st:I) (a1_0:bg) (a1_1:Int):Option (Bool×I):=(iG st).bind fun (d,a)=>if d=0 then ((im a1_0 a1_1).bind fun b=>if b=0 then some (true,a) else ((ci a b).bind fun c=>some (false,c))) else some (false,a)
theorem kB (g:Nat) (st:I) (a1_0:bg) (ba1_0:Nat) (a1_1:Int) (ba1_1:Nat) (r:Bool×I) (h:cH st a1_0 a1_1=some r):aB Tryz.prog 168 #[jP g,.func (.func 169) #[] #[jP ba1_0,jP ba1_1]] (RX.and (RX.blk ba1_0 27 #[.bool a1_0.Mk.null,jS a1_0.Mk.data,jI a1_0.Mh,jI a1_0.Md,jI a1_0.Mf]) (RX.blk ba1_1 3 #[jI a1_1])) (InR g st) (fun v A' N=>v= .bool r.1/\A'=InR g r.2/\N = []):=by
 refine aS Tryz.func168 Z Tryz.ntmps168 Z ?_;intro F w hX;unfold cH at h;refine Ka Z (Kk ax Z (T.seq (Ka Z ?_)));obtain⟨⟨k,c⟩,d,h⟩:=M1 h;refine J9 ax 1 Z (Kn 0 Z Z .u (.fn Tryz.call23 Z) (cz g st _ d) sT Z Z (J9 ax 1 Z ?_));rcases jF h with⟨a,h⟩ | ⟨a,h⟩
 ·refine KG Z a (Kw (T.seq (Ka Z ?_)));obtain⟨i,e,h⟩:=M1 h;refine J9 ax 1 Z (Kt Z .u (.val Z Tryz.call169 Z Z) (oP a1_0 ba1_0 a1_1 ba1_1 _ e) (fun _ hs=>(La (KL hs (K8 hX)) (KL hs (KP hX)))) Z (KJ ax Z Z (J9 ax 2 Z ?_)));rcases jF h with⟨b,h⟩ | ⟨b,h⟩
  ·refine KG Z b (Kv Z (J9 ax 1 Z ?_));obtain rfl:=M2 h;exact Kc (T.ret (Km [0] Pc (Kd Z)))
  refine KF Z b (Ka Z ?_);obtain⟨j,f,h⟩:=M1 h;refine J9 ax 2 Z (Kn 0 Z Z .u (.fn Tryz.call70 Z) (bD g c i _ f) sT Z Z (Ky Z (J9 ax 1 Z ?_)));obtain rfl:=M2 h;exact Kc (T.ret (Ke (Km [0] Pc (Kd Z))))
 refine KF Z a (Ka Z (J9 ax 1 Z ?_));obtain rfl:=M2 h;exact Kc (T.ret (Ke (Km [0] Pc (Kd Z))))
def eK (st:I) (a1:Int):Option (bg×I):=(lc st 2).bind fun (h,i)=>(ea i 4).bind fun (j,b)=>(if a1>0 then ((ea b 8).bind fun (k,e)=>(ea e 2).bind fun (l,f)=>some (k,l,f)) else ((some (-1,-1,b):Option (Int×Int×I)))).bind fun (c,d,g)=>(cH g (⟨h,j,c,d⟩:bg) a1).bind fun (m,a)=>if m=true then (some ((⟨h,j,c,d⟩:bg),a)) else (some ((⟨(⟨false,[]⟩:Bl),0,0,0⟩:bg),a))
theorem qF (g:Nat) (st:I) (a1:Int) (r:bg×I) (h:eK st a1=some r):aB Tryz.prog 116 #[jP g,jI a1] .triv (InR g st) (fun v A' N=>v= .agg #[.bool r.1.Mk.null,jS r.1.Mk.data,jI r.1.Mh,jI r.1.Md,jI r.1.Mf]/\A'=InR g r.2/\N = []):=by
 refine aS Tryz.func116 Z Tryz.ntmps116 Z ?_;intro F w hX;unfold eK at h;refine Ka Z (TL.box Z .u Z Z (fun m=>(TL.alloc Z .u Tryz.zeroValue27 Z (fun t=>(Ky Z ?_)))));obtain⟨⟨a,x⟩,y,h⟩:=M1 h;refine J9 ax 1 Z (Kn 2 Z Z .u (.fn Tryz.call142 Z) (j8 g st 2 _ y) sT Z Z ?_);obtain⟨⟨b,z⟩,A,h⟩:=M1 h;refine J9 ax 1 Z (Kn 2 Z Z .u (.fn Tryz.call68 Z) (bw g x 4 _ A) sT Z Z ?_);refine Kb Z (KH (cells:= #[.bool a.null,jS a.data,jI b,jI (-1),jI (-1)]) xf Z QK) Z ?_;refine TL.alloc Z .u Tryz.zeroValue27 Z (fun n=>(Kj 0 Z (cs':= #[.bool a.null,jS a.data,jI b,jI (-1),jI (-1)]) Z .u Z Z OU Z Z Z Z Z (Kc (T.seq (Ka Z (Lw ax cc 2 Z Z Z ?_))))));obtain⟨⟨c,d,j⟩,h,i⟩:=M1 h;refine K7 (fun e Rs=>e = [(0,jP g),(3,jP m),(4,jP t),(5,jP n)]/\Rs = [aR n 27 (vA30 b c d a),aR t 27 vA31,aR m 3 #[jI a1],InR g j]) ?_ ?_
 ·clear i;rcases jF h with⟨k,h⟩ | ⟨k,h⟩
  ·refine Lx Z k (T.region Z ?_);obtain⟨⟨l,o⟩,p,h⟩:=M1 h;refine J9 ax 1 Z (Kn 3 Z Z .u (.fn Tryz.call68 Z) (bw g z 8 _ p) sT Z Z ?_);obtain⟨⟨B,C⟩,q,h⟩:=M1 h;refine J9 ax 1 Z (Kn 3 Z Z .u (.fn Tryz.call68 Z) (bw g o 2 _ q) sT Z Z (J9 ax 1 Z (Kj 0 Z (cs':= #[.bool a.null,jS a.data,jI b,jI l,jI (-1)]) Z .u Z Z M9 Z Z Z Z Z (J9 ax 1 Z (Kj 0 Z (cs':=vA30 b l B a) Z .u Z Z M9 Z Z Z Z Z ?_)))));cases h;exact TL.nil (Kq [0,0,0,0])
  refine LC Z k ?_;cases h;exact T.skip (Kq [0,0,0,0])
 rintro _ _ ⟨rfl,rfl⟩;clear h;have h:=i;clear i;refine X.seq (T.seq (Ka Z (J9 ax 1 Z (Kb Z (Ex.mkF Z Z (fun _=>Z)) Z ?_))));obtain⟨⟨E,D⟩,s,h⟩:=M1 h;refine Kn 3 Z Z .u (.fn Tryz.call168 Z) (kB g j (⟨a,b,c,d⟩:bg) n a1 m _ s) (fun _ hs=>(Src.and (Src.res 0 Z yW) (Src.res 2 Z yW))) Z Z (J9 ax 1 Z ?_);rcases jF h with⟨f,h⟩ | ⟨f,h⟩
 ·refine Kc (KN Z (bc f) (Kv Z (Kb Z (Kp (us := [.bool a.null,jS a.data,jI b,jI c,jI d]) 0 Z P7 OU Z Z Z) Z (Kj 1 Z (cs':=vA30 b c d a) Z .u Z Z OU Z Z Z Z Z ?_))));obtain rfl:=M2 h;exact Kc (T.ret (Km [3] Tryz.results116 (Kz (us:=vA30 b c d a) 1 Z P7 OU Z Z)))
 replace f:=M7 f;refine Kc (Kr Z (bt f) (Ka Z ?_));refine Kb Z (KH (cells:=vA31) xf Z QK) Z ?_;refine Kj 1 Z (cs':=vA31) Z .u Z Z OU Z Z Z Z Z ?_;obtain rfl:=M2 h;exact Kc (T.ret (Ke (Km [3] Tryz.results116 (Kz (us:=vA31) 1 Z P7 OU Z Z))))
def cU (st:I) (a1_0:bU):Option (Bool×I):=(iG st).bind fun (d,a)=>if d=0 then ((gL a1_0).bind fun c=>if c=0 then some (true,a) else ((ci a c).bind fun b=>some (false,b))) else some (false,a)
theorem lm (g:Nat) (st:I) (a1_0:bU) (d:AT) (c2:Nat) (r:Bool×I) (h:cU st a1_0=some r):aB Tryz.prog 168 #[jP g,.func (.func 170) #[.agg (wA14 a1_0 d c2)] #[]] (RX.of (ar 2 aU) [.slice d a1_0.Mc.length c2] a1_0.Mc) (InR g st) (fun v A' N=>v= .bool r.1/\A'=InR g r.2/\N = []):=by
 refine aS Tryz.func168 Z Tryz.ntmps168 Z ?_;intro F w hX;unfold cU at h;refine Ka Z (Kk ax Z (T.seq (Ka Z ?_)));obtain⟨⟨l,e⟩,f,h⟩:=M1 h;refine J9 ax 1 Z (Kn 0 Z Z .u (.fn Tryz.call23 Z) (cz g st _ f) sT Z Z (J9 ax 1 Z ?_));rcases jF h with⟨a,h⟩ | ⟨a,h⟩
 ·refine KG Z a (Kw (T.seq (Ka Z ?_)));obtain⟨j,i,h⟩:=M1 h;refine J9 ax 1 Z (Kt Z .u (.val Z Tryz.call170 Z Z) (mp a1_0 _ _ _ i) (fun _ hs=>(KL hs hX)) Z (KJ ax Z Z (J9 ax 2 Z ?_)));rcases jF h with⟨b,h⟩ | ⟨b,h⟩
  ·refine KG Z b (Kv Z (J9 ax 1 Z ?_));obtain rfl:=M2 h;exact Kc (T.ret (Km [0] Pc (Kd Z)))
  refine KF Z b (Ka Z ?_);obtain⟨k,c,h⟩:=M1 h;refine J9 ax 2 Z (Kn 0 Z Z .u (.fn Tryz.call70 Z) (bD g e j _ c) sT Z Z (Ky Z (J9 ax 1 Z ?_)));obtain rfl:=M2 h;exact Kc (T.ret (Ke (Km [0] Pc (Kd Z))))
 refine KF Z a (Ka Z (J9 ax 1 Z ?_));obtain rfl:=M2 h;exact Kc (T.ret (Ke (Km [0] Pc (Kd Z))))
def lA (st:I)  : Option (bU×I):=(sR st).bind fun (d,e)=>(ea e 8).bind fun (f,g)=>(ea g 2).bind fun (h,i)=>(dV i).bind fun (b,c)=>(cU c (⟨d,f,h,b⟩:bU)).bind fun (j,a)=>if j=true then (some ((⟨d,f,h,b⟩:bU),a)) else (some ((⟨[],0,0,[]⟩:bU),a))
theorem sn (g:Nat) (st:I)  (r:bU×I) (h:lA st  = some r):aB Tryz.prog 117 #[jP g] .triv (InR g st) (fun v A' N=> ∃ (j:AT) (k:Nat),v= .agg #[jS r.1.Mk,jI r.1.Md,jI r.1.Mf,.slice j r.1.Mc.length k]/\A'=InR g r.2/\N = [RdR (ar 2 aU) [.slice j r.1.Mc.length k] r.1.Mc]):=by
 refine aS Tryz.func117 Z Tryz.ntmps117 Z ?_;intro F w hX;unfold lA at h;refine Ka Z (TL.alloc Z .u Tryz.zeroValue30 Z (fun B=>(Ky Z ?_)));obtain⟨⟨b,p⟩,q,h⟩:=M1 h;refine J9 ax 1 Z (Kn 1 Z Z .u (.fn Tryz.call86 Z) (o9 g st _ q) sT Z Z ?_);obtain⟨⟨c,s⟩,t,h⟩:=M1 h;refine J9 ax 1 Z (Kn 1 Z Z .u (.fn Tryz.call68 Z) (bw g p 8 _ t) sT Z Z ?_);obtain⟨⟨d,x⟩,l,h⟩:=M1 h;refine J9 ax 1 Z (Kn 1 Z Z .u (.fn Tryz.call68 Z) (bw g s 2 _ l) sT Z Z ?_);refine Kb Z (KH (cells:= #[jS b,jI c,jI d,A5]) xg Z QK) Z ?_;refine TL.alloc Z .u Tryz.zeroValue30 Z (fun z=>(Kj 0 Z (cs':= #[jS b,jI c,jI d,A5]) Z .u Z Z OV Z Z Z Z Z (Ky Z ?_)));obtain⟨⟨a,m⟩,n,h⟩:=M1 h;refine J9 ax 1 Z (TL.cg2 Z .u (.fn Tryz.call89 Z) (mo g x _ n) sT Z ?_);rintro _ _ _ ⟨e,f,rfl,rfl,rfl⟩;refine KK [0,0,0,0] Z (J9 ax 1 Z (Kj 1 Z (cs':= #[jS b,jI c,jI d,.slice e a.length f]) Z .u Z Z O4 Z Z Z Z Z (Kc (T.seq (Ka Z (J9 ax 1 Z (Kb Z (Kp (us := [jS b,jI c,jI d,.slice e a.length f]) 1 Z P8 OV Z Z Z) Z (Kb Z (Ex.mkF Z Z (fun _=>Z)) Z ?_))))))));obtain⟨⟨A,y⟩,o,h⟩:=M1 h;refine Kn 3 Z Z .u (.fn Tryz.call168 Z) (lm g m (⟨b,c,d,a⟩:bU) _ _ _ o) (fun _ hs=>(Src.res 0 Z (fun w G h=>et w G h))) Z Z (J9 ax 1 Z ?_);rcases jF h with⟨i,h⟩ | ⟨i,h⟩
 ·refine Kc (KN Z (bc i) (Kv Z (Kb Z (Kp (us := [jS b,jI c,jI d,.slice e a.length f]) 1 Z P8 OV Z Z Z) Z (Kj 2 Z (cs':= #[jS b,jI c,jI d,.slice e a.length f]) Z .u Z Z OV Z Z Z Z Z ?_))));obtain rfl:=M2 h;exact Kc (T.ret (Ks [3,0] Tryz.results117 (Kz (us:= #[jS b,jI c,jI d,.slice e a.length f]) 2 Z P8 OV Z Z) ⟨_,_,Z,Z,Z⟩ QL (.inl Z)))
 replace i:=M7 i;refine Kc (Kr Z (bt i) (Ka Z ?_));refine Kb Z (KH (cells:=vA32) xg Z QK) Z ?_;refine Kj 2 Z (cs':=vA32) Z .u Z Z OV Z Z Z Z Z ?_;obtain rfl:=M2 h;exact Kc (T.ret (Ke (Kl 2 aU (Ks [4,0] Tryz.results117 (Kz (us:=vA32) 3 Z P8 OV Z Z) ⟨_,_,Z,Z,Z⟩ QL (.inl Z)))))
def gr (st:I)  : Option (Bool×I):=(ea st 1).bind fun (c,b)=>(if c=0 then some false else (if c=1 then some false else some true)).bind fun e=>(if e=true then ((ci b 11).bind fun d=>some d) else some b).bind fun a=>if c=1 then some (true,a) else some (false,a)
theorem pI (g:Nat) (st:I)  (r:Bool×I) (h:gr st  = some r):aB Tryz.prog 171 #[jP g] .triv (InR g st) (fun v A' N=>v= .bool r.1/\A'=InR g r.2/\N = []):=by
 refine aS Tryz.func171 Z Tryz.ntmps171 Z ?_;intro F w hX;unfold gr at h;refine Ka Z (KJ ax Z Z ?_);obtain⟨⟨o,j⟩,p,h⟩:=M1 h;refine J9 ax 1 Z (Kn 0 Z Z .u (.fn Tryz.call68 Z) (bw g st 1 _ p) sT Z Z (Kk ax Z (Lq ?_)));obtain⟨q,h,f⟩:=M1 h;refine K7 (fun e Rs=>e = [(0,jP g),(2,.bool false),(3,jI o),(11,.bool q)]/\Rs = [InR g j]) ?_ ?_
 ·clear f;refine T.region Z ?_;rcases jF h with⟨k,h⟩ | ⟨k,h⟩
  ·refine J9 ax 3 Z (Kh 8 Z (bc (M4 k)) (Ki ax 3 Z ?_));cases h;exact TL.nil (Kq [0])
  refine J9 ax 3 Z (Kh 8 Z (bt (M5 k)) (Ki ax 3 Z ?_));rcases jF h with⟨l,h⟩ | ⟨l,h⟩
  ·cases h;exact TL.nil (K3 (d:=11) (v':= .bool false) Z (congrArg Value.bool (bc (M4 l))) (Kq [0]))
  cases h;exact TL.nil (K3 (d:=11) (v':= .bool true) Z (congrArg Value.bool (bt (M5 l))) (Kq [0]))
 rintro _ _ ⟨rfl,rfl⟩;clear h;have h:=f;clear f;refine X.seq ?_;obtain⟨m,h,c⟩:=M1 h;refine K7 (fun e Rs=>e = [(2,.bool false),(3,jI o)]/\Rs = [InR g m]) ?_ ?_
 ·clear c;rcases jF h with⟨a,h⟩ | ⟨a,h⟩
  ·refine Kr Z a (T.region Z ?_);obtain⟨s,n,h⟩:=M1 h;refine J9 ax 1 Z (Kn 0 Z Z .u (.fn Tryz.call70 Z) (bD g j 11 _ n) sT Z Z ?_);cases h;exact TL.nil (Kq [0])
  replace a:=M7 a;refine KN Z a ?_;cases h;exact T.skip (Kq [0])
 rintro _ _ ⟨rfl,rfl⟩;clear h;have h:=c;clear c;refine X.seq (Ka Z (J9 ax 3 Z ?_));rcases jF h with⟨i,h⟩ | ⟨i,h⟩
 ·obtain rfl:=M2 h;exact Kc (T.ret (Ks [0] Tryz.results171 (Kd (v:= .bool true) (congrArg (fun b=>some (Value.bool b)) (M4 i))) ⟨Z,Z,Z⟩ QL (.inl Z)))
 obtain rfl:=M2 h;exact Kc (T.ret (Ks [0] Tryz.results171 (Kd (v:= .bool false) (congrArg (fun b=>some (Value.bool b)) (M5 i))) ⟨Z,Z,Z⟩ QL (.inl Z)))
def cV (st:I) (a1_0:bT):Option (Bool×I):=(iG st).bind fun (d,a)=>if d=0 then ((gM a1_0).bind fun b=>if b=0 then some (true,a) else ((ci a b).bind fun c=>some (false,c))) else some (false,a)
theorem ln (g:Nat) (st:I) (a1_0:bT) (r:Bool×I) (h:cV st a1_0=some r):aB Tryz.prog 168 #[jP g,.func (.func 172) #[.agg (wA16 a1_0)] #[]] .triv (InR g st) (fun v A' N=>v= .bool r.1/\A'=InR g r.2/\N = []):=by
 refine aS Tryz.func168 Z Tryz.ntmps168 Z ?_;intro F w hX;unfold cV at h;refine Ka Z (Kk ax Z (T.seq (Ka Z ?_)));obtain⟨⟨k,c⟩,d,h⟩:=M1 h;refine J9 ax 1 Z (Kn 0 Z Z .u (.fn Tryz.call23 Z) (cz g st _ d) sT Z Z (J9 ax 1 Z ?_));rcases jF h with⟨a,h⟩ | ⟨a,h⟩
 ·refine KG Z a (Kw (T.seq (Ka Z ?_)));obtain⟨i,e,h⟩:=M1 h;refine J9 ax 1 Z (Kt Z .u (.val Z Tryz.call172 Z Z) (mq a1_0 _ e) rT Z (KJ ax Z Z (J9 ax 2 Z ?_)));rcases jF h with⟨b,h⟩ | ⟨b,h⟩
  ·refine KG Z b (Kv Z (J9 ax 1 Z ?_));obtain rfl:=M2 h;exact Kc (T.ret (Km [0] Pc (Kd Z)))
  refine KF Z b (Ka Z ?_);obtain⟨j,f,h⟩:=M1 h;refine J9 ax 2 Z (Kn 0 Z Z .u (.fn Tryz.call70 Z) (bD g c i _ f) sT Z Z (Ky Z (J9 ax 1 Z ?_)));obtain rfl:=M2 h;exact Kc (T.ret (Ke (Km [0] Pc (Kd Z))))
 refine KF Z a (Ka Z (J9 ax 1 Z ?_));obtain rfl:=M2 h;exact Kc (T.ret (Ke (Km [0] Pc (Kd Z))))
def lB (st:I)  : Option (bT×I):=(sR st).bind fun (d,e)=>(ea e 8).bind fun (f,g)=>(ea g 2).bind fun (h,i)=>(gr i).bind fun (b,c)=>(cV c (⟨d,f,h,b⟩:bT)).bind fun (j,a)=>if j=true then (some ((⟨d,f,h,b⟩:bT),a)) else (some ((⟨[],0,0,false⟩:bT),a))
theorem so (g:Nat) (st:I)  (r:bT×I) (h:lB st  = some r):aB Tryz.prog 118 #[jP g] .triv (InR g st) (fun v A' N=>v= .agg #[jS r.1.Mk,jI r.1.Md,jI r.1.Mf,.bool r.1.Mx]/\A'=InR g r.2/\N = []):=by
 refine aS Tryz.func118 Z Tryz.ntmps118 Z ?_;intro F w hX;unfold lB at h;refine Ka Z (TL.alloc Z .u Tryz.zeroValue32 Z (fun x=>(Ky Z ?_)));obtain⟨⟨b,l⟩,m,h⟩:=M1 h;refine J9 ax 1 Z (Kn 1 Z Z .u (.fn Tryz.call86 Z) (o9 g st _ m) sT Z Z ?_);obtain⟨⟨c,n⟩,o,h⟩:=M1 h;refine J9 ax 1 Z (Kn 1 Z Z .u (.fn Tryz.call68 Z) (bw g l 8 _ o) sT Z Z ?_);obtain⟨⟨d,p⟩,f,h⟩:=M1 h;refine J9 ax 1 Z (Kn 1 Z Z .u (.fn Tryz.call68 Z) (bw g n 2 _ f) sT Z Z ?_);refine Kb Z (KH (cells:= #[jS b,jI c,jI d,.bool false]) xh Z QK) Z ?_;refine TL.alloc Z .u Tryz.zeroValue32 Z (fun s=>(Kj 0 Z (cs':= #[jS b,jI c,jI d,.bool false]) Z .u Z Z OW Z Z Z Z Z (Ky Z ?_)));obtain⟨⟨a,i⟩,j,h⟩:=M1 h;refine J9 ax 1 Z (Kn 2 Z Z .u (.fn Tryz.call171 Z) (pI g p _ j) sT Z Z (J9 ax 1 Z (Kj 0 Z (cs':= #[jS b,jI c,jI d,.bool a]) Z .u Z Z NP Z Z Z Z Z (Kc (T.seq (Ka Z (J9 ax 1 Z (Kb Z (Kp (us := [jS b,jI c,jI d,.bool a]) 0 Z P9 OW Z Z Z) Z (Kb Z (Ex.mkF Z Z (fun _=>Z)) Z ?_)))))))));obtain⟨⟨t,q⟩,k,h⟩:=M1 h;refine Kn 2 Z Z .u (.fn Tryz.call168 Z) (ln g i (⟨b,c,d,a⟩:bT) _ k) sT Z Z (J9 ax 1 Z ?_);rcases jF h with⟨e,h⟩ | ⟨e,h⟩
 ·refine Kc (KN Z (bc e) (Kv Z (Kb Z (Kp (us := [jS b,jI c,jI d,.bool a]) 0 Z P9 OW Z Z Z) Z (Kj 1 Z (cs':= #[jS b,jI c,jI d,.bool a]) Z .u Z Z OW Z Z Z Z Z ?_))));obtain rfl:=M2 h;exact Kc (T.ret (Ks [2] Tryz.results118 (Kz (us:= #[jS b,jI c,jI d,.bool a]) 1 Z P9 OW Z Z) ⟨Z,Z,Z⟩ QL (.inl Z)))
 replace e:=M7 e;refine Kc (Kr Z (bt e) (Ka Z ?_));refine Kb Z (KH (cells:=vA33) xh Z QK) Z ?_;refine Kj 1 Z (cs':=vA33) Z .u Z Z OW Z Z Z Z Z ?_;obtain rfl:=M2 h;exact Kc (T.ret (Ke (Km [2] Tryz.results118 (Kz (us:=vA33) 1 Z P9 OW Z Z))))
end Go.Proofs.YtheikonlgjdopaaGreat.Sl
