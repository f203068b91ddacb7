/- splitFeeds_holds: part 10. -/
import Derived.Test.YtheikonlgjdopaaGreatK9
set_option maxRecDepth 100000
set_option maxHeartbeats 4000000
set_option linter.defProp false
namespace Go.Proofs.YtheikonlgjdopaaGreat.Sl
open Go.RowKit
set_option linter.unusedVariables false
set_option linter.unusedSimpArgs false
def Nt := @Tryz.sizeOf38
def NE := @Prod.mk.inj
def N6 := @Tryz.isAgg38
def Od := @Tryz.runUnderlying38
def OY := @Tryz.results69
def PP := @Tryz.results14
def GZ:eY := [(25,0,0),(25,1,1),(38,0,0),(38,1,5),(38,2,10),(38,3,14),(38,4,18),(38,5,19)]
theorem aD:(GZ).OK Tryz.prog:=⟨FOK.mk OA rfl M9 rfl,FOK.mk OA rfl M9 rfl,FOK.mk Od rfl Of rfl,FOK.mk Od rfl OU rfl,FOK.mk Od rfl OV rfl,FOK.mk Od rfl OW rfl,FOK.mk Od rfl Tryz.sizeOf33 rfl,FOK.mk Od rfl Om rfl,trivial⟩
def G3:List Nat := [3,33]
theorem hM:NOK Tryz.prog G3:=⟨Nc,Tryz.isAgg33,trivial⟩
theorem eW:BOK Tryz.prog 38 #[.int .i64 0,.int .i64 0,.int .i64 0,.bool false,A7,.bool false,A7,.int .i64 0,.int .i64 0,.int .i64 0,A7,.int .i64 0,.int .i64 0,A5,A7,.int .i64 0,.int .i64 0,.bool false,A5,.bool false,A7,.int .i64 0,.int .i64 0,A5] [(0,5),(5,5),(10,4),(14,4),(18,1),(19,5)]:=BOK.mk Tryz.zeroValue38 Od (by intro w; simp)
def kK (st:AI×Int) (a0:aH):Option (AI×Int):=(if a0.Mi.Mn=22 then ((lk st a0.MG a0.Mi.Ml).bind fun h=>some h) else ((if a0.Mi.Mn=24 then ((m0 st a0.MJ).bind fun a=>some a) else ((if a0.Mi.Mn=26 then ((m4 st a0.MN).bind fun b=>some b) else ((if a0.Mi.Mn=27 then ((pq st a0.MF a0.Mi.Ml).bind fun c=>some c) else ((iq st a0.Mp a0.Mi.Ml).bind fun d=>some d)).bind fun e=>some e)).bind fun f=>some f)).bind fun g=>some g)).bind fun i=>some i
theorem pv (g:Nat) (st:AI×Int) (a0:aH) (d:AT) (c2:Nat) (n:AT) (o:Nat) (f:AT) (i:Nat) (r:AI×Int) (h:kK st a0=some r):aB Tryz.prog 49 #[.agg (qt a0 d n f c2 o i),jP g] (RX.and (RX.of (ar 2 aU) [.slice d a0.MJ.Mc.length c2] a0.MJ.Mc) (RX.and (RX.of (ar 5 bk) [.slice n a0.MF.length o] a0.MF) (RX.of (ar 2 aT) [.slice f a0.Mp.Mc.length i] a0.Mp.Mc))) (bz g st) (fun v A' N=>v= .tuple #[]/\A'=bz g r/\N = []):=by
 refine aS Tryz.func49 Z Tryz.ntmps49 Z ?_;intro F w hX;unfold kK at h;refine Ka Z (TL.box Z .u Z Z (fun q=>(Ky Z (Lw aD hM 0 Z Z Z (T.block (Ka Z (Kk aD Z ?_)))))));obtain⟨C,h,j⟩:=M1 h;refine K7 (fun e Rs=>e = []/\Rs = [aR q 38 (qt a0 d n f c2 o i),bz g C]) ?_ ?_
 ·clear j;rcases jF h with⟨p,h⟩ | ⟨p,h⟩
  ·refine Lx Z p (T.region Z (J9 aD 1 Z (Kb Z (Kp (us := [.bool a0.MG.Mk.null,jS a0.MG.Mk.data,jI a0.MG.Mh,jI a0.MG.Md,jI a0.MG.Mf]) 0 Z P7 OU Z Z Z) Z ?_)));obtain⟨J,D,h⟩:=M1 h;refine Kf aD hM 0 Z 4 Z Z (Kn 1 Z Z .u (.fn Tryz.call96 Z) (qa g st a0.MG a0.Mi.Ml _ D) sT Z Z ?_);cases h;exact TL.nil (Kq [0,0])
  refine LC Z p (Ka Z (Kk aD Z ?_));obtain⟨s,h,a⟩:=M1 h;refine K7 (fun e Rs=>e = []/\Rs = [aR q 38 (qt a0 d n f c2 o i),bz g s]) ?_ ?_
  ·clear a;rcases jF h with⟨k,h⟩ | ⟨k,h⟩
   ·refine Lx Z k (T.region Z (J9 aD 1 Z (Kb Z (Kp (us:=wL15 a0.MJ d c2) 0 Z P8 OV Z Z Z) Z ?_)));obtain⟨E,t,h⟩:=M1 h;refine J9 aD 1 Z (Kn 1 Z Z .u (.fn Tryz.call97 Z) (rq g st a0.MJ _ _ _ t) (fun _ hs=>(LI hs (K8 hX))) Z Z ?_);cases h;exact TL.nil (Kq [0,0])
   refine LC Z k (Ka Z (Kk aD Z ?_));obtain⟨x,h,b⟩:=M1 h;refine K7 (fun e Rs=>e = []/\Rs = [aR q 38 (qt a0 d n f c2 o i),bz g x]) ?_ ?_
   ·clear b;rcases jF h with⟨l,h⟩ | ⟨l,h⟩
    ·refine Lx Z l (T.region Z (J9 aD 1 Z (Kb Z (Kp (us:=wL17 a0.MN) 0 Z P9 OW Z Z Z) Z ?_)));obtain⟨G,y,h⟩:=M1 h;refine J9 aD 1 Z (Kn 1 Z Z .u (.fn Tryz.call98 Z) (rr g st a0.MN _ y) sT Z Z ?_);cases h;exact TL.nil (Kq [0,0])
    refine LC Z l (Ka Z (Kk aD Z ?_));obtain⟨z,h,c⟩:=M1 h;refine K7 (fun e Rs=>e = []/\Rs = [aR q 38 (qt a0 d n f c2 o i),bz g z]) ?_ ?_
    ·clear c;rcases jF h with⟨m,h⟩ | ⟨m,h⟩
     ·refine Lx Z m (T.region Z ?_);obtain⟨H,A,h⟩:=M1 h;refine Kf aD hM 0 Z 6 Z Z (Kn 1 Z Z .u (.fn Tryz.call99 Z) (td g st a0.MF _ _ a0.Mi.Ml _ A) (fun _ hs=>(LI hs (K8 (KP hX)))) Z Z ?_);cases h;exact TL.nil (Kq [0,0])
     refine LC Z m (T.region Z (J9 aD 1 Z (Kb Z (Kp (us := [.bool a0.Mp.Mk.null,jS a0.Mp.Mk.data,jI a0.Mp.Mz,jI a0.Mp.Mh,.slice f a0.Mp.Mc.length i]) 0 Z Po Om Z Z Z) Z ?_)));obtain⟨I,B,h⟩:=M1 h;refine Kf aD hM 0 Z 4 Z Z (Kn 1 Z Z .u (.fn Tryz.call100 Z) (mz g st a0.Mp _ _ a0.Mi.Ml _ B) (fun _ hs=>(LI hs (KP (KP hX)))) Z Z ?_);cases h;exact TL.nil (Kq [0,0])
    rintro _ _ ⟨rfl,rfl⟩;clear h;have h:=c;clear c;try dsimp only at h
    cases h;exact Kq [0,0]
   rintro _ _ ⟨rfl,rfl⟩;clear h;have h:=b;clear b;try dsimp only at h
   cases h;exact Kq [0,0]
  rintro _ _ ⟨rfl,rfl⟩;clear h;have h:=a;clear a;try dsimp only at h
  cases h;exact Kq [0,0]
 rintro _ _ ⟨rfl,rfl⟩;clear h;have h:=j;clear j;obtain rfl:=M2 h;exact KD (Lm [1] Tryz.results49 ⟨Z,Z,Z⟩ QL (.inr Z))
def ng (a0:aH):Option (AI×Int):=(mc ([],0) a0.Mi).bind fun d=>(GC d).bind fun (i,a)=>(if i=0 then ((kK a a0).bind fun e=>some e) else some a).bind fun f=>(nV f).bind fun (b,c,l)=>if c=0 then ((ed ([],0) (b.length:Int) 4).bind fun g=>(Ei g b).bind fun h=>(nV h).bind fun (j,k,m)=>some (j,k)) else some ([],c)
theorem rF (a0:aH) (i:AT) (c2:Nat) (j:AT) (k:Nat) (l:AT) (m:Nat) (r:AI×Int) (h:ng a0=some r):aB Tryz.prog 12 #[.agg (qt a0 i j l c2 k m)] (RX.and (RX.of (ar 2 aU) [.slice i a0.MJ.Mc.length c2] a0.MJ.Mc) (RX.and (RX.of (ar 5 bk) [.slice j a0.MF.length k] a0.MF) (RX.of (ar 2 aT) [.slice l a0.Mp.Mc.length m] a0.Mp.Mc))) (aI) (fun v A' N=>v= .tuple #[jS r.1,jI r.2]/\A'=aI/\N = []):=by
 refine aS Tryz.func12 Z Tryz.ntmps12 Z ?_;intro F w hX;unfold ng at h;refine Ka Z (TL.box Z .u Z Z (fun D=>(KJ aD Z Z (LU Z .u Tryz.zeroValue112 Z (fun b=>(LU Z .u Tryz.zeroValue112 Z (fun c=>(Ky Z (J9 aD 1 Z ?_)))))))));refine Kb Z (Kp (us := [jI a0.Mi.Mn,jI a0.Mi.Ml,jI a0.Mi.Mt,.bool a0.Mi.Mj.null,jS a0.Mi.Mj.data]) 2 Z O3 Of Z Z Z) Z ?_;obtain⟨o,p,h⟩:=M1 h;refine Kn 1 Z Z .u (.fn Tryz.call47 Z) (qK b ([],0) a0.Mi _ p) sT Z Z ?_;obtain⟨⟨I,q⟩,s,h⟩:=M1 h;refine Kc (T.seq (Ka Z (Kn 1 Z Z .u (.fn Tryz.call48 Z) (CX b o _ s) sT Z Z (Kk aD Z ?_))));obtain⟨d,h,a⟩:=M1 h;refine K7 (fun e Rs=>e = [(2,A7),(3,jI 0),(4,jP b),(5,jP c)]/\Rs = [bz c ([],0),bz b d,aR D 38 (qt a0 i j l c2 k m),aI]) ?_ ?_
 ·clear a;rcases jF h with⟨f,h⟩ | ⟨f,h⟩
  ·refine Lx Z f (T.region Z (Kb Z (Kp (us:=C6 a0 i j l c2 k m) 2 Z N6 Nt Z Z Z) Z ?_));obtain⟨E,t,h⟩:=M1 h;refine Kn 1 Z Z .u (.fn Tryz.call49 Z) (pv b q a0 _ _ _ _ _ _ _ t) (fun _ hs=>(Src.and (LI hs (K8 hX)) (Src.and (LI hs (K8 (KP hX))) (LI hs (KP (KP hX)))))) Z Z ?_;cases h;exact TL.nil (Kq [0,0,0,0])
  refine LC Z f ?_;cases h;exact T.skip (Kq [0,0,0,0])
 rintro _ _ ⟨rfl,rfl⟩;clear h;have h:=a;clear a;obtain⟨⟨n,J,G⟩,x,h⟩:=M1 h;refine X.seq (Ka Z (Kn 1 Z Z .u (.fn Tryz.call50 Z) (iT b d _ x) sT Z Z (Kk aD Z (T.seq (Ka Z (J9 aD 2 Z ?_))))));rcases jF h with⟨g,h⟩ | ⟨g,h⟩
 ·refine KG Z g (Kv Z (J9 aD 1 Z (Kb Z (KT Z Na) Z ?_)));obtain⟨y,z,h⟩:=M1 h;refine Kn 0 Z Z .u (.fn Tryz.call51 Z) (bu c ([],0) (n.length:Int) 4 _ z) sT Z Z (Ky Z ?_);obtain⟨A,B,h⟩:=M1 h;refine J9 aD 1 Z (Kn 0 Z Z .u (.fn Tryz.call52 Z) (wJ c y n _ B) sT Z Z ?_);obtain⟨⟨K,L,H⟩,C,h⟩:=M1 h;refine Ky Z (Kn 0 Z Z .u (.fn Tryz.call50 Z) (iT c A _ C) sT Z Z (J9 aD 4 Z ?_));obtain rfl:=M2 h;exact Kc (T.ret (KR [3] Tryz.results12 (Kd Z) (Kd Z) ⟨Z,Z,Z⟩ QL (.inl Z)))
 refine KF Z g (Ka Z (J9 aD 3 Z ?_));obtain rfl:=M2 h;exact Kc (T.ret (Ke (KR [3] Tryz.results12 (Kd Z) (Kd Z) ⟨Z,Z,Z⟩ QL (.inl Z))))
def kL (a0:AI):Option (aH×Int):=(vE a0).bind fun m=>(gT m).bind fun (a,n)=>(iG n).bind fun (o,b)=>if o=0 then (if a.Mn=22 then ((eK b a.Ml).bind fun (p,h)=>(en h).bind fun (c,u)=>if c=0 then (some ((⟨a,p,(⟨[],0,0,[]⟩:bU),(⟨[],0,0,false⟩:bT),[],(⟨(⟨false,[]⟩:Bl),0,0,[]⟩:aC)⟩:aH),0)) else (some ((⟨(⟨0,0,0,(⟨false,[]⟩:Bl)⟩:fq),(⟨(⟨false,[]⟩:Bl),0,0,0⟩:bg),(⟨[],0,0,[]⟩:bU),(⟨[],0,0,false⟩:bT),[],(⟨(⟨false,[]⟩:Bl),0,0,[]⟩:aC)⟩:aH),c))) else (if a.Mn=24 then ((lA b).bind fun (q,i)=>(en i).bind fun (d,v)=>if d=0 then (some ((⟨a,(⟨(⟨false,[]⟩:Bl),0,0,0⟩:bg),q,(⟨[],0,0,false⟩:bT),[],(⟨(⟨false,[]⟩:Bl),0,0,[]⟩:aC)⟩:aH),0)) else (some ((⟨(⟨0,0,0,(⟨false,[]⟩:Bl)⟩:fq),(⟨(⟨false,[]⟩:Bl),0,0,0⟩:bg),(⟨[],0,0,[]⟩:bU),(⟨[],0,0,false⟩:bT),[],(⟨(⟨false,[]⟩:Bl),0,0,[]⟩:aC)⟩:aH),d))) else (if a.Mn=26 then ((lB b).bind fun (r,j)=>(en j).bind fun (e,w)=>if e=0 then (some ((⟨a,(⟨(⟨false,[]⟩:Bl),0,0,0⟩:bg),(⟨[],0,0,[]⟩:bU),r,[],(⟨(⟨false,[]⟩:Bl),0,0,[]⟩:aC)⟩:aH),0)) else (some ((⟨(⟨0,0,0,(⟨false,[]⟩:Bl)⟩:fq),(⟨(⟨false,[]⟩:Bl),0,0,0⟩:bg),(⟨[],0,0,[]⟩:bU),(⟨[],0,0,false⟩:bT),[],(⟨(⟨false,[]⟩:Bl),0,0,[]⟩:aC)⟩:aH),e))) else (if a.Mn=27 then ((gc b a.Ml).bind fun (s,k)=>(en k).bind fun (f,x)=>if f=0 then (some ((⟨a,(⟨(⟨false,[]⟩:Bl),0,0,0⟩:bg),(⟨[],0,0,[]⟩:bU),(⟨[],0,0,false⟩:bT),s,(⟨(⟨false,[]⟩:Bl),0,0,[]⟩:aC)⟩:aH),0)) else (some ((⟨(⟨0,0,0,(⟨false,[]⟩:Bl)⟩:fq),(⟨(⟨false,[]⟩:Bl),0,0,0⟩:bg),(⟨[],0,0,[]⟩:bU),(⟨[],0,0,false⟩:bT),[],(⟨(⟨false,[]⟩:Bl),0,0,[]⟩:aC)⟩:aH),f))) else ((eD b a.Ml).bind fun (t,l)=>(en l).bind fun (g,y)=>if g=0 then (some ((⟨a,(⟨(⟨false,[]⟩:Bl),0,0,0⟩:bg),(⟨[],0,0,[]⟩:bU),(⟨[],0,0,false⟩:bT),[],t⟩:aH),0)) else (some ((⟨(⟨0,0,0,(⟨false,[]⟩:Bl)⟩:fq),(⟨(⟨false,[]⟩:Bl),0,0,0⟩:bg),(⟨[],0,0,[]⟩:bU),(⟨[],0,0,false⟩:bT),[],(⟨(⟨false,[]⟩:Bl),0,0,[]⟩:aC)⟩:aH),g))))))) else (some ((⟨(⟨0,0,0,(⟨false,[]⟩:Bl)⟩:fq),(⟨(⟨false,[]⟩:Bl),0,0,0⟩:bg),(⟨[],0,0,[]⟩:bU),(⟨[],0,0,false⟩:bT),[],(⟨(⟨false,[]⟩:Bl),0,0,[]⟩:aC)⟩:aH),o))
theorem th (a0:AI) (r:aH×Int) (h:kL a0=some r):aB Tryz.prog 69 #[jS a0] .triv (aI) (fun v A' N=> ∃ (D:AT) (E:Nat) (G:AT) (H:Nat) (I:AT) (J:Nat),v= .tuple #[.agg #[jI r.1.Mi.Mn,jI r.1.Mi.Ml,jI r.1.Mi.Mt,.bool r.1.Mi.Mj.null,jS r.1.Mi.Mj.data,.bool r.1.MG.Mk.null,jS r.1.MG.Mk.data,jI r.1.MG.Mh,jI r.1.MG.Md,jI r.1.MG.Mf,jS r.1.MJ.Mk,jI r.1.MJ.Md,jI r.1.MJ.Mf,.slice D r.1.MJ.Mc.length E,jS r.1.MN.Mk,jI r.1.MN.Md,jI r.1.MN.Mf,.bool r.1.MN.Mx,.slice G r.1.MF.length H,.bool r.1.Mp.Mk.null,jS r.1.Mp.Mk.data,jI r.1.Mp.Mz,jI r.1.Mp.Mh,.slice I r.1.Mp.Mc.length J],jI r.2]/\A'=aI/\N = [RdR (ar 2 aU) [.slice D r.1.MJ.Mc.length E] r.1.MJ.Mc,RdR (ar 5 bk) [.slice G r.1.MF.length H] r.1.MF,RdR (ar 2 aT) [.slice I r.1.Mp.Mc.length J] r.1.Mp.Mc]):=by
 refine aS Tryz.func69 Z Tryz.ntmps69 Z ?_;intro F w hX;unfold kL at h;refine Ka Z (TL.alloc Z .u Tryz.zeroValue38 Z (fun b1=>(KJ aD Z Z ?_)));obtain⟨af,ag,h⟩:=M1 h;refine J9 aD 1 Z (K2 Z .u (.fn Tryz.call19 Z) (j7 a0 _ ag) rT Z ?_);rintro _ _ _ ⟨f,rfl,rfl,rfl⟩;refine KK [0,0,0] Z (KJ aD Z Z ?_);obtain⟨⟨a,ah⟩,ai,h⟩:=M1 h;refine J9 aD 1 Z (Kn 0 Z Z .u (.fn Tryz.call115 Z) (rE f af _ ai) sT Z Z ?_);refine Kb Z (KH (cells:= #[jI a.Mn,jI a.Ml,jI a.Mt,.bool a.Mj.null,jS a.Mj.data,.bool false,A7,jI 0,jI 0,jI 0,A7,jI 0,jI 0,A5,A7,jI 0,jI 0,.bool false,A5,.bool false,A7,jI 0,jI 0,A5]) eW Z QK) Z ?_;refine TL.alloc Z .u Tryz.zeroValue38 Z (fun b8=>(Kj 0 Z (cs':= #[jI a.Mn,jI a.Ml,jI a.Mt,.bool a.Mj.null,jS a.Mj.data,.bool false,A7,jI 0,jI 0,jI 0,A7,jI 0,jI 0,A5,A7,jI 0,jI 0,.bool false,A5,.bool false,A7,jI 0,jI 0,A5]) Z .u Z Z Nt Z Z Z Z Z (Kc (T.seq (Ka Z ?_)))));obtain⟨⟨x9,g⟩,K,h⟩:=M1 h;refine J9 aD 1 Z (Kn 1 Z Z .u (.fn Tryz.call23 Z) (cz f ah _ K) sT Z Z (KJ aD Z Z (J9 aD 2 Z ?_)));rcases jF h with⟨p,h⟩ | ⟨p,h⟩
 ·refine KG Z p (Kw (T.seq (Ka Z (Lw aD hM 0 Z Z Z (T.block (Ka Z (J9 aD 2 Z ?_)))))));rcases jF h with⟨q,h⟩ | ⟨q,h⟩
  ·refine KE Z q (T.region Z ?_);obtain⟨⟨b,L⟩,M,h⟩:=M1 h;refine Kf aD hM 0 Z 4 Z Z (Kn 1 Z Z .u (.fn Tryz.call116 Z) (qF f g a.Ml _ M) sT Z Z (J9 aD 1 Z (Kj 0 Z (cs':= #[jI a.Mn,jI a.Ml,jI a.Mt,.bool a.Mj.null,jS a.Mj.data,.bool b.Mk.null,jS b.Mk.data,jI b.Mh,jI b.Md,jI b.Mf,A7,jI 0,jI 0,A5,A7,jI 0,jI 0,.bool false,A5,.bool false,A7,jI 0,jI 0,A5]) Z .u Z Z OU Z Z Z Z Z (TL.nil (KD (X.seq (T.seq (Ka Z ?_))))))));obtain⟨⟨ao,aj⟩,O,h⟩:=M1 h;refine J9 aD 1 Z (Kn 1 Z Z .u (.fn Tryz.call21 Z) (dp f L _ O) sT Z Z (KJ aD Z Z (J9 aD 2 Z ?_)));rcases jF h with⟨s,h⟩ | ⟨s,h⟩
   ·refine KG Z s (Kv Z (Kb Z (Kp (us := [jI a.Mn,jI a.Ml,jI a.Mt,.bool a.Mj.null,jS a.Mj.data,.bool b.Mk.null,jS b.Mk.data,jI b.Mh,jI b.Md,jI b.Mf,A7,jI 0,jI 0,A5,A7,jI 0,jI 0,.bool false,A5,.bool false,A7,jI 0,jI 0,A5]) 0 Z N6 Nt Z Z Z) Z (Kj 2 Z (cs':= #[jI a.Mn,jI a.Ml,jI a.Mt,.bool a.Mj.null,jS a.Mj.data,.bool b.Mk.null,jS b.Mk.data,jI b.Mh,jI b.Md,jI b.Mf,A7,jI 0,jI 0,A5,A7,jI 0,jI 0,.bool false,A5,.bool false,A7,jI 0,jI 0,A5]) Z .u Z Z Nt Z Z Z Z Z (J9 aD 1 Z ?_))));obtain rfl:=M2 h;exact Kc (T.ret (Kl 2 aU (Kl 5 bk (Kl 2 aT (KR [6,2,1,0] OY (Kz (us:= #[jI a.Mn,jI a.Ml,jI a.Mt,.bool a.Mj.null,jS a.Mj.data,.bool b.Mk.null,jS b.Mk.data,jI b.Mh,jI b.Md,jI b.Mf,A7,jI 0,jI 0,A5,A7,jI 0,jI 0,.bool false,A5,.bool false,A7,jI 0,jI 0,A5]) 5 Z N6 Nt Z Z) (Kd Z) ⟨_,_,_,_,_,_,Z,Z,Z⟩ QL (.inl Z))))))
   refine KF Z s (Ka Z ?_);refine Kb Z (KH (cells:=ld) eW Z QK) Z ?_;refine J9 aD 1 Z (Kj 2 Z (cs':=ld) Z .u Z Z Nt Z Z Z Z Z (J9 aD 1 Z ?_));obtain rfl:=M2 h;exact Kc (T.ret (Ke (Kl 2 aU (Kl 5 bk (Kl 2 aT (KR [6,2,1,0] OY (Kz (us:=ld) 5 Z N6 Nt Z Z) (Kd Z) ⟨_,_,_,_,_,_,Z,Z,Z⟩ QL (.inl Z)))))))
  refine KA Z q (Ka Z (J9 aD 2 Z ?_));rcases jF h with⟨t,h⟩ | ⟨t,h⟩
  ·refine KE Z t (T.region Z ?_);obtain⟨⟨d,P⟩,Q,h⟩:=M1 h;refine J9 aD 1 Z (LR Z .u (.fn Tryz.call117 Z) (sn f g _ Q) sT Z ?_);rintro _ _ _ ⟨i,j,rfl,rfl,rfl⟩;refine KK [0,0,0,0,0] Z (J9 aD 1 Z (Kj 1 Z (cs':= #[jI a.Mn,jI a.Ml,jI a.Mt,.bool a.Mj.null,jS a.Mj.data,.bool false,A7,jI 0,jI 0,jI 0,jS d.Mk,jI d.Md,jI d.Mf,.slice i d.Mc.length j,A7,jI 0,jI 0,.bool false,A5,.bool false,A7,jI 0,jI 0,A5]) Z .u Z Z OV Z Z Z Z Z (TL.nil (KD (X.seq (T.seq (Ka Z ?_)))))));obtain⟨⟨ap,ak⟩,R,h⟩:=M1 h;refine J9 aD 1 Z (Kn 2 Z Z .u (.fn Tryz.call21 Z) (dp f P _ R) sT Z Z (KJ aD Z Z (J9 aD 2 Z ?_)));rcases jF h with⟨x,h⟩ | ⟨x,h⟩
   ·refine KG Z x (Kv Z (Kb Z (Kp (us := [jI a.Mn,jI a.Ml,jI a.Mt,.bool a.Mj.null,jS a.Mj.data,.bool false,A7,jI 0,jI 0,jI 0,jS d.Mk,jI d.Md,jI d.Mf,.slice i d.Mc.length j,A7,jI 0,jI 0,.bool false,A5,.bool false,A7,jI 0,jI 0,A5]) 1 Z N6 Nt Z Z Z) Z (Kj 3 Z (cs':= #[jI a.Mn,jI a.Ml,jI a.Mt,.bool a.Mj.null,jS a.Mj.data,.bool false,A7,jI 0,jI 0,jI 0,jS d.Mk,jI d.Md,jI d.Mf,.slice i d.Mc.length j,A7,jI 0,jI 0,.bool false,A5,.bool false,A7,jI 0,jI 0,A5]) Z .u Z Z Nt Z Z Z Z Z (J9 aD 1 Z ?_))));obtain rfl:=M2 h;exact Kc (T.ret (Kl 5 bk (Kl 2 aT (KR [6,2,1,0] OY (Kz (us:= #[jI a.Mn,jI a.Ml,jI a.Mt,.bool a.Mj.null,jS a.Mj.data,.bool false,A7,jI 0,jI 0,jI 0,jS d.Mk,jI d.Md,jI d.Mf,.slice i d.Mc.length j,A7,jI 0,jI 0,.bool false,A5,.bool false,A7,jI 0,jI 0,A5]) 5 Z N6 Nt Z Z) (Kd Z) ⟨_,_,_,_,_,_,Z,Z,Z⟩ QL (.inl Z)))))
   refine KF Z x (Ka Z ?_);refine Kb Z (KH (cells:=ld) eW Z QK) Z ?_;refine J9 aD 1 Z (Kj 3 Z (cs':=ld) Z .u Z Z Nt Z Z Z Z Z (J9 aD 1 Z ?_));obtain rfl:=M2 h;exact Kc (T.ret (Ke (Kl 2 aU (Kl 5 bk (Kl 2 aT (KR [7,2,1,0] OY (Kz (us:=ld) 6 Z N6 Nt Z Z) (Kd Z) ⟨_,_,_,_,_,_,Z,Z,Z⟩ QL (.inl Z)))))))
  refine KA Z t (Ka Z (J9 aD 2 Z ?_));rcases jF h with⟨y,h⟩ | ⟨y,h⟩
  ·refine KE Z y (T.region Z ?_);obtain⟨⟨e,S⟩,U,h⟩:=M1 h;refine J9 aD 1 Z (Kn 1 Z Z .u (.fn Tryz.call118 Z) (so f g _ U) sT Z Z (J9 aD 1 Z (Kj 0 Z (cs':= #[jI a.Mn,jI a.Ml,jI a.Mt,.bool a.Mj.null,jS a.Mj.data,.bool false,A7,jI 0,jI 0,jI 0,A7,jI 0,jI 0,A5,jS e.Mk,jI e.Md,jI e.Mf,.bool e.Mx,A5,.bool false,A7,jI 0,jI 0,A5]) Z .u Z Z OW Z Z Z Z Z (TL.nil (KD (X.seq (T.seq (Ka Z ?_))))))));obtain⟨⟨aq,al⟩,V,h⟩:=M1 h;refine J9 aD 1 Z (Kn 1 Z Z .u (.fn Tryz.call21 Z) (dp f S _ V) sT Z Z (KJ aD Z Z (J9 aD 2 Z ?_)));rcases jF h with⟨z,h⟩ | ⟨z,h⟩
   ·refine KG Z z (Kv Z (Kb Z (Kp (us := [jI a.Mn,jI a.Ml,jI a.Mt,.bool a.Mj.null,jS a.Mj.data,.bool false,A7,jI 0,jI 0,jI 0,A7,jI 0,jI 0,A5,jS e.Mk,jI e.Md,jI e.Mf,.bool e.Mx,A5,.bool false,A7,jI 0,jI 0,A5]) 0 Z N6 Nt Z Z Z) Z (Kj 2 Z (cs':= #[jI a.Mn,jI a.Ml,jI a.Mt,.bool a.Mj.null,jS a.Mj.data,.bool false,A7,jI 0,jI 0,jI 0,A7,jI 0,jI 0,A5,jS e.Mk,jI e.Md,jI e.Mf,.bool e.Mx,A5,.bool false,A7,jI 0,jI 0,A5]) Z .u Z Z Nt Z Z Z Z Z (J9 aD 1 Z ?_))));obtain rfl:=M2 h;exact Kc (T.ret (Kl 2 aU (Kl 5 bk (Kl 2 aT (KR [6,2,1,0] OY (Kz (us:= #[jI a.Mn,jI a.Ml,jI a.Mt,.bool a.Mj.null,jS a.Mj.data,.bool false,A7,jI 0,jI 0,jI 0,A7,jI 0,jI 0,A5,jS e.Mk,jI e.Md,jI e.Mf,.bool e.Mx,A5,.bool false,A7,jI 0,jI 0,A5]) 5 Z N6 Nt Z Z) (Kd Z) ⟨_,_,_,_,_,_,Z,Z,Z⟩ QL (.inl Z))))))
   refine KF Z z (Ka Z ?_);refine Kb Z (KH (cells:=ld) eW Z QK) Z ?_;refine J9 aD 1 Z (Kj 2 Z (cs':=ld) Z .u Z Z Nt Z Z Z Z Z (J9 aD 1 Z ?_));obtain rfl:=M2 h;exact Kc (T.ret (Ke (Kl 2 aU (Kl 5 bk (Kl 2 aT (KR [6,2,1,0] OY (Kz (us:=ld) 5 Z N6 Nt Z Z) (Kd Z) ⟨_,_,_,_,_,_,Z,Z,Z⟩ QL (.inl Z)))))))
  refine KA Z y (Ka Z (J9 aD 2 Z ?_));rcases jF h with⟨A,h⟩ | ⟨A,h⟩
  ·refine KE Z A (T.region Z ?_);obtain⟨⟨k,W⟩,Y,h⟩:=M1 h;refine Kf aD hM 0 Z 4 Z Z (LR Z .u (.fn Tryz.call119 Z) (uD f g a.Ml _ Y) sT Z ?_);rintro _ _ _ ⟨l,m,rfl,rfl,rfl⟩;refine KK [0,0,0,0,0] Z (J9 aD 1 Z (Kj 1 Z (cs':= #[jI a.Mn,jI a.Ml,jI a.Mt,.bool a.Mj.null,jS a.Mj.data,.bool false,A7,jI 0,jI 0,jI 0,A7,jI 0,jI 0,A5,A7,jI 0,jI 0,.bool false,.slice l k.length m,.bool false,A7,jI 0,jI 0,A5]) Z .u Z Z Tryz.sizeOf33 Z Z Z Z Z (TL.nil (KD (X.seq (T.seq (Ka Z ?_)))))));obtain⟨⟨au,am⟩,aa,h⟩:=M1 h;refine J9 aD 1 Z (Kn 2 Z Z .u (.fn Tryz.call21 Z) (dp f W _ aa) sT Z Z (KJ aD Z Z (J9 aD 2 Z ?_)));rcases jF h with⟨B,h⟩ | ⟨B,h⟩
   ·refine KG Z B (Kv Z (Kb Z (Kp (us := [jI a.Mn,jI a.Ml,jI a.Mt,.bool a.Mj.null,jS a.Mj.data,.bool false,A7,jI 0,jI 0,jI 0,A7,jI 0,jI 0,A5,A7,jI 0,jI 0,.bool false,.slice l k.length m,.bool false,A7,jI 0,jI 0,A5]) 1 Z N6 Nt Z Z Z) Z (Kj 3 Z (cs':= #[jI a.Mn,jI a.Ml,jI a.Mt,.bool a.Mj.null,jS a.Mj.data,.bool false,A7,jI 0,jI 0,jI 0,A7,jI 0,jI 0,A5,A7,jI 0,jI 0,.bool false,.slice l k.length m,.bool false,A7,jI 0,jI 0,A5]) Z .u Z Z Nt Z Z Z Z Z (J9 aD 1 Z ?_))));obtain rfl:=M2 h;exact Kc (T.ret (Kl 2 aU (Kl 2 aT (KR [6,1,1,0] OY (Kz (us:= #[jI a.Mn,jI a.Ml,jI a.Mt,.bool a.Mj.null,jS a.Mj.data,.bool false,A7,jI 0,jI 0,jI 0,A7,jI 0,jI 0,A5,A7,jI 0,jI 0,.bool false,.slice l k.length m,.bool false,A7,jI 0,jI 0,A5]) 5 Z N6 Nt Z Z) (Kd Z) ⟨_,_,_,_,_,_,Z,Z,Z⟩ QL (.inl Z)))))
   refine KF Z B (Ka Z ?_);refine Kb Z (KH (cells:=ld) eW Z QK) Z ?_;refine J9 aD 1 Z (Kj 3 Z (cs':=ld) Z .u Z Z Nt Z Z Z Z Z (J9 aD 1 Z ?_));obtain rfl:=M2 h;exact Kc (T.ret (Ke (Kl 2 aU (Kl 5 bk (Kl 2 aT (KR [7,2,1,0] OY (Kz (us:=ld) 6 Z N6 Nt Z Z) (Kd Z) ⟨_,_,_,_,_,_,Z,Z,Z⟩ QL (.inl Z)))))))
  refine KA Z A (T.region Z ?_);obtain⟨⟨c,ab⟩,ad,h⟩:=M1 h;refine Kf aD hM 0 Z 4 Z Z (LR Z .u (.fn Tryz.call120 Z) (rD f g a.Ml _ ad) sT Z ?_);rintro _ _ _ ⟨n,o,rfl,rfl,rfl⟩;refine KK [0,0,0,0,0] Z (J9 aD 1 Z (Kj 1 Z (cs':= #[jI a.Mn,jI a.Ml,jI a.Mt,.bool a.Mj.null,jS a.Mj.data,.bool false,A7,jI 0,jI 0,jI 0,A7,jI 0,jI 0,A5,A7,jI 0,jI 0,.bool false,A5,.bool c.Mk.null,jS c.Mk.data,jI c.Mz,jI c.Mh,.slice n c.Mc.length o]) Z .u Z Z Om Z Z Z Z Z (TL.nil (KD (X.seq (T.seq (Ka Z ?_)))))));obtain⟨⟨av,an⟩,ae,h⟩:=M1 h;refine J9 aD 1 Z (Kn 2 Z Z .u (.fn Tryz.call21 Z) (dp f ab _ ae) sT Z Z (KJ aD Z Z (J9 aD 2 Z ?_)));rcases jF h with⟨C,h⟩ | ⟨C,h⟩
  ·refine KG Z C (Kv Z (Kb Z (Kp (us := [jI a.Mn,jI a.Ml,jI a.Mt,.bool a.Mj.null,jS a.Mj.data,.bool false,A7,jI 0,jI 0,jI 0,A7,jI 0,jI 0,A5,A7,jI 0,jI 0,.bool false,A5,.bool c.Mk.null,jS c.Mk.data,jI c.Mz,jI c.Mh,.slice n c.Mc.length o]) 1 Z N6 Nt Z Z Z) Z (Kj 3 Z (cs':= #[jI a.Mn,jI a.Ml,jI a.Mt,.bool a.Mj.null,jS a.Mj.data,.bool false,A7,jI 0,jI 0,jI 0,A7,jI 0,jI 0,A5,A7,jI 0,jI 0,.bool false,A5,.bool c.Mk.null,jS c.Mk.data,jI c.Mz,jI c.Mh,.slice n c.Mc.length o]) Z .u Z Z Nt Z Z Z Z Z (J9 aD 1 Z ?_))));obtain rfl:=M2 h;exact Kc (T.ret (Kl 2 aU (Kl 5 bk (KR [6,1,0,0] OY (Kz (us:= #[jI a.Mn,jI a.Ml,jI a.Mt,.bool a.Mj.null,jS a.Mj.data,.bool false,A7,jI 0,jI 0,jI 0,A7,jI 0,jI 0,A5,A7,jI 0,jI 0,.bool false,A5,.bool c.Mk.null,jS c.Mk.data,jI c.Mz,jI c.Mh,.slice n c.Mc.length o]) 5 Z N6 Nt Z Z) (Kd Z) ⟨_,_,_,_,_,_,Z,Z,Z⟩ QL (.inl Z)))))
  refine KF Z C (Ka Z ?_);refine Kb Z (KH (cells:=ld) eW Z QK) Z ?_;refine J9 aD 1 Z (Kj 3 Z (cs':=ld) Z .u Z Z Nt Z Z Z Z Z (J9 aD 1 Z ?_));obtain rfl:=M2 h;exact Kc (T.ret (Ke (Kl 2 aU (Kl 5 bk (Kl 2 aT (KR [7,2,1,0] OY (Kz (us:=ld) 6 Z N6 Nt Z Z) (Kd Z) ⟨_,_,_,_,_,_,Z,Z,Z⟩ QL (.inl Z)))))))
 refine KF Z p (Ka Z ?_);refine Kb Z (KH (cells:=ld) eW Z QK) Z ?_;refine J9 aD 1 Z (Kj 2 Z (cs':=ld) Z .u Z Z Nt Z Z Z Z Z (J9 aD 1 Z ?_));obtain rfl:=M2 h;exact Kc (T.ret (Ke (Kl 2 aU (Kl 5 bk (Kl 2 aT (KR [6,2,1,0] OY (Kz (us:=ld) 5 Z N6 Nt Z Z) (Kd Z) ⟨_,_,_,_,_,_,Z,Z,Z⟩ QL (.inl Z)))))))
def jv (st:I)  : Option (aH×I):=(ea st 4).bind fun (g,d)=>(BA d g).bind fun (h,e)=>(iG e).bind fun (i,a)=>if i=0 then ((kL h).bind fun (f,b)=>if b=0 then some (f,a) else ((ci a b).bind fun c=>some ((⟨(⟨0,0,0,(⟨false,[]⟩:Bl)⟩:fq),(⟨(⟨false,[]⟩:Bl),0,0,0⟩:bg),(⟨[],0,0,[]⟩:bU),(⟨[],0,0,false⟩:bT),[],(⟨(⟨false,[]⟩:Bl),0,0,[]⟩:aC)⟩:aH),c))) else (some ((⟨(⟨0,0,0,(⟨false,[]⟩:Bl)⟩:fq),(⟨(⟨false,[]⟩:Bl),0,0,0⟩:bg),(⟨[],0,0,[]⟩:bU),(⟨[],0,0,false⟩:bT),[],(⟨(⟨false,[]⟩:Bl),0,0,[]⟩:aC)⟩:aH),a))
theorem tj (g:Nat) (st:I)  (r:aH×I) (h:jv st  = some r):aB Tryz.prog 20 #[jP g] .triv (InR g st) (fun v A' N=> ∃ (l:AT) (m:Nat) (n:AT) (o:Nat) (p:AT) (q:Nat),v= .agg #[jI r.1.Mi.Mn,jI r.1.Mi.Ml,jI r.1.Mi.Mt,.bool r.1.Mi.Mj.null,jS r.1.Mi.Mj.data,.bool r.1.MG.Mk.null,jS r.1.MG.Mk.data,jI r.1.MG.Mh,jI r.1.MG.Md,jI r.1.MG.Mf,jS r.1.MJ.Mk,jI r.1.MJ.Md,jI r.1.MJ.Mf,.slice l r.1.MJ.Mc.length m,jS r.1.MN.Mk,jI r.1.MN.Md,jI r.1.MN.Mf,.bool r.1.MN.Mx,.slice n r.1.MF.length o,.bool r.1.Mp.Mk.null,jS r.1.Mp.Mk.data,jI r.1.Mp.Mz,jI r.1.Mp.Mh,.slice p r.1.Mp.Mc.length q]/\A'=InR g r.2/\N = [RdR (ar 2 aU) [.slice l r.1.MJ.Mc.length m] r.1.MJ.Mc,RdR (ar 5 bk) [.slice n r.1.MF.length o] r.1.MF,RdR (ar 2 aT) [.slice p r.1.Mp.Mc.length q] r.1.Mp.Mc]):=by
 refine aS Tryz.func20 Z Tryz.ntmps20 Z ?_;intro F w hX;unfold jv at h;refine Ka Z (TL.alloc Z .u Tryz.zeroValue38 Z (fun K=>(Ky Z ?_)));obtain⟨⟨E,y⟩,z,h⟩:=M1 h;refine J9 aD 2 Z (Kn 1 Z Z .u (.fn Tryz.call68 Z) (bw g st 4 _ z) sT Z Z ?_);obtain⟨⟨G,A⟩,B,h⟩:=M1 h;refine Kn 1 Z Z .u (.fn Tryz.call67 Z) (wN g y E _ B) sT Z Z (Kk aD Z (T.seq (Ka Z ?_)));obtain⟨⟨L,C⟩,s,h⟩:=M1 h;refine J9 aD 1 Z (Kn 1 Z Z .u (.fn Tryz.call23 Z) (cz g A _ s) sT Z Z (J9 aD 1 Z ?_));rcases jF h with⟨j,h⟩ | ⟨j,h⟩
 ·refine KG Z j (Kv Z ?_);obtain⟨⟨a,D⟩,t,h⟩:=M1 h;refine J9 aD 1 Z (K2 Z .u (.fn Tryz.call69 Z) (th G _ t) rT Z ?_);rintro _ _ _ ⟨b,c,d,e,f,i,rfl,rfl,rfl⟩;refine KK [0,0,0,0,0] Z (J9 aD 3 Z (TL.alloc Z .u Tryz.zeroValue38 Z (fun J=>(Kj 0 Z (cs':=qt a b d f c e i) Z .u Z Z Nt Z Z Z Z Z (Kk aD Z (T.seq (Ka Z (J9 aD 2 Z ?_))))))));rcases jF h with⟨k,h⟩ | ⟨k,h⟩
  ·refine KG Z k (Kv Z (Kb Z (Kp (us:=C6 a b d f c e i) 0 Z N6 Nt Z Z Z) Z (Kj 4 Z (cs':=qt a b d f c e i) Z .u Z Z Nt Z Z Z Z Z ?_)));obtain rfl:=M2 h;exact Kc (T.ret (Ks [5,1,1,1] Tryz.results20 (Kz (us:=qt a b d f c e i) 4 Z N6 Nt Z Z) ⟨_,_,_,_,_,_,Z,Z,Z⟩ QL (.inl Z)))
  refine KF Z k (Ka Z ?_);obtain⟨H,x,h⟩:=M1 h;refine J9 aD 2 Z (Kn 5 Z Z .u (.fn Tryz.call70 Z) (bD g C D _ x) sT Z Z (Ky Z ?_));refine Kb Z (KH (cells:=ld) eW Z QK) Z ?_;refine Kj 4 Z (cs':=ld) Z .u Z Z Nt Z Z Z Z Z ?_;obtain rfl:=M2 h;exact Kc (T.ret (Ke (Kl 2 aU (Kl 5 bk (Kl 2 aT (Ks [8,2,1,0] Tryz.results20 (Kz (us:=ld) 7 Z N6 Nt Z Z) ⟨_,_,_,_,_,_,Z,Z,Z⟩ QL (.inl Z)))))))
 refine KF Z j (Ka Z ?_);refine Kb Z (KH (cells:=ld) eW Z QK) Z ?_;refine Kj 0 Z (cs':=ld) Z .u Z Z Nt Z Z Z Z Z ?_;obtain rfl:=M2 h;exact Kc (T.ret (Ke (Kl 2 aU (Kl 5 bk (Kl 2 aT (Ks [4,2,1,0] Tryz.results20 (Kz (us:=ld) 3 Z N6 Nt Z Z) ⟨_,_,_,_,_,_,Z,Z,Z⟩ QL (.inl Z)))))))
def jk (a0:AI):Option (aH×Int):=(vE a0).bind fun c=>(jv c).bind fun (d,b)=>(en b).bind fun (a,e)=>if a=0 then some (d,0) else (some ((⟨(⟨0,0,0,(⟨false,[]⟩:Bl)⟩:fq),(⟨(⟨false,[]⟩:Bl),0,0,0⟩:bg),(⟨[],0,0,[]⟩:bU),(⟨[],0,0,false⟩:bT),[],(⟨(⟨false,[]⟩:Bl),0,0,[]⟩:aC)⟩:aH),a))
theorem rG (a0:AI) (r:aH×Int) (h:jk a0=some r):aB Tryz.prog 15 #[jS a0] .triv (aI) (fun v A' N=> ∃ (j:AT) (k:Nat) (l:AT) (m:Nat) (n:AT) (o:Nat),v= .tuple #[.agg #[jI r.1.Mi.Mn,jI r.1.Mi.Ml,jI r.1.Mi.Mt,.bool r.1.Mi.Mj.null,jS r.1.Mi.Mj.data,.bool r.1.MG.Mk.null,jS r.1.MG.Mk.data,jI r.1.MG.Mh,jI r.1.MG.Md,jI r.1.MG.Mf,jS r.1.MJ.Mk,jI r.1.MJ.Md,jI r.1.MJ.Mf,.slice j r.1.MJ.Mc.length k,jS r.1.MN.Mk,jI r.1.MN.Md,jI r.1.MN.Mf,.bool r.1.MN.Mx,.slice l r.1.MF.length m,.bool r.1.Mp.Mk.null,jS r.1.Mp.Mk.data,jI r.1.Mp.Mz,jI r.1.Mp.Mh,.slice n r.1.Mp.Mc.length o],jI r.2]/\A'=aI/\N = [RdR (ar 2 aU) [.slice j r.1.MJ.Mc.length k] r.1.MJ.Mc,RdR (ar 5 bk) [.slice l r.1.MF.length m] r.1.MF,RdR (ar 2 aT) [.slice n r.1.Mp.Mc.length o] r.1.Mp.Mc]):=by
 refine aS Tryz.func15 Z Tryz.ntmps15 Z ?_;intro F w hX;unfold jk at h;refine Ka Z (TL.alloc Z .u Tryz.zeroValue38 Z (fun C=>(KJ aD Z Z ?_)));obtain⟨t,x,h⟩:=M1 h;refine J9 aD 1 Z (K2 Z .u (.fn Tryz.call19 Z) (j7 a0 _ x) rT Z ?_);rintro _ _ _ ⟨y,rfl,rfl,rfl⟩;refine KK [0,0,0] Z (KJ aD Z Z ?_);obtain⟨⟨d,p⟩,q,h⟩:=M1 h;refine J9 aD 1 Z (TL.cg0 Z .u (.fn Tryz.call20 Z) (tj y t _ q) sT Z ?_);rintro _ _ _ ⟨e,f,g,i,a,b,rfl,rfl,rfl⟩;refine KK [0,0,0,0,0,0] Z (TL.alloc Z .u Tryz.zeroValue38 Z (fun A=>(Kj 0 Z (cs':=qt d e g a f i b) Z .u Z Z Nt Z Z Z Z Z (Kc (T.seq (Ka Z ?_))))));obtain⟨⟨B,z⟩,s,h⟩:=M1 h;refine J9 aD 1 Z (Kn 4 Z Z .u (.fn Tryz.call21 Z) (dp y p _ s) sT Z Z (KJ aD Z Z (J9 aD 2 Z ?_)));rcases jF h with⟨c,h⟩ | ⟨c,h⟩
 ·refine KG Z c (Kv Z (Kb Z (Kp (us:=C6 d e g a f i b) 0 Z N6 Nt Z Z Z) Z (Kj 5 Z (cs':=qt d e g a f i b) Z .u Z Z Nt Z Z Z Z Z (J9 aD 1 Z ?_))));obtain rfl:=M2 h;exact Kc (T.ret (KR [6,1,1,1] Tryz.results15 (Kz (us:=qt d e g a f i b) 5 Z N6 Nt Z Z) (Kd Z) ⟨_,_,_,_,_,_,Z,Z,Z⟩ QL (.inl Z)))
 refine KF Z c (Ka Z ?_);refine Kb Z (KH (cells:=ld) eW Z QK) Z ?_;refine J9 aD 1 Z (Kj 5 Z (cs':=ld) Z .u Z Z Nt Z Z Z Z Z (J9 aD 1 Z ?_));obtain rfl:=M2 h;exact Kc (T.ret (Ke (Kl 2 aU (Kl 5 bk (Kl 2 aT (KR [9,2,1,0] Tryz.results15 (Kz (us:=ld) 8 Z N6 Nt Z Z) (Kd Z) ⟨_,_,_,_,_,_,Z,Z,Z⟩ QL (.inl Z)))))))
def uI:eY := [(23,1,1),(25,0,0),(25,3,3),(27,0,0),(27,1,2),(27,2,3),(27,3,4),(30,0,0),(30,1,1),(30,2,2),(30,3,3),(32,0,0),(32,1,1),(32,2,2),(32,3,3),(38,0,0),(38,1,5),(38,2,10),(38,3,14),(38,4,18),(38,5,19),(53,1,5),(53,2,12),(53,3,13),(67,0,0),(67,1,18),(67,2,19)]
theorem bh:(uI).OK Tryz.prog:=⟨FOK.mk NF rfl NG rfl,FOK.mk OA rfl M9 rfl,FOK.mk OA rfl Nh rfl,FOK.mk OJ rfl Nh rfl,FOK.mk OJ rfl M9 rfl,FOK.mk OJ rfl M9 rfl,FOK.mk OJ rfl M9 rfl,FOK.mk Or rfl NG rfl,FOK.mk Or rfl M9 rfl,FOK.mk Or rfl M9 rfl,FOK.mk Or rfl O4 rfl,FOK.mk Ok rfl NG rfl,FOK.mk Ok rfl M9 rfl,FOK.mk Ok rfl M9 rfl,FOK.mk Ok rfl NP rfl,FOK.mk Od rfl Of rfl,FOK.mk Od rfl OU rfl,FOK.mk Od rfl OV rfl,FOK.mk Od rfl OW rfl,FOK.mk Od rfl Tryz.sizeOf33 rfl,FOK.mk Od rfl Om rfl,FOK.mk OI rfl Ni rfl,FOK.mk OI rfl Tryz.sizeOf48 rfl,FOK.mk OI rfl NC rfl,FOK.mk Pn rfl NS rfl,FOK.mk Pn rfl M9 rfl,FOK.mk Pn rfl M9 rfl,trivial⟩
def uJ:List Nat := [3,4,9,28,33]
theorem dJ:NOK Tryz.prog uJ:=⟨Nc,Oa,NQ,Pe,Tryz.isAgg33,trivial⟩
theorem lQ:BOK Tryz.prog 23 #[.bool false,A7] [(0,1),(1,1)]:=BOK.mk Tryz.zeroValue23 NF (by intro w; simp)
theorem jl:BOK Tryz.prog 47 #[.bool false,A7,.int .i64 0,.int .i64 0,.int .i64 0,A5,.bool false] [(0,2),(2,1),(3,1),(4,1),(5,1),(6,1)]:=BOK.mk Tryz.zeroValue47 OR (by intro w; simp)
theorem qL:BOK Tryz.prog 53 #[.int .i64 0,.int .i64 0,.int .i64 0,.bool false,A7,.bool false,A7,.int .i64 0,.int .i64 0,.int .i64 0,A5,.bool false,A5,.bool false,A7,.int .i64 0,.int .i64 0,A5] [(0,5),(5,7),(12,1),(13,5)]:=BOK.mk Tryz.zeroValue53 OI (by intro w; simp)
def oR (a0:aH):Option (bE):=if a0.Mi.Mn=0 then ((oA a0.Mp).bind fun a=>some (⟨(⟨a0.Mi.Mn,a0.Mi.Ml,a0.Mi.Mt,a0.Mi.Mj⟩:dZ),(⟨(⟨false,[]⟩:Bl),0,0,0,[],false⟩:aJ),[],a⟩:bE)) else (if a0.Mi.Mn=22 then (some (⟨(⟨a0.Mi.Mn,a0.Mi.Ml,a0.Mi.Mt,a0.Mi.Mj⟩:dZ),(⟨a0.MG.Mk,a0.MG.Mh,a0.MG.Md,a0.MG.Mf,[],false⟩:aJ),[],(⟨(⟨false,[]⟩:Bl),0,0,[]⟩:aX)⟩:bE)) else (if a0.Mi.Mn=24 then (some (⟨(⟨a0.Mi.Mn,a0.Mi.Ml,a0.Mi.Mt,a0.Mi.Mj⟩:dZ),(⟨(⟨false,a0.MJ.Mk⟩:Bl),0,a0.MJ.Md,a0.MJ.Mf,a0.MJ.Mc,false⟩:aJ),[],(⟨(⟨false,[]⟩:Bl),0,0,[]⟩:aX)⟩:bE)) else (if a0.Mi.Mn=26 then (some (⟨(⟨a0.Mi.Mn,a0.Mi.Ml,a0.Mi.Mt,a0.Mi.Mj⟩:dZ),(⟨(⟨false,a0.MN.Mk⟩:Bl),0,a0.MN.Md,a0.MN.Mf,[],a0.MN.Mx⟩:aJ),[],(⟨(⟨false,[]⟩:Bl),0,0,[]⟩:aX)⟩:bE)) else (if a0.Mi.Mn=27 then ((qv a0.MF).bind fun b=>some (⟨(⟨a0.Mi.Mn,a0.Mi.Ml,a0.Mi.Mt,a0.Mi.Mj⟩:dZ),(⟨(⟨false,[]⟩:Bl),0,0,0,[],false⟩:aJ),b,(⟨(⟨false,[]⟩:Bl),0,0,[]⟩:aX)⟩:bE)) else (some (⟨(⟨a0.Mi.Mn,a0.Mi.Ml,a0.Mi.Mt,a0.Mi.Mj⟩:dZ),(⟨(⟨false,[]⟩:Bl),0,0,0,[],false⟩:aJ),[],(⟨(⟨false,[]⟩:Bl),0,0,[]⟩:aX)⟩:bE))))))
theorem yG (a0:aH) (b:AT) (c2:Nat) (A:AT) (B:Nat) (n:AT) (o:Nat) (r:bE) (h:oR a0=some r):wY Tryz.prog 14 #[.agg (qt a0 b A n c2 B o)] (RX.and (RX.of (ar 2 aU) [.slice b a0.MJ.Mc.length c2] a0.MJ.Mc) (RX.and (RX.of (ar 5 bk) [.slice A a0.MF.length B] a0.MF) (RX.of (ar 2 aT) [.slice n a0.Mp.Mc.length o] a0.Mp.Mc))) aI (fun v A' L=> ∃ (p:AT) (q:Nat) (s:AT) (t:Nat) (y:AT) (z:Nat),v= .agg (FG r p s y q t z)/\A'=aI/\L = [(⟨_,ar 2 aU,[.slice p r.MI.Mc.length q],r.MI.Mc⟩:RO),(⟨_,ar 5 bd,[.slice s r.MF.length t],r.MF⟩:RO),(⟨_,ar 2 ba,[.slice y r.Mp.Mc.length z],r.Mp.Mc⟩:RO)]):=by
 refine C3 Tryz.func14 Z Tryz.ntmps14 Z ?_;intro F w S hS hSF;have hX:(RX.and (RX.of (ar 2 aU) [.slice b a0.MJ.Mc.length c2] a0.MJ.Mc) (RX.and (RX.of (ar 5 bk) [.slice A a0.MF.length B] a0.MF) (RX.of (ar 2 aT) [.slice n a0.Mp.Mc.length o] a0.Mp.Mc))).reads w F:=⟨S,hS,hSF⟩;unfold oR at h;refine Ka Z (TL.box Z .u Z Z (fun G=>(TL.alloc Z .u Tryz.zeroValue53 Z (fun H=>(Ky Z (J9 bh 1 Z (Kb Z (Kp (us := [jI a0.Mi.Mn,jI a0.Mi.Ml,jI a0.Mi.Mt,.bool a0.Mi.Mj.null,jS a0.Mi.Mj.data]) 1 Z O3 Of Z Z Z) Z ?_)))))));refine Kb Z (KH (cells:= #[jI a0.Mi.Mn,jI a0.Mi.Ml,jI a0.Mi.Mt,.bool a0.Mi.Mj.null,jS a0.Mi.Mj.data,.bool false,A7,jI 0,jI 0,jI 0,A5,.bool false,A5,.bool false,A7,jI 0,jI 0,A5]) qL Z QK) Z ?_;refine TL.alloc Z .u Tryz.zeroValue53 Z (fun I=>(Kj 0 Z (cs':= #[jI a0.Mi.Mn,jI a0.Mi.Ml,jI a0.Mi.Mt,.bool a0.Mi.Mj.null,jS a0.Mi.Mj.data,.bool false,A7,jI 0,jI 0,jI 0,A5,.bool false,A5,.bool false,A7,jI 0,jI 0,A5]) Z .u Z Z NS Z Z Z Z Z (Kc (T.seq (Ka Z (Lw bh dJ 2 Z Z Z (T.block (Ka Z (J9 bh 2 Z ?_)))))))));rcases jF h with⟨i,h⟩ | ⟨i,h⟩
 ·refine KE Z i (T.region Z (J9 bh 1 Z (Kb Z (Kp (us := [.bool a0.Mp.Mk.null,jS a0.Mp.Mk.data,jI a0.Mp.Mz,jI a0.Mp.Mh,.slice n a0.Mp.Mc.length o]) 2 Z Po Om Z Z Z) Z ?_)));obtain⟨a,C,h⟩:=M1 h;refine TL.cso  Z .u (.fn Tryz.call57 Z) (yB a0.Mp _ _ _ C) hS.2.2 hSF Z ?_;rintro _ _ _ ⟨c,d,rfl,rfl,rfl⟩;refine KK [0,0,0,0,0] Z (J9 bh 1 Z (Kj 1 Z (cs':= #[jI a0.Mi.Mn,jI a0.Mi.Ml,jI a0.Mi.Mt,.bool a0.Mi.Mj.null,jS a0.Mi.Mj.data,.bool false,A7,jI 0,jI 0,jI 0,A5,.bool false,A5,.bool a.Mk.null,jS a.Mk.data,jI a.Mz,jI a.Mh,.slice c a.Mc.length d]) Z .u Z Z NC Z Z Z Z Z (TL.nil (KD (X.seq (Ka Z (Kb Z (Kp (us := [jI a0.Mi.Mn,jI a0.Mi.Ml,jI a0.Mi.Mt,.bool a0.Mi.Mj.null,jS a0.Mi.Mj.data,.bool false,A7,jI 0,jI 0,jI 0,A5,.bool false,A5,.bool a.Mk.null,jS a.Mk.data,jI a.Mz,jI a.Mh,.slice c a.Mc.length d]) 1 Z Oy NS Z Z Z) Z (Kj 2 Z (cs':= #[jI a0.Mi.Mn,jI a0.Mi.Ml,jI a0.Mi.Mt,.bool a0.Mi.Mj.null,jS a0.Mi.Mj.data,.bool false,A7,jI 0,jI 0,jI 0,A5,.bool false,A5,.bool a.Mk.null,jS a.Mk.data,jI a.Mz,jI a.Mh,.slice c a.Mc.length d]) Z .u Z Z NS Z Z Z Z Z ?_))))))));obtain rfl:=M2 h;exact Kc (T.ret (Kl 2 aU (Lz (S:=S) 0 Z (KX [0,0,0,0,0,0] Z (Kl 5 bd (Lz (S:=S) 0 Z (KX [0,0,0,0,0,0,0] Z (Ks [6,1,0,0] PP (Kz (us:= #[jI a0.Mi.Mn,jI a0.Mi.Ml,jI a0.Mi.Mt,.bool a0.Mi.Mj.null,jS a0.Mi.Mj.data,.bool false,A7,jI 0,jI 0,jI 0,A5,.bool false,A5,.bool a.Mk.null,jS a.Mk.data,jI a.Mz,jI a.Mh,.slice c a.Mc.length d]) 4 Z Oy NS Z Z) ⟨_,⟨_,_,_,_,_,_,Z,Z,Z⟩,Z⟩ QL (.inl Z)))))))))
 refine KA Z i (Ka Z (J9 bh 2 Z ?_));rcases jF h with⟨j,h⟩ | ⟨j,h⟩
 ·refine KE Z j (T.region Z (J9 bh 2 Z (Kb Z (Kp (us:=wL0 a0.MG.Mk) 2 Z NL Nh Z Z Z) Z (Kf bh dJ 2 Z 9 Z Z ?_))));refine Kb Z (KH (cells:= #[.bool a0.MG.Mk.null,jS a0.MG.Mk.data,jI a0.MG.Mh,jI a0.MG.Md,jI a0.MG.Mf,A5,.bool false]) jl Z QK) Z ?_;refine J9 bh 1 Z (Kj 0 Z (cs':=wA23 a0) Z .u Z Z Ni Z Z Z Z Z (TL.nil (KD (X.seq (Ka Z (Kb Z (Kp (us := [jI a0.Mi.Mn,jI a0.Mi.Ml,jI a0.Mi.Mt,.bool a0.Mi.Mj.null,jS a0.Mi.Mj.data,.bool a0.MG.Mk.null,jS a0.MG.Mk.data,jI a0.MG.Mh,jI a0.MG.Md,jI a0.MG.Mf,A5,.bool false,A5,.bool false,A7,jI 0,jI 0,A5]) 0 Z Oy NS Z Z Z) Z (Kj 1 Z (cs':=wA23 a0) Z .u Z Z NS Z Z Z Z Z ?_)))))));obtain rfl:=M2 h;refine Kc (T.ret (Kl 2 aU (Lz (S:=S) 0 Z (KX [0,0,0,0,0] Z (Kl 5 bd (Lz (S:=S) 0 Z (KX [0,0,0,0,0,0] Z (Kl 2 ba ?_))))))));exact Lz (S:=S) 0 Z (KX [0,0,0,0,0,0,0] Z (Ks [6,2,1,0] PP (Kz (us:=wA23 a0) 4 Z Oy NS Z Z) ⟨_,⟨_,_,_,_,_,_,Z,Z,Z⟩,Z⟩ QL (.inl Z)))
 refine KA Z j (Ka Z (J9 bh 2 Z ?_));rcases jF h with⟨k,h⟩ | ⟨k,h⟩
 ·refine KE Z k (T.region Z (Kf bh dJ 2 Z 3 Z Z ?_));refine Kb Z (KH (cells:= #[.bool false,jS a0.MJ.Mk]) lQ Z QK) Z ?_;refine Kf bh dJ 2 Z 9 Z Z ?_;refine Kb Z (KH (cells:= #[.bool false,jS a0.MJ.Mk,jI 0,jI a0.MJ.Md,jI a0.MJ.Mf,.slice b a0.MJ.Mc.length c2,.bool false]) jl Z QK) Z ?_;refine J9 bh 1 Z (Kj 0 Z (cs':=wA24 a0 b c2) Z .u Z Z Ni Z Z Z Z Z (TL.nil (KD (X.seq (Ka Z (Kb Z (Kp (us := [jI a0.Mi.Mn,jI a0.Mi.Ml,jI a0.Mi.Mt,.bool a0.Mi.Mj.null,jS a0.Mi.Mj.data,.bool false,jS a0.MJ.Mk,jI 0,jI a0.MJ.Md,jI a0.MJ.Mf,.slice b a0.MJ.Mc.length c2,.bool false,A5,.bool false,A7,jI 0,jI 0,A5]) 0 Z Oy NS Z Z Z) Z (Kj 1 Z (cs':=wA24 a0 b c2) Z .u Z Z NS Z Z Z Z Z ?_)))))));obtain rfl:=M2 h;refine Kc (T.ret (X.oldrd (E:=ar 2 aU) (cs := [.slice b a0.MJ.Mc.length c2]) (x:=a0.MJ.Mc) hS.1 (Kl 5 bd (Lz (S:=S) 0 Z (KX [0,0,0,0,0,0] Z (Kl 2 ba (Lz (S:=S) 0 Z (KX [0,0,0,0,0,0,0] Z ?_))))))));exact Ks [6,2,1,0] PP (Kz (us:=wA24 a0 b c2) 4 Z Oy NS Z Z) ⟨_,⟨_,_,_,_,_,_,Z,Z,Z⟩,Z⟩ QL (.inl Z)
 refine KA Z k (Ka Z (J9 bh 2 Z ?_));rcases jF h with⟨l,h⟩ | ⟨l,h⟩
 ·refine KE Z l (T.region Z (Kf bh dJ 2 Z 3 Z Z ?_));refine Kb Z (KH (cells:= #[.bool false,jS a0.MN.Mk]) lQ Z QK) Z ?_;refine Kf bh dJ 2 Z 9 Z Z ?_;refine Kb Z (KH (cells:= #[.bool false,jS a0.MN.Mk,jI 0,jI a0.MN.Md,jI a0.MN.Mf,A5,.bool a0.MN.Mx]) jl Z QK) Z ?_;refine J9 bh 1 Z (Kj 0 Z (cs':=wA25 a0) Z .u Z Z Ni Z Z Z Z Z (TL.nil (KD (X.seq (Ka Z (Kb Z (Kp (us := [jI a0.Mi.Mn,jI a0.Mi.Ml,jI a0.Mi.Mt,.bool a0.Mi.Mj.null,jS a0.Mi.Mj.data,.bool false,jS a0.MN.Mk,jI 0,jI a0.MN.Md,jI a0.MN.Mf,A5,.bool a0.MN.Mx,A5,.bool false,A7,jI 0,jI 0,A5]) 0 Z Oy NS Z Z Z) Z (Kj 1 Z (cs':=wA25 a0) Z .u Z Z NS Z Z Z Z Z ?_)))))));obtain rfl:=M2 h;refine Kc (T.ret (Kl 2 aU (Lz (S:=S) 0 Z (KX [0,0,0,0,0] Z (Kl 5 bd (Lz (S:=S) 0 Z (KX [0,0,0,0,0,0] Z (Kl 2 ba ?_))))))));exact Lz (S:=S) 0 Z (KX [0,0,0,0,0,0,0] Z (Ks [6,2,1,0] PP (Kz (us:=wA25 a0) 4 Z Oy NS Z Z) ⟨_,⟨_,_,_,_,_,_,Z,Z,Z⟩,Z⟩ QL (.inl Z)))
 refine KA Z l (Ka Z (J9 bh 2 Z ?_));rcases jF h with⟨m,h⟩ | ⟨m,h⟩
 ·refine KE Z m (T.region Z ?_);obtain⟨e,D,h⟩:=M1 h;refine Kf bh dJ 2 Z 2 Z Z (TL.cso  Z .u (.fn Tryz.call58 Z) (yA a0.MF _ _ _ D) hS.2.1 hSF Z ?_);rintro _ _ _ ⟨f,g,rfl,rfl,rfl⟩;refine KK [0,0,0,0,0] Z (J9 bh 1 Z (Kj 1 Z (cs':= #[jI a0.Mi.Mn,jI a0.Mi.Ml,jI a0.Mi.Mt,.bool a0.Mi.Mj.null,jS a0.Mi.Mj.data,.bool false,A7,jI 0,jI 0,jI 0,A5,.bool false,.slice f e.length g,.bool false,A7,jI 0,jI 0,A5]) Z .u Z Z Tryz.sizeOf48 Z Z Z Z Z (TL.nil (KD (X.seq (Ka Z (Kb Z (Kp (us := [jI a0.Mi.Mn,jI a0.Mi.Ml,jI a0.Mi.Mt,.bool a0.Mi.Mj.null,jS a0.Mi.Mj.data,.bool false,A7,jI 0,jI 0,jI 0,A5,.bool false,.slice f e.length g,.bool false,A7,jI 0,jI 0,A5]) 1 Z Oy NS Z Z Z) Z (Kj 2 Z (cs':= #[jI a0.Mi.Mn,jI a0.Mi.Ml,jI a0.Mi.Mt,.bool a0.Mi.Mj.null,jS a0.Mi.Mj.data,.bool false,A7,jI 0,jI 0,jI 0,A5,.bool false,.slice f e.length g,.bool false,A7,jI 0,jI 0,A5]) Z .u Z Z NS Z Z Z Z Z ?_))))))));obtain rfl:=M2 h;exact Kc (T.ret (Kl 2 aU (Lz (S:=S) 0 Z (KX [0,0,0,0,0,0] Z (Kl 2 ba (Lz (S:=S) 0 Z (KX [0,0,0,0,0,0,0] Z (Ks [6,1,1,0] PP (Kz (us:= #[jI a0.Mi.Mn,jI a0.Mi.Ml,jI a0.Mi.Mt,.bool a0.Mi.Mj.null,jS a0.Mi.Mj.data,.bool false,A7,jI 0,jI 0,jI 0,A5,.bool false,.slice f e.length g,.bool false,A7,jI 0,jI 0,A5]) 4 Z Oy NS Z Z) ⟨_,⟨_,_,_,_,_,_,Z,Z,Z⟩,Z⟩ QL (.inl Z)))))))))
 refine KA Z m (T.skip (KD (X.seq (Ka Z (Kb Z (Kp (us := [jI a0.Mi.Mn,jI a0.Mi.Ml,jI a0.Mi.Mt,.bool a0.Mi.Mj.null,jS a0.Mi.Mj.data,.bool false,A7,jI 0,jI 0,jI 0,A5,.bool false,A5,.bool false,A7,jI 0,jI 0,A5]) 0 Z Oy NS Z Z Z) Z (Kj 1 Z (cs':= #[jI a0.Mi.Mn,jI a0.Mi.Ml,jI a0.Mi.Mt,.bool a0.Mi.Mj.null,jS a0.Mi.Mj.data,.bool false,A7,jI 0,jI 0,jI 0,A5,.bool false,A5,.bool false,A7,jI 0,jI 0,A5]) Z .u Z Z NS Z Z Z Z Z ?_))))));obtain rfl:=M2 h;refine Kc (T.ret (Kl 2 aU (Lz (S:=S) 0 Z (KX [0,0,0,0,0] Z (Kl 5 bd (Lz (S:=S) 0 Z (KX [0,0,0,0,0,0] Z (Kl 2 ba ?_))))))));exact Lz (S:=S) 0 Z (KX [0,0,0,0,0,0,0] Z (Ks [6,2,1,0] PP (Kz (us:= #[jI a0.Mi.Mn,jI a0.Mi.Ml,jI a0.Mi.Mt,.bool a0.Mi.Mj.null,jS a0.Mi.Mj.data,.bool false,A7,jI 0,jI 0,jI 0,A5,.bool false,A5,.bool false,A7,jI 0,jI 0,A5]) 4 Z Oy NS Z Z) ⟨_,⟨_,_,_,_,_,_,Z,Z,Z⟩,Z⟩ QL (.inl Z)))
abbrev Pr (α:Type):=AI->Nat->Except Int (α×Nat)
namespace Pr
variable {α β:Type}
def ret (a:α):Pr α:=fun _ q=> .ok (a,q)
def err (e:Int):Pr α:=fun _ _=> .error e
def bind (p:Pr α) (f:α->Pr β):Pr β:=fun s q=>match p s q with | .error e=> .error e | .ok (a,r)=>f a s r
theorem bind_ok {p:Pr α} {f:α->Pr β} {s:AI} {q:Nat} {x:β×Nat} (h:p.bind f s q= .ok x): ∃ a r,p s q= .ok (a,r)/\f a s r= .ok x:=by
 unfold bind at h
 cases hp:p s q with
 | error e=>rw[hp] at h; exact nomatch h
 | ok y=>rw[hp] at h; exact⟨_,_,rfl,h⟩
theorem bind_of {p:Pr α} {f:α->Pr β} {s:AI} {q r:Nat} {a:α} (h:p s q= .ok (a,r)):p.bind f s q=f a s r:=by unfold bind; rw[h]
theorem bind_err {p:Pr α} {f:α->Pr β} {s:AI} {q:Nat} {e:Int} (h:p s q= .error e):p.bind f s q= .error e:=by unfold bind; rw[h]
end Pr
structure CR {α:Type} (op:I->Option (α×I)) (p:Pr α) (z:α):Prop where
 dead: ∀ st:I,st.err≠0->op st=some (z,st)
 bad: ∀ (s:AI) (q:Nat) (e:Int),q<=s.length->p s q= .error e-> ∃ st:I,op ⟨s.drop q,q,0⟩=some (z,st)/\st.err=e/\e≠0
 good: ∀ (s:AI) (q:Nat) (a:α) (r:Nat),q<=s.length->p s q= .ok (a,r)->op ⟨s.drop q,q,0⟩=some (a,⟨s.drop r,r,0⟩)
structure Sp {α:Type} (p:Pr α) (enc:α->AI) (ok:α->Prop):Prop where
 spell: ∀ (s:AI) (q:Nat) (a:α) (r:Nat),q<=s.length->p s q= .ok (a,r)->q<=r/\r<=s.length/\r=q+(enc a).length/\s.take r=s.take q++enc a/\ok a
 back: ∀ (s t:AI) (q:Nat) (a:α),q<=s.length->ok a->s.drop q=enc a++t->p s q= .ok (a,q+(enc a).length)
theorem cI {s x t:AI} {q:Nat} (h:s.drop q=x++t):s.drop (q+x.length)=t:=by rw[<- NM,h,List.drop_left]
theorem oT (s:AI) (q k:Nat):s.take (q+k)=s.take q++(s.drop q).take k:=List.take_add
theorem FU (q:Int) (c:UInt8) (k:Nat):be (q*256+c.toNat) (k+1)=be q k ++ [c]:=by
 have hc:=c.toNat_lt;unfold be;rw[List.range_succ,List.map_append];congr 1
 ·apply List.map_congr_left;intro i hi;have hi:=List.mem_range.1 hi;have e:k+1 - 1 - i=(k - 1 - i)+1:=by omega
  have a:(q*256+(c.toNat:Int)) / 256=q:=by omega
  rw[e,show 8*(k - 1 - i+1)=8+8*(k - 1 - i) by omega,Int.pow_add,<- Int.ediv_ediv_of_nonneg QJ,show (2 ^ 8:Int)=256 from rfl,a]
 ·simp only[List.map_cons,List.map_nil,Nat.add_sub_cancel,Nat.sub_self,Nat.mul_zero,Int.pow_zero,Int.ediv_one];congr 1;apply UInt8.toNat_inj.1;simp[UInt8.toNat_ofNat'];omega
theorem FV (cs:AI): ∀ (q:Int) (k:Nat),be (cs.foldl (fun n d=>n*256+(d.toNat:Int)) q) (k+cs.length)=be q k++cs:=by
 induction cs with
 | nil=>intro q k; simp
 | cons c cs ih =>
  intro q k;have h:=ih (q*256+c.toNat) (k+1);rw[FU] at h;rw[List.foldl_cons,Ng,show k+(cs.length+1)=k+1+cs.length by omega,h];simp
theorem G4 (c:UInt8):be (sgn c) 1 = [c]:=by
 have hc:=c.toNat_lt;unfold be;simp only[List.range_one,List.map_cons,List.map_nil,Nat.sub_self,Nat.mul_zero,Int.pow_zero,Int.ediv_one];congr 1;apply UInt8.toNat_inj.1;unfold sgn;simp[UInt8.toNat_ofNat'];split <;> omega
theorem Dp (l:AI) (h:l ≠ []):be (bb l) l.length=l:=by
 cases l with
 | nil=>exact absurd rfl h
 | cons c cs =>
  have h:=FV cs (sgn c) 1;rw[G4] at h;rw[Ng,Nat.add_comm];exact h
def bP (k:Nat):Pr Int:=fun s q=>if s.length<q+k then .error 1 else .ok (bb ((s.drop q).take k),q+k)
theorem G5 (k:Nat) (b:1<=k) (c:k<=8) (kk:Int) (hk:kk=(k:Int)):CR (fun st=>ea st kk) (bP k) 0:=by
 subst hk;refine⟨fun st h=> ?_,fun s q e hq h=> ?_,fun s q a r hq h=> ?_⟩
 ·rw[ko,oe h]
 ·unfold bP at h;split at h
  ·rename_i hl;injection h with h;subst h;refine⟨⟨s.drop q,q,1⟩,?_,rfl,by decide⟩;simp only[ko];rw[sb _ _ _ QI QI (by rw[Nb]; omega)]
  ·exact nomatch h
 ·unfold bP at h;split at h
  ·exact nomatch h
  ·rename_i hl;injection h with h;obtain⟨rfl,rfl⟩:=NE h;simp only[ko];rw[z7 _ _ _ b c (by rw[Nb]; omega),NM]
theorem bW (k:Nat) (b:1<=k) (c:k<=8):Sp (bP k) (fun n=>be n k) (fun n=>bG n k=true):=by
 refine⟨fun s q a r hq h=> ?_,fun s t q a hq ha h=> ?_⟩
 ·unfold bP at h;split at h
  ·exact nomatch h
  ·rename_i hl;injection h with h;obtain⟨rfl,rfl⟩:=NE h;have hn:((s.drop q).take k).length=k:=by rw[Np,Nb]; omega
   have hne:(s.drop q).take k ≠ []:=fun d=>by rw[d] at hn; simp at hn; omega
   have hb:be (bb ((s.drop q).take k)) k=(s.drop q).take k:=by
    have:=Dp _ hne
    rwa [hn] at this
   refine⟨by omega,by omega,by rw[aZ],by rw[hb,oT],?_⟩;rw[<- I8 _ _ b c,hb]
 ·have hl:=congrArg List.length h;rw[Nb,M8,aZ] at hl;unfold bP;rw[QO QI,h,List.take_append_of_le_length (by rw[aZ]; omega),List.take_of_length_le (by rw[aZ]; omega),aZ,Bj _ _ b c ha]
def uK (n:Int):Pr Bl:=fun s q=>if n= -1 then .ok (⟨true,[]⟩,q) else if n<0 then .error 4 else if (s.length:Int)<q+n then .error 1 else .ok (⟨false,(s.drop q).take n.toNat⟩,q+n.toNat)
theorem sy (n:Int) (s:AI) (q:Nat) (hq:q<=s.length) :
 (∃ e st,uK n s q= .error e/\mh ⟨s.drop q,q,0⟩ n=(⟨false,[]⟩,st)/\st.err=e/\e≠0)\/(∃ b r,uK n s q= .ok (b,r)/\mh ⟨s.drop q,q,0⟩ n=(b,⟨s.drop r,r,0⟩)/\q<=r/\r<=s.length/\blen b=n/\bM b=true/\s.take r=s.take q++b.data/\r=q+b.data.length):=by
 have hd:(s.drop q).length=s.length - q:=Nb;unfold uK mh;rw[QO (show ¬ ((⟨s.drop q,q,0⟩:I).err≠0) by simp)];by_cases a:n= -1
 ·rw[QM a,QM a];exact .inr ⟨_,_,rfl,rfl,NA _,hq,a.symm,rfl,by simp,rfl⟩
 rw[QO a,QO a];by_cases c:n<0
 ·rw[QM c,Fs _ _ _ c];exact .inl ⟨_,_,rfl,rfl,rfl,by decide⟩
 rw[QO c];by_cases d:(s.length:Int)<q+n
 ·rw[QM d,vj _ _ _ QI];exact .inl ⟨_,_,rfl,rfl,rfl,by decide⟩
 rw[QO d];obtain⟨m,rfl⟩: ∃ m:Nat,n=(m:Int):=⟨n.toNat,by omega⟩;rw[Nu,Br _ _ _ QI,NM];have hl:((s.drop q).take m).length=m:=by rw[Np]; omega
 exact .inr ⟨_,_,rfl,rfl,by omega,by omega,by unfold blen; simp only[Bool.false_eq_true,if_false]; rw[hl],rfl,oT s q m,by rw[hl]⟩
def jH (k:Nat):Pr Bl:=(bP k).bind uK
theorem G6 {lenop:I->Int×I} {p:Pr Int} (hl:CR (fun st=>some (lenop st)) p 0) (hs: ∀ s q a r,q<=s.length->p s q= .ok (a,r)->r<=s.length):CR (fun st=>some (mh (lenop st).2 (lenop st).1)) (p.bind uK) (⟨false,[]⟩:Bl):=by
 refine⟨fun st h=> ?_,fun s q e hq h=> ?_,fun s q a r hq h=> ?_⟩
 ·have c:=M2 (hl.dead st h);rw[c,tL h]
 ·cases hp:p s q with
  | error e' =>
   rw[Pr.bind_err hp] at h;injection h with h;subst h;obtain⟨st,l,g,i⟩:=hl.bad s q e' hq hp;have c:=M2 l;rw[c,tL (by simp only[g]; exact i)];exact⟨st,rfl,g,i⟩
  | ok x =>
   obtain⟨n,m⟩:=x;rw[Pr.bind_of hp] at h;have c:=M2 (hl.good s q n m hq hp);rw[c];rcases sy n s m (hs _ _ _ _ hq hp) with⟨e',st,d,f,j,k⟩ | ⟨b,r,d,f,_⟩
   ·rw[d] at h;injection h with h;subst h;exact⟨st,by rw[f],j,k⟩
   ·rw[d] at h;exact nomatch h
 ·obtain⟨n,m,hp,h⟩:=Pr.bind_ok h;have c:=M2 (hl.good s q n m hq hp);rw[c];rcases sy n s m (hs _ _ _ _ hq hp) with⟨e',st,d,f,j,k⟩ | ⟨b,r',d,f,_⟩
  ·rw[d] at h;exact nomatch h
  ·rw[d] at h;injection h with h;obtain⟨rfl,rfl⟩:=NE h;rw[f]
theorem G7 {p:Pr Int} {enc:Int->AI} {ok:Int->Prop} (hp:Sp p enc ok):Sp (p.bind uK) (fun b=>enc (blen b)++b.data) (fun b=>ok (blen b)/\bM b=true):=by
 refine⟨fun s q a r hq h=> ?_,fun s t q a hq ha h=> ?_⟩
 ·obtain⟨n,m,c,h⟩:=Pr.bind_ok h;obtain⟨a1,a2,a3,a4,a5⟩:=hp.spell _ _ _ _ hq c;rcases sy n s m a2 with⟨e',st,e,i,o,u⟩ | ⟨b,r',e,i,v,j,f,k,l,w⟩
  ·rw[e] at h;exact nomatch h
  ·rw[e] at h;injection h with h;obtain⟨rfl,rfl⟩:=NE h;refine⟨by omega,j,by rw[M8,f]; omega,by rw[l,a4,f,Nd],by rw[f]; exact a5,k⟩
 ·rw[Nd] at h;have c:=hp.back s _ q _ hq ha.1 h;rw[Pr.bind_of c,M8,<- Nat.add_assoc];have g:=cI h;have hl:=congrArg List.length h;rw[Nb,M8,M8] at hl;generalize (enc (blen a)).length=m at g hl ⊢;obtain⟨nu,d⟩:=a;unfold uK blen
  cases nu with
  | true =>
   have:d = []:=by have:=ha.2; unfold bM at this; simpa using this
   subst this;rw[QM rfl,QM rfl];rfl
  | false =>
   simp only[Bool.false_eq_true,if_false];simp only at g hl;rw[QO QI,QO QI,g,QO QI,Nu,List.take_left]
theorem xm (k:Nat) (b:1<=k) (c:k<=8) (kk:Int) (hk:kk=(k:Int)):CR (fun st=>lc st kk) (jH k) (⟨false,[]⟩:Bl) :=
 G6 (lenop:=fun st=>eX st kk) (G5 k b c kk hk) (fun s q a r hq h=>((bW k b c).spell s q a r hq h).2.1)
theorem eE (k:Nat) (a:1<=k) (c:k<=8):Sp (jH k) (fun b=>be (blen b) k++b.data) (fun b=>bG (blen b) k=true/\bM b=true):=G7 (bW k a c)
theorem nQ (bs:Int) (a:Nat): ∀ (l:AI) (b acc i:Nat),vgo bs l (a+b) acc i=((vgo bs l b acc i).1,⟨(vgo bs l b acc i).2.rest,a+(vgo bs l b acc i).2.pos,(vgo bs l b acc i).2.err⟩)
 | [],b,acc,i=>rfl
 | c::l,b,acc,i=>by
  have ih:=nQ bs a l (b+1) (acc+c.toNat % 128*2 ^ (7*i)) (i+1);unfold vgo;split
  ·rfl
  ·split
   ·rw[Nat.add_assoc,ih]
   ·split
    ·rfl
    ·rfl
theorem xn (bs:Int): ∀ (l:AI) (b acc i:Nat),(vgo bs l b acc i).2.err≠0->(vgo bs l b acc i).1=0
 | [],b,acc,i,h=>rfl
 | c::l,b,acc,i,h=>by
  have ih:=xn bs l (b+1) (acc+c.toNat % 128*2 ^ (7*i)) (i+1)
  revert h
  unfold vgo;split
  ·exact fun _=>rfl
  ·split
   ·exact ih
   ·split
    ·exact fun _=>rfl
    ·exact fun h=>absurd rfl h
def jQ (bs:Int):Pr Nat:=fun s q=>if (vgo bs (s.drop q) 0 0 0).2.err=0 then .ok ((vgo bs (s.drop q) 0 0 0).1,q+(vgo bs (s.drop q) 0 0 0).2.pos) else .error (vgo bs (s.drop q) 0 0 0).2.err
theorem uL {bs:Int} {s:AI} {q n r:Nat} (hq:q<=s.length) (h:jQ bs s q= .ok (n,r)):fh bs ⟨s.drop q,q,0⟩=(n,⟨s.drop r,r,0⟩)/\q<=r/\r<=s.length/\r=q+(eR n).length/\s.take r=s.take q++eR n:=by
 have hd:(s.drop q).length=s.length - q:=Nb;unfold jQ at h;split at h
 ·rename_i he;injection h with h;obtain⟨b,a⟩:=NE h;obtain⟨k,v,c,f,e,d,_⟩:=vgo_ok bs (s.drop q) 0 0 0 _ _ (rfl: _=((vgo bs (s.drop q) 0 0 0).1,(vgo bs (s.drop q) 0 0 0).2)) he;have g3':(vgo bs (s.drop q) 0 0 0).1=v:=by rw[e]; simp
  rw[g3'] at b;subst b;rw[c] at a;simp only[Nat.zero_add] at a;have hlk:(eR v).length=k:=by rw[d,Np]; omega
  refine⟨?_,by omega,by omega,by omega,?_⟩
  ·unfold fh;rw[QO (by simp)];have:=nQ bs q (s.drop q) 0 0 0;rw[Nat.add_zero] at this;simp only;rw[this,g3',c,<- a,NM];simp
  ·rw[<- a,oT,d]
 ·exact nomatch h
theorem G8 {bs:Int} {s:AI} {q:Nat} {e:Int} (h:jQ bs s q= .error e): ∃ st,fh bs ⟨s.drop q,q,0⟩=(0,st)/\st.err=e/\e≠0:=by
 unfold jQ at h;split at h
 ·exact nomatch h
 ·rename_i he;injection h with h;subst h;have a:=xn bs (s.drop q) 0 0 0 he;refine⟨(fh bs ⟨s.drop q,q,0⟩).2,?_,?_,he⟩
  ·unfold fh;rw[QO (by simp)];have:=nQ bs q (s.drop q) 0 0 0;rw[Nat.add_zero] at this;simp only;rw[this,a]
  ·unfold fh;rw[QO (by simp)];have:=nQ bs q (s.drop q) 0 0 0;rw[Nat.add_zero] at this;simp only;rw[this]
theorem Dq {bs:Int} {st:I} (h:st.err≠0):fh bs st=(0,st):=QM h
theorem BN (bs:Int) (hb:bs=32\/bs=64): ∀ (l:AI) (b acc i:Nat),acc<2 ^ (7*i)->(vgo bs l b acc i).2.err=0->(vgo bs l b acc i).1<2 ^ bs.toNat
 | [],b,acc,i,ha,h=>by simp[vgo] at h
 | c::l,b,acc,i,ha,h=>by
  have ih:=BN bs hb l (b+1) (acc+c.toNat % 128*2 ^ (7*i)) (i+1)
  revert h
  unfold vgo;split
  ·exact fun h=>absurd h (by simp)
  ·rename_i hc;obtain⟨a,d⟩:=nH bs hb acc (c.toNat % 128) i ha QI (Nat.mod_lt _ QJ) (fun h=>hc (.inr h));split
   ·exact ih a
   ·split
    ·exact fun h=>absurd h (by simp)
    ·exact fun _=>d
theorem wq (bs:Int) (hb:bs=32\/bs=64):Sp (jQ bs) eR (fun n=>n<2 ^ bs.toNat):=by
 refine⟨fun s q a r hq h=> ?_,fun s t q a hq ha h=> ?_⟩
 ·obtain⟨f,b,c,d,e⟩:=uL hq h;refine⟨b,c,d,e,?_⟩;unfold jQ at h;split at h
  ·rename_i he;injection h with h;rw[<- (NE h).1];exact BN bs hb _ _ _ _ (by simp) he
  ·exact nomatch h
 ·unfold jQ;rw[h,Jc bs QI a 0 0 0 t (by simpa using ha) QI];simp
def jm (bs:Int):Pr Int:=(jQ bs).bind fun n=> .ret (eN n)
theorem At (bs:Int) (hb:bs=32\/bs=64):CR (fun st=>some (gq (fh bs st))) (jm bs) 0:=by
 refine⟨fun st h=> ?_,fun s q e hq h=> ?_,fun s q a r hq h=> ?_⟩
 ·rw[Dq h];simp[gq,eN]
 ·cases hp:jQ bs s q with
  | error e' =>
   rw[jm,Pr.bind_err hp] at h;injection h with h;subst h;obtain⟨st,b,c,d⟩:=G8 hp;exact⟨st,by rw[b]; simp[gq,eN],c,d⟩
  | ok x =>
   rw[jm,Pr.bind_of (a:=x.1) (r:=x.2) hp] at h;exact nomatch h
 ·obtain⟨n,m,hp,h⟩:=Pr.bind_ok h;injection h with h;obtain⟨rfl,rfl⟩:=NE h;rw[(uL hq hp).1];rfl
theorem jU (bs:Int) (hb:bs=32\/bs=64):Sp (jm bs) (fun n=>eR (bX n)) (fun n=>bX n<2 ^ bs.toNat):=by
 refine⟨fun s q a r hq h=> ?_,fun s t q a hq ha h=> ?_⟩
 ·obtain⟨n,m,hp,h⟩:=Pr.bind_ok h;injection h with h;obtain⟨rfl,rfl⟩:=NE h;have:=(wq bs hb).spell _ _ _ _ hq hp
  rwa [CJ]
 ·rw[jm,Pr.bind_of ((wq bs hb).back s t q _ hq ha h)];simp only[Pr.ret,CI]
def ir:Pr Bl:=(jm 32).bind uK
theorem zb:CR cW ir (⟨false,[]⟩:Bl) :=
 G6 (lenop:=fun st=>gq (fh 32 st)) (At 32 (.inl rfl)) (fun s q a r hq h=>((jU 32 (.inl rfl)).spell s q a r hq h).2.1)
theorem gU:Sp ir (fun b=>eR (bX (blen b))++b.data) (fun b=>bX (blen b)<2 ^ (32:Int).toNat/\bM b=true):=G7 (jU 32 (.inl rfl))
def fW (p:Pr Bl):Pr AI:=p.bind fun b=>if b.null then .err 4 else .ret b.data
theorem Ep {op:I->Bl×I} {p:Pr Bl} (h:CR (fun st=>some (op st)) p (⟨false,[]⟩:Bl)) (hb: ∀ s q a r,q<=s.length->p s q= .ok (a,r)->bM a=true):CR (fun st=>some (wF (op st))) (fW p) []:=by
 refine⟨fun st hs=> ?_,fun s q e hq he=> ?_,fun s q a r hq hg=> ?_⟩
 ·have c:=M2 (h.dead st hs);rw[c];rfl
 ·cases hp:p s q with
  | error e' =>
   rw[fW,Pr.bind_err hp] at he;injection he with he;subst he;obtain⟨st,d,f,g⟩:=h.bad s q _ hq hp;have c:=M2 d;rw[c];exact⟨st,rfl,f,g⟩
  | ok x =>
   obtain⟨b,r⟩:=x;rw[fW,Pr.bind_of hp] at he;have c:=M2 (h.good s q b r hq hp);rw[c];have hbr:=hb _ _ _ _ hq hp;split at he
   ·rename_i hn;injection he with he;subst he;have:b.data = []:=by unfold bM at hbr; rw[hn] at hbr; simpa using hbr
    refine⟨⟨s.drop r,r,4⟩,?_,rfl,by decide⟩;unfold wF;simp only[hn,if_true,this];rfl
   ·exact nomatch he
 ·obtain⟨b,m,hp,hg⟩:=Pr.bind_ok hg;have c:=M2 (h.good s q b m hq hp);rw[c];split at hg
  ·exact nomatch hg
  ·rename_i hn;injection hg with hg;obtain⟨rfl,rfl⟩:=NE hg;unfold wF;simp only[hn,Bool.false_eq_true,if_false]
theorem Au {p:Pr Bl} {enc:Bl->AI} {ok:Bl->Prop} (hp:Sp p enc ok):Sp (fW p) (fun d=>enc ⟨false,d⟩) (fun d=>ok ⟨false,d⟩):=by
 refine⟨fun s q a r hq h=> ?_,fun s t q a hq ha h=> ?_⟩
 ·obtain⟨b,m,c,h⟩:=Pr.bind_ok h;have e:=hp.spell _ _ _ _ hq c;split at h
  ·exact nomatch h
  ·rename_i hn;injection h with h;obtain⟨rfl,rfl⟩:=NE h;obtain⟨nu,d⟩:=b;simp only[Bool.not_eq_true] at hn;subst hn;exact e
 ·rw[fW,Pr.bind_of (hp.back s t q _ hq ha h)];rfl
def jo:Pr AI:=fW (jH 2)
def lR:Pr AI:=fW ir
theorem Jn:CR sR jo []:=Ep (op:=fun st=>jA st 2) (xm 2 QJ QJ 2 rfl) (fun s q a r hq h=>((eE 2 QJ QJ).spell s q a r hq h).2.2.2.2.2)
theorem kM:Sp jo (fun d=>be (d.length:Int) 2++d) (fun d=>bG (d.length:Int) 2=true/\bM ⟨false,d⟩=true):=Au (eE 2 QJ QJ)
theorem Jo:CR wP lR []:=Ep (op:=iN) zb (fun s q a r hq h=>(gU.spell s q a r hq h).2.2.2.2.2)
theorem nR:Sp lR (fun d=>eR (bX (d.length:Int))++d) (fun d=>bX (d.length:Int)<2 ^ (32:Int).toNat/\bM ⟨false,d⟩=true):=Au gU
theorem G9 (s:AI) (q k m:Nat) (n:Int) (hk:k<=(s.drop q).length) (hm:m=q+k) (hq:q<=s.length) :
 (∃ e,uK n s m= .error e/\e≠0/\pL (s.drop q) k n=⟨⟨false,[]⟩,0,e⟩)\/(∃ b r,uK n s m= .ok (b,r)/\pL (s.drop q) k n=⟨b,((r - q:Nat):Int),0⟩):=by
 have hd:(s.drop q).length=s.length - q:=Nb;subst hm;unfold uK pL;by_cases a:n= -1
 ·rw[QM a,QM a];exact .inr ⟨_,_,rfl,by congr 1; omega⟩
 rw[QO a,QO a];by_cases c:n<0
 ·rw[QM c,QM c];exact .inl ⟨_,rfl,by decide,rfl⟩
 rw[QO c,QO c];by_cases d:(s.length:Int)<((q+k:Nat):Int)+n
 ·rw[QM d,QM QI];exact .inl ⟨_,rfl,by decide,rfl⟩
 rw[QO d,QO QI];exact .inr ⟨_,_,rfl,by rw[NM]; congr 1; omega⟩
theorem nh (s:AI) (q k:Nat) (d:1<=k) (f:k<=8) (hq:q<=s.length) :
 (∃ e,jH k s q= .error e/\e≠0/\mJ (s.drop q) k=⟨⟨false,[]⟩,0,e⟩)\/(∃ b r,jH k s q= .ok (b,r)/\q<=r/\r<=s.length/\mJ (s.drop q) k=⟨b,((r - q:Nat):Int),0⟩):=by
 have hd:(s.drop q).length=s.length - q:=Nb;unfold mJ;by_cases hl:(s.drop q).length<k
 ·rw[QM hl];exact .inl ⟨1,Pr.bind_err (by unfold bP; rw[QM QI]),by decide,rfl⟩
 ·rw[QO hl];have hp:bP k s q= .ok (bb ((s.drop q).take k),q+k):=by unfold bP; rw[QO QI]
  rcases G9 s q k _ (bb ((s.drop q).take k)) QI rfl hq with⟨e,a,c,g⟩ | ⟨b,r,a,c⟩
  ·exact .inl ⟨e,by rw[jH,Pr.bind_of hp,a],c,g⟩
  ·have hb:jH k s q= .ok (b,r):=by rw[jH,Pr.bind_of hp,a]
   have:=(eE k d f).spell _ _ _ _ hq hb;exact .inr ⟨b,r,hb,this.1,this.2.1,c⟩
theorem oU (s:AI) (q:Nat) (hq:q<=s.length) :
 (∃ e,ir s q= .error e/\e≠0/\mu (s.drop q)=⟨⟨false,[]⟩,0,e⟩)\/(∃ b r,ir s q= .ok (b,r)/\q<=r/\r<=s.length/\mu (s.drop q)=⟨b,((r - q:Nat):Int),0⟩):=by
 have hd:(s.drop q).length=s.length - q:=Nb;unfold mu qm jY;by_cases he:(vgo 32 (s.drop q) 0 0 0).2.err=0
 ·rw[QM he];simp only;rw[QO (by simp)];have hp:jQ 32 s q= .ok ((vgo 32 (s.drop q) 0 0 0).1,q+(vgo 32 (s.drop q) 0 0 0).2.pos):=by unfold jQ; rw[QM he]
  have hg:=uL hq hp;have a:jm 32 s q= .ok (eN (vgo 32 (s.drop q) 0 0 0).1,q+(vgo 32 (s.drop q) 0 0 0).2.pos):=by rw[jm,Pr.bind_of hp]; rfl
  rcases G9 s q (vgo 32 (s.drop q) 0 0 0).2.pos _ (eN (vgo 32 (s.drop q) 0 0 0).1) QI rfl hq with⟨e,c,d,f⟩ | ⟨b,r,c,d⟩
  ·exact .inl ⟨e,by rw[ir,Pr.bind_of a,c],d,f⟩
  ·have hb:ir s q= .ok (b,r):=by rw[ir,Pr.bind_of a,c]
   have:=gU.spell _ _ _ _ hq hb;exact .inr ⟨b,r,hb,this.1,this.2.1,d⟩
 ·rw[QO he];simp only;rw[QM he];have hp:jQ 32 s q= .error (vgo 32 (s.drop q) 0 0 0).2.err:=by unfold jQ; rw[QO he]
  exact .inl ⟨_,by rw[ir,jm,Pr.bind_err (Pr.bind_err hp)],he,rfl⟩
theorem oput_z (t l:AI):jJ (t,0) l=(t++l,0):=rfl
theorem iC {n k:Int} (h:bG n k=true): (A0 n):=by
 unfold bG at h;simp only[Bool.and_eq_true,decide_eq_true_eq] at h;obtain⟨⟨⟨a,b⟩,c⟩,d⟩:=h;have:(2:Nat) ^ (8*k.toNat - 1)<=2 ^ 63:=Nat.pow_le_pow_right QJ QI;have e:((2:Int) ^ (8*k.toNat - 1))=((2 ^ (8*k.toNat - 1):Nat):Int):=by simp
 have f:(2:Nat) ^ 63=9223372036854775808:=by decide
 omega
theorem Jp {t:AI} {n k:Int} (hf:bG n k=true) (ht:t.length<=140737488355320):ed (t,0) n k=some (t++be n k.toNat,0):=by
 rw[GD _ _ _ ⟨iC hf,by simp only; omega⟩];unfold zZ;rw[QM hf,oput_z]
structure CQ {α:Type} (op:I->Option (α×I)) (p:Pr α) (z:α):Prop where
 dead: ∀ st:I,st.err≠0->op st=some (z,st)
 run: ∀ (s:AI) (q:Nat),q<=s.length->(∃ (e:Int) (st:I),p s q= .error e/\op ⟨s.drop q,q,0⟩=some (z,st)/\st.err=e/\st.err≠0)\/(∃ (a:α) (r:Nat),p s q= .ok (a,r)/\op ⟨s.drop q,q,0⟩=some (a,⟨s.drop r,r,0⟩)/\q<=r/\r<=s.length)
theorem CR.cq {α:Type} {op:I->Option (α×I)} {p:Pr α} {z:α} {enc:α->AI} {ok:α->Prop} (h:CR op p z) (hs:Sp p enc ok):CQ op p z:=by
 refine⟨h.dead,fun s q hq=> ?_⟩
 cases hp:p s q with
 | error e =>
  obtain⟨st,b,a,c⟩:=h.bad s q e hq hp;exact .inl ⟨e,st,rfl,b,a,by rw[a]; exact c⟩
 | ok x =>
  have:=hs.spell s q x.1 x.2 hq hp;exact .inr ⟨x.1,x.2,rfl,h.good s q x.1 x.2 hq hp,this.1,this.2.1⟩
theorem BO (k:Nat) (a:1<=k) (b:k<=8) (kk:Int) (hk:kk=(k:Int)):CQ (fun st=>ea st kk) (bP k) 0:=(G5 k a b kk hk).cq (bW k a b)
theorem Q1:CQ (fun st=>ea st 1) (bP 1) 0:=BO 1 QJ QJ 1 rfl
theorem Q2:CQ (fun st=>ea st 2) (bP 2) 0:=BO 2 QJ QJ 2 rfl
theorem Q4:CQ (fun st=>ea st 4) (bP 4) 0:=BO 4 QJ QJ 4 rfl
theorem Q8:CQ (fun st=>ea st 8) (bP 8) 0:=BO 8 QJ QJ 8 rfl
theorem lq {st:I} {k:Int} (h:st.err≠0):ea st k=some (0,st):=by rw[ko,oe h]
theorem tk (l:AI) (q:Nat) (e:Int):dw ⟨l,q,0⟩ e=⟨l,q,e⟩:=rfl
theorem QF2:CQ (fun st=>lc st 2) (jH 2) (⟨false,[]⟩:Bl):=(xm 2 QJ QJ 2 rfl).cq (eE 2 QJ QJ)
theorem QF4:CQ (fun st=>lc st 4) (jH 4) (⟨false,[]⟩:Bl):=(xm 4 QJ QJ 4 rfl).cq (eE 4 QJ QJ)
theorem lS {st:I} {k:Int} (h:st.err≠0):lc st k=some (⟨false,[]⟩,st):=by rw[Fx,CP h]
theorem QV:CQ cW ir (⟨false,[]⟩:Bl):=zb.cq gU
theorem QT:CQ sR jo []:=Jn.cq kM
theorem QN:CQ wP lR []:=Jo.cq nR
theorem otx_z (t:AI):otx (t,0)=(t,0):=by simp[otx]
theorem Dr {n:Int} {k:Int} (h:k=2\/k=4\/k=8) (a: -32768<=n) (b:n<=32767):bG n k=true:=by
 have c:(2:Int) ^ (8*(2:Int).toNat - 1)=32768:=by decide
 have d:(2:Int) ^ (8*(4:Int).toNat - 1)=2147483648:=by decide
 have e:(2:Int) ^ (8*(8:Int).toNat - 1)=9223372036854775808:=by decide
 unfold bG;simp only[Bool.and_eq_true,decide_eq_true_eq];rcases h with rfl | rfl | rfl <;> omega
open Go.RowKit Go.Deep Go.ChangeShapes
set_option linter.unusedVariables false
def zc {α:Type} (E:Rd α) (W:α->Prop):Rd α:=⟨fun w S cs a=>E.P w S cs a/\W a,fun h k=>⟨E.mono h.1 k,h.2⟩,fun h k=>⟨E.move h.1 k,h.2⟩⟩
section
variable {H:Type} (enc:TypeId×Value->H) (P:Program) {α β:Type}
def xo (t:TypeId) (E:Rd α):Prop :=
 ∀ (w:World) (fuel:Nat) (cs:List Value) (x:DataW H×List MemPlace),DataW.trod enc P w 0 (fun _=>true) true fuel t cs=some x->(∀ m,m∈x.1.weights P t->m<=reachBytes)-> ∃ a,E.P w (fun k=>k<w.heap.size) cs a
variable {enc P}
theorem FW {t:TypeId} {E:Rd α} {E':Rd β} (f:α->β) (h:Opens enc P t E) (hf: ∀ w S cs a,E.P w S cs a->E'.P w S cs (f a)):xo enc P t E':=by
 intro w fuel cs x hx hw;obtain⟨a,ha⟩:=h w fuel cs x hx;exact⟨f a,hf _ _ _ _ ha⟩
def wI (n:Int):Prop:= (A0 n)
def wB (_:Bool):Prop:=True
def wS (l:AI):Prop:=l.length<=140737488351232
def wU8 (n:Int):Prop:=0<=n/\n<=255
def wL (W:α->Prop) (l:List α):Prop:=l.length<=140737488351232/\ ∀ x,x∈l->W x
theorem op_u8 {t:TypeId} (ht:P.underlying t=some (.int .u8)):xo enc P t (zc u8E wU8):=FW id (Fi ht) (fun w S cs a h=>⟨h.1,Go.bounds_u8 h.2⟩)
theorem FX {size:Nat} {E:Rd α} {W:α->Prop} {w:World} {S:Nat->Prop} {cs:List Value} {l:List α} (h:(ar size (zc E W)).P w S cs l):(ar size E).P w S cs l/\ ∀ x,x∈l->W x:=by
 rcases h with⟨h,rfl⟩ | ⟨a,cap,f,g,j,k,c⟩
 ·exact⟨.inl ⟨h,rfl⟩,fun x hx=>by simp at hx⟩
 ·refine⟨.inr ⟨a,cap,f,g,j,k,fun i x hx=> ?_⟩,fun x hx=> ?_⟩
  ·obtain⟨cs,d,e,b⟩:=c i x hx;exact⟨cs,d,e,b.1⟩
  ·obtain⟨i,hi⟩:=List.getElem?_of_mem hx;obtain⟨cs,d,e,b⟩:=c i x hi;exact b.2
theorem xp {e:TypeId} {l:List (DataW H)} {d:DataW H} {m:Nat} (hd:d∈l) (hm:m∈d.weights P e):m∈DataW.weightsAll P e l:=by
 induction l with
 | nil=>simp at hd
 | cons x l ih =>
  simp only[DataW.weightsAll,List.mem_append];rcases List.mem_cons.1 hd with rfl | h
  ·exact .inl hm
  ·exact .inr (ih h)
theorem op_slice {t e:TypeId} {E:Rd α} {W:α->Prop} (size bytes:Nat) (ht:P.underlying t=some (.slice e)) (hc:P.cellsOf e=size) (hb:P.bytesOf e=bytes) (hp:0<size) (hpb:0<bytes) (he:xo enc P e (zc E W)):xo enc P t (zc (ar size E) (wL W)):=by
 intro w fuel cs x h hw;rcases open_slice ht h with⟨rfl,_⟩ | ⟨a,len,cap,m,n,D,Pl,rfl,_,hl,hm,hmm,rfl,hx⟩
 ·exact⟨[],.inl ⟨rfl,rfl⟩,by simp,fun x hx=>by simp at hx⟩
 have hlm:len<=m:=by rw[hmm]; split <;> omega
 have hlen:len<=140737488351232:=by
  have b:=hw ((((List.range len).map D).length+((List.range (m - len)).map fun j=>D (len+j)).length)*P.bytesOf e) (by simp only[DataW.weights,ht]; exact List.mem_cons_self);rw[hb] at b;simp only[NB,List.length_range] at b;have c:(len+(m - len))*1<=(len+(m - len))*bytes:=Nat.mul_le_mul_left _ hpb;have l:reachBytes=140737488351232:=rfl;omega
 have hwe: ∀ i,i<len-> ∀ z,z∈(D i).weights P e->z<=reachBytes:=by
  intro i hi z hz;apply hw;simp only[DataW.weights,ht];exact List.mem_cons_of_mem _ (List.mem_append.2 (.inl (xp (d:=D i) (List.mem_map.2 ⟨i,List.mem_range.2 hi,rfl⟩) hz)))
 rw[hc] at hx;have each: ∀ i:Fin len,∃ y:α,∃ cs,cs.length=size/\(∀ j,j<size->w.cell? (a.add (i.val*size+j))=cs[j]?)/\(zc E W).P w (fun k=>k<w.heap.size) cs y:=by
  intro i;obtain⟨cs',b,c⟩:=hx i.val (by have:=i.isLt; omega);obtain⟨_,l,p⟩:=World.cells?_some b;obtain⟨y,hy⟩:=he _ _ _ _ c (hwe i.val i.isLt);refine⟨y,cs',l,fun j hj=> ?_,hy⟩;rw[<- p j hj,add_add]
 obtain⟨f,hf⟩:=Classical.axiomOfChoice each;have hs:(ar size (zc E W)).P w (fun k=>k<w.heap.size) [.slice (some a) len cap] ((List.finRange len).map f):=by
  refine .inr ⟨a,cap,by simp,by simpa using hl,hm,fun hz=> ?_,?_⟩
  ·simp at hz;obtain⟨cs',o,g,q⟩:=hf ⟨0,by omega⟩;have:=g 0 hp;rw[List.getElem?_eq_getElem QI] at this;simp only[World.cell?] at this;rw[block_add] at this;rcases Nat.lt_or_ge a.block w.heap.size with h | h
   ·exact h
   ·rw[Array.getElem?_eq_none h] at this;simp at this
  ·intro i x hx;rw[List.getElem?_map,Option.map_eq_some_iff] at hx;obtain⟨j,hj,rfl⟩:=hx;have e:j.val=i:=by
    obtain⟨b,c⟩:=M6 hj;rw[<- c];simp
   rw[<- e];exact hf j
 obtain⟨o,g⟩:=FX hs;exact⟨_,o,by simpa using hlen,g⟩
theorem weights_in: ∀ {ts:List TypeId} {ds:List (DataW H)} (j:Nat) {t:TypeId} {d:DataW H} {m:Nat},ts[j]? = some t->ds[j]? = some d->m∈d.weights P t->m∈DataW.weightsEach P ts ds
 | [],_,j,_,_,_,ht,_,_=>by simp at ht
 | _ :: _,[],j,_,_,_,_,hd,_=>by simp at hd
 | t::ts,d::ds,0,_,_,_,ht,hd,hm=>by
  obtain rfl:t= _:=by simpa using ht
  obtain rfl:d= _:=by simpa using hd
  simp only[DataW.weightsEach,List.mem_append];exact .inl hm
 | t::ts,d::ds,j+1,_,_,_,ht,hd,hm=>by
  simp only[DataW.weightsEach,List.mem_append];exact .inr (weights_in j (by simpa using ht) (by simpa using hd) hm)
theorem slice_cells {size:Nat} {E:Rd α} {w:World} {S:Nat->Prop} {cs:List Value} {l:List α} (h:(ar size E).P w S cs l): ∃ A c,cs = [.slice A l.length c]:=by
 rcases h with⟨h,rfl⟩ | ⟨a,cap,h,_⟩
 ·exact⟨none,0,h⟩
 ·exact⟨_,_,h⟩
theorem opens_arg1 {t e:TypeId} {E:Rd α} {r:Reach} {b:Nat} {w:World} {v:Value} {d:DataW H} {p:List MemPlace} (ht:P.underlying t=some (.slice e)) (hval:Value.okWide P w r b t v) (h:xo enc P t E)
 (hv:DataW.Trod enc P w 0 (fun _=>true) true t v d p) (hw: ∀ m,m∈d.weights P t->m<=reachBytes): ∃ a,E.P w (fun k=>k<w.heap.size) [v] a:=by
 obtain⟨a0,len,cap,rfl⟩:=Go.WideShapes.okWide_slice ht hval;obtain⟨fuel,hf⟩:=hv;exact h _ _ _ _ hf hw
theorem RX.reads_all {E:Rd α} {w:World} {cs:List Value} {a:α} (h:E.P w (fun k=>k<w.heap.size) cs a):(RX.of E cs a).reads w (fun _=>False):=⟨_,h,fun k hk=>⟨fun h=>h,hk⟩⟩
end
open Go.RowKit
def Ha (x:Bl):Prop:=wB x.null/\wS x.data
def wf_Hd (x:Hd):Prop:=wS x.MD/\Ha x.Mu
def Ds (x:Rec):Prop:=wI x.MH/\wI x.My/\Ha x.MD/\Ha x.Mu/\(wL wf_Hd) x.Ms
def Av (x:Top):Prop:=wS x.Mm/\(wL wI) x.Me
def wf_Val (x:Val):Prop:=wI x.Md/\wI x.Mf/\wI x.Mh/\wI x.MU/\(wL Av) x.Mc/\wI x.MZ/\wI x.MY
def Aw (x:Bat):Prop:=wI x.ME/\wI x.MA/\wB x.MS/\wB x.MI/\wB x.ML/\wI x.MC/\wI x.Mr/\wI x.MK/\wI x.Md/\wI x.Mf/\wI x.Mv/\(wL Ds) x.Mg
set_option linter.unusedSimpArgs false
theorem Jq (k v:Int):jd k v=some (gR k v):=by
 unfold jd gR gQ;by_cases c:k=0
 ·subst c;by_cases a:v=3
  ·simp[a]
  ·by_cases b:v=4
   ·simp[b]
   ·simp[a,b];omega
 rw[QO c,QO c];by_cases d:k=22
 ·subst d;by_cases a:v=0
  ·simp[a]
  ·by_cases b:v=1
   ·simp[b]
   ·simp[a,b];omega
 rw[QO d,QO d];by_cases e:k=27
 ·subst e;by_cases a:v=0
  ·simp[a]
  ·by_cases b:v=1
   ·simp[b]
   ·simp[a,b];omega
 rw[QO e];by_cases f:k=24
 ·subst f;by_cases a:v=0
  ·simp[a]
  ·simp[a];omega
 rw[QO f,QO f];by_cases g:k=26
 ·subst g;by_cases a:v=0
  ·simp[a]
  ·simp[a];omega
 rw[QO g,QO g,QO e];simp
theorem BP {k v:Int} (h:gR k v=0):bG k 2=true/\bG v 2=true:=by
 unfold gR gQ at h;have e:(2:Int) ^ (8*(2:Int).toNat - 1)=32768:=by decide
 have hv: ∀ n:Int,-100<=n->n<=100->bG n 2=true:=fun n a b=>by
  unfold bG;simp only[Bool.and_eq_true,decide_eq_true_eq];omega
 by_cases c:k=0
 ·simp[c] at h;exact⟨hv _ QI QI,hv _ QI QI⟩
 by_cases a:k=22
 ·simp[a] at h;exact⟨hv _ QI QI,hv _ QI QI⟩
 by_cases b:k=24
 ·simp[b] at h;exact⟨hv _ QI QI,hv _ QI QI⟩
 by_cases d:k=26
 ·simp[d] at h;exact⟨hv _ QI QI,hv _ QI QI⟩
 by_cases f:k=27
 ·simp[f] at h;exact⟨hv _ QI QI,hv _ QI QI⟩
 simp[c,a,b,d,f] at h
def BQ (h:fq):AI:=be h.Mn 2++(be h.Ml 2++(be h.Mt 4++(be (blen h.Mj) 2++h.Mj.data)))
def okH (h:fq):Prop:=gR h.Mn h.Ml=0/\bG h.Mt 4=true/\bG (blen h.Mj) 2=true/\bM h.Mj=true
def tl:Pr fq:=(bP 2).bind fun k=>(bP 2).bind fun v=>if gR k v=0 then (bP 4).bind fun n=>(jH 2).bind fun c=> .ret ⟨k,v,n,c⟩ else .err (gR k v)
theorem Ax:Sp tl BQ okH:=by
 refine⟨fun s q a r hq h=> ?_,fun s t q a hq ha h=> ?_⟩
 ·obtain⟨k,B,d,h⟩:=Pr.bind_ok h;obtain⟨v,C,e,h⟩:=Pr.bind_ok h;split at h
  ·rename_i hv;obtain⟨n,D,f,h⟩:=Pr.bind_ok h;obtain⟨c,E,g,h⟩:=Pr.bind_ok h;injection h with h;obtain⟨rfl,rfl⟩:=NE h;obtain⟨a1,a2,a3,a4,a5⟩:=(bW 2 QJ QJ).spell _ _ _ _ hq d;obtain⟨F,i,G,j,H⟩:=(bW 2 QJ QJ).spell _ _ _ _ a2 e;obtain⟨I,c2,J,l,m⟩:=(bW 4 QJ QJ).spell _ _ _ _ i f;obtain⟨K,o,L,p,b⟩:=(eE 2 QJ QJ).spell _ _ _ _ c2 g;refine⟨by omega,o,?_,?_,hv,m,b.1,b.2⟩
   ·simp only[BQ,M8] at *;omega
   ·rw[p,l,j,a4];simp only[BQ,Nd]
  ·exact nomatch h
 ·obtain⟨a1,a2,a3,a4⟩:=ha;obtain⟨u,w⟩:=BP a1;have hl:=congrArg List.length h;simp only[BQ,Nb,M8,aZ] at hl;simp only[BQ,Nd] at h;have x:=(bW 2 QJ QJ).back _ _ _ _ hq u h;have h:=cI h;have y:=(bW 2 QJ QJ).back _ _ _ _ (by rw[aZ]; omega) w h;have h:=cI h;have z:=(bW 4 QJ QJ).back _ _ _ _ (by simp only[aZ]; omega) a2 h;have h:=cI h;rw[<- Nd] at h;have A:=(eE 2 QJ QJ).back _ _ _ _ (by simp only[aZ]; omega) ⟨a3,a4⟩ h;rw[tl,Pr.bind_of x,Pr.bind_of y,QM a1,Pr.bind_of z,Pr.bind_of A];simp only[Pr.ret,BQ,M8,Nat.add_assoc]
def zHead:fq:=⟨0,0,0,⟨false,[]⟩⟩
theorem Dt:CQ gT tl zHead:=by
 refine⟨fun st h=> ?_,fun s q hq=> ?_⟩
 ·unfold gT;simp only[lq h,lS h,bx,M3,QO h];rfl
 ·unfold gT tl;rcases Q2.run s q hq with⟨e,st,i,j,u,b⟩ | ⟨k,w,i,j,H,x⟩
  ·refine .inl ⟨e,st,Pr.bind_err i,?_,u,b⟩;simp only[j,lq b,lS b,bx,M3,QO b];rfl
  simp only[j,M3,Pr.bind_of i];rcases Q2.run s w x with⟨e,st,l,m,z,d⟩ | ⟨v,a,l,m,J,A⟩
  ·refine .inl ⟨e,st,Pr.bind_err l,?_,z,d⟩;simp only[m,lq d,lS d,bx,M3,QO d];rfl
  simp only[m,M3,Pr.bind_of l,bx,Dm,if_true];by_cases hv:gR k v=0
  ·simp only[QM hv];rcases Q4.run s a A with⟨e,st,o,p,B,f⟩ | ⟨n,C,o,p,K,D⟩
   ·refine .inl ⟨e,st,Pr.bind_err o,?_,B,f⟩;simp only[p,lq f,lS f,bx,M3,QO f];rfl
   simp only[p,M3,Pr.bind_of o];rcases QF2.run s C D with⟨e,st,r,t,E,g⟩ | ⟨c,F,r,t,L,G⟩
   ·refine .inl ⟨e,st,Pr.bind_err r,?_,E,g⟩;simp only[t,lq g,lS g,bx,M3,QO g];rfl
   refine .inr ⟨⟨k,v,n,c⟩,F,by rw[Pr.bind_of r]; rfl,?_,by omega,G⟩;simp only[t,M3,if_true]
  ·simp only[QO hv];have y:(⟨s.drop a,a,gR k v⟩:I).err≠0:=hv;refine .inl ⟨gR k v,⟨s.drop a,a,gR k v⟩,rfl,?_,rfl,hv⟩;simp only[dx,tk,M3,lq y,lS y,bx,QO hv];rfl
theorem Hb (s:AI) (hs:s.length<=140737488355328):mU s=some (match tl s 0 with | .error e=>(⟨0,0,0,⟨false,[]⟩⟩,0,e) | .ok (h,r)=>(⟨h.Mn,h.Ml,h.Mt,h.Mj⟩,(r:Int),0)):=by
 unfold mU tl;by_cases d:(s.length:Int)<4
 ·rw[QM d];by_cases l:s.length<2
  ·rw[Pr.bind_err (e:=1) (by unfold bP; rw[QM QI])]
  ·rw[Pr.bind_of (a:=bb (s.take 2)) (r:=2) (by unfold bP; rw[QO QI]; rfl),Pr.bind_err (e:=1) (by unfold bP; rw[QM QI])]
 ·rw[QO d,QM QI,cX _ (by rw[Np]; omega),M3,QM QI,cX _ (by rw[Np]; omega),M3,Jq,M3];rw[Pr.bind_of (a:=bb (s.take 2)) (r:=2) (by unfold bP; rw[QO QI]; rfl),Pr.bind_of (a:=bb ((s.drop 2).take 2)) (r:=4) (by unfold bP; rw[QO QI])];generalize bb (s.take 2)=k;generalize bb ((s.drop 2).take 2)=v;by_cases hv:gR k v=0
  ·rw[QM hv,QM hv];by_cases f:(s.length:Int)<8
   ·rw[QM f,Pr.bind_err (e:=1) (by unfold bP; rw[QM QI])]
   ·rw[QO f,QM QI,cX _ (by rw[Np]; omega),M3,QM QI,iU _ _ ⟨by decide,by decide,by rw[Nb]; omega⟩,M3];rw[Pr.bind_of (a:=bb ((s.drop 4).take 4)) (r:=8) (by unfold bP; rw[QO QI])];generalize bb ((s.drop 4).take 4)=n;rcases nh s 8 2 QJ QJ QI with⟨e,c,g,i⟩ | ⟨b,r,c,g,i,j⟩
    ·rw[Pr.bind_err c,show (2:Int).toNat=2 from rfl,i,QO g]
    ·rw[Pr.bind_of c,show (2:Int).toNat=2 from rfl,j];simp only[if_true,Pr.ret];rw[QM QI];congr 4;omega
  ·rw[QO hv,QO hv];rfl
def chkH (h:fq):Int:=if gR h.Mn h.Ml=0 then (if bG h.Mt 4=true then (if bM h.Mj=true then (if (h.Mj.data.length:Int)>32767 then 4 else 0) else 4) else 11) else gR h.Mn h.Ml
theorem chk_ok {h:fq} (hc:chkH h=0):okH h:=by
 unfold chkH at hc;split at hc
 ·rename_i a;split at hc
  ·rename_i b;split at hc
   ·rename_i c;split at hc
    ·exact absurd hc QJ
    ·exact⟨a,b,Dr (.inl rfl) (by unfold blen; split <;> omega) (by unfold blen; split <;> omega),c⟩
   ·exact absurd hc QJ
  ·exact absurd hc QJ
 ·rename_i a;exact absurd hc a
def shift {α:Type} (q:Nat):Except Int (α×Nat)->Except Int (α×Nat)
 | .error e=> .error e
 | .ok (a,r)=> .ok (a,q+r)
def Sh {α:Type} (p:Pr α):Prop:= ∀ (s:AI) (q k:Nat),q+k<=s.length->p s (q+k)=shift q (p (s.drop q) k)
theorem Sh.ret {α:Type} (a:α):Sh (Pr.ret a):=fun s q k h=>rfl
theorem Sh.err {α:Type} (e:Int):Sh (Pr.err e:Pr α):=fun s q k h=>rfl
theorem Sh.bind {α β:Type} {p:Pr α} {f:α->Pr β} {enc:α->AI} {ok:α->Prop} (hp:Sh p) (hs:Sp p enc ok) (hf: ∀ a,Sh (f a)):Sh (p.bind f):=by
 intro s q k h;unfold Pr.bind;rw[hp s q k h]
 cases hx:p (s.drop q) k with
 | error e=>rfl
 | ok x =>
  have:=(hs.spell (s.drop q) k x.1 x.2 (by rw[Nb]; omega) hx).2.1;rw[Nb] at this;exact hf x.1 s q x.2 QI
theorem iu (k:Nat):Sh (bP k):=by
 intro s q j h;unfold bP;rw[Nb,NM];by_cases hc:s.length<q+j+k
 ·rw[QM hc,QM QI];rfl
 ·rw[QO hc,QO QI];simp only[shift,Nat.add_assoc]
theorem Hc (n:Int):Sh (uK n):=by
 intro s q j h;unfold uK;rw[Nb,NM];by_cases a:n= -1
 ·rw[QM a,QM a];rfl
 rw[QO a,QO a];by_cases b:n<0
 ·rw[QM b,QM b];rfl
 rw[QO b,QO b];by_cases hc:(s.length:Int)<((q+j:Nat):Int)+n
 ·rw[QM hc,QM QI];rfl
 ·rw[QO hc,QO QI];simp only[shift,Nat.add_assoc]
theorem qM (k:Nat) (a:1<=k) (b:k<=8):Sh (jH k):=(iu k).bind (bW k a b) Hc
theorem Jr (bs:Int):Sh (jQ bs):=by
 intro s q j h;unfold jQ;rw[NM];split
 ·simp only[shift,Nat.add_assoc]
 ·rfl
theorem Er (bs:Int) (hb:bs=32\/bs=64):Sh (jm bs):=(Jr bs).bind (wq bs hb) fun _=> .ret _
theorem zd:Sh ir:=(Er 32 (.inl rfl)).bind (jU 32 (.inl rfl)) Hc
theorem Ay {p:Pr Bl} {enc:Bl->AI} {ok:Bl->Prop} (hp:Sh p) (hs:Sp p enc ok):Sh (fW p):=hp.bind hs fun b=>by
 split
 ·exact .err 4
 ·exact .ret _
theorem ws:Sh jo:=Ay (qM 2 QJ QJ) (eE 2 QJ QJ)
theorem Js:Sh lR:=Ay zd gU
theorem Sh.zero {α:Type} {p:Pr α} (h:Sh p) {s:AI} {q:Nat} (hq:q<=s.length):p s q=shift q (p (s.drop q) 0):=h s q 0 hq
def jR (each:Nat) (n:Int):Pr Int:=fun s q=>if n<0 then .error 4 else if 0<each/\((s.length - q:Nat):Int) / each<n then .error 1 else .ok (n,q)
def ff (k each:Nat):Pr Int:=(bP k).bind (jR each)
theorem Es (each:Nat) (n:Int):Sh (jR each n):=by
 intro s q j h;unfold jR;rw[Nb,show s.length - q - j=s.length - (q+j) by omega];split
 ·rfl
 ·split
  ·rfl
  ·rfl
theorem He (k each:Nat) (a:1<=k) (b:k<=8):Sh (ff k each):=(iu k).bind (bW k a b) (Es each)
theorem gV {k each:Nat} (a:1<=k) (b:k<=8) {s:AI} {q r:Nat} {n:Int} (hq:q<=s.length) (h:ff k each s q= .ok (n,r)):0<=n/\(0<each->n*each<=((s.length - r:Nat):Int))/\r=q+k/\r<=s.length/\s.take r=s.take q++be n k/\bG n k=true:=by
 obtain⟨m,r',c,h⟩:=Pr.bind_ok h;obtain⟨a1,a2,a3,a4,a5⟩:=(bW k a b).spell _ _ _ _ hq c;unfold jR at h;split at h
 ·exact nomatch h
 ·rename_i hn;split at h
  ·exact nomatch h
  ·rename_i he;injection h with h;obtain⟨rfl,rfl⟩:=NE h;rw[aZ] at a3;refine⟨by omega,fun hz=> ?_,a3,a2,a4,a5⟩;have:m<=((s.length - r':Nat):Int) / each:=by
    rcases Int.lt_or_le (((s.length - r':Nat):Int) / each) m with g | g
    ·exact absurd ⟨hz,g⟩ he
    ·exact g
   exact (Int.le_ediv_iff_mul_le QI).1 this
theorem FY {k each:Nat} (a:1<=k) (b:k<=8) {s t:AI} {q:Nat} {n:Int} (hq:q<=s.length) (hf:bG n k=true) (hn:0<=n) (h:s.drop q=be n k++t) (hl:0<each->n*each<=t.length):ff k each s q= .ok (n,q+k):=by
 have g:=(bW k a b).back s t q n hq hf h;rw[aZ] at g;rw[ff,Pr.bind_of g];unfold jR;have hlen:=congrArg List.length h;rw[Nb,M8,aZ] at hlen;rw[QO QI,QO];rintro⟨hz,hc⟩;have:=(Int.le_ediv_iff_mul_le (show (0:Int)<each by omega)).2 (hl hz);rw[show s.length - (q+k)=t.length by omega] at hc;omega
theorem tn (k each:Nat) (f:1<=k) (g:k<=8) (kk ee:Int) (hk:kk=(k:Int)) (he:ee=(each:Int)) (p:ee<=1000):CQ (fun st=>jB st kk ee) (ff k each) 0:=by
 subst hk;refine⟨fun st h=> ?_,fun s q hq=> ?_⟩
 ·show jB st k ee= _;rw[tM _ _ _ ⟨by omega,by omega⟩];unfold lW;rw[oe h];simp only;rw[QM h]
 ·show (∃ e st,ff k each s q= .error e/\jB ⟨s.drop q,q,0⟩ k ee=some (0,st)/\ _/\ _)\/(∃ a r,ff k each s q= .ok (a,r)/\jB ⟨s.drop q,q,0⟩ k ee=some (a,⟨s.drop r,r,0⟩)/\q<=r/\r<=s.length);rw[tM _ _ _ ⟨by omega,by omega⟩];unfold lW;rcases (BO k f g k rfl).run s q hq with⟨e,st,c,b,i,d⟩ | ⟨n,r,c,b,j,l⟩
  ·rw[ko] at b;have b:=M2 b;obtain⟨t,m⟩:=NE b;rw[m];exact .inl ⟨e,st,Pr.bind_err c,by rw[QM d],i,d⟩
  ·rw[ko] at b;have b:=M2 b;have o:eX ⟨s.drop q,q,0⟩ k=(n,⟨s.drop r,r,0⟩):=b;rw[o,ff,Pr.bind_of c];simp only;rw[QO (by simp)];unfold jR;by_cases hn:n<0
   ·rw[QM hn,QM hn];exact .inl ⟨4,_,rfl,rfl,rfl,by simp[dw]⟩
   ·rw[QO hn,QO hn,Nb,he];by_cases hc:0<each/\((s.length - r:Nat):Int) / each<n
    ·rw[QM hc,QM ⟨by omega,hc.2⟩];exact .inl ⟨1,_,rfl,rfl,rfl,by simp[dw]⟩
    ·rw[QO hc,QO (fun h=>hc ⟨by omega,h.2⟩)];exact .inr ⟨n,r,rfl,rfl,j,l⟩
theorem ni {st:I} {k e:Int} (h:st.err≠0) (hk:0<=k/\k<=1000) (he:0<=e/\e<=1000):jB st k e=some (0,st):=by
 rw[tM _ _ _ ⟨by omega,by omega⟩];unfold lW;rw[oe h];simp only;rw[QM h]
def dE {α:Type} (p:Pr α):Nat->Pr (List α)
 | 0=> .ret []
 | n+1=>p.bind fun a=>(dE p n).bind fun l=> .ret (a::l)
def dF {α:Type} (enc:α->AI):List α->AI
 | [] => []
 | a::l=>enc a++dF enc l
theorem uM {α:Type} {p:Pr α} {enc:α->AI} {ok:α->Prop} (hp:Sp p enc ok): ∀ n:Nat,Sp (dE p n) (dF enc) (fun l=>l.length=n/\ ∀ x,x∈l->ok x)
 | 0=>by
  refine⟨fun s q a r hq h=> ?_,fun s t q a hq ha h=> ?_⟩
  ·injection h with h;obtain⟨rfl,rfl⟩:=NE h;exact⟨NA _,hq,rfl,by simp[dF],rfl,fun x h=>nomatch h⟩
  ·obtain rfl:=List.length_eq_zero_iff.1 ha.1;rfl
 | n+1=>by
  have ih:=uM hp n;refine⟨fun s q a r hq h=> ?_,fun s t q a hq ha h=> ?_⟩
  ·obtain⟨x,k,b,h⟩:=Pr.bind_ok h;obtain⟨l,m,c,h⟩:=Pr.bind_ok h;injection h with h;obtain⟨rfl,rfl⟩:=NE h;obtain⟨a1,a2,a3,a4,a5⟩:=hp.spell _ _ _ _ hq b;obtain⟨o,d,u,e,f,g⟩:=ih.spell _ _ _ _ a2 c;refine⟨by omega,d,by rw[dF,M8]; omega,by rw[e,a4,dF,Nd],by rw[Ng,f],fun y hy=> ?_⟩;rcases List.mem_cons.1 hy with rfl | hy
   ·exact a5
   ·exact g y hy
  ·obtain⟨ha1,ha2⟩:=ha
   cases a with
   | nil=>exact absurd ha1 (by simp)
   | cons x l =>
    rw[dF,Nd] at h;have hl:=congrArg List.length h;rw[Nb,M8] at hl;have i:=hp.back _ _ _ _ hq (ha2 x (.head _)) h;have j:=ih.back _ _ _ _ QI ⟨by simpa using ha1,fun y hy=>ha2 y (.tail _ hy)⟩ (cI h);rw[dE,Pr.bind_of i,Pr.bind_of j];simp only[Pr.ret,dF,M8,Nat.add_assoc]
theorem Du {α:Type} {p:Pr α} {enc:α->AI} {ok:α->Prop} (hs:Sh p) (hp:Sp p enc ok): ∀ n:Nat,Sh (dE p n)
 | 0=> .ret _
 | n+1=>hs.bind hp fun a=>(Du hs hp n).bind (uM hp n) fun l=> .ret _
theorem jV {α:Type} {enc:α->AI} {ok:α->Prop} {each:Nat} (he: ∀ x,ok x->each<=(enc x).length): ∀ l:List α,(∀ x,x∈l->ok x)->l.length*each<=(dF enc l).length
 | [],h=>by simp
 | x::l,h=>by
  have:=jV he l (fun y hy=>h y (.tail _ hy));have:=he x (h x (.head _));rw[dF,M8,Ng,Nat.add_mul];omega
def fO {α:Type} (k each:Nat) (p:Pr α):Pr (List α):=(ff k each).bind fun n=>dE p n.toNat
theorem xq {α:Type} {p:Pr α} {enc:α->AI} {ok:α->Prop} (k each:Nat) (c:1<=k) (d:k<=8) (hp:Sp p enc ok) (he: ∀ x,ok x->each<=(enc x).length):Sp (fO k each p) (fun l=>be (l.length:Int) k++dF enc l) (fun l=>bG (l.length:Int) k=true/\ ∀ x,x∈l->ok x):=by
 refine⟨fun s q a r hq h=> ?_,fun s t q a hq ha h=> ?_⟩
 ·obtain⟨n,m,b,h⟩:=Pr.bind_ok h;obtain⟨a1,a2,a3,a4,a5,a6⟩:=gV c d hq b;obtain⟨o,f,u,g,v,i⟩:=(uM hp n.toNat).spell _ _ _ _ a4 h;have hn:(a.length:Int)=n:=by omega
  refine⟨by omega,f,by rw[M8,aZ]; omega,by rw[g,a5,hn,Nd],by rw[hn]; exact a6,i⟩
 ·rw[Nd] at h;have hl:=congrArg List.length h;rw[Nb,M8,M8,aZ] at hl;have b:=FY (each:=each) c d hq ha.1 QI h (fun _=>by
   have:=jV he a ha.2;rw[M8,Int.natCast_add,<- Int.natCast_mul];omega)
  have e:=cI h;rw[aZ] at e;have j:=(uM hp a.length).back _ _ _ _ QI ⟨rfl,ha.2⟩ e;rw[fO,Pr.bind_of b,Nu,j,M8,aZ];simp only[Nat.add_assoc]
theorem xr {α:Type} {p:Pr α} {enc:α->AI} {ok:α->Prop} (k each:Nat) (a:1<=k) (b:k<=8) (hs:Sh p) (hp:Sp p enc ok):Sh (fO k each p):=by
 intro s q j h;unfold fO Pr.bind;rw[He k each a b s q j h]
 cases hx:ff k each (s.drop q) j with
 | error e=>rfl
 | ok x =>
  have:=(gV a b (by rw[Nb]; omega) hx).2.2.2.1;rw[Nb] at this;exact Du hs hp x.1.toNat s q x.2 QI
structure CB {α:Type} (op:I->Option (α×I)) (p:Pr α) (z:α):Prop where
 dead: ∀ st:I,st.err≠0->op st=some (z,st)
 run: ∀ (s:AI) (q:Nat),s.length<=1000000->q<=s.length->(∃ (e:Int) (st:I),p s q= .error e/\op ⟨s.drop q,q,0⟩=some (z,st)/\st.err=e/\st.err≠0)\/(∃ (a:α) (r:Nat),p s q= .ok (a,r)/\op ⟨s.drop q,q,0⟩=some (a,⟨s.drop r,r,0⟩)/\q<=r/\r<=s.length)
theorem CQ.cb {α:Type} {op:I->Option (α×I)} {p:Pr α} {z:α} (h:CQ op p z):CB op p z:=⟨h.dead,fun s q _ hq=>h.run s q hq⟩
def NZ {α:Type} (p:Pr α):Prop:= ∀ (s:AI) (q:Nat) (e:Int),s.length<=1000000->q<=s.length->p s q= .error e->e≠0
theorem CB.nz {α:Type} {op:I->Option (α×I)} {p:Pr α} {z:α} (h:CB op p z):NZ p:=by
 intro s q e hs hq hp;rcases h.run s q hs hq with⟨e',st,b,g,x,y⟩ | ⟨a,r,b,g,n,l⟩
 ·rw[hp] at b;injection b with b;rw[b,<- x];exact y
 ·rw[hp] at b;exact nomatch b
theorem NZ.ret {α:Type} (a:α):NZ (Pr.ret a):=fun s q e _ _ h=>nomatch h
theorem NZ.bind {α β:Type} {p:Pr α} {f:α->Pr β} {enc:α->AI} {ok:α->Prop} (hp:NZ p) (hs:Sp p enc ok) (hf: ∀ a,NZ (f a)):NZ (p.bind f):=by
 intro s q e hl hq h
 cases hx:p s q with
 | error e' =>
  rw[Pr.bind_err hx] at h;injection h with h;rw[<- h];exact hp s q e' hl hq hx
 | ok x =>
  rw[Pr.bind_of (a:=x.1) (r:=x.2) hx] at h;exact hf x.1 s x.2 e hl (hs.spell s q x.1 x.2 hq hx).2.1 h
theorem Sp.congr {α:Type} {p:Pr α} {enc enc':α->AI} {ok ok':α->Prop} (h:Sp p enc ok) (hok: ∀ a,ok a↔ok' a) (he: ∀ a,ok a->enc a=enc' a):Sp p enc' ok':=by
 refine⟨fun s q a r hq hp=> ?_,fun s t q a hq ha hd=> ?_⟩
 ·obtain⟨c,d,e,f,b⟩:=h.spell s q a r hq hp;rw[<- he a b];exact⟨c,d,e,f,(hok a).1 b⟩
 ·have ha':=(hok a).2 ha;rw[<- he a ha'] at hd ⊢;exact h.back s t q a hq ha' hd
theorem Sp.seq {α β:Type} {p:Pr α} {f:α->Pr β} {π:β->α} {enc1:α->AI} {enc2:β->AI} {ok1:α->Prop} {ok2:β->Prop} (hp:Sp p enc1 ok1) (hf: ∀ a,Sp (f a) enc2 (fun x=>ok2 x/\π x=a)) :
 Sp (p.bind f) (fun x=>enc1 (π x)++enc2 x) (fun x=>ok1 (π x)/\ok2 x):=by
 refine⟨fun s q x r hq h=> ?_,fun s t q x hq hx hd=> ?_⟩
 ·obtain⟨a,m,b,c⟩:=Pr.bind_ok h;obtain⟨a1,a2,a3,a4,a5⟩:=hp.spell s q a m hq b;obtain⟨j,d,k,e,g,i⟩:=(hf a).spell s m x r a2 c;subst i;exact⟨by omega,d,by rw[M8]; omega,by rw[e,a4,Nd],a5,g⟩
 ·rw[Nd] at hd;have b:=hp.back s _ q (π x) hq hx.1 hd;have hl:=congrArg List.length hd;rw[Nb,M8] at hl;have c:=(hf (π x)).back s t _ x QI ⟨hx.2,rfl⟩ (cI hd);rw[Pr.bind_of b,c,M8,Nat.add_assoc]
theorem xt {β:Type} (a:β) (c:Prop) [Decidable c] (e:Int):Sp (if c then Pr.ret a else Pr.err e) (fun _ => []) (fun x=>c/\x=a):=by
 refine⟨fun s q x r hq h=> ?_,fun s t q x hq hx hd=> ?_⟩
 ·by_cases hc:c
  ·rw[QM hc] at h;injection h with h;obtain⟨rfl,rfl⟩:=NE h;exact⟨NA _,hq,rfl,by simp,hc,rfl⟩
  ·rw[QO hc] at h;exact nomatch h
 ·rw[QM hx.1,hx.2];rfl
theorem Hf {β:Type} (a:β):Sp (Pr.ret a) (fun _ => []) (fun x=>x=a):=by
 refine⟨fun s q x r hq h=> ?_,fun s t q x hq hx hd=> ?_⟩
 ·injection h with h;obtain⟨rfl,rfl⟩:=NE h;exact⟨NA _,hq,rfl,by simp,rfl⟩
 ·rw[hx];rfl
theorem CB.bind {α β:Type} {op1:I->Option (α×I)} {p:Pr α} {d:α} {op2:α->I->Option (β×I)} {f:α->Pr β} {z:β} (W:α->Prop) (h:CB op1 p d)
 (hs: ∀ s q a r,s.length<=1000000->q<=s.length->p s q= .ok (a,r)->W a) (hz:W d) (hf: ∀ a,W a->CB (op2 a) (f a) z):CB (fun st=>(op1 st).bind fun (a,c)=>op2 a c) (p.bind f) z:=by
 refine⟨fun st hd=> ?_,fun s q hl hq=> ?_⟩
 ·show (op1 st).bind _= _;rw[h.dead st hd,M3];exact (hf d hz).dead st hd
 ·rcases h.run s q hl hq with⟨e,st,g,i,n,l⟩ | ⟨a,r,g,i,y,o⟩
  ·refine .inl ⟨e,st,Pr.bind_err g,?_,n,l⟩;show (op1 _).bind _= _;rw[i,M3];exact (hf d hz).dead st l
  ·have t:((op1 ⟨s.drop q,q,0⟩).bind fun (a,c)=>op2 a c)=op2 a ⟨s.drop r,r,0⟩:=by rw[i,M3]
   show (∃ e st,p.bind f s q= _/\((op1 ⟨s.drop q,q,0⟩).bind fun (a,c)=>op2 a c)= _/\ _/\ _)\/(∃ x m,p.bind f s q= _/\((op1 ⟨s.drop q,q,0⟩).bind fun (a,c)=>op2 a c)= _/\ _/\ _);rw[t,Pr.bind_of g];rcases (hf a (hs s q a r hl hq g)).run s r hl o with⟨e,st,j,k,u,v⟩ | ⟨b,m,j,k,A,w⟩
   ·exact .inl ⟨e,st,j,k,u,v⟩
   ·exact .inr ⟨b,m,j,k,by omega,w⟩
theorem CB.congr {α:Type} {op op':I->Option (α×I)} {p:Pr α} {z:α} (h:CB op p z) (he: ∀ st,op' st=op st):CB op' p z:=⟨fun st hd=>(he st).trans (h.dead st hd),fun s q hl hq=>by rw[he]; exact h.run s q hl hq⟩
theorem CB.pr {α:Type} {op:I->Option (α×I)} {p p':Pr α} {z:α} (h:CB op p z) (he:p=p'):CB op p' z:=he ▸ h
theorem qN {k:Nat} (b:1<=k) (c:k<=8): ∀ (s:AI) (q:Nat) (a:Int) (r:Nat),s.length<=1000000->q<=s.length->bP k s q= .ok (a,r)-> (A0 a) :=
 fun s q a r _ hq h=>iC ((bW k b c).spell s q a r hq h).2.2.2.2
def kN:Pr Bool:=(bP 1).bind fun n=>if n=0 then .ret false else if n=1 then .ret true else .err 11
def tp (b:Bool):AI:=be (if b=true then 1 else 0) 1
theorem wt:Sp kN tp (fun _=>True):=by
 refine⟨fun s q x r hq h=> ?_,fun s t q x hq hx hd=> ?_⟩
 ·obtain⟨n,m,a,h⟩:=Pr.bind_ok h;obtain⟨a1,a2,a3,a4,a5⟩:=(bW 1 QJ QJ).spell s q n m hq a;by_cases b:n=0
  ·rw[QM b] at h;injection h with h;obtain⟨rfl,rfl⟩:=NE h;subst b;exact⟨a1,a2,a3,a4,trivial⟩
  ·rw[QO b] at h;by_cases a:n=1
   ·rw[QM a] at h;injection h with h;obtain⟨rfl,rfl⟩:=NE h;subst a;exact⟨a1,a2,a3,a4,trivial⟩
   ·rw[QO a] at h;exact nomatch h
 ·cases x with
  | true =>
   have:=(bW 1 QJ QJ).back s t q 1 hq QJ hd;rw[kN,Pr.bind_of this];rfl
  | false =>
   have:=(bW 1 QJ QJ).back s t q 0 hq QJ hd;rw[kN,Pr.bind_of this];rfl
theorem Az {α:Type} {op:I->Option (α×I)} {a z:α} {e:Int} (h: ∀ st:I,st.err≠0->op st=some (z,st)) (b: ∀ st:I,st.err=0->op st=some (if e=0 then (a,st) else (z,dw st e))):CB op (if e=0 then .ret a else .err e) z:=by
 refine⟨h,fun s q hl hq=> ?_⟩;by_cases he:e=0
 ·rw[QM he,b _ rfl,QM he];exact .inr ⟨a,q,rfl,rfl,NA _,hq⟩
 ·rw[QO he,b _ rfl,QO he];exact .inl ⟨e,_,rfl,rfl,rfl,he⟩
def eL:Pr Top:=jo.bind fun nm=>(fO 4 4 (bP 4)).bind fun ps=> .ret ⟨nm,ps⟩
def qO (t:Top):AI:=(be (t.Mm.length:Int) 2++t.Mm)++(be (t.Me.length:Int) 4++dF (fun n=>be n 4) t.Me)
def okT (t:Top):Prop:=bG (t.Mm.length:Int) 2=true/\bG (t.Me.length:Int) 4=true/\ ∀ n,n∈t.Me->bG n 4=true
theorem xu:Sp (fO 4 4 (bP 4)) (fun l=>be (l.length:Int) 4++dF (fun n=>be n 4) l) (fun l=>bG (l.length:Int) 4=true/\ ∀ n,n∈l->bG n 4=true):=xq 4 4 QJ QJ (bW 4 QJ QJ) (fun x _=>by rw[aZ]; decide)
theorem BR:Sp eL qO okT:=by
 refine⟨fun s q a r hq h=> ?_,fun s t q a hq ha h=> ?_⟩
 ·obtain⟨k,j,b,h⟩:=Pr.bind_ok h;obtain⟨v,l,c,h⟩:=Pr.bind_ok h;injection h with h;obtain⟨rfl,rfl⟩:=NE h;obtain⟨a1,a2,a3,a4,a5⟩:=kM.spell _ _ _ _ hq b;obtain⟨m,d,n,e,f⟩:=xu.spell _ _ _ _ a2 c;exact⟨by omega,d,by simp only[qO,M8] at *; omega,by rw[e,a4]; simp only[qO,Nd],a5.1,f⟩
 ·obtain⟨a1,a2,a3⟩:=ha;have hl:=congrArg List.length h;rw[qO,Nd] at h;have g:=kM.back _ _ _ _ hq ⟨a1,rfl⟩ h;have h:=cI h;have i:=xu.back _ _ _ _ (by simp only[qO,Nb,M8,aZ] at *; omega) ⟨a2,a3⟩ h;rw[eL,Pr.bind_of g,Pr.bind_of i];simp only[Pr.ret,qO,M8,Nat.add_assoc]
theorem Et (t:Top) (h:okT t):6<=(qO t).length:=by simp only[qO,M8,aZ]; omega
theorem ki:Sp (fO 4 6 eL) (fun l=>be (l.length:Int) 4++dF qO l) (fun l=>bG (l.length:Int) 4=true/\ ∀ t,t∈l->okT t):=xq 4 6 QJ QJ BR Et
theorem Hg:Sh eL:=ws.bind kM fun nm=>(xr 4 4 QJ QJ (iu 4) (bW 4 QJ QJ)).bind xu fun ps=> .ret _
theorem rh:Sh (fO 4 6 eL):=xr 4 6 QJ QJ Hg BR
theorem uN (n:Int) (s:AI) (hn:n<=1000000): ∀ (m fuel k:Nat) (acc:List Int) (q:Nat),((k+m:Nat):Int)=n->m<fuel->q+4*m<=s.length->acc.length=k ->
 ∃ l,dE (bP 4) m s q= .ok (l,q+4*m)/\cQ n fuel k acc ⟨s.drop q,q,0⟩=some (k+m,acc++l,⟨s.drop (q+4*m),q+4*m,0⟩)
 | 0,fuel+1,k,acc,q,h,i,j,c=>⟨[],rfl,by rw[cQ,QO QI,Nx]; rfl⟩
 | m+1,fuel+1,k,acc,q,h,i,j,c=>by
  rw[cQ,QM QI];rcases Q4.run s q QI with⟨e,st,b,d,o,p⟩ | ⟨a,r,b,d,t,u⟩
  ·unfold bP at b;rw[QO QI] at b;exact nomatch b
  ·have hr:r=q+4:=by
    unfold bP at b;rw[QO QI] at b;injection b with b;exact (NE b).2.symm
   subst hr;rw[d];simp only[M3];rw[QM QI,QM QI];obtain⟨l,f,g⟩:=uN n s hn m fuel (k+1) (acc ++ [a]) (q+4) QI QI QI (by rw[M8,c]; rfl);have eq:q+4+4*m=q+4*(m+1):=by omega
   rw[eq] at f g;refine⟨a::l,?_,?_⟩
   ·rw[dE,Pr.bind_of b,Pr.bind_of f];rfl
   ·rw[g,Nd];rw[show k+1+m=k+(m+1) by omega];rfl
theorem ze (n:Int) (s:AI) (hs:s.length<=1000000) (hn:n<=1000000): ∀ (m fuel k:Nat) (acc:List Top) (q:Nat),((k+m:Nat):Int)=n->m<fuel->q<=s.length->acc.length=k ->
 (∃ (e:Int) (st:I),dE eL m s q= .error e/\cf n fuel [] acc k ⟨s.drop q,q,0⟩=some (.ret ([],st))/\st.err=e/\st.err≠0) \/
 (∃ l r,dE eL m s q= .ok (l,r)/\cf n fuel [] acc k ⟨s.drop q,q,0⟩=some (.go ([],acc++l,k+m,⟨s.drop r,r,0⟩))/\q<=r/\r<=s.length)
 | 0,fuel+1,k,acc,q,C,D,j,x=> .inr ⟨[],q,rfl,by rw[cf,QO QI,Nx]; rfl,NA _,j⟩
 | m+1,fuel+1,k,acc,q,C,D,j,x=>by
  rw[cf,QM QI];have died: ∀ (st:I) (t:AI),st.err≠0->((jB st 4 4).bind fun (i,o)=>(cQ i ((i).toNat+1) 0 [] o).bind fun (K,y,p)=>if (acc.length+1)*40<=140737488355328 then ((iG p).bind fun (z,b)=>if z=0 then (if A0 ((k:Int)+1) then (cf n fuel [] (acc ++ [(⟨t,y⟩:Top)]) (k+1) b) else none) else (some (Lp.ret ([],b)))) else none)=some (Lp.ret ([],st)):=by
   intro st t h;rw[ni h QJ QJ];simp only[M3];rw[show (0:Int).toNat+1=1 from rfl,cQ,QO QJ];simp only[M3,bx];rw[QM QI,QO h]
  rcases QT.run s q j with⟨e,st,d,u,E,A⟩ | ⟨nm,F,d,u,L,B⟩
  ·left;refine⟨e,st,by rw[dE,Pr.bind_err (show eL s q= .error e from Pr.bind_err d)],?_,E,A⟩;rw[u];simp only[M3];exact died st [] A
  rw[u];simp only[M3];rcases (tn 4 4 QJ QJ 4 4 rfl rfl QJ).run s F B with⟨e,st,f,v,G,w⟩ | ⟨c,g,f,v,M,N⟩
  ·left;refine⟨e,st,by rw[dE,Pr.bind_err]; rw[eL,Pr.bind_of d,Pr.bind_err]; rw[fO,Pr.bind_err f],?_,G,w⟩;have:=died st nm w;rw[ni w QJ QJ] at this;rw[v];exact this
  obtain⟨O,c2,P,Q,R,S⟩:=gV QJ QJ B f;have c2:=c2 QJ;rw[v];simp only[M3];obtain⟨ps,H,J⟩:=uN c s QI c.toNat (c.toNat+1) 0 [] g QI QI QI rfl;rw[J];simp only[M3,bx,if_true];rw[QM QI,QM QI,Nm];have ht:eL s q= .ok (⟨nm,ps⟩,g+4*c.toNat):=by
   rw[eL,Pr.bind_of d,Pr.bind_of (a:=ps) (r:=g+4*c.toNat) (by rw[fO,Pr.bind_of f,H])];rfl
  rw[dE,Pr.bind_of ht];rcases ze n s hs hn m fuel (k+1) (acc ++ [⟨nm,ps⟩]) (g+4*c.toNat) QI QI QI (by rw[M8,x]; rfl) with⟨e,st,r1,r2,r3,r4⟩ | ⟨l,r,r1,r2,r3,r4⟩
  ·exact .inl ⟨e,st,by rw[Pr.bind_err r1],r2,r3,r4⟩
  ·refine .inr ⟨⟨nm,ps⟩::l,r,by rw[Pr.bind_of r1]; rfl,?_,by omega,r4⟩;rw[r2,Nd,show k+1+m=k+(m+1) by omega];rfl
theorem xv:CB dV (fO 4 6 eL) []:=by
 refine⟨fun st h=> ?_,fun s q hs hq=> ?_⟩
 ·unfold dV;rw[ni h QJ QJ];simp only[M3];rw[show (0:Int).toNat+1=1 from rfl,cf,QO QJ];rfl
 ·unfold dV;rcases (tn 4 6 QJ QJ 4 6 rfl rfl QJ).run s q hq with⟨e,st,a,b,d,f⟩ | ⟨c,g,a,b,j,i⟩
  ·refine .inl ⟨e,st,Pr.bind_err a,?_,d,f⟩;rw[b];simp only[M3];rw[show (0:Int).toNat+1=1 from rfl,cf,QO QJ];rfl
  ·obtain⟨k,c2,m,n,o,p⟩:=gV QJ QJ hq a;have c2:=c2 QJ;rw[b,fO,Pr.bind_of a];simp only[M3];rcases ze c s hs QI c.toNat (c.toNat+1) 0 [] g QI QI i rfl with⟨e,st,r1,r2,r3,r4⟩ | ⟨l,r,r1,r2,r3,r4⟩
   ·exact .inl ⟨e,st,r1,by rw[r2]; rfl,r3,r4⟩
   ·refine .inr ⟨l,r,r1,?_,by omega,r4⟩;rw[r2,Nm];rfl
theorem zf (s:AI) (q:Nat) (hq:q<=s.length) (hs:s.length<=1000000) (each:Nat) (he:1<=each):ke (s.drop q) (each:Int)=some (match ff 4 each s q with | .error e=>(0,e) | .ok (n,_)=>(n,0)):=by
 have hd:(s.drop q).length=s.length - q:=Nb;unfold ke ff;by_cases b:((s.drop q).length:Int)<4
 ·rw[QM b,Pr.bind_err (e:=1) (by unfold bP; rw[QM QI])]
 ·rw[QO b,QM QI,cX _ (by rw[Np]; omega),Pr.bind_of (a:=bb ((s.drop q).take 4)) (r:=q+4) (by unfold bP; rw[QO QI])];simp only[M3];generalize bb ((s.drop q).take 4)=n;unfold jR;by_cases hn:n<0
  ·rw[QM hn,QM hn]
  ·rw[QO hn,QO hn,QM QI,QM QI,show ((s.drop q).length:Int) - 4=((s.length - (q+4):Nat):Int) by omega];by_cases hc:n>((s.length - (q+4):Nat):Int) / (each:Int)
   ·rw[QM hc,QM ⟨by omega,hc⟩]
   ·rw[QO hc,QO (fun h=>hc h.2)]
theorem zg {each:Nat} {s:AI} {q:Nat} {e:Int} (h:ff 4 each s q= .error e):e≠0:=by
 unfold ff at h
 cases hp:bP 4 s q with
 | error e' =>
  rw[Pr.bind_err hp] at h;unfold bP at hp;split at hp
  ·injection hp with hp;injection h with h;omega
  ·exact nomatch hp
 | ok x =>
  rw[Pr.bind_of (a:=x.1) (r:=x.2) hp] at h;unfold jR at h;split at h
  ·injection h with h;omega
  ·split at h
   ·injection h with h;omega
   ·exact nomatch h
theorem Hh (n:Int) (s:AI) (hs:s.length<=1000000) (hn:n<=1000000): ∀ (m fuel k:Nat) (acc:List Int) (q:Nat) (l:List Int) (r:Nat),((k+m:Nat):Int)=n->m<fuel->q+4*m<=s.length->acc.length=k->dE (bP 4) m s q= .ok (l,r) ->
 dh s n fuel (q:Int) k acc=some ((r:Int),k+m,acc++l)
 | 0,fuel+1,k,acc,q,l,r,d,e,f,c,h=>by
  injection h with h;obtain⟨rfl,rfl⟩:=NE h;rw[dh,QO QI,Nx];rfl
 | m+1,fuel+1,k,acc,q,l,r,d,e,f,c,h=>by
  obtain⟨a,j,b,h⟩:=Pr.bind_ok h;obtain⟨l',g,i,h⟩:=Pr.bind_ok h;injection h with h;obtain⟨rfl,rfl⟩:=NE h;unfold bP at b;rw[QO QI] at b;injection b with b;obtain⟨rfl,rfl⟩:=NE b;rw[dh,QM QI,QM QI,QM QI,show ((q:Int)+4).toNat - ((q:Int)).toNat=4 by omega,Nu,cX _ (by rw[Np]; omega)];simp only[M3];rw[QM QI,QM QI,QM QI];have:=Hh n s hs hn m fuel (k+1) (acc ++ [bb ((s.drop q).take 4)]) (q+4) l' g QI QI QI (by rw[M8,c]; rfl) i;rw[show ((q:Int)+4)=((q+4:Nat):Int) by omega,this,Nd,show k+1+m=k+(m+1) by omega];rfl
theorem Hi (n:Int) (s:AI) (hs:s.length<=1000000): ∀ (m fuel k:Nat) (acc:List Top) (q:Nat),((k+m:Nat):Int)=n->m<fuel->n<=1000000->q<=s.length->acc.length=k ->
 di s n fuel [] 0 0 (q:Int) acc k=some (match dE eL m s q with | .error e=> .ret ([],0,e) | .ok (l,r)=> .go ([],0,0,(r:Int),acc++l,k+m))
 | 0,fuel+1,k,acc,q,t,u,hn,i,j=>by
  rw[di,QO QI];simp[dE,Pr.ret]
 | m+1,fuel+1,k,acc,q,t,u,hn,i,j=>by
  rw[di,QM QI,QM QI,Nu,iU _ _ ⟨by decide,by decide,by rw[Nb]; omega⟩,show (2:Int).toNat=2 from rfl];simp only[M3];rcases nh s q 2 QJ QJ i with⟨e,g,o,h⟩ | ⟨b,f,g,o,h,v⟩
  ·have ht:eL s q= .error e:=by rw[eL,Pr.bind_err]; rw[jo,fW,Pr.bind_err g]
   rw[h,dE,Pr.bind_err ht];simp only;rw[QO o]
  rw[v];simp only[if_true];by_cases hb:b.null=true
  ·have ht:eL s q= .error 4:=by
    rw[eL,Pr.bind_err];rw[jo,fW,Pr.bind_of g,QM hb];rfl
   rw[QM hb,dE,Pr.bind_err ht]
  rw[QO hb,QM QI,QM QI,show ((q:Int)+((f - q:Nat):Int))=(f:Int) by omega,Nu];have hx:jo s q= .ok (b.data,f):=by
   rw[jo,fW,Pr.bind_of g,QO hb];rfl
  have hc:=zf s f h hs 4 QJ;rw[show ((4:Nat):Int)=4 from rfl] at hc;rw[hc];simp only[M3]
  cases hp:ff 4 4 s f with
  | error e =>
   have he:=zg hp;simp only;rw[QO he];have ht:eL s q= .error e:=by rw[eL,Pr.bind_of hx,Pr.bind_err]; rw[fO,Pr.bind_err hp]
   rw[dE,Pr.bind_err ht]
  | ok x =>
   obtain⟨c,d⟩:=x;obtain⟨y,c2,z,A,B,C⟩:=gV QJ QJ h hp;have c2:=c2 QJ;simp only[if_true];obtain⟨ps,p,D⟩:=uN c s QI c.toNat (c.toNat+1) 0 [] d QI QI QI rfl;have w:=Hh c s hs QI c.toNat (c.toNat+1) 0 [] d ps _ QI QI QI rfl p;rw[QM QI,show ((f:Int)+4)=(d:Int) by omega,w];simp only[M3,Nm];rw[QM QI,QM QI];have ht:eL s q= .ok (⟨b.data,ps⟩,d+4*c.toNat):=by
    rw[eL,Pr.bind_of hx,Pr.bind_of (a:=ps) (r:=d+4*c.toNat) (by rw[fO,Pr.bind_of hp,p])];rfl
   rw[dE,Pr.bind_of ht,Hi n s hs m fuel (k+1) (acc ++ [(⟨b.data,ps⟩:Top)]) (d+4*c.toNat) QI QI hn QI (by rw[M8,j]; rfl)]
   cases hr:dE eL m s (d+4*c.toNat) with
   | error e=>rw[Pr.bind_err hr]
   | ok x =>
    rw[Pr.bind_of (a:=x.1) (r:=x.2) hr];simp only[Pr.ret,Nd,List.cons_append,Nm,show k+1+m=k+(m+1) by omega]
theorem xw (s:AI) (hs:s.length<=1000000):eg s=some (match fO 4 6 eL s 0 with | .error e=>([],0,e) | .ok (l,r)=>(l,(r:Int),0)):=by
 unfold eg;have hc:=zf s 0 (Nn _) hs 6 QJ;rw[show ((6:Nat):Int)=6 from rfl,List.drop_zero] at hc;rw[hc];simp only[M3]
 cases hp:ff 4 6 s 0 with
 | error e =>
  simp only;rw[QO (zg hp),fO,Pr.bind_err hp]
 | ok x =>
  obtain⟨c,a⟩:=x;obtain⟨d,c2,b,f,g,i⟩:=gV QJ QJ (Nn _) hp;have c2:=c2 QJ;simp only[if_true];have h:=Hi c s hs c.toNat (c.toNat+1) 0 [] a QI QI QI QI rfl;rw[b] at h hp;rw[show ((0+4:Nat):Int)=4 from rfl] at h;rw[h,fO,Pr.bind_of hp]
  cases hr:dE eL c.toNat s (0+4) with
  | error e=>rfl
  | ok x=>rfl
theorem d9 {α:Type} {l:List α} {k:Nat} {x:α} {t:List α} (h:l.drop k=x::t):l[k]? = some x/\l.drop (k+1)=t/\l.length=k+1+t.length:=by
 have hl:=congrArg List.length h;rw[Nb,Ng] at hl;refine⟨?_,?_,by omega⟩
 ·have:=congrArg (fun z=>z[0]?) h;simpa using this
 ·rw[<- NM,h];rfl
theorem gk {α:Type} {l:List α} {k:Nat} (h:l.drop k = []):l.length<=k:=List.drop_eq_nil_iff.1 h
def up {α:Type} (lt:α->α->Bool):Option α->List α->Bool
 | _,[]=>true
 | none,x::t=>up lt (some x) t
 | some p,x::t=>lt p x && up lt (some x) t
def ltI (a b:Int):Bool:=decide (a<b)
theorem zh (a0:List Int) (hb:a0.length<=140737488355328): ∀ (t:List Int) (p:Int) (k fuel:Nat) (y:Bool),a0.drop k=p::t->t.length<fuel-> ∃ z,cT a0 fuel y ((k:Int)+1)=some (if up ltI (some p) t=true then .go (y,z) else .ret false)
 | [],p,k,fuel+1,y,h,hf=>by
  obtain⟨c,a,b⟩:=d9 h;refine⟨(k:Int)+1,?_⟩;rw[cT,QO (by simp only[N8] at b; omega)];rfl
 | x::t,p,k,fuel+1,y,h,hf=>by
  obtain⟨c,a,b⟩:=d9 h;obtain⟨d,e,f⟩:=d9 a;rw[Ng] at hf b;obtain⟨z,hz⟩:=zh a0 hb t x (k+1) fuel y a QI;rw[cT,QM QI,QM QI,QM QI,show ((k:Int)+1 - 1).toNat=k by omega,c];rw[M3];rw[QM QI,show ((k:Int)+1).toNat=k+1 by omega,d];rw[M3];by_cases hc:p<x
  ·rw[QO QI,QM QI];refine⟨z,?_⟩;rw[show ((k:Int)+1+1)=((k+1:Nat):Int)+1 by omega,hz];simp only[up,ltI,hc,decide_true,Bool.true_and]
  ·rw[QM QI];refine⟨0,?_⟩;simp only[up,ltI,hc,decide_false,Bool.false_and,Bool.false_eq_true,if_false]
theorem Jt (a0:List Int) (hb:a0.length<=140737488355328):gb a0=some (up ltI none a0):=by
 unfold gb
 cases a0 with
 | nil=>rfl
 | cons x t =>
  obtain⟨z,hz⟩:=zh (x::t) hb t x 0 ((((x::t).length:Int) - 1).toNat+1) false rfl (by simp only[Ng]; omega);rw[show (((0:Nat):Int)+1)=1 from rfl] at hz;rw[hz];simp only[up];cases up ltI (some x) t <;> rfl
theorem zi (a0:List AI) (hb:a0.length<=140737488355328): ∀ (t:List AI) (p:AI) (k fuel:Nat) (y:Bool),a0.drop k=p::t->t.length<fuel-> ∃ z,cm a0 fuel y ((k:Int)+1)=some (if up Op.bytesLess (some p) t=true then .go (y,z) else .ret false)
 | [],p,k,fuel+1,y,h,hf=>by
  obtain⟨c,a,b⟩:=d9 h;refine⟨(k:Int)+1,?_⟩;rw[cm,QO (by simp only[N8] at b; omega)];rfl
 | x::t,p,k,fuel+1,y,h,hf=>by
  obtain⟨c,a,b⟩:=d9 h;obtain⟨d,e,f⟩:=d9 a;rw[Ng] at hf b;obtain⟨z,hz⟩:=zi a0 hb t x (k+1) fuel y a QI;rw[cm,QM QI,QM QI,QM QI,show ((k:Int)+1 - 1).toNat=k by omega,c];simp only[M3];rw[QM QI,show ((k:Int)+1).toNat=k+1 by omega,d];simp only[M3];by_cases hc:Op.bytesLess p x=true
  ·rw[QM hc,QM QI];refine⟨z,?_⟩;rw[show ((k:Int)+1+1)=((k+1:Nat):Int)+1 by omega,hz];simp only[up,hc,Bool.true_and]
  ·rw[QO hc];refine⟨0,?_⟩;simp only[up,hc,Bool.false_and,Bool.false_eq_true,if_false]
theorem Ju (a0:List AI) (hb:a0.length<=140737488355328):fc a0=some (up Op.bytesLess none a0):=by
 unfold fc
 cases a0 with
 | nil=>rfl
 | cons x t =>
  obtain⟨z,hz⟩:=zi (x::t) hb t x 0 ((((x::t).length:Int) - 1).toNat+1) false rfl (by simp only[Ng]; omega);rw[show (((0:Nat):Int)+1)=1 from rfl] at hz;rw[hz];simp only[up];cases up Op.bytesLess (some x) t <;> rfl
def okn (n:Int):Bool:=decide (0<=n) && decide (n<=2147483647)
def yH (l:List Int):Bool:=l.all okn && up ltI none l && !l.isEmpty
def md (t:Top):Bool:= !t.Mm.isEmpty && decide (t.Mm.length<=32767) && yH t.Me
def rH (l:List Top):Bool:=l.all md && up Op.bytesLess none (l.map (·.Mm))
theorem xx (y:Bool): ∀ l:List Int,(∀ n,n∈l->wI n)->eO l y=some (if l.all okn=true then .go y else .ret false)
 | [],h=>rfl
 | n::l,h=>by
  have hn:=h n (.head _);rw[eO,gG _ _ hn,jX,List.all_cons];by_cases a:n<0
  ·have:okn n=false:=by unfold okn; simp; omega
   rw[QM a,this];rfl
  ·rw[QO a,M3];by_cases b:n<=2147483647
   ·have:okn n=true:=by unfold okn; simp; omega
    rw[QM (by simp; omega),xx y l (fun m hm=>h m (.tail _ hm)),this,Bool.true_and]
   ·have:okn n=false:=by unfold okn; simp; omega
    rw[QO (by simp; omega),this];rfl
theorem Hj (l:List Int) (hw:wL wI l):jN l=some (yH l):=by
 unfold jN yH;rw[xx false l hw.2]
 cases hall:l.all okn with
 | false=>rfl
 | true =>
  simp only[if_true,M3,Bool.true_and]
  cases l with
  | nil=>rfl
  | cons x t =>
   rw[QM (by simp only[Ng]; omega),Jt _ (by have:=hw.1; omega)];simp
theorem tq (y:Bool): ∀ (l:List Top) (acc:List AI),(∀ t,t∈l->Av t)->acc.length+l.length<=1000000->dL l y acc=some (if l.all md=true then .go (y,acc++l.map (·.Mm)) else .ret false)
 | [],acc,h,hl=>by simp[dL]
 | t::l,acc,h,hl=>by
  have ht:=h t (.head _);rw[Ng] at hl;rw[dL,Hj _ ht.2,List.all_cons];by_cases a:t.Mm = []
  ·have:md t=false:=by simp[md,a]
   rw[QM a,this];rfl
  ·rw[QO a];by_cases b:(t.Mm.length:Int)>32767
   ·have:md t=false:=by simp[md,show ¬ t.Mm.length<=32767 by omega]
    rw[QM b,this];rfl
   ·rw[QO b,M3];have hne:t.Mm.isEmpty=false:=by cases hh:t.Mm with | nil=>exact absurd hh a | cons c u=>rfl
    have ho:md t=yH t.Me:=by simp[md,hne,show t.Mm.length<=32767 by omega]
    rw[ho]
    cases hp:yH t.Me with
    | false=>rfl
    | true =>
     rw[QM rfl,QM QI,tq y l _ (fun u hu=>h u (.tail _ hu)) (by rw[M8]; simp only[Ng,N8]; omega),Bool.true_and,List.map_cons,Nd];rfl
theorem Dv (l:List Top) (hw: ∀ t,t∈l->Av t) (hl:l.length<=1000000):fd l=some (rH l):=by
 unfold fd rH;rw[tq false l [] hw (by simpa using hl)]
 cases hall:l.all md with
 | false=>rfl
 | true =>
  simp only[if_true,M3,Bool.true_and,Nm];rw[Ju _ (by rw[NB]; omega)];rfl
theorem zj (a b:AI) (ha:a.length<=1000000) (y:Bool): ∀ (u v:AI) (k fuel:Nat),a.drop k=u->b.drop k=v->v.length<fuel->k<=a.length->k<=b.length->(∃ r,cF a b fuel y k=some (.ret r)/\r=Op.bytesLess u v)\/(∃ z,cF a b fuel y k=some (.go z)/\Op.bytesLess u v=decide (a.length<b.length))
 | [],v,k,fuel+1,hu,hv,hf,e,f=>by
  have:=gk hu;right;refine⟨(y,k),by rw[cF,QO QI],?_⟩
  cases v with
  | nil =>
   have:=gk hv;simp[Op.bytesLess];omega
  | cons c v =>
   have:=(d9 hv).2.2;simp[Op.bytesLess];omega
 | c::u,[],k,fuel+1,hu,hv,hf,e,f=>by
  have j:=gk hv;have l:=(d9 hu).2.2;right;refine⟨(y,k),by rw[cF,QM QI,QO QI],?_⟩;simp[Op.bytesLess];omega
 | c::u,d::v,k,fuel+1,hu,hv,hf,e,f=>by
  obtain⟨g,i,m⟩:=d9 hu;obtain⟨v1,v2,v3⟩:=d9 hv;rw[Ng] at hf;rw[cF,QM QI,QM QI,g,v1];simp only[M3];by_cases hc:(c.toNat:Int)=(d.toNat:Int)
  ·have hcd:c=d:=UInt8.toNat_inj.1 QI;rw[QM hc,QM QI];have:=zj a b ha y u v (k+1) fuel i v2 QI QI QI;have hb:Op.bytesLess (c::u) (d::v)=Op.bytesLess u v:=by
    rw[hcd];simp[Op.bytesLess]
   rw[hb];exact this
  ·rw[QO hc];left;have hcd:c≠d:=fun h=>hc (by rw[h]);by_cases hl:(c.toNat:Int)<(d.toNat:Int)
   ·refine⟨true,by rw[QM hl],?_⟩;have:c<d:=UInt8.lt_iff_toNat_lt.2 QI;simp[Op.bytesLess,this]
   ·refine⟨false,by rw[QO hl],?_⟩;have: ¬ c<d:=fun h=>hl (by have:=UInt8.lt_iff_toNat_lt.1 h; omega);simp[Op.bytesLess,this,hcd]
theorem Jv (a b:AI) (ha:a.length<=1000000):jb a b=some (Op.bytesLess a b):=by
 unfold jb;rcases zj a b ha false a b 0 (((b.length:Int)).toNat+1) rfl rfl QI (Nn _) (Nn _) with⟨r,c,d⟩ | ⟨z,c,d⟩
 ·rw[show ((0:Nat))=0 from rfl] at c;rw[c,d];rfl
 ·rw[c,d];simp only[M3];by_cases h:a.length<b.length
  ·rw[QM QI];simp[h]
  ·rw[QO QI];simp[h]
theorem AA (x:Top): ∀ (fuel:Nat) (y:Bool) (k:Nat),eT x fuel y k=cG x fuel y k
 | 0,y,k=>rfl
 | fuel+1,y,k=>by
  rw[eT,cG];simp only[AA x fuel]
theorem Eu (x:Top) (hb:x.Me.length<=1000000) (y:Bool): ∀ (t:List Int) (p:Option Int) (k fuel:Nat),x.Me.drop k=t->t.length<fuel->(k=0->p=none)->(0<k->x.Me[k - 1]? = p/\p≠none)-> ∃ z,cG x fuel y k=some (if (t.all okn && up ltI p t)=true then .go (y,z) else .ret false)
 | [],p,k,fuel+1,h,hf,b,c=>by
  have:=gk h;refine⟨k,?_⟩;rw[cG,QO QI];cases p <;> rfl
 | n::t,p,k,fuel+1,h,hf,b,c=>by
  obtain⟨d,e,i⟩:=d9 h;rw[Ng] at hf;obtain⟨z,hz⟩:=Eu x hb y t (some n) (k+1) fuel e QI (fun h=>absurd h QI) (fun _=>⟨d,by simp⟩);rw[cG,QM QI,d];simp only[M3];rw[List.all_cons];by_cases a:n<0
  ·refine⟨0,?_⟩;rw[QM a,QO];simp only[okn,Bool.and_eq_true,decide_eq_true_eq];omega
  by_cases c2:n>2147483647
  ·refine⟨0,?_⟩;rw[QO a,QM c2,QO];simp only[okn,Bool.and_eq_true,decide_eq_true_eq];omega
  rw[QO a,QO c2];have ho:okn n=true:=by simp only[okn,Bool.and_eq_true,decide_eq_true_eq]; omega
  rcases Nat.eq_zero_or_pos k with hk | hk
  ·obtain rfl:=b hk;refine⟨z,?_⟩;rw[QO QI,QM QI,hz,ho,Bool.true_and,show up ltI none (n::t)=up ltI (some n) t from rfl]
  ·obtain⟨f,g⟩:=c hk;rw[QM QI,QM QI,QM QI,show ((k:Int) - 1).toNat=k - 1 by omega,f]
   cases p with
   | none=>exact absurd rfl g
   | some q =>
    simp only[M3];by_cases hc:q<n
    ·refine⟨z,?_⟩;rw[QO QI,QM QI,hz,ho,Bool.true_and];simp only[up,ltI,hc,decide_true,Bool.true_and]
    ·refine⟨0,?_⟩;rw[QM QI,QO];simp only[up,ltI,hc,decide_false,Bool.false_and,Bool.and_false,Bool.false_eq_true,not_false_eq_true]
theorem Ev (a0:List Top) (hb:a0.length<=1000000) (hw: ∀ t,t∈a0->t.Me.length<=1000000/\t.Mm.length<=1000000) (y:Bool): ∀ (t:List Top) (p:Option Top) (k fuel:Nat),a0.drop k=t->t.length<fuel->(k=0->p=none)->(0<k->a0[k - 1]? = p/\p≠none)-> ∃ z,cP a0 fuel y k=some (if (t.all md && up Op.bytesLess (p.map (·.Mm)) (t.map (·.Mm)))=true then .go (y,z) else .ret false)
 | [],p,k,fuel+1,h,hf,f,g=>by
  have:=gk h;refine⟨k,?_⟩;rw[cP,QO QI];cases p <;> rfl
 | x::t,p,k,fuel+1,h,hf,f,g=>by
  obtain⟨e,j,m⟩:=d9 h;have hx:=hw x (List.mem_of_getElem? e);rw[Ng] at hf;obtain⟨z,hz⟩:=Ev a0 hb hw y t (some x) (k+1) fuel j QI (fun h=>absurd h QI) (fun _=>⟨e,by simp⟩);rw[cP,QM QI,e,M3];rw[List.all_cons,List.map_cons];by_cases a:(x.Mm.length:Int)<1
  ·refine⟨0,?_⟩;have:x.Mm = []:=List.length_eq_zero_iff.1 QI;rw[QM a,QO];simp[md,this]
  by_cases c2:(x.Mm.length:Int)>32767
  ·refine⟨0,?_⟩;rw[QO a,QM c2,QO];simp[md,show ¬ x.Mm.length<=32767 by omega]
  by_cases b:(x.Me.length:Int)<1
  ·refine⟨0,?_⟩;have:x.Me = []:=List.length_eq_zero_iff.1 QI;rw[QO a,QO c2,QM b,QO];simp[md,yH,this]
  rw[QO a,QO c2,QO b];have hne:x.Mm.isEmpty=false:=by cases hh:x.Mm with | nil=>rw[hh] at a; simp at a | cons c u=>rfl
  have hnp:x.Me.isEmpty=false:=by cases hh:x.Me with | nil=>rw[hh] at b; simp at b | cons c u=>rfl
  have ho:md x=(x.Me.all okn && up ltI none x.Me):=by
   simp[md,yH,hne,hnp,show x.Mm.length<=32767 by omega]
  obtain⟨n,d⟩:=Eu x hx.1 y x.Me none 0 (((x.Me.length:Int)).toNat+1) rfl QI (fun _=>rfl) (fun h=>absurd h QI);rw[ho];rcases Nat.eq_zero_or_pos k with hk | hk
  ·obtain rfl:=f hk;rw[QO QI,AA,d]
   cases hq:(x.Me.all okn && up ltI none x.Me) with
   | false=>exact⟨0,by simp⟩
   | true =>
    refine⟨z,?_⟩;rw[QM rfl,M3,Bool.true_and];simp only;rw[QM QI,hz,show (none:Option Top).map (·.Mm)=none from rfl,show up Op.bytesLess none (x.Mm::t.map (·.Mm))=up Op.bytesLess (some x.Mm) (t.map (·.Mm)) from rfl];rfl
  ·obtain⟨i,l⟩:=g hk;rw[QM QI,QM QI,QM QI,show ((k:Int) - 1).toNat=k - 1 by omega,i]
   cases p with
   | none=>exact absurd rfl l
   | some q =>
    rw[M3];rw[Jv _ _ (hw q (List.mem_of_getElem? i)).2];rw[M3,show (some q).map (·.Mm)=some q.Mm from rfl,show up Op.bytesLess (some q.Mm) (x.Mm::t.map (·.Mm))=(Op.bytesLess q.Mm x.Mm && up Op.bytesLess (some x.Mm) (t.map (·.Mm))) from rfl]
    cases hc:Op.bytesLess q.Mm x.Mm with
    | false=>exact⟨0,by simp⟩
    | true =>
     rw[QM rfl,d]
     cases hq:(x.Me.all okn && up ltI none x.Me) with
     | false=>exact⟨0,by simp⟩
     | true =>
      refine⟨z,?_⟩;rw[QM rfl,M3,Bool.true_and];simp only;rw[QM QI,hz];rfl
theorem Ew (a0:List Top) (hb:a0.length<=1000000) (hw: ∀ t,t∈a0->t.Me.length<=1000000/\t.Mm.length<=1000000):ik a0=some (rH a0):=by
 unfold ik rH;obtain⟨z,hz⟩:=Ev a0 hb hw false a0 none 0 (((a0.length:Int)).toNat+1) rfl QI (fun _=>rfl) (fun h=>absurd h QI);rw[show (none:Option Top).map (·.Mm)=none from rfl] at hz;rw[hz];cases (a0.all md && up Op.bytesLess none (a0.map (·.Mm))) <;> rfl
theorem zk (a b:List Int) (ha:a.length<=140737488355328) (y:Bool): ∀ (t u:List Int) (k fuel:Nat),a.drop k=t->b.drop k=u->t.length=u.length->t.length<fuel-> ∃ z,fD a b fuel y k=some (if t=u then .go (y,z) else .ret false)
 | [],[],k,fuel+1,ht,hu,hl,hf=>by
  have:=gk ht;exact⟨k,by rw[fD,QO QI,QM rfl]⟩
 | [],d::u,k,fuel,ht,hu,hl,hf=>by simp at hl
 | c::t,[],k,fuel,ht,hu,hl,hf=>by simp at hl
 | c::t,d::u,k,fuel+1,ht,hu,hl,hf=>by
  obtain⟨e,f,j⟩:=d9 ht;obtain⟨g,i,l⟩:=d9 hu;simp only[Ng] at hl hf;obtain⟨z,hz⟩:=zk a b ha y t u (k+1) fuel f i QI QI;rw[fD,QM QI,e,M3,g,M3];by_cases hc:c=d
  ·rw[QM hc,QM QI,hz];subst hc;refine⟨z,?_⟩;by_cases h:t=u
   ·rw[QM h,QM (by rw[h])]
   ·rw[QO h,QO (by simpa using h)]
  ·rw[QO hc];exact⟨0,by rw[QO (fun h=>hc (List.cons.inj h).1)]⟩
theorem Jw (a b:List Int) (ha:a.length<=140737488355328):mS a b=some (decide (a=b)):=by
 unfold mS;by_cases hl:(a.length:Int)=(b.length:Int)
 ·rw[QM hl];obtain⟨z,hz⟩:=zk a b ha false a b 0 (((a.length:Int)).toNat+1) rfl rfl QI QI;rw[hz];by_cases h:a=b
  ·rw[QM h,M4 h];rfl
  ·rw[QO h,M5 h];rfl
 ·rw[QO hl,M5 (fun h=>hl (by rw[h]))]
def BS (a b:Top):Bool:=decide (a.Mm=b.Mm) && decide (a.Me=b.Me)
def j6:List Top->List Top->Bool
 | [],[]=>true
 | a::l,b::m=>BS a b && j6 l m
 | _,_=>false
theorem Dw (a:Top):BS a a=true:=by simp[BS]
theorem vn: ∀ l:List Top,j6 l l=true
 | []=>rfl
 | a::l=>by rw[j6,Dw,vn l]; rfl
theorem xy: ∀ (l m:List Top),j6 l m=true->l.length=m.length
 | [],[],h=>rfl
 | [],b::m,h=>nomatch h
 | a::l,[],h=>nomatch h
 | a::l,b::m,h=>by
  rw[j6,Bool.and_eq_true] at h;rw[Ng,Ng,xy l m h.2]
theorem xz (a0 a1:List Top) (a:a0.length<=1000000) (y:Bool): ∀ (l u:List Top) (k fuel:Nat),(∀ t,t∈l->t.Me.length<=140737488355328)->a0.drop k=l->a1.drop k=u->l.length=u.length->l.length<fuel-> ∃ z,dg a0 a1 fuel y k=some (if j6 l u=true then .go (y,z) else .ret false)
 | [],[],k,fuel+1,hw,ht,hu,hl,hf=>by
  have:=gk ht;exact⟨k,by rw[dg,QO QI]; rfl⟩
 | [],d::u,k,fuel,hw,ht,hu,hl,hf=>by simp at hl
 | c::l,[],k,fuel,hw,ht,hu,hl,hf=>by simp at hl
 | c::l,d::u,k,fuel+1,hw,ht,hu,hl,hf=>by
  obtain⟨b,e,h⟩:=d9 ht;obtain⟨f,g,i⟩:=d9 hu;simp only[Ng] at hl hf;obtain⟨z,hz⟩:=xz a0 a1 a y l u (k+1) fuel (fun t ht=>hw t (.tail _ ht)) e g QI QI;rw[dg,QM QI,b,M3,f,M3,j6,BS,Jw _ _ (hw c (.head _))];by_cases hc:c.Mm=d.Mm
  ·rw[QM hc,M4 hc,M3,Bool.true_and]
   cases decide (c.Me=d.Me) with
   | false=>exact⟨0,rfl⟩
   | true =>
    rw[QM rfl,QM QI,Bool.true_and];exact⟨z,hz⟩
  ·rw[QO hc,M5 hc];exact⟨0,rfl⟩
theorem BT (a b:List Top) (c:a.length<=1000000) (ha: ∀ t,t∈a->t.Me.length<=140737488355328):db a b=some (j6 a b):=by
 unfold db;by_cases hl:(a.length:Int)=(b.length:Int)
 ·obtain⟨z,hz⟩:=xz a b c false a b 0 (((a.length:Int)).toNat+1) ha rfl rfl QI QI;rw[QM hl,hz];cases j6 a b <;> rfl
 ·rw[QO hl];have:j6 a b=false:=by
   cases h:j6 a b with
   | false=>rfl
   | true=>exact absurd (congrArg Int.ofNat (xy a b h)) hl
  rw[this]
def wT (t:Top):Nat:=t.Mm.length+4*t.Me.length+6
def wTs:List Top->Nat
 | []=>0
 | t::l=>wT t+wTs l
theorem tr: ∀ l:List Top,l.length*6<=wTs l
 | []=>by simp[wTs]
 | t::l=>by have:=tr l; simp only[wTs,wT,Ng]; omega
theorem wu: ∀ (l:List Top) (t:Top),t∈l->wT t<=wTs l
 | u::l,t,h=>by
  rcases List.mem_cons.1 h with rfl | h
  ·simp only[wTs]; omega
  ·have:=wu l t h; simp only[wTs]; omega
theorem zl: ∀ l:List Int,(dF (fun n=>be n 4) l).length=4*l.length
 | []=>rfl
 | n::l=>by rw[dF,M8,aZ,zl l,Ng]; omega
theorem xA (t:Top):(qO t).length=wT t:=by
 simp only[qO,M8,aZ,zl,wT];omega
theorem uO: ∀ l:List Top,(dF qO l).length=wTs l
 | []=>rfl
 | t::l=>by rw[dF,M8,xA,uO l,wTs]
theorem Dx (n:Int):bG n 2=decide (-32768<=n/\n<=32767):=by
 rw[Bool.eq_iff_iff];unfold bG;simp only[Bool.and_eq_true,decide_eq_true_eq];have:(2:Int) ^ (8*(2:Int).toNat - 1)=32768:=by decide
 omega
def badR (v:Val):Prop:=v.Md<0\/v.Mf<0\/v.Mf>32767\/v.Mh<0\/v.Mh>2147483647\/v.MZ<0\/v.MY < -1
def badC (v:Val):Prop:= ¬ ((1<=v.MU/\v.MU<=3)↔0<(v.Mc.length:Int))\/ ¬ (v.MU=0↔v.MY= -1)
open Classical in
noncomputable def chkV (v:Val):Int:=if badR v then 11 else if v.MU<0\/v.MU>6 then 12 else if badC v then 10 else if rH v.Mc=true then 0 else 13
theorem FZ (v:Val) (hw:wf_Val v) (hl:v.Mc.length<=1000000):jO v=some (chkV v):=by
 unfold jO chkV;rw[Dv _ hw.2.2.2.2.1.2 hl,gG _ _ hw.2.1,gG _ _ hw.2.2.1,Dx,jX];generalize rH v.Mc=b;by_cases hr:badR v
 ·rw[QM hr];unfold badR at hr;by_cases a:v.Md<0
  ·rw[QM a]
  rw[QO a];by_cases c2:v.Mf<0
  ·rw[QM c2]
  rw[QO c2,M3];by_cases e: -32768<=v.Mf/\v.Mf<=32767
  ·rw[QM (M4 e)];by_cases d:v.Mh<0
   ·rw[QM d]
   rw[QO d,M3];by_cases f: -2147483648<=v.Mh/\v.Mh<=2147483647
   ·rw[QM (M4 f)];by_cases g:v.MZ<0
    ·rw[QM g]
    rw[QO g,QM QI]
   ·rw[QO (by simp only[decide_eq_true_eq]; exact f)]
  ·rw[QO (by simp only[decide_eq_true_eq]; exact e)]
 rw[QO hr];unfold badR at hr;rw[QO QI,QO QI,M3,QM (M4 QI),QO QI,M3,QM (M4 QI),QO QI,QO QI];unfold my;by_cases hs:v.MU<0\/v.MU>6
 ·rw[QM hs];by_cases a:v.MU<0
  ·rw[QM a]
  ·rw[QO a,QM QI]
 rw[QO hs,QO QI,QO QI];by_cases hc:badC v
 ·rw[QM hc];unfold badC at hc;by_cases c:v.MU=0
  ·rw[QM c,M3,QM rfl];by_cases a:(v.Mc.length:Int)=0
   ·rw[QM a,QM c,QO QI]
   ·rw[QO a]
  ·rw[QO c];by_cases d:v.MU>=4
   ·rw[QM d,M3,QM rfl];by_cases a:(v.Mc.length:Int)=0
    ·rw[QM a,QO c,QM QI]
    ·rw[QO a]
   ·rw[QO d,M3,QO QJ];by_cases a:(v.Mc.length:Int)=0
    ·rw[QM a]
    ·rw[QO a,QO c,QM QI]
 rw[QO hc];unfold badC at hc;by_cases c:v.MU=0
 ·rw[QM c,M3,QM rfl,QM QI,QM c,QM QI];cases b <;> rfl
 ·rw[QO c];by_cases d:v.MU>=4
  ·rw[QM d,M3,QM rfl,QM QI,QO c,QO QI];cases b <;> rfl
  ·rw[QO d,M3,QO QJ,QO QI,QO c,QO QI];cases b <;> rfl
theorem fx {k:Nat} {s:AI} {q:Nat} (h:q+k<=s.length):bP k s q= .ok (bb ((s.drop q).take k),q+k):=by unfold bP; rw[QO QI]
theorem jW {k:Nat} {s:AI} {q:Nat} (h:s.length<q+k):bP k s q= .error 1:=by unfold bP; rw[QM h]
theorem BU {s:AI} {q:Nat} {e:Int} (hs:s.length<=1000000) (hq:q<=s.length) (h:fO 4 6 eL s q= .error e):e≠0:=by
 rcases xv.run s q hs hq with⟨e',st,p,g,x,y⟩ | ⟨a,r,p,g,n,l⟩
 ·rw[h] at p;injection p with p;rw[p,<- x];exact y
 ·rw[h] at p;exact nomatch p
theorem wi0:wI 0:=⟨by decide,by decide⟩
theorem wi1:wI 1:=⟨by decide,by decide⟩
theorem wim:wI (-1):=⟨by decide,by decide⟩
def who (p e:Int):Bool:=decide (0<=p/\0<=e/\e<=32767)
theorem AB (p e:Int) (he:wI e):kh p e=some (who p e):=by
 unfold kh who;by_cases a:p>=0
 ·rw[QM a];by_cases b:e>=0
  ·rw[QM b,gG _ _ he,Dx];simp only[M3];congr 1;by_cases c:e<=32767
   ·rw[M4 QI,M4 QI]
   ·rw[M5 QI,M5 QI]
  ·rw[QO b,M5 QI];rfl
 ·rw[QO a,M5 QI];rfl
def zm (l:List Top):Int:=if l.length=0 then 10 else if rH l=true then 0 else 13
def wTl (l:List Top):Prop:=(∀ t,t∈l->Av t)/\l.length<=1000000
theorem BV (l:List Top) (hw:wTl l):ll l=some (zm l):=by
 unfold ll zm;by_cases h:l.length=0
 ·rw[QM QI,QM h]
 ·rw[QO QI,QO h,FZ _ ⟨wi0,wi0,wi0,wi1,⟨by have:=hw.2; simp only; omega,hw.1⟩,wi0,wi0⟩ hw.2,M3];unfold chkV;rw[QO (by unfold badR; simp),QO (by simp),QO (by
   unfold badC;simp only;rintro (a | a)
   ·exact a ⟨fun _=>by omega,fun _=>by omega⟩
   ·exact a ⟨fun h=>absurd h QJ,fun h=>absurd h QJ⟩)]
def nB (d:AI) (p e:Int):Int:=if fo d=true then (if who p e=true then 0 else 11) else 4
def nC (d:AI) (p e:Int) (l:List Top):Int:=if fo d=true then (if who p e=true then zm l else 11) else 4
def tmB (t:Int):Bool:=decide (0<=t/\t<=2147483647)
def Dy (p e:Int):Bool:=decide (p= -1/\e= -1)
def fT (b:Bl) (t p e v:Int):Int:=if (bM b && (b.null || fo b.data))=true then (if (tmB t && (Dy p e || (decide (v>0) && who p e)))=true then 0 else 11) else 4
theorem Hk (x:bT) (he:wI x.Mf):gM x=some (nB x.Mk x.Md x.Mf):=by
 unfold gM nB;rw[pa,M3,AB _ _ he,M3];cases fo x.Mk <;> cases who x.Md x.Mf <;> rfl
theorem Hl (x:bU) (he:wI x.Mf) (hl:wTl x.Mc):gL x=some (nC x.Mk x.Md x.Mf x.Mc):=by
 unfold gL nC;rw[pa,M3,AB _ _ he,M3,BV _ hl,M3];cases fo x.Mk <;> cases who x.Md x.Mf <;> rfl
theorem Dz (x:bg) (v:Int) (he:wI x.Mf) (ht:wI x.Mh):fM x v=some (fT x.Mk x.Mh x.Md x.Mf v):=by
 unfold fM fT;have f:(if x.Md=(-1) then (if x.Mf=(-1) then some true else some false) else some false)=some (Dy x.Md x.Mf):=by
  unfold Dy;by_cases a:x.Md= -1 <;> by_cases b:x.Mf= -1 <;> simp[a,b]
 have g:(if x.Mh<0 then some true else ((jy x.Mh 4).bind fun c=>if c=true then some false else some true))=some (!tmB x.Mh):=by
  unfold tmB;by_cases a:x.Mh<0
  ·rw[QM a,M5 QI];rfl
  ·rw[QO a,gG _ _ ht,jX,M3];by_cases b:x.Mh<=2147483647
   ·rw[QM (M4 QI),M4 QI];rfl
   ·rw[QO (by simp; omega),M5 QI];rfl
 have h:(if v>0 then ((some (who x.Md x.Mf)).bind fun e=>if e=true then some false else some true) else some true)=some (!(decide (v>0) && who x.Md x.Mf)):=by
  by_cases d:v>0
  ·rw[QM d,M4 d];cases who x.Md x.Mf <;> rfl
  ·rw[QO d,M5 d];rfl
 rw[f,M3,g,AB _ _ he,h,tP,pa];cases bM x.Mk <;> cases x.Mk.null <;> cases fo x.Mk.data <;> cases tmB x.Mh <;> cases Dy x.Md x.Mf <;> cases (decide (v>0) && who x.Md x.Mf) <;> rfl
theorem Hm:CB gr kN false:=by
 refine⟨fun st h=> ?_,fun s q hl hq=> ?_⟩
 ·unfold gr;rw[lq h,M3];rfl
 ·unfold gr kN;rcases Q1.run s q hq with⟨e,st,c,d,i,j⟩ | ⟨n,r,c,d,f,g⟩
  ·refine .inl ⟨e,st,Pr.bind_err c,?_,i,j⟩;rw[d,M3];rfl
  ·rw[d,M3,Pr.bind_of c];simp only;by_cases a:n=0
   ·rw[QM a,QM a,M3,QO QJ,M3,QO QI];exact .inr ⟨false,r,rfl,rfl,f,g⟩
   ·by_cases b:n=1
    ·rw[QO a,QM b,QO a,QM b,M3,QO QJ,M3,QM b];exact .inr ⟨true,r,rfl,rfl,f,g⟩
    ·rw[QO a,QO b,QO a,QO b,M3,QM rfl,dx,M3,M3,QO b];exact .inl ⟨11,_,rfl,rfl,rfl,by simp[dw]⟩
abbrev rN:Pr (List Top):=fO 4 6 eL
theorem mA {α:Type} {enc:α->AI}: ∀ (l:List α) (x:α),x∈l->(enc x).length<=(dF enc l).length
 | y::l,x,h=>by
  rw[dF,M8];rcases List.mem_cons.1 h with rfl | h
  ·omega
  ·have:=mA (enc:=enc) l x h;omega
theorem DA (s:AI) (q:Nat) (l:List Top) (r:Nat) (hl:s.length<=1000000) (hq:q<=s.length) (h:rN s q= .ok (l,r)):wTl l:=by
 obtain⟨a1,a2,a3,a4,a5,a6⟩:=ki.spell s q l r hq h;rw[M8,aZ] at a3;have hlen:=jV Et l a6;refine⟨fun t ht=> ?_,by omega⟩;have c:=mA (enc:=qO) l t ht;obtain⟨d,e,a⟩:=a6 t ht;have b:(qO t).length=wT t:=xA t;unfold wT at b;exact⟨by show t.Mm.length<= _; omega,by show t.Me.length<= _; omega,fun n hn=>iC (a n hn)⟩
def zE:bT:=⟨[],0,0,false⟩
def zA:bU:=⟨[],0,0,[]⟩
def zB:bg:=⟨⟨false,[]⟩,0,0,0⟩
def rO:Pr bT:=jo.bind fun d=>(bP 8).bind fun p=>(bP 2).bind fun e=>kN.bind fun c=>if nB d p e=0 then .ret ⟨d,p,e,c⟩ else .err (nB d p e)
def rP:Pr bU:=jo.bind fun d=>(bP 8).bind fun p=>(bP 2).bind fun e=>rN.bind fun l=>if nC d p e l=0 then .ret ⟨d,p,e,l⟩ else .err (nC d p e l)
def zn (v:Int):Pr bg:=(jH 2).bind fun b=>(bP 4).bind fun t=>if fT b t (-1) (-1) v=0 then .ret ⟨b,t,-1,-1⟩ else .err (fT b t (-1) (-1) v)
def xB (v:Int):Pr bg:=(jH 2).bind fun b=>(bP 4).bind fun t=>(bP 8).bind fun p=>(bP 2).bind fun e=>if fT b t p e v=0 then .ret ⟨b,t,p,e⟩ else .err (fT b t p e v)
theorem Hn:CB lB rO zE:=by
 refine CB.congr (CB.bind (fun _=>True) QT.cb (fun _ _ _ _ _ _ _=>trivial) trivial fun d _=>CB.bind wI Q8.cb (qN QJ QJ) wi0 fun p hp=>CB.bind wI Q2.cb (qN QJ QJ) wi0 fun e he=>CB.bind (fun _=>True) Hm (fun _ _ _ _ _ _ _=>trivial) trivial fun c _ =>
  Az (op:=fun st=>(cV st ⟨d,p,e,c⟩).bind fun (b,a)=>if b=true then some (⟨d,p,e,c⟩,a) else some (zE,a)) (fun st h=> ?_) (fun st h=> ?_)) (fun st=>rfl)
 ·unfold cV;rw[bx,M3];simp only;rw[QO h];rfl
 ·unfold cV;rw[bx,M3];simp only;rw[QM h,Hk _ he,M3];by_cases hc:nB d p e=0
  ·rw[QM hc,QM hc];rfl
  ·rw[QO hc,QO hc,dx];rfl
theorem Ho:CB lA rP zA:=by
 refine CB.congr (CB.bind (fun _=>True) QT.cb (fun _ _ _ _ _ _ _=>trivial) trivial fun d _=>CB.bind wI Q8.cb (qN QJ QJ) wi0 fun p hp=>CB.bind wI Q2.cb (qN QJ QJ) wi0 fun e he=>CB.bind wTl xv DA ⟨(fun t h=>nomatch h),by decide⟩ fun l hl =>
  Az (op:=fun st=>(cU st ⟨d,p,e,l⟩).bind fun (b,a)=>if b=true then some (⟨d,p,e,l⟩,a) else some (zA,a)) (fun st h=> ?_) (fun st h=> ?_)) (fun st=>rfl)
 ·unfold cU;rw[bx,M3];simp only;rw[QO h];rfl
 ·unfold cU;rw[bx,M3];simp only;rw[QM h,Hl _ he hl,M3];by_cases hc:nC d p e l=0
  ·rw[QM hc,QM hc];rfl
  ·rw[QO hc,QO hc,dx];rfl
theorem Ey (b:Bl) (t p e v:Int) (ht:wI t) (he:wI e):CB (fun st=>(cH st ⟨b,t,p,e⟩ v).bind fun (c,a)=>if c=true then some ((⟨b,t,p,e⟩:bg),a) else some (zB,a)) (if fT b t p e v=0 then .ret ⟨b,t,p,e⟩ else .err (fT b t p e v)) zB:=by
 refine Az (fun st h=> ?_) (fun st h=> ?_)
 ·unfold cH;rw[bx,M3];simp only;rw[QO h];rfl
 ·unfold cH im;rw[bx,M3];simp only;rw[QM h,Dz _ _ he ht,M3,M3];by_cases hc:fT b t p e v=0
  ·rw[QM hc,QM hc];rfl
  ·rw[QO hc,QO hc,dx];rfl
theorem B_beg0 (v:Int) (hv: ¬ v>0):CB (fun st=>eK st v) (zn v) zB:=by
 refine CB.congr (CB.bind (fun _=>True) QF2.cb (fun _ _ _ _ _ _ _=>trivial) trivial fun b _=>CB.bind wI Q4.cb (qN QJ QJ) wi0 fun t ht=>Ey b t (-1) (-1) v ht wim) (fun st=> ?_);unfold eK;simp only[QO hv,M3];rfl
theorem B_beg1 (v:Int) (hv:v>0):CB (fun st=>eK st v) (xB v) zB:=by
 refine CB.congr (CB.bind (fun _=>True) QF2.cb (fun _ _ _ _ _ _ _=>trivial) trivial fun b _=>CB.bind wI Q4.cb (qN QJ QJ) wi0 fun t ht=>CB.bind wI Q8.cb (qN QJ QJ) wi0 fun p hp=>CB.bind wI Q2.cb (qN QJ QJ) wi0 fun e he=>Ey b t p e v ht he) (fun st=> ?_);unfold eK;simp only[QM hv,Option.bind_assoc,M3];rfl
theorem DB {l:List Top} (h:wTs l<=1000000):l.length<=1000000/\ ∀ t,t∈l->t.Me.length<=1000000/\t.Mm.length<=1000000:=by
 have:=tr l;refine⟨by omega,fun t ht=> ?_⟩;have:=wu _ _ ht;unfold wT at this;omega
def Ez (d:AI):AI:=be (d.length:Int) 2++d
def xC (l:List Top):AI:=be (l.length:Int) 4++dF qO l
def encE (x:bT):AI:=Ez x.Mk++(be x.Md 8++(be x.Mf 2++tp x.Mx))
def encA (x:bU):AI:=Ez x.Mk++(be x.Md 8++(be x.Mf 2++xC x.Mc))
def EA (b:Bl):AI:=be (blen b) 2++b.data
def Hp (x:bg):AI:=EA x.Mk++be x.Mh 4
def Hq (x:bg):AI:=EA x.Mk++(be x.Mh 4++(be x.Md 8++be x.Mf 2))
def okTx (d:AI):Prop:=bG (d.length:Int) 2=true/\bM ⟨false,d⟩=true
def okFx (b:Bl):Prop:=bG (blen b) 2=true/\bM b=true
def yI (l:List Top):Prop:=bG (l.length:Int) 4=true/\ ∀ t,t∈l->okT t
abbrev spI (k:Nat) (h1:1<=k:=by decide) (h8:k<=8:=by decide):=bW k h1 h8
theorem DC:Sp rO encE (fun x=>okTx x.Mk/\bG x.Md 8=true/\bG x.Mf 2=true/\nB x.Mk x.Md x.Mf=0):=by
 refine Sp.congr (Sp.seq (β:=bT) (π:=(·.Mk)) (ok2:=fun x:bT=>bG x.Md 8=true/\bG x.Mf 2=true/\nB x.Mk x.Md x.Mf=0) kM fun d =>
  Sp.congr (Sp.seq (β:=bT) (π:=(·.Md)) (ok2:=fun x:bT=>bG x.Mf 2=true/\nB d x.Md x.Mf=0/\x.Mk=d) (spI 8) fun p =>
  Sp.congr (Sp.seq (β:=bT) (π:=(·.Mf)) (ok2:=fun x:bT=>nB d p x.Mf=0/\x.Mk=d/\x.Md=p) (spI 2) fun e =>
  Sp.congr (Sp.seq (β:=bT) (π:=(·.Mx)) (ok2:=fun x:bT=>nB d p e=0/\x.Mk=d/\x.Md=p/\x.Mf=e) wt fun c =>
  (xt (β:=bT) _ _ _).congr (ok':=fun x:bT=>(nB d p e=0/\x.Mk=d/\x.Md=p/\x.Mf=e)/\x.Mx=c) (fun x=> ?_) (fun _ _=>rfl)) (fun x=> ?_) (fun _ _=>rfl)) (fun x=> ?_) (fun _ _=>rfl)) (fun x=> ?_) (fun _ _=>rfl)) (fun x=> ?_) (fun x _=>by simp only[encE,Ez,Nx])
 ·obtain⟨a1,a2,a3,a4⟩:=x;simp only[bT.mk.injEq];exact⟨fun ⟨h,b,a,f,i⟩=>⟨⟨h,b,a,f⟩,i⟩,fun ⟨⟨h,b,a,f⟩,i⟩=>⟨h,b,a,f,i⟩⟩
 ·exact⟨fun ⟨_,h,b,a,f⟩=>⟨⟨by rw[f]; exact h,b,a⟩,f⟩,fun ⟨⟨h,b,a⟩,f⟩=>⟨trivial,by rw[<- f]; exact h,b,a,f⟩⟩
 ·exact⟨fun ⟨g,h,b,a⟩=>⟨⟨g,by rw[a]; exact h,b⟩,a⟩,fun ⟨⟨g,h,b⟩,a⟩=>⟨g,by rw[<- a]; exact h,b,a⟩⟩
 ·exact⟨fun ⟨g,h,b,a⟩=>⟨⟨g,h,by rw[a]; exact b⟩,a⟩,fun ⟨⟨g,h,b⟩,a⟩=>⟨g,h,by rw[<- a]; exact b,a⟩⟩
 ·exact Iff.rfl
theorem DD:Sp rP encA (fun x=>okTx x.Mk/\bG x.Md 8=true/\bG x.Mf 2=true/\yI x.Mc/\nC x.Mk x.Md x.Mf x.Mc=0):=by
 refine Sp.congr (Sp.seq (β:=bU) (π:=(·.Mk)) (ok2:=fun x:bU=>bG x.Md 8=true/\bG x.Mf 2=true/\yI x.Mc/\nC x.Mk x.Md x.Mf x.Mc=0) kM fun d =>
  Sp.congr (Sp.seq (β:=bU) (π:=(·.Md)) (ok2:=fun x:bU=>bG x.Mf 2=true/\yI x.Mc/\nC d x.Md x.Mf x.Mc=0/\x.Mk=d) (spI 8) fun p =>
  Sp.congr (Sp.seq (β:=bU) (π:=(·.Mf)) (ok2:=fun x:bU=>yI x.Mc/\nC d p x.Mf x.Mc=0/\x.Mk=d/\x.Md=p) (spI 2) fun e =>
  Sp.congr (Sp.seq (β:=bU) (π:=(·.Mc)) (ok2:=fun x:bU=>nC d p e x.Mc=0/\x.Mk=d/\x.Md=p/\x.Mf=e) ki fun l =>
  (xt (β:=bU) _ _ _).congr (ok':=fun x:bU=>(nC d p e x.Mc=0/\x.Mk=d/\x.Md=p/\x.Mf=e)/\x.Mc=l) (fun x=> ?_) (fun _ _=>rfl)) (fun x=> ?_) (fun _ _=>rfl)) (fun x=> ?_) (fun _ _=>rfl)) (fun x=> ?_) (fun _ _=>rfl)) (fun x=> ?_) (fun x _=>by simp only[encA,Ez,xC,Nx])
 ·obtain⟨a1,a2,a3,a4⟩:=x;simp only[bU.mk.injEq];exact⟨fun ⟨h,b,a,f,g⟩=>⟨⟨by rw[g]; exact h,b,a,f⟩,g⟩,fun ⟨⟨h,b,a,f⟩,g⟩=>⟨by rw[<- g]; exact h,b,a,f,g⟩⟩
 ·exact⟨fun ⟨c,h,b,a,f⟩=>⟨⟨c,by rw[f]; exact h,b,a⟩,f⟩,fun ⟨⟨c,h,b,a⟩,f⟩=>⟨c,by rw[<- f]; exact h,b,a,f⟩⟩
 ·exact⟨fun ⟨c,hk,h,b,a⟩=>⟨⟨c,hk,by rw[a]; exact h,b⟩,a⟩,fun ⟨⟨c,hk,h,b⟩,a⟩=>⟨c,hk,by rw[<- a]; exact h,b,a⟩⟩
 ·exact⟨fun ⟨c,h,hk,b,a⟩=>⟨⟨c,h,hk,by rw[a]; exact b⟩,a⟩,fun ⟨⟨c,h,hk,b⟩,a⟩=>⟨c,h,hk,by rw[<- a]; exact b,a⟩⟩
 ·exact Iff.rfl
theorem Jx (v:Int):Sp (xB v) Hq (fun x=>okFx x.Mk/\bG x.Mh 4=true/\bG x.Md 8=true/\bG x.Mf 2=true/\fT x.Mk x.Mh x.Md x.Mf v=0):=by
 refine Sp.congr (Sp.seq (β:=bg) (π:=(·.Mk)) (ok2:=fun x:bg=>bG x.Mh 4=true/\bG x.Md 8=true/\bG x.Mf 2=true/\fT x.Mk x.Mh x.Md x.Mf v=0) (eE 2 QJ QJ) fun b =>
  Sp.congr (Sp.seq (β:=bg) (π:=(·.Mh)) (ok2:=fun x:bg=>bG x.Md 8=true/\bG x.Mf 2=true/\fT b x.Mh x.Md x.Mf v=0/\x.Mk=b) (spI 4) fun t =>
  Sp.congr (Sp.seq (β:=bg) (π:=(·.Md)) (ok2:=fun x:bg=>bG x.Mf 2=true/\fT b t x.Md x.Mf v=0/\x.Mk=b/\x.Mh=t) (spI 8) fun p =>
  Sp.congr (Sp.seq (β:=bg) (π:=(·.Mf)) (ok2:=fun x:bg=>fT b t p x.Mf v=0/\x.Mk=b/\x.Mh=t/\x.Md=p) (spI 2) fun e =>
  (xt (β:=bg) _ _ _).congr (ok':=fun x:bg=>(fT b t p x.Mf v=0/\x.Mk=b/\x.Mh=t/\x.Md=p)/\x.Mf=e) (fun x=> ?_) (fun _ _=>rfl)) (fun x=> ?_) (fun _ _=>rfl)) (fun x=> ?_) (fun _ _=>rfl)) (fun x=> ?_) (fun _ _=>rfl)) (fun x=> ?_) (fun x _=>by simp only[Hq,EA,Nx])
 ·obtain⟨a1,a2,a3,a4⟩:=x;simp only[bg.mk.injEq];exact⟨fun ⟨h,c,a,f,g⟩=>⟨⟨by rw[g]; exact h,c,a,f⟩,g⟩,fun ⟨⟨h,c,a,f⟩,g⟩=>⟨by rw[<- g]; exact h,c,a,f,g⟩⟩
 ·exact⟨fun ⟨d,h,c,a,f⟩=>⟨⟨d,by rw[f]; exact h,c,a⟩,f⟩,fun ⟨⟨d,h,c,a⟩,f⟩=>⟨d,by rw[<- f]; exact h,c,a,f⟩⟩
 ·exact⟨fun ⟨d,hk,h,c,a⟩=>⟨⟨d,hk,by rw[a]; exact h,c⟩,a⟩,fun ⟨⟨d,hk,h,c⟩,a⟩=>⟨d,hk,by rw[<- a]; exact h,c,a⟩⟩
 ·exact⟨fun ⟨d,h,hk,c,a⟩=>⟨⟨d,h,hk,by rw[a]; exact c⟩,a⟩,fun ⟨⟨d,h,hk,c⟩,a⟩=>⟨d,h,hk,by rw[<- a]; exact c,a⟩⟩
 ·exact Iff.rfl
theorem Jy (v:Int):Sp (zn v) Hp (fun x=>okFx x.Mk/\bG x.Mh 4=true/\fT x.Mk x.Mh x.Md x.Mf v=0/\x.Md= -1/\x.Mf= -1):=by
 refine Sp.congr (Sp.seq (β:=bg) (π:=(·.Mk)) (ok2:=fun x:bg=>bG x.Mh 4=true/\fT x.Mk x.Mh (-1) (-1) v=0/\x.Md= -1/\x.Mf= -1) (eE 2 QJ QJ) fun b =>
  Sp.congr (Sp.seq (β:=bg) (π:=(·.Mh)) (ok2:=fun x:bg=>fT b x.Mh (-1) (-1) v=0/\x.Mk=b/\x.Md= -1/\x.Mf= -1) (spI 4) fun t =>
  (xt (β:=bg) _ _ _).congr (ok':=fun x:bg=>(fT b x.Mh (-1) (-1) v=0/\x.Mk=b/\x.Md= -1/\x.Mf= -1)/\x.Mh=t) (fun x=> ?_) (fun _ _=>rfl)) (fun x=> ?_) (fun _ _=>rfl)) (fun x=> ?_) (fun x _=>by simp only[Hp,EA,Nx])
 ·obtain⟨a1,a2,a3,a4⟩:=x;simp only[bg.mk.injEq];exact⟨fun ⟨h,c,a,d,f⟩=>⟨⟨by rw[a]; exact h,c,d,f⟩,a⟩,fun ⟨⟨h,c,d,f⟩,a⟩=>⟨by rw[<- a]; exact h,c,a,d,f⟩⟩
 ·exact⟨fun ⟨e,h,c,a,d⟩=>⟨⟨e,by rw[c]; exact h,a,d⟩,c⟩,fun ⟨⟨e,h,a,d⟩,c⟩=>⟨e,by rw[<- c]; exact h,c,a,d⟩⟩
 ·exact⟨fun ⟨e,h,c,a,d⟩=>⟨e,h,by rw[a,d]; exact c,a,d⟩,fun ⟨e,h,c,a,d⟩=>⟨e,h,by rw[a,d] at c; exact c,a,d⟩⟩
end Go.Proofs.YtheikonlgjdopaaGreat.Sl
