/- frameDecodes_holds: part 9. -/
import Derived.Test.YtheikonlgjdopaaGreatK8
set_option maxRecDepth 100000
set_option maxHeartbeats 4000000
set_option linter.defProp false
namespace Go.Proofs.YtheikonlgjdopaaGreat.Sl
open Go.RowKit
set_option linter.unusedVariables false
set_option linter.unusedSimpArgs false
def Ot := @Tryz.sizeOf36
def OB := @Tryz.sizeOf25
def OV := @Tryz.runUnderlying25
def O4 := @Tryz.isAgg36
def Pm := @Tryz.isAgg25
def PY := @Tryz.results191
def PZ := @Tryz.results115
def P9 := @Tryz.ntmps191
def Qj := @Tryz.results194
def Qk := @Tryz.results195
def Ql := @Tryz.results156
def Qn := @Tryz.func191
def Qq := @Tryz.results93
def QL := @Tryz.results120
def Do:fw := [(23,0,0),(23,1,1),(36,0,0),(36,1,2),(36,2,3),(36,3,4),(97,3,3),(97,4,4),(176,0,0),(176,1,1),(179,0,0),(179,1,1)]
theorem ak:(Do).OK Tryz.prog:=⟨FOK.mk NV rfl N6 rfl,FOK.mk NV rfl N5 rfl,FOK.mk O2 rfl NA rfl,FOK.mk O2 rfl Nu rfl,FOK.mk O2 rfl Nu rfl,FOK.mk O2 rfl Tryz.sizeOf34 rfl,FOK.mk NO rfl N6 rfl,FOK.mk NO rfl N6 rfl,FOK.mk PI rfl N5 rfl,FOK.mk PI rfl Qo rfl,FOK.mk P0 rfl Nu rfl,FOK.mk P0 rfl PQ rfl,trivial⟩
def Dp:List Nat := [3,4,9,34,174,177]
theorem bg:NOK Tryz.prog Dp:=⟨Nw,Or,N8,Tryz.isAgg34,P7,PE,trivial⟩
theorem nW:Tryz.prog.follows .mixedOrders=true:=by kernel_rfl
theorem kV:BOK Tryz.prog 36 #[.bool false,.string ⟨#[]⟩,.int .i64 0,.int .i64 0,.slice none 0 0] [(0,2),(2,1),(3,1),(4,1)]:=BOK.mk Tryz.zeroValue36 O2 (by intro w; simp)
theorem wi:BOK Tryz.prog 176 #[.string ⟨#[]⟩,.slice none 0 0] [(0,1),(1,1)]:=BOK.mk Tryz.zeroValue176 PI (by intro w; simp)
theorem wj:BOK Tryz.prog 179 #[.int .i64 0,.slice none 0 0] [(0,1),(1,1)]:=BOK.mk Tryz.zeroValue179 P0 (by intro w; simp)
theorem uQ:SOK Tryz.prog 34 176 1 2 #[.string ⟨#[]⟩,.slice none 0 0]:=SOK.mk OH ON Tryz.zeroValue176 QS QU
theorem kW:SOK Tryz.prog 174 179 1 2 #[.int .i64 0,.slice none 0 0]:=SOK.mk OG OC Tryz.zeroValue179 QS QU
theorem kX:SOK Tryz.prog 177 97 1 12 #[.int .i64 0,.int .i64 0,.bool false,.bool false,.bool false,.int .i64 0,.int .i64 0,.int .i64 0,.int .i64 0,.int .i64 0,.int .i64 0,.slice none 0 0]:=SOK.mk N9 NF Tryz.zeroValue97 QS QU
theorem nr:(Tryz.prog.info? 97).map (fun i=>(i.zero,i.size,i.bytes))=some (some (.agg #[.int .i64 0,.int .i64 0,.bool false,.bool false,.bool false,.int .i64 0,.int .i64 0,.int .i64 0,.int .i64 0,.int .i64 0,.int .i64 0,.slice none 0 0]),12,96):=by kernel_rfl
theorem wk:(Tryz.prog.info? 176).map (fun i=>(i.zero,i.size,i.bytes))=some (some (.agg #[.string ⟨#[]⟩,.slice none 0 0]),2,40):=by kernel_rfl
theorem mt:(Tryz.prog.info? 179).map (fun i=>(i.zero,i.size,i.bytes))=some (some (.agg #[.int .i64 0,.slice none 0 0]),2,32):=by kernel_rfl
def dP (d:aN):List bh->Int->Nat->Option (Lp Int Int)
 | [],b,a=>some (Lp.go b)
 | c::xs,b,a=>(if c.MR<0 then some true else ((jG c.MR 4).bind fun e=>if e=true then (if (a:Int)>0 then (if A0 ((a:Int) - 1) then (if 0<=((a:Int) - 1) then ((d.My[((a:Int) - 1).toNat]?).bind fun f=>if f.MR>=c.MR then some true else some false) else none) else none) else some false) else some true)).bind fun g=>if g=true then some (Lp.ret 13) else (dP d xs b (a+1))
def cV (a0:List aN):List aN->Int->Nat->Option (Lp Int Int)
 | [],c,b=>some (Lp.go c)
 | a::xs,c,b=>if (a.My.length:Int)=0 then some (Lp.ret 10) else ((if a.MI = [] then some true else (if (a.MI.length:Int)>32767 then some true else (if (b:Int)>0 then (if A0 ((b:Int) - 1) then (if 0<=((b:Int) - 1) then ((a0[((b:Int) - 1).toNat]?).bind fun d=>if (Op.bytesLess d.MI a.MI)=true then some false else some true) else none) else none) else some false))).bind fun f=>if f=true then some (Lp.ret 13) else ((dP a a.My c 0).bind fun e=>match e with | .ret r=>some (Lp.ret r) | .go g=>(cV a0 xs g (b+1))))
theorem rI (a0:List aN) (a:Int) (b:Nat):cV a0 [] a b=(some (Lp.go a)):=rfl
theorem rJ (a0:List aN) (a:aN) (xs:List aN) (g:Int) (b:Nat):cV a0 (a::xs) g b=(if (a.My.length:Int)=0 then some (Lp.ret 10) else ((if a.MI = [] then some true else (if (a.MI.length:Int)>32767 then some true else (if (b:Int)>0 then (if A0 ((b:Int) - 1) then (if 0<=((b:Int) - 1) then ((a0[((b:Int) - 1).toNat]?).bind fun c=>if (Op.bytesLess c.MI a.MI)=true then some false else some true) else none) else none) else some false))).bind fun d=>if d=true then some (Lp.ret 13) else ((dP a a.My g 0).bind fun e=>match e with | .ret r=>some (Lp.ret r) | .go f=>(cV a0 xs f (b+1))))):=rfl
def ju (a0:List aN):Option (Int):=if (a0.length:Int)=0 then some 10 else ((cV a0 a0 0 0).bind fun e=>match e with | .ret r=>some r | .go a=>some 0)
theorem rK (a0:List aN) (A1:AT) (c2:Nat) (r:Int) (h:ju a0=some r):aC Tryz.prog 194 #[.slice A1 a0.length c2] (RX.of (ar 2 aK) [.slice A1 a0.length c2] a0) (aJ) (fun v A' N=>v=jI r/\A'=aJ/\N = []):=by
 refine aW Tryz.func194 Z Tryz.ntmps194 Z ?_;intro F w hX;unfold ju at h;refine Kv Z (KF ak Z (T.seq (Kv Z (Ku ak 1 Z (Kw Z (K2 Z OH) Z (Ku ak 1 Z ?_))))));rcases jF h with⟨c3,h⟩ | ⟨c3,h⟩
 ·refine KY Z c3 (Kv Z (Ku ak 1 Z ?_));obtain rfl:=Nl h;exact Kx (T.ret (Kz (KI [0] Qj (Ky Z))))
 refine KW Z c3 (KQ (T.seq (Kv Z (Ku ak 1 Z (Kw Z (K2 Z OH) Z (KF ak Z (T.block ?_)))))));obtain⟨E6,aQ,U⟩:=Nk h;have a7:=Ly hX;refine Lq (fun m e Rs=> ∃ (y4:Int) (y:Nat),y+m=a0.length/\e = [(0,.slice A1 a0.length c2),(2,jI y4),(10,.slice A1 a0.length c2),(11,jI (a0.length:Int)),(12,jI (y:Int))]/\Rs = [aJ]/\cV a0 (a0.drop y) y4 y=some E6) (a0.length) [0] ⟨0,0,by simp,Z,Z,by rw[List.drop_zero]; exact aQ⟩ QW QW ?_;clear aQ h;rintro m9 _ _ ⟨y4,y,bm,rfl,rfl,h⟩
 cases m9 with
 | zero =>
  rw[List.drop_of_length_le QR,rI] at h;have ai: ¬ ((y:Int)<(a0.length:Int)):=by omega
  refine Kv Z (KF ak Z (T.seq (K8 Z (Np ai) ?_)));obtain rfl:=Nl h;replace h:=U;clear U;refine T.exit (KR (KR (Ll (X.seq (Kv Z (Ku ak 1 Z ?_))))));obtain rfl:=Nl h;exact Kx (T.ret (KI [0] Qj (Ky Z)))
 | succ m9 =>
  obtain⟨a,H⟩: ∃ x,a0[y]? = some x:=⟨_,List.getElem?_eq_getElem QR⟩;rw[bY H,rJ] at h;have aj:(y:Int)<(a0.length:Int):=by omega
  refine Kv Z (KF ak Z (T.seq (KM Z (Nn aj) (KQ (T.seq (T.block (Kv Z ?_)))))));obtain⟨s,t,rfl,a8,a9,am,an,I⟩:=Lg QS hX H;obtain⟨aI,I,ao⟩:=I;obtain⟨z,o,rfl,ap⟩:=I;have J:(RX.of (ar 2 cG) [.slice z a.My.length o] a.My).reads w F:=⟨aI,ap,ao⟩;refine Ku ak 1 Z ?_;refine Kw Z (KX (k:=y) Z Z Z OH ON (Nq H).1) Z ?_;refine Kw Z (LE (us := [jS a.MI,.slice z a.My.length o]) 0 Z Qs ON an am Z Z Z) Z (TL.alloc Z .u Tryz.zeroValue176 Z (fun A=>(Ku ak 1 Z (KE 0 Z (cs':= #[jS a.MI,.slice z a.My.length o]) Z .u Z Z ON Z Z Z Z Z (Kx (T.seq (Kv Z (KA ak bg 0 Z 2 Z Z (Kw Z (K2 Z OG) Z (Ku ak 1 Z ?_))))))))));rcases jF h with⟨V,h⟩ | ⟨V,h⟩
  ·refine KY Z V (Kv Z (Ku ak 1 Z ?_));obtain rfl:=Nl h;obtain rfl:=Nl U;exact Kx (T.ret (Kz (KL (Kz (Kz (KL (Kz (KI [1] Qj (Ky Z)))))))))
  refine KW Z V (KQ (LS ?_));obtain⟨aR,h,K⟩:=Nk h;refine Lu (fun e Rs=>e = [(0,.slice (some ⟨s,t,none⟩) a0.length c2),(2,jI y4),(4,jP A),(10,.slice (some ⟨s,t,none⟩) a0.length c2),(11,jI (a0.length:Int)),(12,jI (y:Int)),(44,.bool aR)]/\Rs = [aV A 176 #[jS a.MI,.slice z a.My.length o],aJ]) ?_ ?_
  ·clear K;refine Lc (.q 0 (.q 1 (.q 2 (.q 3 (.q 4 (.q 5 (.q 6 (.q 7 (.q 8 (.q 9 (.q 10 (.q 11 (.q 12 (.q 13 (.q 14 (.q 15 (.q 16 (.q 17 (.q 18 (.q 19 (.q 20 (.q 21 (.q 22 (.q 23 .nil)))))))))))))))))))))))) [0,0] Z nW (NoP.seq (NoP.seq (NoP.seq (NoP.blk (NoP.seq (NoP.seq (NoP.blk (NoP.seq bj)))))))) QU ?_;refine TD.run ak [0] Z Z (KD Z (K4 0 Z N8 Z Z) Z (KD Z (Ex.sEq Z (m := []) Z) Z ?_));rcases jF h with⟨p,h⟩ | ⟨p,h⟩
   ·refine TD.run ak [3] Z Z ?_;iterate 4 refine Le Z (.gn Z Z (Nn p)) Z ?_
    refine KD Z (LB Z (Nn p) Z) Z (TD.run ak [9] Z Z ?_);iterate 3 refine Le Z (.gn Z Z Z) Z ?_
    iterate 9 refine Le Z (.gu Z Z) Z ?_
    refine Le Z (.gn Z Z Z) Z (KD Z (LB Z Z Z) Z ?_);cases h;exact TD.nil (KJ [0,0])
   refine TD.run ak [3] Z Z (TD.q Z (.g Z Z (Np p)) (Lf ak Z) Z (TD.q Z (.g Z Z (Np p)) (K4 0 Z N8 Z Z) Z (TD.q Z (.g Z Z (Np p)) (Lh Z Nv) Z (TD.q Z (.g Z Z (Np p)) (Lf ak Z) Z (KD Z (LC Z (Np p) Z) Z ?_)))));rcases jF h with⟨l,h⟩ | ⟨l,h⟩
   ·refine TD.run ak [9] Z Z ?_;iterate 3 refine Le Z (.gn Z Z (Nn l)) Z ?_
    iterate 9 refine Le Z (.gu Z Z) Z ?_
    refine Le Z (.gn Z Z (Nn l)) Z (KD Z (LB Z (Nn l) Z) Z ?_);cases h;exact TD.nil (KJ [0,0])
   refine TD.run ak [9] Z Z ?_;iterate 3 refine TD.q Z (.g Z Z (Np l)) (Lf ak Z) Z ?_
   rcases jF h with⟨c,h⟩ | ⟨c,h⟩
   ·refine TD.q Z (.g Z Z (Nn c)) (Lf ak Z) Z (TD.q Z (.g Z Z (Nn c)) (Lf ak Z) Z ?_);obtain⟨aS,h⟩:=al h;refine TD.q Z (.g Z Z (Nn c)) (Ex.sub Z Z aS) Z ?_;obtain⟨aT,h⟩:=al h;obtain⟨aq,aa,h⟩:=Nk h;obtain⟨a_,ba,au,av,L⟩:=L8 QS hX aa;obtain⟨aL,L,aw⟩:=L;obtain⟨aU,aX,rfl,ax⟩:=L;have bh:(RX.of (ar 2 cG) [.slice aU aq.My.length aX] aq.My).reads w F:=⟨aL,ax,aw⟩;refine TD.q Z (.g Z Z (Nn c)) (KX (k:=((y:Int) - 1).toNat) Z Z ((Int.toNat_of_nonneg aT).symm) OH ON (Nq aa).1) Z ?_;refine TD.q Z (.g Z Z (Nn c)) (Lf ak Z) Z (TD.q Z (.g Z Z (Nn c)) (Lo 0 Z N8 av au Z Z) Z (TD.q Z (.g Z Z (Nn c)) (Lf ak Z) Z (TD.q Z (.g Z Z (Nn c)) (K4 0 Z N8 Z Z) Z (TD.q Z (.g Z Z (Nn c)) (Ex.sGe Z Z) Z (TD.q Z (.g Z Z (Np l)) (LB Z (Nn c) Z) Z (KD Z (LC Z (Np l) Z) Z ?_))))));rcases jF h with⟨C,h⟩ | ⟨C,h⟩
    ·cases h;exact TD.nil (Lr (d:=44) (v':= .bool false) Z (congrArg Value.bool (bb C)) (KJ [0,0]))
    replace C:=Nt C;cases h;exact TD.nil (Lr (d:=44) (v':= .bool true) Z (congrArg Value.bool (bp C)) (KJ [0,0]))
   refine Le Z (.gn Z Z (Np c)) Z ?_;iterate 8 refine Le Z (.gn Z Z (Np c)) Z ?_
   refine TD.q Z (.g Z Z (Np l)) (LC Z (Np c) Z) Z (KD Z (LC Z (Np l) Z) Z ?_);cases h;exact TD.nil (KJ [0,0])
  rintro _ _ ⟨rfl,rfl⟩;clear h;have h:=K;clear K;try dsimp only at h
  rcases jF h with⟨D,h⟩ | ⟨D,h⟩
  ·refine X.seq (KM Z D (Kv Z (Ku ak 1 Z ?_)));obtain rfl:=Nl h;obtain rfl:=Nl U;exact Kx (T.ret (Kz (KL (Kz (Kz (KL (Kz (KI [1] Qj (Ky Z)))))))))
  replace D:=Nt D;refine X.seq (K8 Z D (KP Z (KA ak bg 0 Z 2 Z Z (Kw Z (K2 Z OG) Z (KF ak Z (T.block ?_))))));obtain⟨aY,ab,M⟩:=Nk h;have aZ:=Ly J;refine Lq (fun m e Rs=> ∃ (B:Int) (f:Nat),f+m=a.My.length/\e = [(0,.slice (some ⟨s,t,none⟩) a0.length c2),(2,jI B),(4,jP A),(10,.slice (some ⟨s,t,none⟩) a0.length c2),(11,jI (a0.length:Int)),(12,jI (y:Int)),(46,.slice z a.My.length o),(47,jI (a.My.length:Int)),(48,jI (f:Int))]/\Rs = [aV A 176 #[jS a.MI,.slice z a.My.length o],aJ]/\dP a (a.My.drop f) B f=some aY) (a.My.length) [0,0] ⟨y4,0,by simp,Z,Z,by rw[List.drop_zero]; exact ab⟩ QW QW ?_;clear ab h;rintro W _ _ ⟨B,f,bi,rfl,rfl,h⟩
  cases W with
  | zero =>
   rw[List.drop_of_length_le QR,dP] at h;have ag: ¬ ((f:Int)<(a.My.length:Int)):=by omega
   refine Kv Z (KF ak Z (T.seq (K8 Z (Np ag) ?_)));obtain rfl:=Nl h;replace h:=M;clear M;exact T.exit (KR (KR (Ll (KZ (X.seq (T.region Z (Kw Z (Ex.add Z Z QR) Z (Ku ak 1 Z (TL.nil (X.back (m':=m9) [1] QR ⟨B,y+1,by omega,Z,Z,h⟩ QW QW))))))))))
  | succ W =>
   obtain⟨n,E⟩: ∃ x,a.My[f]? = some x:=⟨_,List.getElem?_eq_getElem QR⟩;rw[bY E,dP] at h;have ah:(f:Int)<(a.My.length:Int):=by omega
   refine Kv Z (KF ak Z (T.seq (KM Z (Nn ah) (KQ (T.seq (T.block (Kv Z ?_)))))));obtain⟨ad,ae,rfl,bc,bd,ay,az,O⟩:=Lg QS J E;obtain⟨aM,O,aA⟩:=O;obtain⟨P,Q,rfl,aB⟩:=O;have bk:(RX.of (ar 12 dp) [.slice P n.MK.length Q] n.MK).reads w F:=⟨aM,aB,aA⟩;refine Ku ak 1 Z ?_;refine Kw Z (KX (k:=f) Z Z Z OG OC (Nq E).1) Z ?_;refine Kw Z (LE (us := [jI n.MR,.slice P n.MK.length Q]) 0 Z PS OC az ay Z Z Z) Z (TL.alloc Z .u Tryz.zeroValue179 Z (fun a1=>(Ku ak 1 Z (KE 0 Z (cs':= #[jI n.MR,.slice P n.MK.length Q]) Z .u Z Z OC Z Z Z Z Z (Kx (T.seq ?_))))));obtain⟨a2,h,R⟩:=Nk h;refine Lu (fun e Rs=>e = [(0,.slice (some ⟨s,t,none⟩) a0.length c2),(2,jI B),(4,jP A),(10,.slice (some ⟨s,t,none⟩) a0.length c2),(11,jI (a0.length:Int)),(12,jI (y:Int)),(46,.slice (some ⟨ad,ae,none⟩) a.My.length o),(47,jI (a.My.length:Int)),(48,jI (f:Int)),(77,.bool a2)]/\Rs = [aV a1 179 #[jI n.MR,.slice P n.MK.length Q],aV A 176 #[jS a.MI,.slice (some ⟨ad,ae,none⟩) a.My.length o],aJ]) ?_ ?_
   ·clear R;refine Lc (.q 0 (.q 1 (.q 2 (.q 3 (.q 4 (.q 5 (.e 6 (.q 7 (.q 8 (.q 9 (.q 10 (.q 11 (.q 12 (.q 13 (.q 14 (.q 15 (.q 16 (.q 17 (.q 18 (.q 19 (.q 20 (.q 21 (.q 22 (.q 23 (.q 24 .nil))))))))))))))))))))))))) [0,0,0] Z nW (NoP.seq (NoP.seq (NoP.blk (NoP.seq (NoP.seq (NoP.blk (NoP.blk (NoP.seq (NoP.seq (NoP.blk (NoP.seq bj))))))))))) QU ?_;refine TD.run ak [0] Z Z (KD Z (K4 0 Z Nw Z Z) Z ?_);rcases jF h with⟨j,h⟩ | ⟨j,h⟩
    ·refine TD.run ak [2,3] Z Z ?_;iterate 2 refine Le Z (.gn Z Z (Nn j)) Z ?_
     refine LL Z (.gn Z Z (Nn j)) Z [0,0,0] Z (Le Z (.gn Z Z (Nn j)) Z (KD Z (LB Z (Nn j) Z) Z (TD.run ak [9] Z Z ?_)));iterate 3 refine Le Z (.gn Z Z Z) Z ?_
     iterate 10 refine Le Z (.gu Z Z) Z ?_
     refine Le Z (.gn Z Z Z) Z (KD Z (LB Z Z Z) Z ?_);cases h;exact TD.nil (KJ [0,0,0])
    refine TD.run ak [2,3] Z Z (TD.q Z (.g Z Z (Np j)) (Lf ak Z) Z (TD.q Z (.g Z Z (Np j)) (K4 0 Z Nw Z Z) Z ?_));obtain⟨bn,aO,h⟩:=Nk h;refine LD Z (.g Z Z (Np j)) (.fn Tryz.call101 Z) (K6 (fun w=>dH n.MR 4 _ aO w)) (fun _ _=>RX.reads_triv _ _) Z [0,0,0] (Z) (TD.q Z (.g Z Z (Np j)) (Lf ak Z) Z (KD Z (LC Z (Np j) Z) Z ?_));rcases jF h with⟨i,h⟩ | ⟨i,h⟩
    ·refine TD.run ak [9] Z Z ?_;iterate 3 refine TD.q Z (.g Z Z (bb i)) (Lf ak Z) Z ?_
     rcases jF h with⟨b,h⟩ | ⟨b,h⟩
     ·refine TD.q Z (.g Z Z (Nn b)) (Lf ak Z) Z (TD.q Z (.g Z Z (Nn b)) (K4 1 Z P7 Z Z) Z (TD.q Z (.g Z Z (Nn b)) (Lf ak Z) Z ?_));obtain⟨a3,h⟩:=al h;refine TD.q Z (.g Z Z (Nn b)) (Ex.sub Z Z a3) Z ?_;obtain⟨a4,h⟩:=al h;obtain⟨aD,af,h⟩:=Nk h;obtain⟨be,bf,aE,aF,S⟩:=L8 QS J af;obtain⟨aP,S,aG⟩:=S;obtain⟨a5,a6,rfl,aH⟩:=S;have bl:(RX.of (ar 12 dp) [.slice a5 aD.MK.length a6] aD.MK).reads w F:=⟨aP,aH,aG⟩;refine TD.q Z (.g Z Z (Nn b)) (KX (k:=((f:Int) - 1).toNat) Z Z ((Int.toNat_of_nonneg a4).symm) OG OC (Nq af).1) Z ?_;refine TD.q Z (.g Z Z (Nn b)) (Lf ak Z) Z (TD.q Z (.g Z Z (Nn b)) (Lo 0 Z Nw aF aE Z Z) Z (TD.q Z (.g Z Z (Nn b)) (Lf ak Z) Z (TD.q Z (.g Z Z (Nn b)) (K4 0 Z Nw Z Z) Z (TD.q Z (.g Z Z (Nn b)) (Lf ak Z) Z (TD.q Z (.g Z Z (bb i)) (LB Z (Nn b) Z) Z (KD Z (LC Z (bb i) Z) Z ?_))))));rcases jF h with⟨Y,h⟩ | ⟨Y,h⟩
      ·cases h;exact TD.nil (Lr (d:=77) (v':= .bool true) Z (congrArg Value.bool (Nn Y)) (KJ [0,0,0]))
      cases h;exact TD.nil (Lr (d:=77) (v':= .bool false) Z (congrArg Value.bool (Np Y)) (KJ [0,0,0]))
     refine Le Z (.gn Z Z (Np b)) Z ?_;iterate 9 refine Le Z (.gn Z Z (Np b)) Z ?_
     refine TD.q Z (.g Z Z (bb i)) (LC Z (Np b) Z) Z (KD Z (LC Z (bb i) Z) Z ?_);cases h;exact TD.nil (KJ [0,0,0])
    replace i:=Nt i;refine TD.run ak [9] Z Z ?_;iterate 3 refine Le Z (.gn Z Z (bp i)) Z ?_
    iterate 10 refine Le Z (.gu Z Z) Z ?_
    refine Le Z (.gn Z Z (bp i)) Z (KD Z (LB Z (bp i) Z) Z ?_);cases h;exact TD.nil (KJ [0,0,0])
   rintro _ _ ⟨rfl,rfl⟩;clear h;have h:=R;clear R;try dsimp only at h
   rcases jF h with⟨G,h⟩ | ⟨G,h⟩
   ·refine X.seq (KM Z G (Kv Z (Ku ak 1 Z ?_)));obtain rfl:=Nl h;obtain rfl:=Nl M;obtain rfl:=Nl U;exact Kx (T.ret (KL (Kz (Kz (KL (KL (Kz (Kz (KL (Kz (KI [2] Qj (Ky Z))))))))))))
   replace G:=Nt G;exact X.seq (K8 Z G (T.skip (KZ (X.seq (T.region Z (Kw Z (Ex.add Z Z QR) Z (Ku ak 1 Z (TL.nil (X.back (m':=W) [1,1] QR ⟨B,f+1,by omega,Z,Z,h⟩ QW QW)))))))))
def bZ (a0:aB):List Bat->Int->Option (Lp Int Int)
 | [],a=>some (Lp.go a)
 | b::xs,a=>(dY b).bind fun c=>if c=0 then (if b.M6=true then some (Lp.ret 12) else (if (b.M2 == a0.MD.null)=true then some (Lp.ret 8) else (bZ a0 xs a))) else some (Lp.ret c)
def dZ (a0:aB) (a1:List Bat) (a2:Int):Option (Int):=(if (a1.length:Int)=0 then some true else (if a2<4 then (if (a1.length:Int)>1 then some true else some false) else some false)).bind fun a=>if a=true then some 10 else ((bZ a0 a1 0).bind fun e=>match e with | .ret r=>some r | .go b=>some 0)
theorem md (a0:aB) (H:AT) (c2:Nat) (a1:List Bat) (I:AT) (J:Nat) (a2:Int) (r:Int) (h:dZ a0 a1 a2=some r):aC Tryz.prog 195 #[.agg #[.bool a0.MD.null,jS a0.MD.data,jI a0.MV,jI a0.MC,.slice H a0.Mw.length c2],.slice I a1.length J,jI a2] (RX.and (RX.of (ar 2 aK) [.slice H a0.Mw.length c2] a0.Mw) (RX.of (ar 12 dp) [.slice I a1.length J] a1)) (aJ) (fun v A' N=>v=jI r/\A'=aJ/\N = []):=by
 refine aW Tryz.func195 Z Tryz.ntmps195 Z ?_;intro F w hX;unfold dZ at h;refine Kv Z (TL.box Z .u Z Z (fun K=>(KF ak Z (LS ?_))));obtain⟨y8,h,t⟩:=Nk h;refine Lu (fun e Rs=>e = [(1,.slice I a1.length J),(3,jP K),(6,jI 0),(21,.bool y8)]/\Rs = [aV K 36 #[.bool a0.MD.null,jS a0.MD.data,jI a0.MV,jI a0.MC,.slice H a0.Mw.length c2],aJ]) ?_ ?_
 ·clear t;refine T.region Z (Ku ak 1 Z (Kw Z (K2 Z N9) Z ?_));rcases jF h with⟨y,h⟩ | ⟨y,h⟩
  ·refine Ku ak 2 Z (KC 13 Z (Nn y) (KB ak 8 Z ?_));cases h;exact TL.nil (KJ [0,0])
  refine Ku ak 2 Z (KC 13 Z (Np y) ?_);rcases jF h with⟨z,h⟩ | ⟨z,h⟩
  ·refine KB ak 3 Z (KC 16 Z (Nn z) (KB ak 1 Z (TL.q Z (.g Z Z Z) (K2 Z N9) Z (KB ak 3 Z ?_))));rcases jF h with⟨A,h⟩ | ⟨A,h⟩
   ·cases h;exact TL.nil (Lr (d:=21) (v':= .bool true) Z (congrArg Value.bool (Nn A)) (KJ [0,0]))
   cases h;exact TL.nil (Lr (d:=21) (v':= .bool false) Z (congrArg Value.bool (Np A)) (KJ [0,0]))
  refine KB ak 3 Z (KC 16 Z (Np z) (KB ak 5 Z ?_));cases h;exact TL.nil (KJ [0,0])
 rintro _ _ ⟨rfl,rfl⟩;clear h;have h:=t;clear t;try dsimp only at h
 rcases jF h with⟨i,h⟩ | ⟨i,h⟩
 ·refine X.seq (KM Z i (Kv Z (Ku ak 1 Z ?_)));obtain rfl:=Nl h;exact Kx (T.ret (Kz (KI [1] Qk (Ky Z))))
 replace i:=Nt i;refine X.seq (K8 Z i (KQ (T.seq (Kv Z (Ku ak 1 Z (Kw Z (K2 Z N9) Z (KF ak Z (T.block ?_))))))));obtain⟨V,B,b⟩:=Nk h;have U:=Ly (La hX);refine Lq (fun m e Rs=> ∃ (o:Int) (a:Nat),a+m=a1.length/\e = [(3,jP K),(6,jI o),(22,.slice I a1.length J),(23,jI (a1.length:Int)),(24,jI (a:Int))]/\Rs = [aV K 36 #[.bool a0.MD.null,jS a0.MD.data,jI a0.MV,jI a0.MC,.slice H a0.Mw.length c2],aJ]/\bZ a0 (a1.drop a) o=some V) (a1.length) [0,0] ⟨0,0,by simp,Z,Z,by rw[List.drop_zero]; exact B⟩ QW QW ?_;clear B h;rintro C _ _ ⟨o,a,aa,rfl,rfl,h⟩
 cases C with
 | zero =>
  rw[List.drop_of_length_le QR,bZ] at h;have D: ¬ ((a:Int)<(a1.length:Int)):=by omega
  refine Kv Z (KF ak Z (T.seq (K8 Z (Np D) ?_)));obtain rfl:=Nl h;replace h:=b;clear b;refine T.exit (KR (KR (Ll (X.seq (Kv Z (Ku ak 1 Z ?_))))));obtain rfl:=Nl h;exact Kx (T.ret (KI [1] Qk (Ky Z)))
 | succ C =>
  obtain⟨c,f⟩: ∃ x,a1[a]? = some x:=⟨_,List.getElem?_eq_getElem QR⟩;rw[bY f,bZ] at h;have E:(a:Int)<(a1.length:Int):=by omega
  refine Kv Z (KF ak Z (T.seq (KM Z (Nn E) ?_)));obtain⟨ab,ad,rfl,W,Y,L,M,n⟩:=Lg QS (La hX) f;obtain⟨Q,n,O⟩:=n;obtain⟨p,s,rfl,P⟩:=n;have R:(RX.of (ar 7 de) [.slice p c.MB.length s] c.MB).reads w F:=⟨Q,P,O⟩;refine KQ (T.seq (T.block (Kv Z ?_)));refine Kw Z (KX (k:=a) Z Z Z N9 NF (Nq f).1) Z ?_;refine Kw Z (LE (us:=wL7 c p s) 0 Z NY NF M L Z Z Z) Z (TL.alloc Z .u Tryz.zeroValue97 Z (fun ae=>(KE 0 Z (cs':=wA6 c p s) Z .u Z Z NF Z Z Z Z Z (Kx (T.seq (Kv Z (Kw Z (KH (us:=wL7 c p s) 0 Z NY NF Z Z Z) Z ?_)))))));obtain⟨af,S,h⟩:=Nk h;refine KN Z .u (.fn Tryz.call81 Z) (kh c _ _ _ S) (fun _ hs=>(K7 hs R)) Z (K3 ak Z Z (Ku ak 2 Z ?_));rcases jF h with⟨G,h⟩ | ⟨G,h⟩
  ·refine K1 Z G (KQ (T.block (Kv Z (KA ak bg 0 Z 3 Z Z ?_))));rcases jF h with⟨j,h⟩ | ⟨j,h⟩
   ·refine Kx (KM Z j (Kv Z (Ku ak 1 Z ?_)));obtain rfl:=Nl h;obtain rfl:=Nl b;exact Kx (T.ret (KL (KL (Kz (Kz (KL (Kz (KI [2] Qk (Ky Z)))))))))
   replace j:=Nt j;refine Kx (K8 Z j (Kv Z (KA ak bg 0 Z 4 Z Z (KA ak bg 1 Z 1 Z Z (Kw Z (Ex.bEq Z Z Z Z N1) Z (Ku ak 1 Z ?_))))));rcases jF h with⟨l,h⟩ | ⟨l,h⟩
   ·refine Kx (KM Z l (Kv Z (Ku ak 1 Z ?_)));obtain rfl:=Nl h;obtain rfl:=Nl b;exact Kx (T.ret (KL (KL (Kz (Kz (KL (Kz (KI [2] Qk (Ky Z)))))))))
   replace l:=Nt l;exact Kx (K8 Z l (T.skip (KZ (KZ (X.seq (T.region Z (Kw Z (Ex.add Z Z QR) Z (Ku ak 1 Z (TL.nil (X.back (m':=C) [1,1] QR ⟨o,a+1,by omega,Z,Z,h⟩ QW QW))))))))))
  refine K0 Z G (Kv Z (Ku ak 2 Z ?_));obtain rfl:=Nl h;obtain rfl:=Nl b;exact Kx (T.ret (Kz (KL (Kz (Kz (KL (Kz (KI [2] Qk (Ky Z)))))))))
def cB (a0:aB) (a1:Int):List bh->Int->Option (Lp Int Int)
 | [],a=>some (Lp.go a)
 | c::xs,a=>(dZ a0 c.MK a1).bind fun b=>if b=0 then (cB a0 a1 xs a) else some (Lp.ret b)
def cC (a0:aB) (a1:Int):List aN->Int->Option (Lp Int Int)
 | [],a=>some (Lp.go a)
 | b::xs,a=>(cB a0 a1 b.My a).bind fun e=>match e with | .ret r=>some (Lp.ret r) | .go c=>(cC a0 a1 xs c)
def cH (a0:aB) (a1:Int):Option (Int):=((qH a0.MD).bind fun b=>if b=true then (if a0.MD.null=true then some false else ((nP a0.MD.data).bind fun c=>if c=true then some false else some true)) else some true).bind fun d=>if d=true then some 4 else ((if a0.MV<(-1) then some true else (if a0.MV>1 then some true else (if a0.MC<0 then some true else ((jG a0.MC 4).bind fun f=>if f=true then some false else some true)))).bind fun g=>if g=true then some 11 else ((ju a0.Mw).bind fun a=>if a=0 then ((cC a0 a1 a0.Mw 0).bind fun e=>match e with | .ret r=>some r | .go h=>some 0) else some a))
theorem iU (a0:aB) (L:AT) (c2:Nat) (a1:Int) (r:Int) (h:cH a0 a1=some r):aC Tryz.prog 156 #[.agg #[.bool a0.MD.null,jS a0.MD.data,jI a0.MV,jI a0.MC,.slice L a0.Mw.length c2],jI a1] (RX.of (ar 2 aK) [.slice L a0.Mw.length c2] a0.Mw) (aJ) (fun v A' N=>v=jI r/\A'=aJ/\N = []):=by
 refine aW Tryz.func156 Z Tryz.ntmps156 Z ?_;intro F w hX;unfold cH at h;refine Kv Z (TL.box Z .u Z Z (fun l=>(KF ak Z (T.seq (T.block (T.seq ?_))))));obtain⟨aF,h,B⟩:=Nk h;refine Lu (fun e Rs=>e = [(1,jI a1),(2,jP l),(4,jI 0),(11,.bool aF)]/\Rs = [aV l 36 #[.bool a0.MD.null,jS a0.MD.data,jI a0.MV,jI a0.MC,.slice L a0.Mw.length c2],aJ]) ?_ ?_
 ·clear B;refine T.region Z (Ku ak 1 Z (Kw Z (KH (us:=wL0 a0.MD) 0 Z NW NA Z Z Z) Z ?_));obtain⟨aU,aq,h⟩:=Nk h;refine KN Z .u (.fn Tryz.call148 Z) (nO a0.MD _ aq) rT Z ?_;rcases jF h with⟨n,h⟩ | ⟨n,h⟩
  ·refine Ku ak 2 Z (KC 16 Z (bb n) ?_);rcases jF h with⟨o,h⟩ | ⟨o,h⟩
   ·refine KA ak bg 0 Z 5 Z Z (KC 21 Z (bb o) (KB ak 8 Z ?_));cases h;exact TL.nil (KJ [0,0])
   replace o:=Nt o;refine KA ak bg 0 Z 5 Z Z (KC 21 Z (bp o) ?_);obtain⟨aX,au,h⟩:=Nk h;refine KA ak bg 0 Z 3 Z Z (KN Z (.g Z Z Z) (.fn Tryz.call87 Z) (K6 (fun w=>mI a0.MD.data _ au w)) (fun _ _=>RX.reads_triv _ _) Z (KB ak 4 Z ?_));rcases jF h with⟨p,h⟩ | ⟨p,h⟩
   ·cases h;exact TL.nil (Lr (d:=11) (v':= .bool false) Z (congrArg Value.bool (bb p)) (KJ [0,0]))
   replace p:=Nt p;cases h;exact TL.nil (Lr (d:=11) (v':= .bool true) Z (congrArg Value.bool (bp p)) (KJ [0,0]))
  replace n:=Nt n;refine Ku ak 2 Z (KC 16 Z (bp n) (KB ak 13 Z ?_));cases h;exact TL.nil (KJ [0,0])
 rintro _ _ ⟨rfl,rfl⟩;clear h;have h:=B;clear B;try dsimp only at h
 rcases jF h with⟨q,h⟩ | ⟨q,h⟩
 ·refine X.seq (KM Z q (Kv Z (Ku ak 1 Z ?_)));obtain rfl:=Nl h;exact Kx (T.ret (KL (Kz (KI [1] Ql (Ky Z)))))
 replace q:=Nt q;refine X.seq (K8 Z q (T.seq ?_));obtain⟨aG,h,C⟩:=Nk h;refine Lu (fun e Rs=>e = [(1,jI a1),(2,jP l),(4,jI 0),(29,.bool aG)]/\Rs = [aV l 36 #[.bool a0.MD.null,jS a0.MD.data,jI a0.MV,jI a0.MC,.slice L a0.Mw.length c2],aJ]) ?_ ?_
 ·clear C;refine T.region Z ?_;rcases jF h with⟨M,h⟩ | ⟨M,h⟩
  ·refine KA ak bg 0 Z 4 Z Z (KC 33 Z (Nn M) (KB ak 16 Z ?_));cases h;exact TL.nil (KJ [0,0])
  refine KA ak bg 0 Z 4 Z Z (KC 33 Z (Np M) ?_);rcases jF h with⟨O,h⟩ | ⟨O,h⟩
  ·refine KA ak bg 0 Z 5 Z Z (KC 38 Z (Nn O) (KB ak 11 Z ?_));cases h;exact TL.nil (KJ [0,0])
  refine KA ak bg 0 Z 5 Z Z (KC 38 Z (Np O) ?_);rcases jF h with⟨P,h⟩ | ⟨P,h⟩
  ·refine KA ak bg 0 Z 5 Z Z (KC 43 Z (Nn P) (KB ak 6 Z ?_));cases h;exact TL.nil (KJ [0,0])
  refine KA ak bg 0 Z 5 Z Z (KC 43 Z (Np P) ?_);obtain⟨aY,av,h⟩:=Nk h;refine KA ak bg 0 Z 2 Z Z (KN Z (.g Z Z Z) (.fn Tryz.call101 Z) (K6 (fun w=>dH a0.MC 4 _ av w)) (fun _ _=>RX.reads_triv _ _) Z (KB ak 3 Z ?_));rcases jF h with⟨s,h⟩ | ⟨s,h⟩
  ·cases h;exact TL.nil (Lr (d:=29) (v':= .bool false) Z (congrArg Value.bool (bb s)) (KJ [0,0]))
  replace s:=Nt s;cases h;exact TL.nil (Lr (d:=29) (v':= .bool true) Z (congrArg Value.bool (bp s)) (KJ [0,0]))
 rintro _ _ ⟨rfl,rfl⟩;clear h;have h:=C;clear C;try dsimp only at h
 rcases jF h with⟨t,h⟩ | ⟨t,h⟩
 ·refine X.seq (KM Z t (Kv Z (Ku ak 1 Z ?_)));obtain rfl:=Nl h;exact Kx (T.ret (KL (Kz (KI [1] Ql (Ky Z)))))
 replace t:=Nt t;refine X.seq (K8 Z t (T.skip (KZ (X.seq (T.seq (Kv Z ?_))))));obtain⟨aZ,aw,h⟩:=Nk h;refine KA ak bg 0 Z 2 Z Z (KN Z .u (.fn Tryz.call194 Z) (rK a0.Mw _ _ _ aw) (fun _ hs=>(K7 hs hX)) Z (K3 ak Z Z (Ku ak 2 Z ?_)));rcases jF h with⟨Q,h⟩ | ⟨Q,h⟩
 ·refine K1 Z Q (KQ (T.seq (Kv Z (KA ak bg 0 Z 2 Z Z (Kw Z (K2 Z OH) Z (KF ak Z (T.block ?_)))))));obtain⟨aH,R,D⟩:=Nk h;have aD:=Ly hX;refine Lq (fun m e Rs=> ∃ (K:Int) (b:Nat),b+m=a0.Mw.length/\e = [(1,jI a1),(2,jP l),(4,jI K),(56,.slice L a0.Mw.length c2),(57,jI (a0.Mw.length:Int)),(58,jI (b:Int))]/\Rs = [aV l 36 #[.bool a0.MD.null,jS a0.MD.data,jI a0.MV,jI a0.MC,.slice L a0.Mw.length c2],aJ]/\cC a0 a1 (a0.Mw.drop b) K=some aH) (a0.Mw.length) [0,0] ⟨0,0,by simp,Z,Z,by rw[List.drop_zero]; exact R⟩ QW QW ?_;clear R h;rintro S _ _ ⟨K,b,aQ,rfl,rfl,h⟩
  cases S with
  | zero =>
   rw[List.drop_of_length_le QR,cC] at h;have U: ¬ ((b:Int)<(a0.Mw.length:Int)):=by omega
   refine Kv Z (KF ak Z (T.seq (K8 Z (Np U) ?_)));obtain rfl:=Nl h;replace h:=D;clear D;refine T.exit (KR (KR (Ll (X.seq (Kv Z (Ku ak 1 Z ?_))))));obtain rfl:=Nl h;exact Kx (T.ret (KI [1] Ql (Ky Z)))
  | succ S =>
   obtain⟨a,i⟩: ∃ x,a0.Mw[b]? = some x:=⟨_,List.getElem?_eq_getElem QR⟩;rw[bY i,cC] at h;have V:(b:Int)<(a0.Mw.length:Int):=by omega
   refine Kv Z (KF ak Z (T.seq (KM Z (Nn V) ?_)));obtain⟨E,G,rfl,aM,aN,ah,ai,H⟩:=Lg QS hX i;obtain⟨ax,H,aj⟩:=H;obtain⟨y,z,rfl,al⟩:=H;have W:(RX.of (ar 2 cG) [.slice y a.My.length z] a.My).reads w F:=⟨ax,al,aj⟩;refine KQ (T.seq (T.block (Kv Z ?_)));refine Kw Z (KX (k:=b) Z Z Z OH ON (Nq i).1) Z ?_;refine Kw Z (LE (us := [jS a.MI,.slice y a.My.length z]) 0 Z Qs ON ai ah Z Z Z) Z (TL.alloc Z .u Tryz.zeroValue176 Z (fun aI=>(KE 0 Z (cs':= #[jS a.MI,.slice y a.My.length z]) Z .u Z Z ON Z Z Z Z Z (KU Z (KA ak bg 0 Z 2 Z Z (Kw Z (K2 Z OG) Z (KF ak Z (T.block ?_))))))));obtain⟨aL,Y,I⟩:=Nk h;have aE:=Ly W;refine Lq (fun m e Rs=> ∃ (A:Int) (c:Nat),c+m=a.My.length/\e = [(1,jI a1),(2,jP l),(4,jI A),(56,.slice (some ⟨E,G,none⟩) a0.Mw.length c2),(57,jI (a0.Mw.length:Int)),(58,jI (b:Int)),(63,.slice y a.My.length z),(64,jI (a.My.length:Int)),(65,jI (c:Int))]/\Rs = [aV aI 176 #[jS a.MI,.slice y a.My.length z],aV l 36 #[.bool a0.MD.null,jS a0.MD.data,jI a0.MV,jI a0.MC,.slice (some ⟨E,G,none⟩) a0.Mw.length c2],aJ]/\cB a0 a1 (a.My.drop c) A=some aL) (a.My.length) [0,0,0] ⟨K,0,by simp,Z,Z,by rw[List.drop_zero]; exact Y⟩ QW QW ?_;clear Y h;rintro aa _ _ ⟨A,c,aR,rfl,rfl,h⟩
   cases aa with
   | zero =>
    rw[List.drop_of_length_le QR,cB] at h;have ab: ¬ ((c:Int)<(a.My.length:Int)):=by omega
    refine Kv Z (KF ak Z (T.seq (K8 Z (Np ab) ?_)));obtain rfl:=Nl h;replace h:=I;clear I;exact T.exit (KR (KR (Ll (KZ (X.seq (T.region Z (Kw Z (Ex.add Z Z QR) Z (Ku ak 1 Z (TL.nil (X.back (m':=S) [1,1] QR ⟨A,b+1,by omega,Z,Z,h⟩ QW QW))))))))))
   | succ aa =>
    obtain⟨f,j⟩: ∃ x,a.My[c]? = some x:=⟨_,List.getElem?_eq_getElem QR⟩;rw[bY j,cB] at h;have ad:(c:Int)<(a.My.length:Int):=by omega
    refine Kv Z (KF ak Z (T.seq (KM Z (Nn ad) ?_)));obtain⟨aS,aT,rfl,aO,aP,am,an,J⟩:=Lg QS W j;obtain⟨ay,J,ao⟩:=J;obtain⟨ae,af,rfl,ap⟩:=J;have az:(RX.of (ar 12 dp) [.slice ae f.MK.length af] f.MK).reads w F:=⟨ay,ap,ao⟩;refine KQ (T.seq (T.block (Kv Z ?_)));refine Kw Z (KX (k:=c) Z Z Z OG OC (Nq j).1) Z ?_;refine Kw Z (LE (us := [jI f.MR,.slice ae f.MK.length af]) 0 Z PS OC an am Z Z Z) Z (TL.alloc Z .u Tryz.zeroValue179 Z (fun a2=>(KE 0 Z (cs':= #[jI f.MR,.slice ae f.MK.length af]) Z .u Z Z OC Z Z Z Z Z (KU Z (Kw Z (KH (us := [.bool a0.MD.null,jS a0.MD.data,jI a0.MV,jI a0.MC,.slice (some ⟨E,G,none⟩) a0.Mw.length c2]) 2 Z O4 Ot Z Z Z) Z ?_)))));obtain⟨a3,aA,h⟩:=Nk h;refine KA ak bg 0 Z 3 Z Z (KN Z .u (.fn Tryz.call195 Z) (md a0 _ _ f.MK _ _ a1 _ aA) (fun _ hs=>(Lb (K7 hs hX) (K7 hs az))) Z (K3 ak Z Z (Ku ak 2 Z ?_)));rcases jF h with⟨ag,h⟩ | ⟨ag,h⟩
    ·exact K1 Z ag (T.skip (KZ (X.seq (T.region Z (Kw Z (Ex.add Z Z QR) Z (Ku ak 1 Z (TL.nil (X.back (m':=aa) [1,1,1] QR ⟨A,c+1,by omega,Z,Z,h⟩ QW QW))))))))
    refine K0 Z ag (Kv Z (Ku ak 2 Z ?_));obtain rfl:=Nl h;obtain rfl:=Nl I;obtain rfl:=Nl D;exact Kx (T.ret (KL (Kz (Kz (KL (KL (Kz (Kz (KL (Kz (KI [3] Ql (Ky Z))))))))))))
 refine K0 Z Q (Kv Z (Ku ak 2 Z ?_));obtain rfl:=Nl h;exact Kx (T.ret (Kz (KI [1] Ql (Ky Z))))
def bV:List bh->(AI×Int)->Option (AI×Int)
 | [],a=>some a
 | e::xs,a=>(mc e.MK).bind fun (i,f)=>(if f=0 then some a else ((lu a f).bind fun b=>some b)).bind fun g=>(ed g e.MR 4).bind fun c=>(gOf i).bind fun h=>(km c h 4).bind fun d=>bV xs d
def bW:List aN->(AI×Int)->Option (AI×Int)
 | [],a=>some a
 | b::xs,a=>((kF a b.MI).bind fun d=>(ed d (b.My.length:Int) 4).bind fun e=>(bV b.My e).bind fun c=>some c).bind fun f=>bW xs f
def eH (st:AI×Int) (a0:aB) (a2:Int):Option (AI×Int):=(cH a0 a2).bind fun e=>if e=0 then ((km st a0.MD 2).bind fun f=>(ed f a0.MV 2).bind fun g=>(ed g a0.MC 4).bind fun c=>(ed c (a0.Mw.length:Int) 4).bind fun d=>(bW a0.Mw d).bind fun a=>some a) else ((lu st e).bind fun b=>some b)
theorem mL (g:Nat) (st:AI×Int) (a0:aB) (s:AT) (c2:Nat) (a2:Int) (r:AI×Int) (h:eH st a0 a2=some r):aC Tryz.prog 100 #[.agg #[.bool a0.MD.null,jS a0.MD.data,jI a0.MV,jI a0.MC,.slice s a0.Mw.length c2],jP g,jI a2] (RX.of (ar 2 aK) [.slice s a0.Mw.length c2] a0.Mw) (bz g st) (fun v A' N=>v= .tuple #[]/\A'=bz g r/\N = []):=by
 refine aW Tryz.func100 Z Tryz.ntmps100 Z ?_;intro F w hX;unfold eH at h;refine Kv Z (TL.box Z .u Z Z (fun V=>(Kx (T.seq (Kv Z (Kw Z (KH (us := [.bool a0.MD.null,jS a0.MD.data,jI a0.MV,jI a0.MC,.slice s a0.Mw.length c2]) 0 Z O4 Ot Z Z Z) Z ?_))))));obtain⟨x4,aP,h⟩:=Nk h;refine Ku ak 1 Z (KN Z .u (.fn Tryz.call156 Z) (iU a0 _ _ a2 _ aP) (fun _ hs=>(K7 hs hX)) Z (K3 ak Z Z (Ku ak 2 Z ?_)));rcases jF h with⟨c6,h⟩ | ⟨c6,h⟩
 ·refine K1 Z c6 (KP Z (Ku ak 2 Z (Kw Z (KH (us:=wL0 a0.MD) 0 Z NW NA Z Z Z) Z ?_)));obtain⟨aQ,aR,h⟩:=Nk h;refine KK 1 Z Z .u (.fn Tryz.call95 Z) (kE g st a0.MD 2 _ aR) sT Z Z (KU Z ?_);obtain⟨aS,av,h⟩:=Nk h;refine KA ak bg 0 Z 3 Z Z (KK 1 Z Z .u (.fn Tryz.call51 Z) (bq g aQ a0.MV 2 _ av) sT Z Z (KU Z ?_));obtain⟨aw,ax,h⟩:=Nk h;refine KA ak bg 0 Z 3 Z Z (KK 1 Z Z .u (.fn Tryz.call51 Z) (bq g aS a0.MC 4 _ ax) sT Z Z (KU Z (KA ak bg 0 Z 3 Z Z (Kw Z (K2 Z OH) Z ?_))));obtain⟨ay,az,h⟩:=Nk h;refine KK 1 Z Z .u (.fn Tryz.call51 Z) (bq g aw (a0.Mw.length:Int) 4 _ az) sT Z Z (KU Z (KA ak bg 0 Z 2 Z Z (Kw Z (K2 Z OH) Z (KF ak Z (T.block ?_)))));obtain⟨aT,D,aA⟩:=Nk h;have aN:=Ly hX;refine Lq (fun m e Rs=> ∃ (b:Nat) (i:AI×Int),b+m=a0.Mw.length/\e = [(1,jP g),(39,.slice s a0.Mw.length c2),(40,jI (a0.Mw.length:Int)),(41,jI (b:Int))]/\Rs = [aV V 36 #[.bool a0.MD.null,jS a0.MD.data,jI a0.MV,jI a0.MC,.slice s a0.Mw.length c2],bz g i]/\bW (a0.Mw.drop b) i=some aT) (a0.Mw.length) [0,0] ⟨0,ay,by simp,Z,Z,by rw[List.drop_zero]; exact D⟩ QW QW ?_;clear D h;rintro E _ _ ⟨b,i,a6,rfl,rfl,h⟩
  cases E with
  | zero =>
   rw[List.drop_of_length_le QR,bW] at h;have G: ¬ ((b:Int)<(a0.Mw.length:Int)):=by omega
   refine Kv Z (KF ak Z (T.seq (K8 Z (Np G) ?_)));obtain rfl:=Nl h;obtain rfl:=Nl aA;exact T.exit (KR (KR (Ll (LK [1] Tryz.results100 ⟨Z,Z,Z⟩ QW (.inr Z)))))
  | succ E =>
   obtain⟨a,j⟩: ∃ x,a0.Mw[b]? = some x:=⟨_,List.getElem?_eq_getElem QR⟩;rw[bY j,bW] at h;have H:(b:Int)<(a0.Mw.length:Int):=by omega
   refine Kv Z (KF ak Z (T.seq (KM Z (Nn H) (KQ (T.seq ?_)))));obtain⟨I,h,t⟩:=Nk h;refine Lu (fun e Rs=>e = [(1,jP g),(39,.slice s a0.Mw.length c2),(40,jI (a0.Mw.length:Int)),(41,jI (b:Int))]/\Rs = [aV V 36 #[.bool a0.MD.null,jS a0.MD.data,jI a0.MV,jI a0.MC,.slice s a0.Mw.length c2],bz g I]) ?_ ?_
   ·clear t;obtain⟨l,n,rfl,aY,aZ,W,Y,y⟩:=Lg QS hX j;obtain⟨aD,y,aa⟩:=y;obtain⟨q,f,rfl,ab⟩:=y;have J:(RX.of (ar 2 cG) [.slice q a.My.length f] a.My).reads w F:=⟨aD,ab,aa⟩;refine T.block (Kv Z ?_);refine Kw Z (KX (k:=b) Z Z Z OH ON (Nq j).1) Z ?_;refine Kw Z (LE (us := [jS a.MI,.slice q a.My.length f]) 0 Z Qs ON Y W Z Z Z) Z (TL.alloc Z .u Tryz.zeroValue176 Z (fun ap=>(KE 0 Z (cs':= #[jS a.MI,.slice q a.My.length f]) Z .u Z Z ON Z Z Z Z Z (KU Z ?_))));obtain⟨aE,aF,h⟩:=Nk h;refine KA ak bg 0 Z 3 Z Z (KK 2 Z Z .u (.fn Tryz.call88 Z) (lP g i a.MI _ aF) sT Z Z (KU Z (KA ak bg 0 Z 3 Z Z (Kw Z (K2 Z OG) Z ?_))));obtain⟨aG,aH,h⟩:=Nk h;refine KK 2 Z Z .u (.fn Tryz.call51 Z) (bq g aE (a.My.length:Int) 4 _ aH) sT Z Z (KU Z (KA ak bg 0 Z 2 Z Z (Kw Z (K2 Z OG) Z (KF ak Z (T.block ?_)))));obtain⟨aU,K,L⟩:=Nk h;have aO:=Ly J;refine Lq (fun m e Rs=> ∃ (c:Nat) (o:AI×Int),c+m=a.My.length/\e = [(1,jP g),(39,.slice (some ⟨l,n,none⟩) a0.Mw.length c2),(40,jI (a0.Mw.length:Int)),(41,jI (b:Int)),(55,.slice q a.My.length f),(56,jI (a.My.length:Int)),(57,jI (c:Int))]/\Rs = [aV ap 176 #[jS a.MI,.slice q a.My.length f],aV V 36 #[.bool a0.MD.null,jS a0.MD.data,jI a0.MV,jI a0.MC,.slice (some ⟨l,n,none⟩) a0.Mw.length c2],bz g o]/\bV (a.My.drop c) o=some aU) (a.My.length) [0,0,0] ⟨0,aG,by simp,Z,Z,by rw[List.drop_zero]; exact K⟩ QW QW ?_;clear K h;rintro M _ _ ⟨c,o,a7,rfl,rfl,h⟩
    cases M with
    | zero =>
     rw[List.drop_of_length_le QR,bV] at h;have O: ¬ ((c:Int)<(a.My.length:Int)):=by omega
     refine Kv Z (KF ak Z (T.seq (K8 Z (Np O) ?_)));obtain rfl:=Nl h;replace h:=L;clear L;try dsimp only at h
     cases h;exact T.exit (KR (KR (Ll (KZ (KJ [1,1])))))
    | succ M =>
     obtain⟨d,p⟩: ∃ x,a.My[c]? = some x:=⟨_,List.getElem?_eq_getElem QR⟩;rw[bY p,bV] at h;have P:(c:Int)<(a.My.length:Int):=by omega
     refine Kv Z (KF ak Z (T.seq (KM Z (Nn P) ?_)));obtain⟨Q,R,rfl,a1,a3,ad,ae,z⟩:=Lg QS J p;obtain⟨aI,z,af⟩:=z;obtain⟨B,C,rfl,ag⟩:=z;have aJ:(RX.of (ar 12 dp) [.slice B d.MK.length C] d.MK).reads w F:=⟨aI,ag,af⟩;refine KQ (T.seq (T.block (Kv Z ?_)));refine Kw Z (KX (k:=c) Z Z Z OG OC (Nq p).1) Z ?_;refine Kw Z (LE (us := [jI d.MR,.slice B d.MK.length C]) 0 Z PS OC ae ad Z Z Z) Z (TL.alloc Z .u Tryz.zeroValue179 Z (fun aq=>(KE 0 Z (cs':= #[jI d.MR,.slice B d.MK.length C]) Z .u Z Z OC Z Z Z Z Z (KU Z ?_))));obtain⟨⟨au,aX⟩,aL,h⟩:=Nk h;refine KA ak bg 0 Z 2 Z Z (KN Z .u (.fn Tryz.call157 Z) (uP d.MK _ _ _ aL) (fun _ hs=>(K7 hs aJ)) Z (KF ak Z (T.seq (Kv Z (KF ak Z ?_)))));obtain⟨S,h,A⟩:=Nk h;refine Lu (fun e Rs=>e = [(1,jP g),(10,jP aq),(11,jS au),(39,.slice (some ⟨l,n,none⟩) a0.Mw.length c2),(40,jI (a0.Mw.length:Int)),(41,jI (b:Int)),(55,.slice (some ⟨Q,R,none⟩) a.My.length f),(56,jI (a.My.length:Int)),(57,jI (c:Int))]/\Rs = [aV aq 179 #[jI d.MR,.slice B d.MK.length C],aV ap 176 #[jS a.MI,.slice (some ⟨Q,R,none⟩) a.My.length f],aV V 36 #[.bool a0.MD.null,jS a0.MD.data,jI a0.MV,jI a0.MC,.slice (some ⟨l,n,none⟩) a0.Mw.length c2],bz g S]) ?_ ?_
     ·clear A;rcases jF h with⟨U,h⟩ | ⟨U,h⟩
      ·refine T.nn Z U ?_;cases h;exact T.skip (KJ [0,0,0,0])
      refine T.yn Z U (T.region Z ?_);obtain⟨a4,ah,h⟩:=Nk h;refine Ku ak 2 Z (KK 3 Z Z .u (.fn Tryz.call94 Z) (hO g o aX _ ah) sT Z Z ?_);cases h;exact TL.nil (KJ [0,0,0,0])
     rintro _ _ ⟨rfl,rfl⟩;clear h;have h:=A;clear A;refine X.seq (Kv Z ?_);obtain⟨ai,aj,h⟩:=Nk h;refine KA ak bg 0 Z 3 Z Z (KK 3 Z Z .u (.fn Tryz.call51 Z) (bq g S d.MR 4 _ aj) sT Z Z (Kx (T.region Z ?_)));obtain⟨aM,al,h⟩:=Nk h;refine Ku ak 2 Z (KN Z .u (.fn Tryz.call143 Z) (GW au _ al) rT Z ?_);obtain⟨am,an,h⟩:=Nk h;exact KK 3 Z Z .u (.fn Tryz.call95 Z) (kE g ai aM 4 _ an) sT Z Z (TL.nil (KZ (X.seq (T.region Z (Kw Z (Ex.add Z Z QR) Z (Ku ak 1 Z (TL.nil (X.back (m':=M) [1,1,1] QR ⟨c+1,am,by omega,Z,Z,h⟩ QW QW))))))))
   rintro _ _ ⟨rfl,rfl⟩;clear h;have h:=t;clear t;exact X.seq (T.region Z (Kw Z (Ex.add Z Z QR) Z (Ku ak 1 Z (TL.nil (X.back (m':=E) [0,0] QR ⟨b+1,I,by omega,Z,Z,h⟩ QW QW)))))
 refine K0 Z c6 (Kv Z ?_);obtain⟨a5,ao,h⟩:=Nk h;refine Ku ak 2 Z (KK 1 Z Z .u (.fn Tryz.call94 Z) (hO g st x4 _ ao) sT Z Z ?_);obtain rfl:=Nl h;exact Kx (T.ret (Kz (LK [1] Tryz.results100 ⟨Z,Z,Z⟩ QW (.inl Z))))
def cI:Nat->List Bat->I->I->Option (List Bat×I×I)
 | 0,_,_,_=>none
 | m+1,c,d,h=>((iC h).bind fun (n,a)=>if n=0 then ((wN d).bind fun (o,e)=>if o>0 then some (true,e,a) else some (false,e,a)) else some (false,d,a)).bind fun (p,f,b)=>if p=true then ((jE f).bind fun (q,i)=>if (c.length+1)*96<=140737488355328 then ((iC i).bind fun (g,j)=>(if g=0 then some b else ((cm b g).bind fun k=>some k)).bind fun l=>cI m (c ++ [q]) j l) else none) else some (c,f,b)
def gX (st:I)  : Option (bh×I):=(eu st 4).bind fun (i,f)=>(lw f 4).bind fun (g,c)=>(if g.null=true then ((cm c 4).bind fun d=>some d) else some c).bind fun a=>(vK g.data).bind fun b=>(cI (((b.rest.length:Int)+(a.rest.length:Int)+1).toNat+1) [] b a).bind fun (h,j,e)=>some ((⟨i,h⟩:bh),e)
theorem mE (g:Nat) (st:I)  (r:bh×I) (h:gX st  = some r):aC Tryz.prog 173 #[jP g] .triv (InR g st) (fun v A' N=> ∃ (af:AT) (ag:Nat),v= .agg #[jI r.1.MR,.slice af r.1.MK.length ag]/\A'=InR g r.2/\N = [RdR (ar 12 dp) [.slice af r.1.MK.length ag] r.1.MK]):=by
 refine aW Tryz.func173 Z Tryz.ntmps173 Z ?_;intro F w hX;unfold gX at h;refine Kv Z (TL.alloc Z .u Tryz.zeroValue179 Z (fun t=>(KU Z ?_)));obtain⟨⟨n,ap⟩,aq,h⟩:=Nk h;refine Ku ak 1 Z (KK 1 Z Z .u (.fn Tryz.call68 Z) (bx g st 4 _ aq) sT Z Z ?_);refine Kw Z (KT (cells:= #[jI n,.slice none 0 0]) wj Z QU) Z ?_;refine TL.alloc Z .u Tryz.zeroValue179 Z (fun x=>(KE 0 Z (cs':= #[jI n,.slice none 0 0]) Z .u Z Z OC Z Z Z Z Z (KU Z ?_)));obtain⟨⟨D,au⟩,av,h⟩:=Nk h;refine Ku ak 1 Z (KK 2 Z Z .u (.fn Tryz.call142 Z) (kn g ap 4 _ av) sT Z Z (TL.alloc Z .u Tryz.zeroValue23 Z (fun P=>(KE 0 Z (cs':=wA3 D) Z .u Z Z NA Z Z Z Z Z (Kx (T.seq (Kv Z (LQ ak bg 0 Z Z Z ?_))))))));obtain⟨H,h,J⟩:=Nk h;refine Lu (fun e Rs=>e = [(0,jP g),(2,jP t),(3,jP x),(4,jP P)]/\Rs = [aV P 23 (wA3 D),aV x 179 #[jI n,.slice none 0 0],aV t 179 #[jI 0,.slice none 0 0],InR g H]) ?_ ?_
 ·clear J;rcases jF h with⟨B,h⟩ | ⟨B,h⟩
  ·refine KM Z B (T.region Z ?_);obtain⟨az,ah,h⟩:=Nk h;refine Ku ak 1 Z (KK 3 Z Z .u (.fn Tryz.call70 Z) (bG g au 4 _ ah) sT Z Z ?_);cases h;exact TL.nil (KJ [0,0,0,0])
  replace B:=Nt B;refine K8 Z B ?_;cases h;exact T.skip (KJ [0,0,0,0])
 rintro _ _ ⟨rfl,rfl⟩;clear h;have h:=J;clear J;refine X.seq (Kv Z ?_);obtain⟨Q,ai,h⟩:=Nk h;refine KA ak bg 0 Z 2 Z Z (Ln Z .u (.fn Tryz.call19 Z) (kj D.data _ ai) rT Z ?_);rintro _ _ _ ⟨k,rfl,rfl,rfl⟩;refine K5 [0,0,0,0,0] Z (KF ak Z (T.seq (T.block (LF 97 12 dp ?_))));obtain⟨aw,R,S⟩:=Nk h;refine Lq (fun m e Rs=> ∃ (a:List Bat) (o:AT) (p:Nat) (z:I) (A:I),e = [(0,jP g),(2,jP t),(3,jP x),(5,jP k)]/\Rs = [bK 97 12 dp (.slice o a.length p) a,InR k z,aV P 23 (wA3 D),aV x 179 #[jI n,.slice o a.length p],aV t 179 #[jI 0,.slice none 0 0],InR g A]/\cI m a z A=some aw) (((Q.rest.length:Int)+(H.rest.length:Int)+1).toNat+1) [0,0,0,0,0,0] ⟨[],none,0,Q,H,Z,Z,by exact R⟩ QW QW ?_;clear R h;rintro U _ _ ⟨a,o,p,z,A,rfl,rfl,h⟩
 cases U with
 | zero =>
  rw[cI] at h;cases h
 | succ U =>
  rw[cI] at h;refine LS ?_;obtain⟨⟨ax,K,L⟩,h,M⟩:=Nk h;refine Lu (fun e Rs=>e = [(0,jP g),(2,jP t),(3,jP x),(5,jP k),(26,.bool ax)]/\Rs = [bK 97 12 dp (.slice o a.length p) a,InR k K,aV P 23 (wA3 D),aV x 179 #[jI n,.slice o a.length p],aV t 179 #[jI 0,.slice none 0 0],InR g L]) ?_ ?_
  ·clear M;refine T.region Z ?_;obtain⟨⟨aE,aA⟩,aj,h⟩:=Nk h;refine Ku ak 1 Z (KK 5 Z Z .u (.fn Tryz.call23 Z) (cu g A _ aj) sT Z Z ?_);rcases jF h with⟨V,h⟩ | ⟨V,h⟩
   ·refine Ku ak 2 Z (KC 22 Z (Nn V) ?_);obtain⟨⟨aF,aB⟩,am,h⟩:=Nk h;refine KB ak 1 Z (KK 1 Z Z (.g Z Z Z) (.fn Tryz.call71 Z) (pq k z _ am) sT Z Z (KB ak 2 Z ?_));rcases jF h with⟨W,h⟩ | ⟨W,h⟩
    ·cases h;exact TL.nil (Lr (d:=26) (v':= .bool true) Z (congrArg Value.bool (Nn W)) (KJ [0,0,0,0,0,0]))
    cases h;exact TL.nil (Lr (d:=26) (v':= .bool false) Z (congrArg Value.bool (Np W)) (KJ [0,0,0,0,0,0]))
   refine Ku ak 2 Z (KC 22 Z (Np V) (KB ak 4 Z ?_));cases h;exact TL.nil (KJ [0,0,0,0,0,0])
  rintro _ _ ⟨rfl,rfl⟩;clear h;have h:=M;clear M;try dsimp only at h
  rcases jF h with⟨C,h⟩ | ⟨C,h⟩
  ·refine X.seq (KM Z C ?_);obtain⟨⟨b,Y⟩,aa,h⟩:=Nk h;try dsimp only at h
   obtain⟨y,h⟩:=al h;refine KQ (T.block (T.seq ?_));refine L7 (fun e Rs=> ∃ (i:AT) (j:Nat) (s:Nat) (c:AT) (f:Nat),e = [(0,jP g),(2,jP t),(3,jP x),(5,jP k)]/\Rs = [bK 97 12 dp (.slice c (a ++ [b]).length f) (a ++ [b]),InR k Y,aV P 23 (wA3 D),aV x 179 #[jI n,.slice c (a ++ [b]).length f],aV t 179 #[jI 0,.slice none 0 0],InR g L]) ?_ ?_
   ·refine Lc (.q 0 (.q 2 (.br 1 (.e 3 (.e 4 (.e 5 (.q 6 (.e 7 .nil))))) (.e 3 (.br 1 (.e 4 (.e 5 (.q 6 (.e 7 .nil)))) (.e 4 (.e 1 (.e 5 (.q 6 (.e 7 .nil)))))))))) [2,3,3] Z nW pX QU ?_;refine TD.run ak [0,2] Z Z ?_;refine TD.br ?_ ?_
    ·refine L3 Z .u (K4 3 Z PE Z Z) Z [2,3,3] Z ?_;refine TD.cg1 Z .u (.fn Tryz.call80 Z) (nV k K _ aa) sT Z [3,4,4] ?_ ?_
     ·rintro _ _ _ ⟨i,j,rfl,rfl,rfl⟩;rfl
     rintro _ _ _ ⟨i,j,rfl,rfl,rfl⟩;refine LA [0,0,0,0,0,0,0] Z ?_;refine LR (cells:=wA6 b i j) Z .u kX Z QU Z [4,5,5] (fun _=>Z) (fun s=> ?_);refine Mn 1 0 Z .u (us:=wL7 b i j) (u:=b) (l:=a) (E:=dp) Tryz.underlying177 nr Z QS Z Z Z Z Z Z Z (fun w G hG=>⟨_,_,Z,hG.1⟩) (by have hq:=y; omega) (by have hq:=y; omega) Z [2,3,3] (fun _ _=>Z) (fun c f=> ?_);exact LA [0,0,0,0,0,0] Z (TD.run ak [6] Z Z (Lv 3 Z (cs':= #[jI n,.slice c (a ++ [b]).length f]) Z .u Z Z PQ Z Z Z Z Z [2,3,3] (Z) (TD.nil (LO [0,0,0,0,0,0] ⟨i,j,s,c,f,Z,Z⟩ QW QW))))
    refine TD.cg1 Z .u (.fn Tryz.call80 Z) (nV k K _ aa) sT Z [3,4,4] ?_ ?_
    ·rintro _ _ _ ⟨i,j,rfl,rfl,rfl⟩;rfl
    rintro _ _ _ ⟨i,j,rfl,rfl,rfl⟩;refine LA [0,0,0,0,0,0,0] Z ?_;refine TD.br ?_ ?_
    ·refine L3 Z .u (K4 4 Z PE Z Z) Z [3,4,4] Z ?_;refine LR (cells:=wA6 b i j) Z .u kX Z QU Z [4,5,5] (fun _=>Z) (fun s=> ?_);refine Mn 1 0 Z .u (us:=wL7 b i j) (u:=b) (l:=a) (E:=dp) Tryz.underlying177 nr Z QS Z Z Z Z Z Z Z (fun w G hG=>⟨_,_,Z,hG.1⟩) (by have hq:=y; omega) (by have hq:=y; omega) Z [2,3,3] (fun _ _=>Z) (fun c f=> ?_);exact LA [0,0,0,0,0,0] Z (TD.run ak [6] Z Z (Lv 3 Z (cs':= #[jI n,.slice c (a ++ [b]).length f]) Z .u Z Z PQ Z Z Z Z Z [2,3,3] (Z) (TD.nil (LO [0,0,0,0,0,0] ⟨i,j,s,c,f,Z,Z⟩ QW QW))))
    refine LR (cells:=wA6 b i j) Z .u kX Z QU Z [4,5,5] (fun _=>Z) (fun s=> ?_);refine L3 Z .u (K4 5 Z PE Z Z) Z [4,5,5] Z ?_;refine Mn 1 0 Z .u (us:=wL7 b i j) (u:=b) (l:=a) (E:=dp) Tryz.underlying177 nr Z QS Z Z Z Z Z Z Z (fun w G hG=>⟨_,_,Z,hG.1⟩) (by have hq:=y; omega) (by have hq:=y; omega) Z [2,3,3] (fun _ _=>Z) (fun c f=> ?_);exact LA [0,0,0,0,0,0] Z (TD.run ak [6] Z Z (Lv 3 Z (cs':= #[jI n,.slice c (a ++ [b]).length f]) Z .u Z Z PQ Z Z Z Z Z [2,3,3] (Z) (TD.nil (LO [0,0,0,0,0,0] ⟨i,j,s,c,f,Z,Z⟩ QW QW))))
   rintro _ _ ⟨i,j,s,c,f,rfl,rfl⟩;refine X.seq (Kv Z ?_);obtain⟨⟨ay,ab⟩,an,h⟩:=Nk h;refine Ku ak 1 Z (KK 1 Z Z .u (.fn Tryz.call23 Z) (cu k Y _ an) sT Z Z (K3 ak Z Z (KF ak Z ?_)));obtain⟨ad,h,O⟩:=Nk h;refine Lu (fun e Rs=>e = [(0,jP g),(2,jP t),(3,jP x),(5,jP k)]/\Rs = [bK 97 12 dp (.slice c (a ++ [b]).length f) (a ++ [b]),InR k ab,aV P 23 (wA3 D),aV x 179 #[jI n,.slice c (a ++ [b]).length f],aV t 179 #[jI 0,.slice none 0 0],InR g ad]) ?_ ?_
   ·clear O;rcases jF h with⟨ae,h⟩ | ⟨ae,h⟩
    ·refine T.nn Z ae ?_;cases h;exact T.skip (KJ [0,0,0,0,0,0])
    refine T.yn Z ae (T.region Z ?_);obtain⟨aD,ao,h⟩:=Nk h;refine Ku ak 2 Z (KK 5 Z Z .u (.fn Tryz.call70 Z) (bG g L ay _ ao) sT Z Z ?_);cases h;exact TL.nil (KJ [0,0,0,0,0,0])
   rintro _ _ ⟨rfl,rfl⟩;clear h;have h:=O;clear O;try dsimp only at h
   exact KZ (X.back (m':=U) [0,0,0,0,0,0] QR ⟨(a ++ [b]),c,f,ab,ad,Z,Z,h⟩ QW QW)
  replace C:=Nt C;refine X.seq (K8 Z C ?_);obtain rfl:=Nl h;replace h:=S;clear S;refine T.exit (KR (KR (Ll (X.seq (Kv Z (Kw Z (KH (us := [jI n,.slice o a.length p]) 3 Z PS OC Z Z Z) Z (KE 4 Z (cs':= #[jI n,.slice o a.length p]) Z .u Z Z OC Z Z Z Z Z ?_)))))));obtain rfl:=Nl h;exact Kx (T.ret (LM QS 0 Z (Lj [0,0,0,0,0,0] Z (KO [5,0] Tryz.results173 (KV (us:= #[jI n,.slice o a.length p]) 4 Z PS OC Z Z) ⟨_,_,Z,Z,Z⟩ QW (.inl Z)))))
def ck (e:Int):Nat->Nat->List bh->I->Option (Lp (aB×I) (Nat×List bh×I))
 | 0,_,_,_=>none
 | g+1,a,b,c=>if (a:Int)<e then ((gX c).bind fun (h,f)=>if (b.length+1)*32<=140737488355328 then ((iC f).bind fun (i,d)=>if i=0 then (if A0 ((a:Int)+1) then (ck e g (a+1) (b ++ [h]) d) else none) else (some (Lp.ret ((⟨(⟨false,[]⟩:Bl),0,0,[]⟩:aB),d)))) else none) else (some (Lp.go (a,b,c)))
def dr (f:Int):Nat->Nat->List aN->I->Option (Lp (aB×I) (Nat×List aN×I))
 | 0,_,_,_=>none
 | k+1,a,b,c=>if (a:Int)<f then ((sZ c).bind fun (l,h)=>(jK h 4 8).bind fun (g,i)=>(ck g ((g).toNat+1) 0 [] i).bind fun e=>match e with | .ret r=>some (Lp.ret r) | .go (o,m,j)=>((iC j).bind fun (n,d)=>if n=0 then (if (b.length+1)*40<=140737488355328 then (if A0 ((a:Int)+1) then (dr f k (a+1) (b ++ [(⟨l,m⟩:aN)]) d) else none) else none) else (some (Lp.ret ((⟨(⟨false,[]⟩:Bl),0,0,[]⟩:aB),d))))) else (some (Lp.go (a,b,c)))
theorem rL (a:Int) (b:Nat) (c:List aN) (d:I):dr a 0 b c d=none:=rfl
theorem gO (d:Int) (g:Nat) (a:Nat) (c:List aN) (b:I):dr d (g+1) a c b=(if (a:Int)<d then ((sZ b).bind fun (l,i)=>(jK i 4 8).bind fun (h,j)=>(ck h ((h).toNat+1) 0 [] j).bind fun e=>match e with | .ret r=>some (Lp.ret r) | .go (o,m,k)=>((iC k).bind fun (n,f)=>if n=0 then (if (c.length+1)*40<=140737488355328 then (if A0 ((a:Int)+1) then (dr d g (a+1) (c ++ [(⟨l,m⟩:aN)]) f) else none) else none) else (some (Lp.ret ((⟨(⟨false,[]⟩:Bl),0,0,[]⟩:aB),f))))) else (some (Lp.go (a,c,b)))):=rfl
def eI (st:I) (a1:Int):Option (aB×I):=(lw st 2).bind fun (n,o)=>(eu o 2).bind fun (p,q)=>(eu q 4).bind fun (s,t)=>(jK t 4 6).bind fun (j,k)=>(dr j ((j).toNat+1) 0 [] k).bind fun e=>match e with | .ret r=>some r | .go (u,c,f)=>((iC f).bind fun (l,a)=>(if l=0 then ((cH (⟨n,p,s,c⟩:aB) a1).bind fun d=>(if d=0 then some a else ((cm a d).bind fun g=>some g)).bind fun h=>some h) else some a).bind fun i=>(iC i).bind fun (m,b)=>if m=0 then (some ((⟨n,p,s,c⟩:aB),b)) else (some ((⟨(⟨false,[]⟩:Bl),0,0,[]⟩:aB),b)))
theorem rM (g:Nat) (st:I) (a1:Int) (r:aB×I) (h:eI st a1=some r):aC Tryz.prog 120 #[jP g,jI a1] .triv (InR g st) (fun v A' N=> ∃ (Y:AT) (aa:Nat),v= .agg #[.bool r.1.MD.null,jS r.1.MD.data,jI r.1.MV,jI r.1.MC,.slice Y r.1.Mw.length aa]/\A'=InR g r.2/\N = [RdR (ar 2 aK) [.slice Y r.1.Mw.length aa] r.1.Mw]):=by
 refine aW Tryz.func120 Z Tryz.ntmps120 Z ?_;intro F w hX;unfold eI at h;refine Kv Z (TL.alloc Z .u Tryz.zeroValue36 Z (fun B=>(KU Z ?_)));obtain⟨⟨p,aR⟩,aS,h⟩:=Nk h;refine Ku ak 1 Z (KK 1 Z Z .u (.fn Tryz.call142 Z) (kn g st 2 _ aS) sT Z Z ?_);obtain⟨⟨t,aT⟩,aU,h⟩:=Nk h;refine Ku ak 1 Z (KK 1 Z Z .u (.fn Tryz.call68 Z) (bx g aR 2 _ aU) sT Z Z ?_);obtain⟨⟨x,aX⟩,az,h⟩:=Nk h;refine Ku ak 1 Z (KK 1 Z Z .u (.fn Tryz.call68 Z) (bx g aT 4 _ az) sT Z Z ?_);refine Kw Z (KT (cells:= #[.bool p.null,jS p.data,jI t,jI x,.slice none 0 0]) kV Z QU) Z ?_;refine TL.alloc Z .u Tryz.zeroValue36 Z (fun s=>(KE 0 Z (cs':= #[.bool p.null,jS p.data,jI t,jI x,.slice none 0 0]) Z .u Z Z Ot Z Z Z Z Z (Kx (T.seq (Kv Z ?_)))));obtain⟨⟨O,aA⟩,aD,h⟩:=Nk h;refine Ku ak 1 Z (KK 2 Z Z .u (.fn Tryz.call144 Z) (lV g aX 4 6 _ aD) sT Z Z (KF ak Z (T.block (LF 176 2 aK ?_))));obtain⟨aY,ab,K⟩:=Nk h;refine Lq (fun m e Rs=> ∃ (C:Nat) (a:List aN) (d:AT) (f:Nat) (z:I),e = [(0,jP g),(1,jI a1),(4,jP B),(5,jP s),(16,jI O),(17,jI (C:Int))]/\Rs = [bK 176 2 aK (.slice d a.length f) a,aV s 36 (Dh t x d f (a).length p),aV B 36 vA0,InR g z]/\dr O m C a z=some aY) ((O).toNat+1) [0,0,0,0] ⟨0,[],none,0,aA,Z,Z,by exact ab⟩ QW QW ?_;clear ab h;rintro ad _ _ ⟨C,a,d,f,z,rfl,rfl,h⟩
 cases ad with
 | zero =>
  rw[rL] at h;cases h
 | succ ad =>
  rw[gO] at h;refine Kv Z (Ku ak 1 Z ?_);rcases jF h with⟨ae,h⟩ | ⟨ae,h⟩
  ·refine Kx (T.seq (LT Z ae (KQ (T.seq (T.block (Kv Z ?_))))));obtain⟨⟨k,aE⟩,aF,h⟩:=Nk h;refine Ku ak 1 Z (KK 3 Z Z .u (.fn Tryz.call86 Z) (pv g z _ aF) sT Z Z ?_);refine Kw Z (KT (cells:= #[jS k,.slice none 0 0]) wi Z QU) Z ?_;refine TL.alloc Z .u Tryz.zeroValue176 Z (fun V=>(KE 0 Z (cs':= #[jS k,.slice none 0 0]) Z .u Z Z ON Z Z Z Z Z (Kx (T.seq (Kv Z ?_)))));obtain⟨⟨W,aG⟩,aH,h⟩:=Nk h;refine Ku ak 1 Z (KK 4 Z Z .u (.fn Tryz.call144 Z) (lV g aE 4 8 _ aH) sT Z Z (KF ak Z (T.block (LF 179 2 cG ?_))));obtain⟨aZ,af,Q⟩:=Nk h;refine Lq (fun m e Rs=> ∃ (P:Nat) (c:List bh) (D:AT) (H:Nat) (y:I),e = [(0,jP g),(1,jI a1),(4,jP B),(5,jP s),(6,jP V),(16,jI O),(17,jI (C:Int)),(23,jI W),(24,jI (P:Int))]/\Rs = [bK 179 2 cG (.slice D c.length H) c,aV V 176 #[jS k,.slice D c.length H],bK 176 2 aK (.slice d a.length f) a,aV s 36 (Dh t x d f (a).length p),aV B 36 vA0,InR g y]/\ck W m P c y=some aZ) ((W).toNat+1) [0,0,0,0,0,0] ⟨0,[],none,0,aG,Z,Z,by exact af⟩ QW QW ?_;clear af h;rintro ag _ _ ⟨P,c,D,H,y,rfl,rfl,h⟩
   cases ag with
   | zero =>
    rw[ck] at h;cases h
   | succ ag =>
    rw[ck] at h;refine Kv Z (Ku ak 1 Z ?_);rcases jF h with⟨ah,h⟩ | ⟨ah,h⟩
    ·refine Kx (T.seq (LT Z ah ?_));obtain⟨⟨b,ai⟩,aj,h⟩:=Nk h;try dsimp only at h
     obtain⟨J,h⟩:=al h;refine KQ (T.seq (T.block (T.seq ?_)));refine L7 (fun e Rs=> ∃ (i:AT) (j:Nat) (A:Nat) (n:AT) (o:Nat),e = [(0,jP g),(1,jI a1),(4,jP B),(5,jP s),(6,jP V),(16,jI O),(17,jI (C:Int)),(23,jI W),(24,jI (P:Int))]/\Rs = [bK 179 2 cG (.slice n (c ++ [b]).length o) (c ++ [b]),aV V 176 #[jS k,.slice n (c ++ [b]).length o],bK 176 2 aK (.slice d a.length f) a,aV s 36 (Dh t x d f (a).length p),aV B 36 vA0,InR g ai]) ?_ ?_
     ·refine Lc (.q 0 (.q 2 (.br 1 (.e 3 (.e 4 (.e 5 (.q 6 (.e 7 .nil))))) (.e 3 (.br 1 (.e 4 (.e 5 (.q 6 (.e 7 .nil)))) (.e 4 (.e 1 (.e 5 (.q 6 (.e 7 .nil)))))))))) [2,2,2] Z nW pX QU ?_;refine TD.run ak [0,2] Z Z ?_;refine TD.br ?_ ?_
      ·refine L3 Z .u (K4 1 Z P7 Z Z) Z [2,2,2] Z ?_;refine TD.cg5 Z .u (.fn Tryz.call173 Z) (mE g y _ aj) sT Z [3,3,3] ?_ ?_
       ·rintro _ _ _ ⟨i,j,rfl,rfl,rfl⟩;rfl
       rintro _ _ _ ⟨i,j,rfl,rfl,rfl⟩;refine LA [0,0,0,0,0,0,0] Z (LR (cells:= #[jI b.MR,.slice i b.MK.length j]) Z .u kW Z QW Z [4,4,4] (fun _=>Z) (fun A=> ?_));refine Mn 1 0 Z .u (us := [jI b.MR,.slice i b.MK.length j]) (u:=b) (l:=c) (E:=cG) Tryz.underlying174 mt Z QS Z Z Z Z Z Z Z (fun w G hG=>⟨_,_,Z,hG.1⟩) (by have hq:=J; omega) (by have hq:=J; omega) Z [2,2,2] (fun _ _=>Z) (fun n o=> ?_);exact LA [0,0,0,0,0,0] Z (TD.run ak [6] Z Z (Lv 1 Z (cs':= #[jS k,.slice n (c ++ [b]).length o]) Z .u Z Z Qo Z Z Z Z Z [2,2,2] (Z) (TD.nil (LO [0,0,0,0,0,0] ⟨i,j,A,n,o,Z,Z⟩ QW QW))))
      refine TD.cg5 Z .u (.fn Tryz.call173 Z) (mE g y _ aj) sT Z [3,3,3] ?_ ?_
      ·rintro _ _ _ ⟨i,j,rfl,rfl,rfl⟩;rfl
      rintro _ _ _ ⟨i,j,rfl,rfl,rfl⟩;refine LA [0,0,0,0,0,0,0] Z ?_;refine TD.br ?_ ?_
      ·refine L3 Z .u (K4 2 Z P7 Z Z) Z [3,3,3] Z (LR (cells:= #[jI b.MR,.slice i b.MK.length j]) Z .u kW Z QW Z [4,4,4] (fun _=>Z) (fun A=> ?_));refine Mn 1 0 Z .u (us := [jI b.MR,.slice i b.MK.length j]) (u:=b) (l:=c) (E:=cG) Tryz.underlying174 mt Z QS Z Z Z Z Z Z Z (fun w G hG=>⟨_,_,Z,hG.1⟩) (by have hq:=J; omega) (by have hq:=J; omega) Z [2,2,2] (fun _ _=>Z) (fun n o=> ?_);exact LA [0,0,0,0,0,0] Z (TD.run ak [6] Z Z (Lv 1 Z (cs':= #[jS k,.slice n (c ++ [b]).length o]) Z .u Z Z Qo Z Z Z Z Z [2,2,2] (Z) (TD.nil (LO [0,0,0,0,0,0] ⟨i,j,A,n,o,Z,Z⟩ QW QW))))
      refine LR (cells:= #[jI b.MR,.slice i b.MK.length j]) Z .u kW Z QW Z [4,4,4] (fun _=>Z) (fun A=>(L3 Z .u (K4 3 Z P7 Z Z) Z [4,4,4] Z ?_));refine Mn 1 0 Z .u (us := [jI b.MR,.slice i b.MK.length j]) (u:=b) (l:=c) (E:=cG) Tryz.underlying174 mt Z QS Z Z Z Z Z Z Z (fun w G hG=>⟨_,_,Z,hG.1⟩) (by have hq:=J; omega) (by have hq:=J; omega) Z [2,2,2] (fun _ _=>Z) (fun n o=> ?_);exact LA [0,0,0,0,0,0] Z (TD.run ak [6] Z Z (Lv 1 Z (cs':= #[jS k,.slice n (c ++ [b]).length o]) Z .u Z Z Qo Z Z Z Z Z [2,2,2] (Z) (TD.nil (LO [0,0,0,0,0,0] ⟨i,j,A,n,o,Z,Z⟩ QW QW))))
     rintro _ _ ⟨i,j,A,n,o,rfl,rfl⟩;refine X.seq (Kv Z ?_);obtain⟨⟨a6,aI⟩,aJ,h⟩:=Nk h;refine Ku ak 1 Z (KK 5 Z Z .u (.fn Tryz.call23 Z) (cu g ai _ aJ) sT Z Z (Ku ak 1 Z ?_));rcases jF h with⟨am,h⟩ | ⟨am,h⟩
     ·refine K1 Z am ?_;obtain⟨a0,h⟩:=al h;exact T.skip (KZ (X.seq (T.region Z (Kw Z (Ex.add Z Z a0) Z (Ku ak 1 Z (TL.nil (X.back (m':=ag) [0,0,0,0,0,0] QR ⟨P+1,(c ++ [b]),n,o,aI,Z,Z,h⟩ QW QW)))))))
     refine K0 Z am (Kv Z ?_);refine Kw Z (KT (cells:=vA0) kV Z QU) Z ?_;refine KE 4 Z (cs':=vA0) Z .u Z Z Ot Z Z Z Z Z ?_;obtain rfl:=Nl h;obtain rfl:=Nl Q;obtain rfl:=Nl K;exact Kx (T.ret (KL (Kz (Kz (KL (Kz (KL (Kz (Kz (KL (Kz (KG 2 aK (KO [6,0] QL (KV (us:=vA0) 5 Z O4 Ot Z Z) ⟨_,_,Z,Z,Z⟩ QW (.inl Z))))))))))))))
    refine Kx (T.seq (LX Z ah ?_));obtain rfl:=Nl h;replace h:=Q;clear Q;refine T.exit (KR (KR (Ll (X.seq (T.seq (Kv Z ?_))))));obtain⟨⟨a7,aL⟩,aM,h⟩:=Nk h;refine Ku ak 1 Z (KK 5 Z Z .u (.fn Tryz.call23 Z) (cu g y _ aM) sT Z Z (Ku ak 1 Z ?_));rcases jF h with⟨an,h⟩ | ⟨an,h⟩
    ·refine K1 Z an (KQ (T.region Z (KA ak bg 3 Z 2 Z Z (Kw Z (KH (us := [jS k,.slice D c.length H]) 1 Z Qs ON Z Z Z) Z (LI (cells:= #[jS k,.slice D c.length H]) Z .u uQ Z QW Z (fun a8=> ?_))))));obtain⟨aw,h⟩:=al h;refine LZ 2 0 Z .u (us := [jS k,.slice D c.length H]) (u:=(⟨k,c⟩:aN)) (l:=a) (E:=aK) Tryz.underlying34 wk Z QS Z Z Z Z Z Z Z (fun w G hG=>⟨_,_,Z,bF QS _ _ hG⟩) (by have hq:=aw; omega) (by have hq:=aw; omega) Z (fun ax ay=> ?_);refine K5 [0,0,0,0,0] Z (Ku ak 1 Z (KE 2 Z (cs':= #[.bool p.null,jS p.data,jI t,jI x,.slice ax (a ++ [(⟨k,c⟩:aN)]).length ay]) Z .u Z Z Tryz.sizeOf34 Z Z Z Z Z ?_));obtain⟨a2,h⟩:=al h;exact TL.nil (KZ (X.seq (T.region Z (Kw Z (Ex.add Z Z a2) Z (Ku ak 1 Z (TL.nil (X.back (m':=ad) [0,1,1,1] QR ⟨C+1,(a ++ [(⟨k,c⟩:aN)]),ax,ay,aL,Z,Z,h⟩ QW QW)))))))
    refine K0 Z an (Kv Z ?_);refine Kw Z (KT (cells:=vA0) kV Z QU) Z ?_;refine KE 4 Z (cs':=vA0) Z .u Z Z Ot Z Z Z Z Z ?_;obtain rfl:=Nl h;obtain rfl:=Nl K;exact Kx (T.ret (Kz (KL (Kz (Kz (KL (Kz (KG 2 aK (KO [6,0] QL (KV (us:=vA0) 5 Z O4 Ot Z Z) ⟨_,_,Z,Z,Z⟩ QW (.inl Z))))))))))
  refine Kx (T.seq (LX Z ae ?_));obtain rfl:=Nl h;replace h:=K;clear K;refine T.exit (KR (KR (Ll (X.seq (T.seq (Kv Z ?_))))));obtain⟨⟨a9,aO⟩,aP,h⟩:=Nk h;refine Ku ak 1 Z (KK 3 Z Z .u (.fn Tryz.call23 Z) (cu g z _ aP) sT Z Z (KF ak Z ?_));obtain⟨ao,h,L⟩:=Nk h;refine Lu (fun e Rs=>e = [(0,jP g),(4,jP B),(5,jP s)]/\Rs = [bK 176 2 aK (.slice d a.length f) a,aV s 36 (Dh t x d f (a).length p),aV B 36 vA0,InR g ao]) ?_ ?_
  ·clear L;rcases jF h with⟨R,h⟩ | ⟨R,h⟩
   ·refine LT Z R (Kv Z (Kw Z (KH (us := [.bool p.null,jS p.data,jI t,jI x,.slice d a.length f]) 1 Z O4 Ot Z Z Z) Z ?_));obtain⟨aQ,ap,h⟩:=Nk h;refine Ku ak 1 Z (KN Z .u (.fn Tryz.call156 Z) (iU (⟨p,t,x,a⟩:aB) _ _ a1 _ ap) (fun _ hs=>(SrcE.res 0 hs Z (fun w G h=>bF QS w G h))) Z (K3 ak Z Z (KF ak Z ?_)));obtain⟨aq,h,M⟩:=Nk h;refine Lu (fun e Rs=>e = [(0,jP g),(4,jP B),(5,jP s)]/\Rs = [bK 176 2 aK (.slice d a.length f) a,aV s 36 (Dh t x d f (a).length p),aV B 36 vA0,InR g aq]) ?_ ?_
    ·clear M;rcases jF h with⟨S,h⟩ | ⟨S,h⟩
     ·refine T.nn Z S ?_;cases h;exact T.skip (KJ [0,0,0,0])
     refine T.yn Z S (T.region Z ?_);obtain⟨a3,au,h⟩:=Nk h;refine Ku ak 2 Z (KK 3 Z Z .u (.fn Tryz.call70 Z) (bG g aO aQ _ au) sT Z Z ?_);cases h;exact TL.nil (KJ [0,0,0,0])
    rintro _ _ ⟨rfl,rfl⟩;clear h;have h:=M;clear M;try dsimp only at h
    cases h;exact KJ [0,0,0,0]
   refine LX Z R ?_;cases h;exact T.skip (KJ [0,0,0,0])
  rintro _ _ ⟨rfl,rfl⟩;clear h;have h:=L;clear L;refine X.seq (T.seq (Kv Z ?_));obtain⟨⟨a5,a4⟩,av,h⟩:=Nk h;refine Ku ak 1 Z (KK 3 Z Z .u (.fn Tryz.call23 Z) (cu g ao _ av) sT Z Z (Ku ak 1 Z ?_));rcases jF h with⟨U,h⟩ | ⟨U,h⟩
  ·refine K1 Z U (KP Z (Kw Z (KH (us := [.bool p.null,jS p.data,jI t,jI x,.slice d a.length f]) 1 Z O4 Ot Z Z Z) Z (KE 2 Z (cs':=Dh t x d f (a).length p) Z .u Z Z Ot Z Z Z Z Z ?_)));obtain rfl:=Nl h;exact Kx (T.ret (LM QS 0 Z (Lj [0,0,0,0] Z (KO [3,0] QL (KV (us:=Dh t x d f (a).length p) 2 Z O4 Ot Z Z) ⟨_,_,Z,Z,Z⟩ QW (.inl Z)))))
  refine K0 Z U (Kv Z ?_);refine Kw Z (KT (cells:=vA0) kV Z QU) Z ?_;refine KE 2 Z (cs':=vA0) Z .u Z Z Ot Z Z Z Z Z ?_;obtain rfl:=Nl h;exact Kx (T.ret (Kz (KG 2 aK (KO [4,0] QL (KV (us:=vA0) 3 Z O4 Ot Z Z) ⟨_,_,Z,Z,Z⟩ QW (.inl Z)))))
theorem sC {w W:World} (h:Below w.heap.size w W) (o:Obj):Below w.heap.size w (W.alloc o):=h.alloc h.size o
theorem F4 {w W:World} (h:Below w.heap.size w W) (i:Nat) (u:Value):Below w.heap.size w (W.setCell ⟨w.heap.size,i,none⟩ u):=h.setCell (p:=⟨w.heap.size,i,none⟩) (N3 _) u
def ns:Array Value:= #[.int .i64 0,.string ⟨#[112,114,111,100,117,99,101]⟩,.int .i64 3,.int .i64 4,.int .i64 22,.string ⟨#[98,101,103,105,110]⟩,.int .i64 0,.int .i64 1,
 .int .i64 24,.string ⟨#[97,100,100]⟩,.int .i64 0,.int .i64 0,.int .i64 26,.string ⟨#[101,110,100]⟩,.int .i64 0,.int .i64 0,.int .i64 27,.string ⟨#[109,97,114,107]⟩,.int .i64 0,.int .i64 1]
theorem Dq:ns.all (·.oneCell')=true:=by simp[ns,Value.oneCell']
theorem Dr:(Tryz.prog.info? 317).map (·.size)=some 20:=by kernel_rfl
theorem mS (w:World) :
 Calls Tryz.prog 219 #[] w fun e w'=>e= .returned (.agg ns)/\Below w.heap.size w w':=by
 have hi:=Dr;go_enter Tryz.func219,Tryz.ntmps219
 go_wp2_with (refine tO (w:=w) rfl 317 _ _ rfl 317 _ ns rfl rfl Dr rfl Dq ?_)
 refine bodyPost_ret (v:= .agg ns) ?_ rfl ?_
 ·exact results_cell_row QW _ _ w.heap.size 317 ns (0,0) _ rfl (heap_alloc_new w _) Tryz.underlying317 rfl Dr
 ·exact⟨rfl,(Below.refl _ _).alloc (N3 _) _⟩
def kY (k:Int):Value×Bool :=
 if k=0 then (.agg #[.int .i64 0,.string ⟨#[112,114,111,100,117,99,101]⟩,.int .i64 3,.int .i64 4],true)
 else if k=22 then (.agg #[.int .i64 22,.string ⟨#[98,101,103,105,110]⟩,.int .i64 0,.int .i64 1],true)
 else if k=24 then (.agg #[.int .i64 24,.string ⟨#[97,100,100]⟩,.int .i64 0,.int .i64 0],true)
 else if k=26 then (.agg #[.int .i64 26,.string ⟨#[101,110,100]⟩,.int .i64 0,.int .i64 0],true)
 else if k=27 then (.agg #[.int .i64 27,.string ⟨#[109,97,114,107]⟩,.int .i64 0,.int .i64 1],true)
 else (.agg #[.int .i64 0,.string ⟨#[]⟩,.int .i64 0,.int .i64 0],false)
theorem dt {w w1:World} {c:Array Value} {t:TypeId} (hb:Below (w.alloc (.cells c t)).heap.size (w.alloc (.cells c t)) w1) (i:Nat):w1.cell? ⟨w.heap.size,i,none⟩=c[i]? /\ w1.frozen? ⟨w.heap.size,i,none⟩=false:=by
 have h:w1.heap[w.heap.size]? = some (.cells c t (0,0)):=(hb.block w.heap.size (by simp)).trans (heap_alloc_new w _);exact⟨bm h i,cg h i⟩
theorem rp {w w1:World} {o:Obj} (hb:Below (w.alloc o).heap.size (w.alloc o) w1):w.heap.size<w1.heap.size:=by
 have:=hb.size;simp at this;omega
theorem Hi (k:Int) (w:World) :
 Calls Tryz.prog 191 #[.int .i64 k] w fun e w'=>e= .returned (.tuple #[(kY k).1,.bool (kY k).2])/\Below w.heap.size w w':=by
 have u: ∀ w:World,(Instr.index 317 (.agg ns) (.int .i64 0)).run Tryz.prog w= .ok (.agg #[.int .i64 0,.string ⟨#[112,114,111,100,117,99,101]⟩,.int .i64 3,.int .i64 4]) w:=fun _=>by kernel_rfl
 have x: ∀ w:World,(Instr.index 317 (.agg ns) (.int .i64 1)).run Tryz.prog w= .ok (.agg #[.int .i64 22,.string ⟨#[98,101,103,105,110]⟩,.int .i64 0,.int .i64 1]) w:=fun _=>by kernel_rfl
 have y: ∀ w:World,(Instr.index 317 (.agg ns) (.int .i64 2)).run Tryz.prog w= .ok (.agg #[.int .i64 24,.string ⟨#[97,100,100]⟩,.int .i64 0,.int .i64 0]) w:=fun _=>by kernel_rfl
 have z: ∀ w:World,(Instr.index 317 (.agg ns) (.int .i64 3)).run Tryz.prog w= .ok (.agg #[.int .i64 26,.string ⟨#[101,110,100]⟩,.int .i64 0,.int .i64 0]) w:=fun _=>by kernel_rfl
 have A: ∀ w:World,(Instr.index 317 (.agg ns) (.int .i64 4)).run Tryz.prog w= .ok (.agg #[.int .i64 27,.string ⟨#[109,97,114,107]⟩,.int .i64 0,.int .i64 1]) w:=fun _=>by kernel_rfl
 have way:k=0\/k=22\/k=24\/k=26\/k=27\/((0 == k)=false/\(22 == k)=false/\(24 == k)=false/\(26 == k)=false/\(27 == k)=false/\kY k=(.agg #[.int .i64 0,.string ⟨#[]⟩,.int .i64 0,.int .i64 0],false)):=by
  by_cases p:k=0
  ·simp[p]
  by_cases q:k=22
  ·simp[q]
  by_cases r:k=24
  ·simp[r]
  by_cases s:k=26
  ·simp[s]
  by_cases t:k=27
  ·simp[t]
  refine .inr (.inr (.inr (.inr (.inr ⟨?_,?_,?_,?_,?_,by simp[kY,p,q,r,s,t]⟩))));all_goals (rw[beq_eq_false_iff_ne]; omega)
 rcases way with rfl | rfl | rfl | rfl | rfl | ⟨p,q,r,s,t,hv⟩
 ·go_enter Qn,P9
  go_wp2_with (go_at_call 219; refine (mS _).mono ?_; rintro e w1 ⟨rfl,hb⟩; obtain⟨a,l⟩:=dt hb 0; obtain⟨b,m⟩:=dt hb 1; obtain⟨c,n⟩:=dt hb 2; obtain⟨d,o⟩:=dt hb 3; simp at a b c d; have HB:=Lib.hid hb; have hz:=rp hb; have f:w.heap.size<w1.heap.size+1:=(by omega); have g:w.heap.size<w1.heap.size+1+1:=(by omega); have h:w.heap.size<w1.heap.size+1+1+1:=(by omega); have i:w.heap.size<w1.heap.size+1+1+1+1:=(by omega); have j:w.heap.size<w1.heap.size+1+1+1+1+1:=(by omega); clear hb)
  refine wp_loop_rounds 6 ?_;repeat (rw[rounds_succ]; go_wp2_with fail)
  have hbel:Below w.heap.size w w1:=((Below.refl _ _).alloc (N3 _) _).trans (HB.out.mono (by simp));refine bodyPost_ret (v:= .tuple #[(kY 0).1,.bool (kY 0).2]) ?_ rfl ⟨rfl,?_⟩
  ·simp[results,PY,go_sem,a,b,c,d,hz,f,g,h,i,j,kY]
  ·repeat (first | (with_reducible exact hbel) | (with_reducible refine F4 ?_ _ _) | (with_reducible refine sC ?_ _))
 ·go_enter Qn,P9
  go_wp2_with (go_at_call 219; refine (mS _).mono ?_; rintro e w1 ⟨rfl,hb⟩; obtain⟨a,l⟩:=dt hb 0; obtain⟨b,m⟩:=dt hb 1; obtain⟨c,n⟩:=dt hb 2; obtain⟨d,o⟩:=dt hb 3; simp at a b c d; have HB:=Lib.hid hb; have hz:=rp hb; have f:w.heap.size<w1.heap.size+1:=(by omega); have g:w.heap.size<w1.heap.size+1+1:=(by omega); have h:w.heap.size<w1.heap.size+1+1+1:=(by omega); have i:w.heap.size<w1.heap.size+1+1+1+1:=(by omega); have j:w.heap.size<w1.heap.size+1+1+1+1+1:=(by omega); clear hb)
  refine wp_loop_rounds 6 ?_;repeat (rw[rounds_succ]; go_wp2_with fail)
  have hbel:Below w.heap.size w w1:=((Below.refl _ _).alloc (N3 _) _).trans (HB.out.mono (by simp));refine bodyPost_ret (v:= .tuple #[(kY 22).1,.bool (kY 22).2]) ?_ rfl ⟨rfl,?_⟩
  ·simp[results,PY,go_sem,a,b,c,d,hz,f,g,h,i,j,kY]
  ·repeat (first | (with_reducible exact hbel) | (with_reducible refine F4 ?_ _ _) | (with_reducible refine sC ?_ _))
 ·go_enter Qn,P9
  go_wp2_with (go_at_call 219; refine (mS _).mono ?_; rintro e w1 ⟨rfl,hb⟩; obtain⟨a,l⟩:=dt hb 0; obtain⟨b,m⟩:=dt hb 1; obtain⟨c,n⟩:=dt hb 2; obtain⟨d,o⟩:=dt hb 3; simp at a b c d; have HB:=Lib.hid hb; have hz:=rp hb; have f:w.heap.size<w1.heap.size+1:=(by omega); have g:w.heap.size<w1.heap.size+1+1:=(by omega); have h:w.heap.size<w1.heap.size+1+1+1:=(by omega); have i:w.heap.size<w1.heap.size+1+1+1+1:=(by omega); have j:w.heap.size<w1.heap.size+1+1+1+1+1:=(by omega); clear hb)
  refine wp_loop_rounds 6 ?_;repeat (rw[rounds_succ]; go_wp2_with fail)
  have hbel:Below w.heap.size w w1:=((Below.refl _ _).alloc (N3 _) _).trans (HB.out.mono (by simp));refine bodyPost_ret (v:= .tuple #[(kY 24).1,.bool (kY 24).2]) ?_ rfl ⟨rfl,?_⟩
  ·simp[results,PY,go_sem,a,b,c,d,hz,f,g,h,i,j,kY]
  ·repeat (first | (with_reducible exact hbel) | (with_reducible refine F4 ?_ _ _) | (with_reducible refine sC ?_ _))
 ·go_enter Qn,P9
  go_wp2_with (go_at_call 219; refine (mS _).mono ?_; rintro e w1 ⟨rfl,hb⟩; obtain⟨a,l⟩:=dt hb 0; obtain⟨b,m⟩:=dt hb 1; obtain⟨c,n⟩:=dt hb 2; obtain⟨d,o⟩:=dt hb 3; simp at a b c d; have HB:=Lib.hid hb; have hz:=rp hb; have f:w.heap.size<w1.heap.size+1:=(by omega); have g:w.heap.size<w1.heap.size+1+1:=(by omega); have h:w.heap.size<w1.heap.size+1+1+1:=(by omega); have i:w.heap.size<w1.heap.size+1+1+1+1:=(by omega); have j:w.heap.size<w1.heap.size+1+1+1+1+1:=(by omega); clear hb)
  refine wp_loop_rounds 6 ?_;repeat (rw[rounds_succ]; go_wp2_with fail)
  have hbel:Below w.heap.size w w1:=((Below.refl _ _).alloc (N3 _) _).trans (HB.out.mono (by simp));refine bodyPost_ret (v:= .tuple #[(kY 26).1,.bool (kY 26).2]) ?_ rfl ⟨rfl,?_⟩
  ·simp[results,PY,go_sem,a,b,c,d,hz,f,g,h,i,j,kY]
  ·repeat (first | (with_reducible exact hbel) | (with_reducible refine F4 ?_ _ _) | (with_reducible refine sC ?_ _))
 ·go_enter Qn,P9
  go_wp2_with (go_at_call 219; refine (mS _).mono ?_; rintro e w1 ⟨rfl,hb⟩; obtain⟨a,l⟩:=dt hb 0; obtain⟨b,m⟩:=dt hb 1; obtain⟨c,n⟩:=dt hb 2; obtain⟨d,o⟩:=dt hb 3; simp at a b c d; have HB:=Lib.hid hb; have hz:=rp hb; have f:w.heap.size<w1.heap.size+1:=(by omega); have g:w.heap.size<w1.heap.size+1+1:=(by omega); have h:w.heap.size<w1.heap.size+1+1+1:=(by omega); have i:w.heap.size<w1.heap.size+1+1+1+1:=(by omega); have j:w.heap.size<w1.heap.size+1+1+1+1+1:=(by omega); clear hb)
  refine wp_loop_rounds 6 ?_;repeat (rw[rounds_succ]; go_wp2_with fail)
  have hbel:Below w.heap.size w w1:=((Below.refl _ _).alloc (N3 _) _).trans (HB.out.mono (by simp));refine bodyPost_ret (v:= .tuple #[(kY 27).1,.bool (kY 27).2]) ?_ rfl ⟨rfl,?_⟩
  ·simp[results,PY,go_sem,a,b,c,d,hz,f,g,h,i,j,kY]
  ·repeat (first | (with_reducible exact hbel) | (with_reducible refine F4 ?_ _ _) | (with_reducible refine sC ?_ _))
 ·go_enter Qn,P9
  go_wp2_with (go_at_call 219; refine (mS _).mono ?_; rintro e w1 ⟨rfl,hb⟩; obtain⟨a,l⟩:=dt hb 0; obtain⟨b,m⟩:=dt hb 1; obtain⟨c,n⟩:=dt hb 2; obtain⟨d,o⟩:=dt hb 3; simp at a b c d; have HB:=Lib.hid hb; have hz:=rp hb; have f:w.heap.size<w1.heap.size+1:=(by omega); have g:w.heap.size<w1.heap.size+1+1:=(by omega); have h:w.heap.size<w1.heap.size+1+1+1:=(by omega); have i:w.heap.size<w1.heap.size+1+1+1+1:=(by omega); have j:w.heap.size<w1.heap.size+1+1+1+1+1:=(by omega); clear hb)
  refine wp_loop_rounds 6 ?_;repeat (rw[rounds_succ]; go_wp2_with fail)
  have hbel:Below w.heap.size w w1:=((Below.refl _ _).alloc (N3 _) _).trans (HB.out.mono (by simp));refine bodyPost_ret (v:= .tuple #[(kY k).1,.bool (kY k).2]) ?_ rfl ⟨rfl,?_⟩
  ·rw[hv];simp[results,PY,go_sem,a,b,c,d,hz,f,g,h,i,j]
  ·repeat (first | (with_reducible exact hbel) | (with_reducible refine F4 ?_ _ _) | (with_reducible refine sC ?_ _))
theorem JM (k:Int) (r:Value) (b:Bool) (h:kY k=(r,b)) (w:World) :
 Calls Tryz.prog 191 #[.int .i64 k] w fun e w'=>e= .returned (.tuple #[r,.bool b])/\Below w.heap.size w w':=by
 have:=Hi k w
 rwa [h] at this
def gY (k:Int):Int×Int×ByteArray×Bool :=
 if k=0 then (3,4,⟨#[112,114,111,100,117,99,101]⟩,true) else if k=22 then (0,1,⟨#[98,101,103,105,110]⟩,true)
 else if k=24 then (0,0,⟨#[97,100,100]⟩,true) else if k=26 then (0,0,⟨#[101,110,100]⟩,true) else if k=27 then (0,1,⟨#[109,97,114,107]⟩,true) else (0,0,⟨#[]⟩,false)
theorem Ds (k:Int): ∃ f,kY k=(.agg #[.int .i64 f,.string (gY k).2.2.1,.int .i64 (gY k).1,.int .i64 (gY k).2.1],(gY k).2.2.2):=by
 by_cases a:k=0
 ·exact⟨0,by simp[kY,gY,a]⟩
 by_cases b:k=22
 ·exact⟨22,by simp[kY,gY,b]⟩
 by_cases c:k=24
 ·exact⟨24,by simp[kY,gY,c]⟩
 by_cases d:k=26
 ·exact⟨26,by simp[kY,gY,d]⟩
 by_cases e:k=27
 ·exact⟨27,by simp[kY,gY,e]⟩
 exact⟨0,by simp[kY,gY,a,b,c,d,e]⟩
def gH (k v:Int):Int:=if (gY k).2.2.2=false then 12 else if v<(gY k).1\/(gY k).2.1<v then 7 else 0
theorem BS (k v:Int):mv Tryz.prog 147 #[.int .i64 k,.int .i64 v] (fun r N=>r= .int .i64 (gH k v)/\N = []):=by
 intro w;obtain⟨d,hr⟩:=Ds k;have HC:=Lib.hid (show gH k v=if (gY k).2.2.2=false then 12 else if v<(gY k).1\/(gY k).2.1<v then 7 else 0 from rfl);generalize gH k v=c at *;generalize gY k=q at *;obtain⟨lo,hi,nm,ok⟩:=q;simp only at hr;have HF:=Lib.hid (JM k _ _ hr);clear hr;have way:(ok=false/\c=12)\/(ok=true/\v<lo/\c=7)\/(ok=true/\ ¬ v<lo/\hi<v/\c=7)\/(ok=true/\ ¬ v<lo/\ ¬ hi<v/\c=0):=by
  rw[HC.out];cases ok
  ·simp
  ·by_cases a:v<lo <;> by_cases b:hi<v <;> simp[a,b]
 clear HC;rcases way with⟨rfl,rfl⟩ | ⟨rfl,a,rfl⟩ | ⟨rfl,a,b,rfl⟩ | ⟨rfl,a,b,rfl⟩;all_goals
  go_enter Tryz.func147,Tryz.ntmps147
  go_wp2_with (go_at_call 191; refine (HF.out _).mono ?_; rintro e w1 ⟨rfl,hb⟩; have HB:=Lib.hid hb; clear hb)
  go_ret
  exact⟨_,_,rfl,⟨rfl,rfl⟩,Mc (sC HB.out _),trivial⟩
def wq (k v:Int):Option Int:=some (gH k v)
theorem xn (k v:Int):wq k v=some (gH k v):=rfl
theorem tq (k v:Int) (r:Int) (h:wq k v=some r):aC Tryz.prog 147 #[.int .i64 k,.int .i64 v] .triv aJ (fun u A' N=>u= .int .i64 r/\A'=aJ/\N = []):=by
 obtain rfl:=Nl h;exact LN (BS k v)
def Dt:fw := [(23,1,1),(25,0,0),(25,1,1),(25,2,2),(25,3,3)]
theorem aR:(Dt).OK Tryz.prog:=⟨FOK.mk NV rfl N5 rfl,FOK.mk OV rfl Nu rfl,FOK.mk OV rfl Nu rfl,FOK.mk OV rfl Nu rfl,FOK.mk OV rfl NA rfl,trivial⟩
def Du:List Nat := [3,9]
theorem gI:NOK Tryz.prog Du:=⟨Nw,N8,trivial⟩
theorem kZ:BOK Tryz.prog 25 #[.int .i64 0,.int .i64 0,.int .i64 0,.bool false,.string ⟨#[]⟩] [(0,1),(1,1),(2,1),(3,2)]:=BOK.mk Tryz.zeroValue25 OV (by intro w; simp)
def iH (a0:eU):Option (Int):=(wq a0.MH a0.MG).bind fun a=>if a=0 then ((jG a0.MO 4).bind fun b=>if b=true then ((qH a0.ME).bind fun c=>if c=true then (if (a0.ME.data.length:Int)>32767 then some 4 else some 0) else some 4) else some 11) else some a
theorem qW (a0:eU) (r:Int) (h:iH a0=some r):aC Tryz.prog 93 #[.agg #[jI a0.MH,jI a0.MG,jI a0.MO,.bool a0.ME.null,jS a0.ME.data]] .triv (aJ) (fun v A' N=>v=jI r/\A'=aJ/\N = []):=by
 refine aW Tryz.func93 Z Tryz.ntmps93 Z ?_;intro F w hX;unfold iH at h;refine Kv Z (TL.box Z .u Z Z (fun j=>(KF aR Z (T.seq (Kv Z ?_)))));obtain⟨k,e,h⟩:=Nk h;refine KA aR gI 0 Z 4 Z Z (KN Z .u (.fn Tryz.call147 Z) (tq a0.MH a0.MG _ e) rT Z (K3 aR Z Z (Ku aR 2 Z ?_)));rcases jF h with⟨d,h⟩ | ⟨d,h⟩
 ·refine K1 Z d (KQ (T.seq (T.block (Kv Z ?_))));obtain⟨l,f,h⟩:=Nk h;refine KA aR gI 0 Z 2 Z Z (KN Z .u (.fn Tryz.call101 Z) (K6 (fun w=>dH a0.MO 4 _ f w)) (fun _ _=>RX.reads_triv _ _) Z (Ku aR 2 Z ?_));rcases jF h with⟨b,h⟩ | ⟨b,h⟩
  ·refine Kx (K8 Z (bb b) (Kv Z (Ku aR 1 Z (Kw Z (KH (us:=wL0 a0.ME) 0 Z NW NA Z Z Z) Z ?_))));obtain⟨m,i,h⟩:=Nk h;refine KN Z .u (.fn Tryz.call148 Z) (nO a0.ME _ i) rT Z ?_;rcases jF h with⟨a,h⟩ | ⟨a,h⟩
   ·refine Ku aR 2 Z (KC 22 Z (bb a) (KA aR gI 0 Z 3 Z Z (TL.q Z (.g Z Z Z) (Lh Z Nv) Z (KB aR 3 Z ?_))));rcases jF h with⟨c,h⟩ | ⟨c,h⟩
    ·refine KY Z c (Kv Z (Ku aR 1 Z ?_));obtain rfl:=Nl h;exact Kx (T.ret (KL (Kz (KI [1] Qq (Ky Z)))))
    refine KW Z c (T.skip (KZ (X.seq (Kv Z (Ku aR 1 Z ?_)))));obtain rfl:=Nl h;exact Kx (T.ret (KI [1] Qq (Ky Z)))
   replace a:=Nt a;refine Ku aR 2 Z (KC 22 Z (bp a) (Lk aR Z (KM Z Z (Kv Z (Ku aR 1 Z ?_)))));obtain rfl:=Nl h;exact Kx (T.ret (KL (Kz (KI [1] Qq (Ky Z)))))
  replace b:=Nt b;refine Kx (KM Z (bp b) (Kv Z (Ku aR 1 Z ?_)));obtain rfl:=Nl h;exact Kx (T.ret (KL (Kz (KI [1] Qq (Ky Z)))))
 refine K0 Z d (Kv Z (Ku aR 2 Z ?_));obtain rfl:=Nl h;exact Kx (T.ret (Kz (KI [1] Qq (Ky Z))))
def iI (st:AI×Int) (a1:eU):Option (AI×Int):=(iH a1).bind fun c=>if c=0 then ((ed st a1.MH 2).bind fun d=>(ed d a1.MG 2).bind fun e=>(ed e a1.MO 4).bind fun f=>(km f a1.ME 2).bind fun a=>some a) else ((lu st c).bind fun b=>some b)
theorem qX (g:Nat) (st:AI×Int) (a1:eU) (r:AI×Int) (h:iI st a1=some r):aC Tryz.prog 47 #[jP g,.agg #[jI a1.MH,jI a1.MG,jI a1.MO,.bool a1.ME.null,jS a1.ME.data]] .triv (bz g st) (fun v A' N=>v= .tuple #[]/\A'=bz g r/\N = []):=by
 refine aW Tryz.func47 Z Tryz.ntmps47 Z ?_;intro F w hX;unfold iI at h;refine Kv Z (TL.box Z .u Z Z (fun p=>(Kx (T.seq (Kv Z (Kw Z (KH (us := [jI a1.MH,jI a1.MG,jI a1.MO,.bool a1.ME.null,jS a1.ME.data]) 0 Z Pm OB Z Z Z) Z ?_))))));obtain⟨m,e,h⟩:=Nk h;refine KN Z .u (.fn Tryz.call93 Z) (qW a1 _ e) rT Z (K3 aR Z Z (Ku aR 2 Z ?_));rcases jF h with⟨a,h⟩ | ⟨a,h⟩
 ·refine K1 Z a (KP Z ?_);obtain⟨f,i,h⟩:=Nk h;refine KA aR gI 0 Z 3 Z Z (KK 1 Z Z .u (.fn Tryz.call51 Z) (bq g st a1.MH 2 _ i) sT Z Z (KU Z ?_));obtain⟨j,k,h⟩:=Nk h;refine KA aR gI 0 Z 3 Z Z (KK 1 Z Z .u (.fn Tryz.call51 Z) (bq g f a1.MG 2 _ k) sT Z Z (KU Z ?_));obtain⟨l,b,h⟩:=Nk h;refine KA aR gI 0 Z 3 Z Z (KK 1 Z Z .u (.fn Tryz.call51 Z) (bq g j a1.MO 4 _ b) sT Z Z (Kx (T.region Z (Ku aR 2 Z (Kw Z (KH (us:=wL0 a1.ME) 0 Z NW NA Z Z Z) Z ?_)))));obtain⟨n,c,h⟩:=Nk h;refine KK 1 Z Z .u (.fn Tryz.call95 Z) (kE g l a1.ME 2 _ c) sT Z Z ?_;obtain rfl:=Nl h;exact TL.nil (LK [1] Tryz.results47 ⟨Z,Z,Z⟩ QW (.inr Z))
 refine K0 Z a (Kv Z ?_);obtain⟨o,d,h⟩:=Nk h;refine Ku aR 2 Z (KK 1 Z Z .u (.fn Tryz.call94 Z) (hO g st m _ d) sT Z Z ?_);obtain rfl:=Nl h;exact Kx (T.ret (Kz (LK [1] Tryz.results47 ⟨Z,Z,Z⟩ QW (.inl Z))))
def gZ (st:I)  : Option (eU×I):=(eu st 2).bind fun (e,o)=>(eu o 2).bind fun (f,p)=>(iC p).bind fun (z,a)=>if z=0 then ((wq e f).bind fun g=>if g=0 then ((eu a 4).bind fun (q,h)=>(lw h 2).bind fun (r,i)=>(iC i).bind fun (s,b)=>if s=0 then (some ((⟨e,f,q,r⟩:eU),b)) else (some ((⟨0,0,0,(⟨false,[]⟩:Bl)⟩:eU),b))) else ((cm a g).bind fun j=>(eu j 4).bind fun (t,k)=>(lw k 2).bind fun (u,l)=>(iC l).bind fun (v,c)=>if v=0 then (some ((⟨e,f,t,u⟩:eU),c)) else (some ((⟨0,0,0,(⟨false,[]⟩:Bl)⟩:eU),c)))) else ((eu a 4).bind fun (w,m)=>(lw m 2).bind fun (x,n)=>(iC n).bind fun (y,d)=>if y=0 then (some ((⟨e,f,w,x⟩:eU),d)) else (some ((⟨0,0,0,(⟨false,[]⟩:Bl)⟩:eU),d)))
theorem rN (g:Nat) (st:I)  (r:eU×I) (h:gZ st  = some r):aC Tryz.prog 115 #[jP g] .triv (InR g st) (fun v A' N=>v= .agg #[jI r.1.MH,jI r.1.MG,jI r.1.MO,.bool r.1.ME.null,jS r.1.ME.data]/\A'=InR g r.2/\N = []):=by
 refine aW Tryz.func115 Z Tryz.ntmps115 Z ?_;intro F w hX;unfold gZ at h;refine Kv Z (TL.alloc Z .u Tryz.zeroValue25 Z (fun b1=>(KU Z ?_)));obtain⟨⟨a,Q⟩,R,h⟩:=Nk h;refine Ku aR 1 Z (KK 1 Z Z .u (.fn Tryz.call68 Z) (bx g st 2 _ R) sT Z Z ?_);obtain⟨⟨b,S⟩,U,h⟩:=Nk h;refine Ku aR 1 Z (KK 1 Z Z .u (.fn Tryz.call68 Z) (bx g Q 2 _ U) sT Z Z ?_);refine Kw Z (KT (cells:=Ao a b) kZ Z QU) Z ?_;refine TL.alloc Z .u Tryz.zeroValue25 Z (fun b8=>(KE 0 Z (cs':=Ao a b) Z .u Z Z OB Z Z Z Z Z (Kx (T.seq (Kv Z ?_)))));obtain⟨⟨x9,k⟩,q,h⟩:=Nk h;refine Ku aR 1 Z (KK 2 Z Z .u (.fn Tryz.call23 Z) (cu g S _ q) sT Z Z (Ku aR 1 Z ?_));rcases jF h with⟨l,h⟩ | ⟨l,h⟩
 ·refine KY Z l (Kv Z ?_);obtain⟨V,s,h⟩:=Nk h;refine KA aR gI 0 Z 4 Z Z (KN Z .u (.fn Tryz.call147 Z) (tq a b _ s) rT Z (K3 aR Z Z (Ku aR 2 Z ?_)));rcases jF h with⟨m,h⟩ | ⟨m,h⟩
  ·refine K1 Z m (KP Z ?_);obtain⟨⟨c,t⟩,x,h⟩:=Nk h;refine Ku aR 1 Z (KK 2 Z Z .u (.fn Tryz.call68 Z) (bx g k 4 _ x) sT Z Z (Ku aR 1 Z (KE 0 Z (cs':=vA16 a b c) Z .u Z Z Nu Z Z Z Z Z (KU Z ?_))));obtain⟨⟨d,y⟩,z,h⟩:=Nk h;refine Ku aR 1 Z (KK 2 Z Z .u (.fn Tryz.call142 Z) (kn g t 2 _ z) sT Z Z (Ku aR 1 Z (KE 0 Z (cs':=Aq a b c d) Z .u Z Z NA Z Z Z Z Z (Kx (T.seq (Kv Z ?_))))));obtain⟨⟨aa,W⟩,A,h⟩:=Nk h;refine Ku aR 1 Z (KK 2 Z Z .u (.fn Tryz.call23 Z) (cu g y _ A) sT Z Z (Ku aR 1 Z ?_));rcases jF h with⟨n,h⟩ | ⟨n,h⟩
   ·refine K1 Z n (KP Z (Kw Z (KH (us := [jI a,jI b,jI c,.bool d.null,jS d.data]) 0 Z Pm OB Z Z Z) Z (KE 1 Z (cs':=Aq a b c d) Z .u Z Z OB Z Z Z Z Z ?_)));obtain rfl:=Nl h;exact Kx (T.ret (KI [2] PZ (KV (us:=Aq a b c d) 1 Z Pm OB Z Z)))
   refine K0 Z n (Kv Z ?_);refine Kw Z (KT (cells:=nJ) kZ Z QU) Z ?_;refine KE 1 Z (cs':=nJ) Z .u Z Z OB Z Z Z Z Z ?_;obtain rfl:=Nl h;exact Kx (T.ret (Kz (KI [2] PZ (KV (us:=nJ) 1 Z Pm OB Z Z))))
  refine K0 Z m (T.region Z ?_);obtain⟨B,C,h⟩:=Nk h;refine Ku aR 2 Z (KK 2 Z Z .u (.fn Tryz.call70 Z) (bG g k V _ C) sT Z Z (KU Z ?_));obtain⟨⟨e,D⟩,E,h⟩:=Nk h;refine Ku aR 1 Z (KK 2 Z Z .u (.fn Tryz.call68 Z) (bx g B 4 _ E) sT Z Z (Ku aR 1 Z (KE 0 Z (cs':=vA16 a b e) Z .u Z Z Nu Z Z Z Z Z (KU Z ?_))));obtain⟨⟨f,G⟩,H,h⟩:=Nk h;refine Ku aR 1 Z (KK 2 Z Z .u (.fn Tryz.call142 Z) (kn g D 2 _ H) sT Z Z (Ku aR 1 Z (KE 0 Z (cs':=Aq a b e f) Z .u Z Z NA Z Z Z Z Z (Kx (T.seq (Kv Z ?_))))));obtain⟨⟨ab,X⟩,J,h⟩:=Nk h;refine Ku aR 1 Z (KK 2 Z Z .u (.fn Tryz.call23 Z) (cu g G _ J) sT Z Z (Ku aR 1 Z ?_));rcases jF h with⟨o,h⟩ | ⟨o,h⟩
  ·refine K1 Z o (KP Z (Kw Z (KH (us := [jI a,jI b,jI e,.bool f.null,jS f.data]) 0 Z Pm OB Z Z Z) Z (KE 1 Z (cs':=Aq a b e f) Z .u Z Z OB Z Z Z Z Z ?_)));obtain rfl:=Nl h;exact Kx (T.ret (KI [2] PZ (KV (us:=Aq a b e f) 1 Z Pm OB Z Z)))
  refine K0 Z o (Kv Z ?_);refine Kw Z (KT (cells:=nJ) kZ Z QU) Z ?_;refine KE 1 Z (cs':=nJ) Z .u Z Z OB Z Z Z Z Z ?_;obtain rfl:=Nl h;exact Kx (T.ret (Kz (KI [2] PZ (KV (us:=nJ) 1 Z Pm OB Z Z))))
 refine KW Z l (KP Z ?_);obtain⟨⟨i,K⟩,L,h⟩:=Nk h;refine Ku aR 1 Z (KK 2 Z Z .u (.fn Tryz.call68 Z) (bx g k 4 _ L) sT Z Z (Ku aR 1 Z (KE 0 Z (cs':=vA16 a b i) Z .u Z Z Nu Z Z Z Z Z (KU Z ?_))));obtain⟨⟨j,M⟩,O,h⟩:=Nk h;refine Ku aR 1 Z (KK 2 Z Z .u (.fn Tryz.call142 Z) (kn g K 2 _ O) sT Z Z (Ku aR 1 Z (KE 0 Z (cs':=Aq a b i j) Z .u Z Z NA Z Z Z Z Z (Kx (T.seq (Kv Z ?_))))));obtain⟨⟨ad,Y⟩,P,h⟩:=Nk h;refine Ku aR 1 Z (KK 2 Z Z .u (.fn Tryz.call23 Z) (cu g M _ P) sT Z Z (Ku aR 1 Z ?_));rcases jF h with⟨p,h⟩ | ⟨p,h⟩
 ·refine K1 Z p (KP Z (Kw Z (KH (us := [jI a,jI b,jI i,.bool j.null,jS j.data]) 0 Z Pm OB Z Z Z) Z (KE 1 Z (cs':=Aq a b i j) Z .u Z Z OB Z Z Z Z Z ?_)));obtain rfl:=Nl h;exact Kx (T.ret (KI [2] PZ (KV (us:=Aq a b i j) 1 Z Pm OB Z Z)))
 refine K0 Z p (Kv Z ?_);refine Kw Z (KT (cells:=nJ) kZ Z QU) Z ?_;refine KE 1 Z (cs':=nJ) Z .u Z Z OB Z Z Z Z Z ?_;obtain rfl:=Nl h;exact Kx (T.ret (Kz (KI [2] PZ (KV (us:=nJ) 1 Z Pm OB Z Z))))
end Go.Proofs.YtheikonlgjdopaaGreat.Sl
