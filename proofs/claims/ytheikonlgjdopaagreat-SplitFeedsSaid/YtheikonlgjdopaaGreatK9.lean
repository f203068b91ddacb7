/- splitFeeds_holds: part 9. -/
import Derived.Test.YtheikonlgjdopaaGreatK8
set_option maxRecDepth 100000
set_option maxHeartbeats 4000000
set_option linter.defProp false
namespace Go.Proofs.YtheikonlgjdopaaGreat.Sl
open Go.RowKit
set_option linter.unusedVariables false
set_option linter.unusedSimpArgs false
def Of := @Tryz.sizeOf25
def Om := @Tryz.sizeOf36
def OA := @Tryz.runUnderlying25
def O3 := @Tryz.isAgg25
def Po := @Tryz.isAgg36
def PJ := @Tryz.results191
def PK := @Tryz.results115
def PU := @Tryz.ntmps191
def P4 := @Tryz.results194
def P5 := @Tryz.results195
def P6 := @Tryz.results156
def Qa := @Tryz.func191
def Qd := @Tryz.results93
def Qy := @Tryz.results120
def Dh:eY := [(23,0,0),(23,1,1),(36,0,0),(36,1,2),(36,2,3),(36,3,4),(97,3,3),(97,4,4),(176,0,0),(176,1,1),(179,0,0),(179,1,1)]
theorem al:(Dh).OK Tryz.prog:=⟨FOK.mk NF rfl NP rfl,FOK.mk NF rfl NG rfl,FOK.mk OH rfl Nh rfl,FOK.mk OH rfl M9 rfl,FOK.mk OH rfl M9 rfl,FOK.mk OH rfl Tryz.sizeOf34 rfl,FOK.mk Ny rfl NP rfl,FOK.mk Ny rfl NP rfl,FOK.mk Pt rfl NG rfl,FOK.mk Pt rfl Qb rfl,FOK.mk PL rfl M9 rfl,FOK.mk PL rfl PB rfl,trivial⟩
def Di:List Nat := [3,4,9,34,174,177]
theorem bj:NOK Tryz.prog Di:=⟨Nc,Oa,NQ,Tryz.isAgg34,PS,Pp,trivial⟩
theorem nP:Tryz.prog.follows .mixedOrders=true:=by kernel_rfl
theorem kF:BOK Tryz.prog 36 #[.bool false,A7,.int .i64 0,.int .i64 0,A5] [(0,2),(2,1),(3,1),(4,1)]:=BOK.mk Tryz.zeroValue36 OH (by intro w; simp)
theorem wg:BOK Tryz.prog 176 #[A7,A5] [(0,1),(1,1)]:=BOK.mk Tryz.zeroValue176 Pt (by intro w; simp)
theorem wh:BOK Tryz.prog 179 #[.int .i64 0,A5] [(0,1),(1,1)]:=BOK.mk Tryz.zeroValue179 PL (by intro w; simp)
theorem uH:SOK Tryz.prog 34 176 1 2 #[A7,A5]:=SOK.mk Oj Oo Tryz.zeroValue176 QJ QK
theorem kG:SOK Tryz.prog 174 179 1 2 #[.int .i64 0,A5]:=SOK.mk Oi Og Tryz.zeroValue179 QJ QK
theorem kH:SOK Tryz.prog 177 97 1 12 #[.int .i64 0,.int .i64 0,.bool false,.bool false,.bool false,.int .i64 0,.int .i64 0,.int .i64 0,.int .i64 0,.int .i64 0,.int .i64 0,A5]:=SOK.mk NR Nl Tryz.zeroValue97 QJ QK
theorem nc:(Tryz.prog.info? 97).map (fun i=>(i.zero,i.size,i.bytes))=some (some (.agg #[.int .i64 0,.int .i64 0,.bool false,.bool false,.bool false,.int .i64 0,.int .i64 0,.int .i64 0,.int .i64 0,.int .i64 0,.int .i64 0,A5]),12,96):=by kernel_rfl
theorem wi:(Tryz.prog.info? 176).map (fun i=>(i.zero,i.size,i.bytes))=some (some (.agg #[A7,A5]),2,40):=by kernel_rfl
theorem ma:(Tryz.prog.info? 179).map (fun i=>(i.zero,i.size,i.bytes))=some (some (.agg #[.int .i64 0,A5]),2,32):=by kernel_rfl
def dO (d:aM):List bl->Int->Nat->Option (Lp Int Int)
 | [],b,a=>some (Lp.go b)
 | c::xs,b,a=>(if c.Mw<0 then some true else ((jy c.Mw 4).bind fun e=>if e=true then (if (a:Int)>0 then (if A0 ((a:Int) - 1) then (if 0<=((a:Int) - 1) then ((d.Me[((a:Int) - 1).toNat]?).bind fun f=>if f.Mw>=c.Mw then some true else some false) else none) else none) else some false) else some true)).bind fun g=>if g=true then some (Lp.ret 13) else (dO d xs b (a+1))
def cR (a0:List aM):List aM->Int->Nat->Option (Lp Int Int)
 | [],c,b=>some (Lp.go c)
 | a::xs,c,b=>if (a.Me.length:Int)=0 then some (Lp.ret 10) else ((if a.Mm = [] then some true else (if (a.Mm.length:Int)>32767 then some true else (if (b:Int)>0 then (if A0 ((b:Int) - 1) then (if 0<=((b:Int) - 1) then ((a0[((b:Int) - 1).toNat]?).bind fun d=>if (Op.bytesLess d.Mm a.Mm)=true then some false else some true) else none) else none) else some false))).bind fun f=>if f=true then some (Lp.ret 13) else ((dO a a.Me c 0).bind fun e=>match e with | .ret r=>some (Lp.ret r) | .go g=>(cR a0 xs g (b+1))))
theorem rz (a0:List aM) (a:Int) (b:Nat):cR a0 [] a b=(some (Lp.go a)):=rfl
theorem rA (a0:List aM) (a:aM) (xs:List aM) (g:Int) (b:Nat):cR a0 (a::xs) g b=(if (a.Me.length:Int)=0 then some (Lp.ret 10) else ((if a.Mm = [] then some true else (if (a.Mm.length:Int)>32767 then some true else (if (b:Int)>0 then (if A0 ((b:Int) - 1) then (if 0<=((b:Int) - 1) then ((a0[((b:Int) - 1).toNat]?).bind fun c=>if (Op.bytesLess c.Mm a.Mm)=true then some false else some true) else none) else none) else some false))).bind fun d=>if d=true then some (Lp.ret 13) else ((dO a a.Me g 0).bind fun e=>match e with | .ret r=>some (Lp.ret r) | .go f=>(cR a0 xs f (b+1))))):=rfl
def ji (a0:List aM):Option (Int):=if (a0.length:Int)=0 then some 10 else ((cR a0 a0 0 0).bind fun e=>match e with | .ret r=>some r | .go a=>some 0)
theorem rB (a0:List aM) (A1:AT) (c2:Nat) (r:Int) (h:ji a0=some r):aB Tryz.prog 194 #[.slice A1 a0.length c2] (RX.of (ar 2 aT) [.slice A1 a0.length c2] a0) (aI) (fun v A' N=>v=jI r/\A'=aI/\N = []):=by
 refine aS Tryz.func194 Z Tryz.ntmps194 Z ?_;intro F w hX;unfold ji at h;refine Ka Z (Kk al Z (T.seq (Ka Z (J9 al 1 Z (Kb Z (KC Z Oj) Z (J9 al 1 Z ?_))))));rcases jF h with⟨c3,h⟩ | ⟨c3,h⟩
 ·refine KE Z c3 (Ka Z (J9 al 1 Z ?_));obtain rfl:=M2 h;exact Kc (T.ret (Ke (Km [0] P4 (Kd Z))))
 refine KA Z c3 (Kw (T.seq (Ka Z (J9 al 1 Z (Kb Z (KC Z Oj) Z (Kk al Z (T.block ?_)))))));obtain⟨E6,aP,U⟩:=M1 h;have a7:=Lb hX;refine K4 (fun m e Rs=> ∃ (y4:Int) (y:Nat),y+m=a0.length/\e = [(0,.slice A1 a0.length c2),(2,jI y4),(10,.slice A1 a0.length c2),(11,jI (a0.length:Int)),(12,jI (y:Int))]/\Rs = [aI]/\cR a0 (a0.drop y) y4 y=some E6) (a0.length) [0] ⟨0,0,by simp,Z,Z,by rw[List.drop_zero]; exact aP⟩ QL QL ?_;clear aP h;rintro m9 _ _ ⟨y4,y,bm,rfl,rfl,h⟩
 cases m9 with
 | zero =>
  rw[List.drop_of_length_le QI,rz] at h;have ai: ¬ ((y:Int)<(a0.length:Int)):=by omega
  refine Ka Z (Kk al Z (T.seq (KN Z (M5 ai) ?_)));obtain rfl:=M2 h;replace h:=U;clear U;refine T.exit (Kx (Kx (K1 (X.seq (Ka Z (J9 al 1 Z ?_))))));obtain rfl:=M2 h;exact Kc (T.ret (Km [0] P4 (Kd Z)))
 | succ m9 =>
  obtain⟨a,H⟩: ∃ x,a0[y]? = some x:=⟨_,List.getElem?_eq_getElem QI⟩;rw[bN H,rA] at h;have ak:(y:Int)<(a0.length:Int):=by omega
  refine Ka Z (Kk al Z (T.seq (Kr Z (M4 ak) (Kw (T.seq (T.block (Ka Z ?_)))))));obtain⟨s,t,rfl,a8,a9,am,an,I⟩:=KU QJ hX H;obtain⟨aJ,I,ao⟩:=I;obtain⟨z,o,rfl,ap⟩:=I;have J:(RX.of (ar 2 cB) [.slice z a.Me.length o] a.Me).reads w F:=⟨aJ,ap,ao⟩;refine J9 al 1 Z ?_;refine Kb Z (KB (k:=y) Z Z Z Oj Oo (M6 H).1) Z ?_;refine Kb Z (Lf (us := [jS a.Mm,.slice z a.Me.length o]) 0 Z Qf Oo an am Z Z Z) Z (TL.alloc Z .u Tryz.zeroValue176 Z (fun A=>(J9 al 1 Z (Kj 0 Z (cs':= #[jS a.Mm,.slice z a.Me.length o]) Z .u Z Z Oo Z Z Z Z Z (Kc (T.seq (Ka Z (Kf al bj 0 Z 2 Z Z (Kb Z (KC Z Oi) Z (J9 al 1 Z ?_))))))))));rcases jF h with⟨V,h⟩ | ⟨V,h⟩
  ·refine KE Z V (Ka Z (J9 al 1 Z ?_));obtain rfl:=M2 h;obtain rfl:=M2 U;exact Kc (T.ret (Ke (Ko (Ke (Ke (Ko (Ke (Km [1] P4 (Kd Z)))))))))
  refine KA Z V (Kw (Lq ?_));obtain⟨aQ,h,K⟩:=M1 h;refine K7 (fun e Rs=>e = [(0,.slice (some ⟨s,t,none⟩) a0.length c2),(2,jI y4),(4,jP A),(10,.slice (some ⟨s,t,none⟩) a0.length c2),(11,jI (a0.length:Int)),(12,jI (y:Int)),(44,.bool aQ)]/\Rs = [aR A 176 #[jS a.Mm,.slice z a.Me.length o],aI]) ?_ ?_
  ·clear K;refine KQ (.q 0 (.q 1 (.q 2 (.q 3 (.q 4 (.q 5 (.q 6 (.q 7 (.q 8 (.q 9 (.q 10 (.q 11 (.q 12 (.q 13 (.q 14 (.q 15 (.q 16 (.q 17 (.q 18 (.q 19 (.q 20 (.q 21 (.q 22 (.q 23 .nil)))))))))))))))))))))))) [0,0] Z nP (NoP.seq (NoP.seq (NoP.seq (NoP.blk (NoP.seq (NoP.seq (NoP.blk (NoP.seq bi)))))))) QK ?_;refine TD.run al [0] Z Z (Kg Z (KI 0 Z NQ Z Z) Z (Kg Z (Ex.sEq Z (m := []) Z) Z ?_));rcases jF h with⟨p,h⟩ | ⟨p,h⟩
   ·refine TD.run al [3] Z Z ?_;iterate 4 refine KW Z (.gn Z Z (M4 p)) Z ?_
    refine Kg Z (Ld Z (M4 p) Z) Z (TD.run al [9] Z Z ?_);iterate 3 refine KW Z (.gn Z Z Z) Z ?_
    iterate 9 refine KW Z (.gu Z Z) Z ?_
    refine KW Z (.gn Z Z Z) Z (Kg Z (Ld Z Z Z) Z ?_);cases h;exact TD.nil (Kq [0,0])
   refine TD.run al [3] Z Z (TD.q Z (.g Z Z (M5 p)) (KV al Z) Z (TD.q Z (.g Z Z (M5 p)) (KI 0 Z NQ Z Z) Z (TD.q Z (.g Z Z (M5 p)) (KT Z Na) Z (TD.q Z (.g Z Z (M5 p)) (KV al Z) Z (Kg Z (Li Z (M5 p) Z) Z ?_)))));rcases jF h with⟨l,h⟩ | ⟨l,h⟩
   ·refine TD.run al [9] Z Z ?_;iterate 3 refine KW Z (.gn Z Z (M4 l)) Z ?_
    iterate 9 refine KW Z (.gu Z Z) Z ?_
    refine KW Z (.gn Z Z (M4 l)) Z (Kg Z (Ld Z (M4 l) Z) Z ?_);cases h;exact TD.nil (Kq [0,0])
   refine TD.run al [9] Z Z ?_;iterate 3 refine TD.q Z (.g Z Z (M5 l)) (KV al Z) Z ?_
   rcases jF h with⟨c,h⟩ | ⟨c,h⟩
   ·refine TD.q Z (.g Z Z (M4 c)) (KV al Z) Z (TD.q Z (.g Z Z (M4 c)) (KV al Z) Z ?_);obtain⟨aU,h⟩:=aj h;refine TD.q Z (.g Z Z (M4 c)) (Ex.sub Z Z aU) Z ?_;obtain⟨aV,h⟩:=aj h;obtain⟨aq,aa,h⟩:=M1 h;obtain⟨a_,ba,au,av,L⟩:=LM QJ hX aa;obtain⟨aK,L,aw⟩:=L;obtain⟨aW,aX,rfl,ax⟩:=L;have bg:(RX.of (ar 2 cB) [.slice aW aq.Me.length aX] aq.Me).reads w F:=⟨aK,ax,aw⟩;refine TD.q Z (.g Z Z (M4 c)) (KB (k:=((y:Int) - 1).toNat) Z Z ((Int.toNat_of_nonneg aV).symm) Oj Oo (M6 aa).1) Z ?_;refine TD.q Z (.g Z Z (M4 c)) (KV al Z) Z (TD.q Z (.g Z Z (M4 c)) (K5 0 Z NQ av au Z Z) Z (TD.q Z (.g Z Z (M4 c)) (KV al Z) Z (TD.q Z (.g Z Z (M4 c)) (KI 0 Z NQ Z Z) Z (TD.q Z (.g Z Z (M4 c)) (Ex.sGe Z Z) Z (TD.q Z (.g Z Z (M5 l)) (Ld Z (M4 c) Z) Z (Kg Z (Li Z (M5 l) Z) Z ?_))))));rcases jF h with⟨C,h⟩ | ⟨C,h⟩
    ·cases h;exact TD.nil (K3 (d:=44) (v':= .bool false) Z (congrArg Value.bool (bc C)) (Kq [0,0]))
    replace C:=M7 C;cases h;exact TD.nil (K3 (d:=44) (v':= .bool true) Z (congrArg Value.bool (bt C)) (Kq [0,0]))
   refine KW Z (.gn Z Z (M5 c)) Z ?_;iterate 8 refine KW Z (.gn Z Z (M5 c)) Z ?_
   refine TD.q Z (.g Z Z (M5 l)) (Li Z (M5 c) Z) Z (Kg Z (Li Z (M5 l) Z) Z ?_);cases h;exact TD.nil (Kq [0,0])
  rintro _ _ ⟨rfl,rfl⟩;clear h;have h:=K;clear K;try dsimp only at h
  rcases jF h with⟨D,h⟩ | ⟨D,h⟩
  ·refine X.seq (Kr Z D (Ka Z (J9 al 1 Z ?_)));obtain rfl:=M2 h;obtain rfl:=M2 U;exact Kc (T.ret (Ke (Ko (Ke (Ke (Ko (Ke (Km [1] P4 (Kd Z)))))))))
  replace D:=M7 D;refine X.seq (KN Z D (Kv Z (Kf al bj 0 Z 2 Z Z (Kb Z (KC Z Oi) Z (Kk al Z (T.block ?_))))));obtain⟨aY,ab,M⟩:=M1 h;have aZ:=Lb J;refine K4 (fun m e Rs=> ∃ (B:Int) (f:Nat),f+m=a.Me.length/\e = [(0,.slice (some ⟨s,t,none⟩) a0.length c2),(2,jI B),(4,jP A),(10,.slice (some ⟨s,t,none⟩) a0.length c2),(11,jI (a0.length:Int)),(12,jI (y:Int)),(46,.slice z a.Me.length o),(47,jI (a.Me.length:Int)),(48,jI (f:Int))]/\Rs = [aR A 176 #[jS a.Mm,.slice z a.Me.length o],aI]/\dO a (a.Me.drop f) B f=some aY) (a.Me.length) [0,0] ⟨y4,0,by simp,Z,Z,by rw[List.drop_zero]; exact ab⟩ QL QL ?_;clear ab h;rintro W _ _ ⟨B,f,bh,rfl,rfl,h⟩
  cases W with
  | zero =>
   rw[List.drop_of_length_le QI,dO] at h;have ag: ¬ ((f:Int)<(a.Me.length:Int)):=by omega
   refine Ka Z (Kk al Z (T.seq (KN Z (M5 ag) ?_)));obtain rfl:=M2 h;replace h:=M;clear M;exact T.exit (Kx (Kx (K1 (KD (X.seq (T.region Z (Kb Z (Ex.add Z Z QI) Z (J9 al 1 Z (TL.nil (X.back (m':=m9) [1] QI ⟨B,y+1,by omega,Z,Z,h⟩ QL QL))))))))))
  | succ W =>
   obtain⟨n,E⟩: ∃ x,a.Me[f]? = some x:=⟨_,List.getElem?_eq_getElem QI⟩;rw[bN E,dO] at h;have ah:(f:Int)<(a.Me.length:Int):=by omega
   refine Ka Z (Kk al Z (T.seq (Kr Z (M4 ah) (Kw (T.seq (T.block (Ka Z ?_)))))));obtain⟨ad,ae,rfl,bb,bd,ay,az,O⟩:=KU QJ J E;obtain⟨aL,O,aA⟩:=O;obtain⟨P,Q,rfl,aC⟩:=O;have bk:(RX.of (ar 12 dk) [.slice P n.Mq.length Q] n.Mq).reads w F:=⟨aL,aC,aA⟩;refine J9 al 1 Z ?_;refine Kb Z (KB (k:=f) Z Z Z Oi Og (M6 E).1) Z ?_;refine Kb Z (Lf (us := [jI n.Mw,.slice P n.Mq.length Q]) 0 Z PD Og az ay Z Z Z) Z (TL.alloc Z .u Tryz.zeroValue179 Z (fun a1=>(J9 al 1 Z (Kj 0 Z (cs':= #[jI n.Mw,.slice P n.Mq.length Q]) Z .u Z Z Og Z Z Z Z Z (Kc (T.seq ?_))))));obtain⟨a2,h,R⟩:=M1 h;refine K7 (fun e Rs=>e = [(0,.slice (some ⟨s,t,none⟩) a0.length c2),(2,jI B),(4,jP A),(10,.slice (some ⟨s,t,none⟩) a0.length c2),(11,jI (a0.length:Int)),(12,jI (y:Int)),(46,.slice (some ⟨ad,ae,none⟩) a.Me.length o),(47,jI (a.Me.length:Int)),(48,jI (f:Int)),(77,.bool a2)]/\Rs = [aR a1 179 #[jI n.Mw,.slice P n.Mq.length Q],aR A 176 #[jS a.Mm,.slice (some ⟨ad,ae,none⟩) a.Me.length o],aI]) ?_ ?_
   ·clear R;refine KQ (.q 0 (.q 1 (.q 2 (.q 3 (.q 4 (.q 5 (.e 6 (.q 7 (.q 8 (.q 9 (.q 10 (.q 11 (.q 12 (.q 13 (.q 14 (.q 15 (.q 16 (.q 17 (.q 18 (.q 19 (.q 20 (.q 21 (.q 22 (.q 23 (.q 24 .nil))))))))))))))))))))))))) [0,0,0] Z nP (NoP.seq (NoP.seq (NoP.blk (NoP.seq (NoP.seq (NoP.blk (NoP.blk (NoP.seq (NoP.seq (NoP.blk (NoP.seq bi))))))))))) QK ?_;refine TD.run al [0] Z Z (Kg Z (KI 0 Z Nc Z Z) Z ?_);rcases jF h with⟨j,h⟩ | ⟨j,h⟩
    ·refine TD.run al [2,3] Z Z ?_;iterate 2 refine KW Z (.gn Z Z (M4 j)) Z ?_
     refine Lo Z (.gn Z Z (M4 j)) Z [0,0,0] Z (KW Z (.gn Z Z (M4 j)) Z (Kg Z (Ld Z (M4 j) Z) Z (TD.run al [9] Z Z ?_)));iterate 3 refine KW Z (.gn Z Z Z) Z ?_
     iterate 10 refine KW Z (.gu Z Z) Z ?_
     refine KW Z (.gn Z Z Z) Z (Kg Z (Ld Z Z Z) Z ?_);cases h;exact TD.nil (Kq [0,0,0])
    refine TD.run al [2,3] Z Z (TD.q Z (.g Z Z (M5 j)) (KV al Z) Z (TD.q Z (.g Z Z (M5 j)) (KI 0 Z Nc Z Z) Z ?_));obtain⟨bn,aN,h⟩:=M1 h;refine Lh Z (.g Z Z (M5 j)) (.fn Tryz.call101 Z) (KM (fun w=>dG n.Mw 4 _ aN w)) (fun _ _=>Ku _ _) Z [0,0,0] (Z) (TD.q Z (.g Z Z (M5 j)) (KV al Z) Z (Kg Z (Li Z (M5 j) Z) Z ?_));rcases jF h with⟨i,h⟩ | ⟨i,h⟩
    ·refine TD.run al [9] Z Z ?_;iterate 3 refine TD.q Z (.g Z Z (bc i)) (KV al Z) Z ?_
     rcases jF h with⟨b,h⟩ | ⟨b,h⟩
     ·refine TD.q Z (.g Z Z (M4 b)) (KV al Z) Z (TD.q Z (.g Z Z (M4 b)) (KI 1 Z PS Z Z) Z (TD.q Z (.g Z Z (M4 b)) (KV al Z) Z ?_));obtain⟨a3,h⟩:=aj h;refine TD.q Z (.g Z Z (M4 b)) (Ex.sub Z Z a3) Z ?_;obtain⟨a4,h⟩:=aj h;obtain⟨aD,af,h⟩:=M1 h;obtain⟨be,bf,aE,aF,S⟩:=LM QJ J af;obtain⟨aO,S,aG⟩:=S;obtain⟨a5,a6,rfl,aH⟩:=S;have bl:(RX.of (ar 12 dk) [.slice a5 aD.Mq.length a6] aD.Mq).reads w F:=⟨aO,aH,aG⟩;refine TD.q Z (.g Z Z (M4 b)) (KB (k:=((f:Int) - 1).toNat) Z Z ((Int.toNat_of_nonneg a4).symm) Oi Og (M6 af).1) Z ?_;refine TD.q Z (.g Z Z (M4 b)) (KV al Z) Z (TD.q Z (.g Z Z (M4 b)) (K5 0 Z Nc aF aE Z Z) Z (TD.q Z (.g Z Z (M4 b)) (KV al Z) Z (TD.q Z (.g Z Z (M4 b)) (KI 0 Z Nc Z Z) Z (TD.q Z (.g Z Z (M4 b)) (KV al Z) Z (TD.q Z (.g Z Z (bc i)) (Ld Z (M4 b) Z) Z (Kg Z (Li Z (bc i) Z) Z ?_))))));rcases jF h with⟨Y,h⟩ | ⟨Y,h⟩
      ·cases h;exact TD.nil (K3 (d:=77) (v':= .bool true) Z (congrArg Value.bool (M4 Y)) (Kq [0,0,0]))
      cases h;exact TD.nil (K3 (d:=77) (v':= .bool false) Z (congrArg Value.bool (M5 Y)) (Kq [0,0,0]))
     refine KW Z (.gn Z Z (M5 b)) Z ?_;iterate 9 refine KW Z (.gn Z Z (M5 b)) Z ?_
     refine TD.q Z (.g Z Z (bc i)) (Li Z (M5 b) Z) Z (Kg Z (Li Z (bc i) Z) Z ?_);cases h;exact TD.nil (Kq [0,0,0])
    replace i:=M7 i;refine TD.run al [9] Z Z ?_;iterate 3 refine KW Z (.gn Z Z (bt i)) Z ?_
    iterate 10 refine KW Z (.gu Z Z) Z ?_
    refine KW Z (.gn Z Z (bt i)) Z (Kg Z (Ld Z (bt i) Z) Z ?_);cases h;exact TD.nil (Kq [0,0,0])
   rintro _ _ ⟨rfl,rfl⟩;clear h;have h:=R;clear R;try dsimp only at h
   rcases jF h with⟨G,h⟩ | ⟨G,h⟩
   ·refine X.seq (Kr Z G (Ka Z (J9 al 1 Z ?_)));obtain rfl:=M2 h;obtain rfl:=M2 M;obtain rfl:=M2 U;exact Kc (T.ret (Ko (Ke (Ke (Ko (Ko (Ke (Ke (Ko (Ke (Km [2] P4 (Kd Z))))))))))))
   replace G:=M7 G;exact X.seq (KN Z G (T.skip (KD (X.seq (T.region Z (Kb Z (Ex.add Z Z QI) Z (J9 al 1 Z (TL.nil (X.back (m':=W) [1,1] QI ⟨B,f+1,by omega,Z,Z,h⟩ QL QL)))))))))
def bV (a0:aC):List Bat->Int->Option (Lp Int Int)
 | [],a=>some (Lp.go a)
 | b::xs,a=>(dX b).bind fun c=>if c=0 then (if b.ML=true then some (Lp.ret 12) else (if (b.MI == a0.Mk.null)=true then some (Lp.ret 8) else (bV a0 xs a))) else some (Lp.ret c)
def dY (a0:aC) (a1:List Bat) (a2:Int):Option (Int):=(if (a1.length:Int)=0 then some true else (if a2<4 then (if (a1.length:Int)>1 then some true else some false) else some false)).bind fun a=>if a=true then some 10 else ((bV a0 a1 0).bind fun e=>match e with | .ret r=>some r | .go b=>some 0)
theorem lP (a0:aC) (H:AT) (c2:Nat) (a1:List Bat) (I:AT) (J:Nat) (a2:Int) (r:Int) (h:dY a0 a1 a2=some r):aB Tryz.prog 195 #[.agg #[.bool a0.Mk.null,jS a0.Mk.data,jI a0.Mz,jI a0.Mh,.slice H a0.Mc.length c2],.slice I a1.length J,jI a2] (RX.and (RX.of (ar 2 aT) [.slice H a0.Mc.length c2] a0.Mc) (RX.of (ar 12 dk) [.slice I a1.length J] a1)) (aI) (fun v A' N=>v=jI r/\A'=aI/\N = []):=by
 refine aS Tryz.func195 Z Tryz.ntmps195 Z ?_;intro F w hX;unfold dY at h;refine Ka Z (TL.box Z .u Z Z (fun K=>(Kk al Z (Lq ?_))));obtain⟨y8,h,t⟩:=M1 h;refine K7 (fun e Rs=>e = [(1,.slice I a1.length J),(3,jP K),(6,jI 0),(21,.bool y8)]/\Rs = [aR K 36 #[.bool a0.Mk.null,jS a0.Mk.data,jI a0.Mz,jI a0.Mh,.slice H a0.Mc.length c2],aI]) ?_ ?_
 ·clear t;refine T.region Z (J9 al 1 Z (Kb Z (KC Z NR) Z ?_));rcases jF h with⟨y,h⟩ | ⟨y,h⟩
  ·refine J9 al 2 Z (Kh 13 Z (M4 y) (Ki al 8 Z ?_));cases h;exact TL.nil (Kq [0,0])
  refine J9 al 2 Z (Kh 13 Z (M5 y) ?_);rcases jF h with⟨z,h⟩ | ⟨z,h⟩
  ·refine Ki al 3 Z (Kh 16 Z (M4 z) (Ki al 1 Z (TL.q Z (.g Z Z Z) (KC Z NR) Z (Ki al 3 Z ?_))));rcases jF h with⟨A,h⟩ | ⟨A,h⟩
   ·cases h;exact TL.nil (K3 (d:=21) (v':= .bool true) Z (congrArg Value.bool (M4 A)) (Kq [0,0]))
   cases h;exact TL.nil (K3 (d:=21) (v':= .bool false) Z (congrArg Value.bool (M5 A)) (Kq [0,0]))
  refine Ki al 3 Z (Kh 16 Z (M5 z) (Ki al 5 Z ?_));cases h;exact TL.nil (Kq [0,0])
 rintro _ _ ⟨rfl,rfl⟩;clear h;have h:=t;clear t;try dsimp only at h
 rcases jF h with⟨i,h⟩ | ⟨i,h⟩
 ·refine X.seq (Kr Z i (Ka Z (J9 al 1 Z ?_)));obtain rfl:=M2 h;exact Kc (T.ret (Ke (Km [1] P5 (Kd Z))))
 replace i:=M7 i;refine X.seq (KN Z i (Kw (T.seq (Ka Z (J9 al 1 Z (Kb Z (KC Z NR) Z (Kk al Z (T.block ?_))))))));obtain⟨V,B,b⟩:=M1 h;have U:=Lb (KP hX);refine K4 (fun m e Rs=> ∃ (o:Int) (a:Nat),a+m=a1.length/\e = [(3,jP K),(6,jI o),(22,.slice I a1.length J),(23,jI (a1.length:Int)),(24,jI (a:Int))]/\Rs = [aR K 36 #[.bool a0.Mk.null,jS a0.Mk.data,jI a0.Mz,jI a0.Mh,.slice H a0.Mc.length c2],aI]/\bV a0 (a1.drop a) o=some V) (a1.length) [0,0] ⟨0,0,by simp,Z,Z,by rw[List.drop_zero]; exact B⟩ QL QL ?_;clear B h;rintro C _ _ ⟨o,a,aa,rfl,rfl,h⟩
 cases C with
 | zero =>
  rw[List.drop_of_length_le QI,bV] at h;have D: ¬ ((a:Int)<(a1.length:Int)):=by omega
  refine Ka Z (Kk al Z (T.seq (KN Z (M5 D) ?_)));obtain rfl:=M2 h;replace h:=b;clear b;refine T.exit (Kx (Kx (K1 (X.seq (Ka Z (J9 al 1 Z ?_))))));obtain rfl:=M2 h;exact Kc (T.ret (Km [1] P5 (Kd Z)))
 | succ C =>
  obtain⟨c,f⟩: ∃ x,a1[a]? = some x:=⟨_,List.getElem?_eq_getElem QI⟩;rw[bN f,bV] at h;have E:(a:Int)<(a1.length:Int):=by omega
  refine Ka Z (Kk al Z (T.seq (Kr Z (M4 E) ?_)));obtain⟨ab,ad,rfl,W,Y,L,M,n⟩:=KU QJ (KP hX) f;obtain⟨Q,n,O⟩:=n;obtain⟨p,s,rfl,P⟩:=n;have R:(RX.of (ar 7 cY) [.slice p c.Mg.length s] c.Mg).reads w F:=⟨Q,P,O⟩;refine Kw (T.seq (T.block (Ka Z ?_)));refine Kb Z (KB (k:=a) Z Z Z NR Nl (M6 f).1) Z ?_;refine Kb Z (Lf (us:=wL7 c p s) 0 Z NI Nl M L Z Z Z) Z (TL.alloc Z .u Tryz.zeroValue97 Z (fun ae=>(Kj 0 Z (cs':=wA6 c p s) Z .u Z Z Nl Z Z Z Z Z (Kc (T.seq (Ka Z (Kb Z (Kp (us:=wL7 c p s) 0 Z NI Nl Z Z Z) Z ?_)))))));obtain⟨af,S,h⟩:=M1 h;refine Kt Z .u (.fn Tryz.call81 Z) (j5 c _ _ _ S) (fun _ hs=>(KL hs R)) Z (KJ al Z Z (J9 al 2 Z ?_));rcases jF h with⟨G,h⟩ | ⟨G,h⟩
  ·refine KG Z G (Kw (T.block (Ka Z (Kf al bj 0 Z 3 Z Z ?_))));rcases jF h with⟨j,h⟩ | ⟨j,h⟩
   ·refine Kc (Kr Z j (Ka Z (J9 al 1 Z ?_)));obtain rfl:=M2 h;obtain rfl:=M2 b;exact Kc (T.ret (Ko (Ko (Ke (Ke (Ko (Ke (Km [2] P5 (Kd Z)))))))))
   replace j:=M7 j;refine Kc (KN Z j (Ka Z (Kf al bj 0 Z 4 Z Z (Kf al bj 1 Z 1 Z Z (Kb Z (Ex.bEq Z Z Z Z NK) Z (J9 al 1 Z ?_))))));rcases jF h with⟨l,h⟩ | ⟨l,h⟩
   ·refine Kc (Kr Z l (Ka Z (J9 al 1 Z ?_)));obtain rfl:=M2 h;obtain rfl:=M2 b;exact Kc (T.ret (Ko (Ko (Ke (Ke (Ko (Ke (Km [2] P5 (Kd Z)))))))))
   replace l:=M7 l;exact Kc (KN Z l (T.skip (KD (KD (X.seq (T.region Z (Kb Z (Ex.add Z Z QI) Z (J9 al 1 Z (TL.nil (X.back (m':=C) [1,1] QI ⟨o,a+1,by omega,Z,Z,h⟩ QL QL))))))))))
  refine KF Z G (Ka Z (J9 al 2 Z ?_));obtain rfl:=M2 h;obtain rfl:=M2 b;exact Kc (T.ret (Ke (Ko (Ke (Ke (Ko (Ke (Km [2] P5 (Kd Z)))))))))
def cu (a0:aC) (a1:Int):List bl->Int->Option (Lp Int Int)
 | [],a=>some (Lp.go a)
 | c::xs,a=>(dY a0 c.Mq a1).bind fun b=>if b=0 then (cu a0 a1 xs a) else some (Lp.ret b)
def cw (a0:aC) (a1:Int):List aM->Int->Option (Lp Int Int)
 | [],a=>some (Lp.go a)
 | b::xs,a=>(cu a0 a1 b.Me a).bind fun e=>match e with | .ret r=>some (Lp.ret r) | .go c=>(cw a0 a1 xs c)
def cC (a0:aC) (a1:Int):Option (Int):=((qp a0.Mk).bind fun b=>if b=true then (if a0.Mk.null=true then some false else ((nJ a0.Mk.data).bind fun c=>if c=true then some false else some true)) else some true).bind fun d=>if d=true then some 4 else ((if a0.Mz<(-1) then some true else (if a0.Mz>1 then some true else (if a0.Mh<0 then some true else ((jy a0.Mh 4).bind fun f=>if f=true then some false else some true)))).bind fun g=>if g=true then some 11 else ((ji a0.Mc).bind fun a=>if a=0 then ((cw a0 a1 a0.Mc 0).bind fun e=>match e with | .ret r=>some r | .go h=>some 0) else some a))
theorem iP (a0:aC) (L:AT) (c2:Nat) (a1:Int) (r:Int) (h:cC a0 a1=some r):aB Tryz.prog 156 #[.agg #[.bool a0.Mk.null,jS a0.Mk.data,jI a0.Mz,jI a0.Mh,.slice L a0.Mc.length c2],jI a1] (RX.of (ar 2 aT) [.slice L a0.Mc.length c2] a0.Mc) (aI) (fun v A' N=>v=jI r/\A'=aI/\N = []):=by
 refine aS Tryz.func156 Z Tryz.ntmps156 Z ?_;intro F w hX;unfold cC at h;refine Ka Z (TL.box Z .u Z Z (fun l=>(Kk al Z (T.seq (T.block (T.seq ?_))))));obtain⟨aF,h,B⟩:=M1 h;refine K7 (fun e Rs=>e = [(1,jI a1),(2,jP l),(4,jI 0),(11,.bool aF)]/\Rs = [aR l 36 #[.bool a0.Mk.null,jS a0.Mk.data,jI a0.Mz,jI a0.Mh,.slice L a0.Mc.length c2],aI]) ?_ ?_
 ·clear B;refine T.region Z (J9 al 1 Z (Kb Z (Kp (us:=wL0 a0.Mk) 0 Z NL Nh Z Z Z) Z ?_));obtain⟨aW,aq,h⟩:=M1 h;refine Kt Z .u (.fn Tryz.call148 Z) (nI a0.Mk _ aq) rT Z ?_;rcases jF h with⟨n,h⟩ | ⟨n,h⟩
  ·refine J9 al 2 Z (Kh 16 Z (bc n) ?_);rcases jF h with⟨o,h⟩ | ⟨o,h⟩
   ·refine Kf al bj 0 Z 5 Z Z (Kh 21 Z (bc o) (Ki al 8 Z ?_));cases h;exact TL.nil (Kq [0,0])
   replace o:=M7 o;refine Kf al bj 0 Z 5 Z Z (Kh 21 Z (bt o) ?_);obtain⟨aX,au,h⟩:=M1 h;refine Kf al bj 0 Z 3 Z Z (Kt Z (.g Z Z Z) (.fn Tryz.call87 Z) (KM (fun w=>mv a0.Mk.data _ au w)) (fun _ _=>Ku _ _) Z (Ki al 4 Z ?_));rcases jF h with⟨p,h⟩ | ⟨p,h⟩
   ·cases h;exact TL.nil (K3 (d:=11) (v':= .bool false) Z (congrArg Value.bool (bc p)) (Kq [0,0]))
   replace p:=M7 p;cases h;exact TL.nil (K3 (d:=11) (v':= .bool true) Z (congrArg Value.bool (bt p)) (Kq [0,0]))
  replace n:=M7 n;refine J9 al 2 Z (Kh 16 Z (bt n) (Ki al 13 Z ?_));cases h;exact TL.nil (Kq [0,0])
 rintro _ _ ⟨rfl,rfl⟩;clear h;have h:=B;clear B;try dsimp only at h
 rcases jF h with⟨q,h⟩ | ⟨q,h⟩
 ·refine X.seq (Kr Z q (Ka Z (J9 al 1 Z ?_)));obtain rfl:=M2 h;exact Kc (T.ret (Ko (Ke (Km [1] P6 (Kd Z)))))
 replace q:=M7 q;refine X.seq (KN Z q (T.seq ?_));obtain⟨aG,h,C⟩:=M1 h;refine K7 (fun e Rs=>e = [(1,jI a1),(2,jP l),(4,jI 0),(29,.bool aG)]/\Rs = [aR l 36 #[.bool a0.Mk.null,jS a0.Mk.data,jI a0.Mz,jI a0.Mh,.slice L a0.Mc.length c2],aI]) ?_ ?_
 ·clear C;refine T.region Z ?_;rcases jF h with⟨M,h⟩ | ⟨M,h⟩
  ·refine Kf al bj 0 Z 4 Z Z (Kh 33 Z (M4 M) (Ki al 16 Z ?_));cases h;exact TL.nil (Kq [0,0])
  refine Kf al bj 0 Z 4 Z Z (Kh 33 Z (M5 M) ?_);rcases jF h with⟨O,h⟩ | ⟨O,h⟩
  ·refine Kf al bj 0 Z 5 Z Z (Kh 38 Z (M4 O) (Ki al 11 Z ?_));cases h;exact TL.nil (Kq [0,0])
  refine Kf al bj 0 Z 5 Z Z (Kh 38 Z (M5 O) ?_);rcases jF h with⟨P,h⟩ | ⟨P,h⟩
  ·refine Kf al bj 0 Z 5 Z Z (Kh 43 Z (M4 P) (Ki al 6 Z ?_));cases h;exact TL.nil (Kq [0,0])
  refine Kf al bj 0 Z 5 Z Z (Kh 43 Z (M5 P) ?_);obtain⟨aY,av,h⟩:=M1 h;refine Kf al bj 0 Z 2 Z Z (Kt Z (.g Z Z Z) (.fn Tryz.call101 Z) (KM (fun w=>dG a0.Mh 4 _ av w)) (fun _ _=>Ku _ _) Z (Ki al 3 Z ?_));rcases jF h with⟨s,h⟩ | ⟨s,h⟩
  ·cases h;exact TL.nil (K3 (d:=29) (v':= .bool false) Z (congrArg Value.bool (bc s)) (Kq [0,0]))
  replace s:=M7 s;cases h;exact TL.nil (K3 (d:=29) (v':= .bool true) Z (congrArg Value.bool (bt s)) (Kq [0,0]))
 rintro _ _ ⟨rfl,rfl⟩;clear h;have h:=C;clear C;try dsimp only at h
 rcases jF h with⟨t,h⟩ | ⟨t,h⟩
 ·refine X.seq (Kr Z t (Ka Z (J9 al 1 Z ?_)));obtain rfl:=M2 h;exact Kc (T.ret (Ko (Ke (Km [1] P6 (Kd Z)))))
 replace t:=M7 t;refine X.seq (KN Z t (T.skip (KD (X.seq (T.seq (Ka Z ?_))))));obtain⟨aZ,aw,h⟩:=M1 h;refine Kf al bj 0 Z 2 Z Z (Kt Z .u (.fn Tryz.call194 Z) (rB a0.Mc _ _ _ aw) (fun _ hs=>(KL hs hX)) Z (KJ al Z Z (J9 al 2 Z ?_)));rcases jF h with⟨Q,h⟩ | ⟨Q,h⟩
 ·refine KG Z Q (Kw (T.seq (Ka Z (Kf al bj 0 Z 2 Z Z (Kb Z (KC Z Oj) Z (Kk al Z (T.block ?_)))))));obtain⟨aH,R,D⟩:=M1 h;have aD:=Lb hX;refine K4 (fun m e Rs=> ∃ (K:Int) (b:Nat),b+m=a0.Mc.length/\e = [(1,jI a1),(2,jP l),(4,jI K),(56,.slice L a0.Mc.length c2),(57,jI (a0.Mc.length:Int)),(58,jI (b:Int))]/\Rs = [aR l 36 #[.bool a0.Mk.null,jS a0.Mk.data,jI a0.Mz,jI a0.Mh,.slice L a0.Mc.length c2],aI]/\cw a0 a1 (a0.Mc.drop b) K=some aH) (a0.Mc.length) [0,0] ⟨0,0,by simp,Z,Z,by rw[List.drop_zero]; exact R⟩ QL QL ?_;clear R h;rintro S _ _ ⟨K,b,aP,rfl,rfl,h⟩
  cases S with
  | zero =>
   rw[List.drop_of_length_le QI,cw] at h;have U: ¬ ((b:Int)<(a0.Mc.length:Int)):=by omega
   refine Ka Z (Kk al Z (T.seq (KN Z (M5 U) ?_)));obtain rfl:=M2 h;replace h:=D;clear D;refine T.exit (Kx (Kx (K1 (X.seq (Ka Z (J9 al 1 Z ?_))))));obtain rfl:=M2 h;exact Kc (T.ret (Km [1] P6 (Kd Z)))
  | succ S =>
   obtain⟨a,i⟩: ∃ x,a0.Mc[b]? = some x:=⟨_,List.getElem?_eq_getElem QI⟩;rw[bN i,cw] at h;have V:(b:Int)<(a0.Mc.length:Int):=by omega
   refine Ka Z (Kk al Z (T.seq (Kr Z (M4 V) ?_)));obtain⟨E,G,rfl,aL,aM,ah,ai,H⟩:=KU QJ hX i;obtain⟨ax,H,aj⟩:=H;obtain⟨y,z,rfl,ak⟩:=H;have W:(RX.of (ar 2 cB) [.slice y a.Me.length z] a.Me).reads w F:=⟨ax,ak,aj⟩;refine Kw (T.seq (T.block (Ka Z ?_)));refine Kb Z (KB (k:=b) Z Z Z Oj Oo (M6 i).1) Z ?_;refine Kb Z (Lf (us := [jS a.Mm,.slice y a.Me.length z]) 0 Z Qf Oo ai ah Z Z Z) Z (TL.alloc Z .u Tryz.zeroValue176 Z (fun aJ=>(Kj 0 Z (cs':= #[jS a.Mm,.slice y a.Me.length z]) Z .u Z Z Oo Z Z Z Z Z (Ky Z (Kf al bj 0 Z 2 Z Z (Kb Z (KC Z Oi) Z (Kk al Z (T.block ?_))))))));obtain⟨aK,Y,I⟩:=M1 h;have aE:=Lb W;refine K4 (fun m e Rs=> ∃ (A:Int) (c:Nat),c+m=a.Me.length/\e = [(1,jI a1),(2,jP l),(4,jI A),(56,.slice (some ⟨E,G,none⟩) a0.Mc.length c2),(57,jI (a0.Mc.length:Int)),(58,jI (b:Int)),(63,.slice y a.Me.length z),(64,jI (a.Me.length:Int)),(65,jI (c:Int))]/\Rs = [aR aJ 176 #[jS a.Mm,.slice y a.Me.length z],aR l 36 #[.bool a0.Mk.null,jS a0.Mk.data,jI a0.Mz,jI a0.Mh,.slice (some ⟨E,G,none⟩) a0.Mc.length c2],aI]/\cu a0 a1 (a.Me.drop c) A=some aK) (a.Me.length) [0,0,0] ⟨K,0,by simp,Z,Z,by rw[List.drop_zero]; exact Y⟩ QL QL ?_;clear Y h;rintro aa _ _ ⟨A,c,aQ,rfl,rfl,h⟩
   cases aa with
   | zero =>
    rw[List.drop_of_length_le QI,cu] at h;have ab: ¬ ((c:Int)<(a.Me.length:Int)):=by omega
    refine Ka Z (Kk al Z (T.seq (KN Z (M5 ab) ?_)));obtain rfl:=M2 h;replace h:=I;clear I;exact T.exit (Kx (Kx (K1 (KD (X.seq (T.region Z (Kb Z (Ex.add Z Z QI) Z (J9 al 1 Z (TL.nil (X.back (m':=S) [1,1] QI ⟨A,b+1,by omega,Z,Z,h⟩ QL QL))))))))))
   | succ aa =>
    obtain⟨f,j⟩: ∃ x,a.Me[c]? = some x:=⟨_,List.getElem?_eq_getElem QI⟩;rw[bN j,cu] at h;have ad:(c:Int)<(a.Me.length:Int):=by omega
    refine Ka Z (Kk al Z (T.seq (Kr Z (M4 ad) ?_)));obtain⟨aU,aV,rfl,aN,aO,am,an,J⟩:=KU QJ W j;obtain⟨ay,J,ao⟩:=J;obtain⟨ae,af,rfl,ap⟩:=J;have az:(RX.of (ar 12 dk) [.slice ae f.Mq.length af] f.Mq).reads w F:=⟨ay,ap,ao⟩;refine Kw (T.seq (T.block (Ka Z ?_)));refine Kb Z (KB (k:=c) Z Z Z Oi Og (M6 j).1) Z ?_;refine Kb Z (Lf (us := [jI f.Mw,.slice ae f.Mq.length af]) 0 Z PD Og an am Z Z Z) Z (TL.alloc Z .u Tryz.zeroValue179 Z (fun a2=>(Kj 0 Z (cs':= #[jI f.Mw,.slice ae f.Mq.length af]) Z .u Z Z Og Z Z Z Z Z (Ky Z (Kb Z (Kp (us := [.bool a0.Mk.null,jS a0.Mk.data,jI a0.Mz,jI a0.Mh,.slice (some ⟨E,G,none⟩) a0.Mc.length c2]) 2 Z Po Om Z Z Z) Z ?_)))));obtain⟨a3,aA,h⟩:=M1 h;refine Kf al bj 0 Z 3 Z Z (Kt Z .u (.fn Tryz.call195 Z) (lP a0 _ _ f.Mq _ _ a1 _ aA) (fun _ hs=>(La (KL hs hX) (KL hs az))) Z (KJ al Z Z (J9 al 2 Z ?_)));rcases jF h with⟨ag,h⟩ | ⟨ag,h⟩
    ·exact KG Z ag (T.skip (KD (X.seq (T.region Z (Kb Z (Ex.add Z Z QI) Z (J9 al 1 Z (TL.nil (X.back (m':=aa) [1,1,1] QI ⟨A,c+1,by omega,Z,Z,h⟩ QL QL))))))))
    refine KF Z ag (Ka Z (J9 al 2 Z ?_));obtain rfl:=M2 h;obtain rfl:=M2 I;obtain rfl:=M2 D;exact Kc (T.ret (Ko (Ke (Ke (Ko (Ko (Ke (Ke (Ko (Ke (Km [3] P6 (Kd Z))))))))))))
 refine KF Z Q (Ka Z (J9 al 2 Z ?_));obtain rfl:=M2 h;exact Kc (T.ret (Ke (Km [1] P6 (Kd Z))))
def dC:List bl->(AI×Int)->Option (AI×Int)
 | [],a=>some a
 | e::xs,a=>(qI e.Mq).bind fun (i,f)=>(if f=0 then some a else ((lX a f).bind fun b=>some b)).bind fun g=>(ed g e.Mw 4).bind fun c=>(gOf i).bind fun h=>(mC c h 4).bind fun d=>dC xs d
def dD:List aM->(AI×Int)->Option (AI×Int)
 | [],a=>some a
 | b::xs,a=>((oh a b.Mm).bind fun d=>(ed d (b.Me.length:Int) 4).bind fun e=>(dC b.Me e).bind fun c=>some c).bind fun f=>dD xs f
def iq (st:AI×Int) (a0:aC) (a2:Int):Option (AI×Int):=(cC a0 a2).bind fun e=>if e=0 then ((mC st a0.Mk 2).bind fun f=>(ed f a0.Mz 2).bind fun g=>(ed g a0.Mh 4).bind fun c=>(ed c (a0.Mc.length:Int) 4).bind fun d=>(dD a0.Mc d).bind fun a=>some a) else ((lX st e).bind fun b=>some b)
theorem mz (g:Nat) (st:AI×Int) (a0:aC) (s:AT) (c2:Nat) (a2:Int) (r:AI×Int) (h:iq st a0 a2=some r):aB Tryz.prog 100 #[.agg #[.bool a0.Mk.null,jS a0.Mk.data,jI a0.Mz,jI a0.Mh,.slice s a0.Mc.length c2],jP g,jI a2] (RX.of (ar 2 aT) [.slice s a0.Mc.length c2] a0.Mc) (bz g st) (fun v A' N=>v= .tuple #[]/\A'=bz g r/\N = []):=by
 refine aS Tryz.func100 Z Tryz.ntmps100 Z ?_;intro F w hX;unfold iq at h;refine Ka Z (TL.box Z .u Z Z (fun V=>(Kc (T.seq (Ka Z (Kb Z (Kp (us := [.bool a0.Mk.null,jS a0.Mk.data,jI a0.Mz,jI a0.Mh,.slice s a0.Mc.length c2]) 0 Z Po Om Z Z Z) Z ?_))))));obtain⟨x4,aO,h⟩:=M1 h;refine J9 al 1 Z (Kt Z .u (.fn Tryz.call156 Z) (iP a0 _ _ a2 _ aO) (fun _ hs=>(KL hs hX)) Z (KJ al Z Z (J9 al 2 Z ?_)));rcases jF h with⟨c6,h⟩ | ⟨c6,h⟩
 ·refine KG Z c6 (Kv Z (J9 al 2 Z (Kb Z (Kp (us:=wL0 a0.Mk) 0 Z NL Nh Z Z Z) Z ?_)));obtain⟨aP,aQ,h⟩:=M1 h;refine Kn 1 Z Z .u (.fn Tryz.call95 Z) (kp g st a0.Mk 2 _ aQ) sT Z Z (Ky Z ?_);obtain⟨aU,av,h⟩:=M1 h;refine Kf al bj 0 Z 3 Z Z (Kn 1 Z Z .u (.fn Tryz.call51 Z) (bu g aP a0.Mz 2 _ av) sT Z Z (Ky Z ?_));obtain⟨aw,ax,h⟩:=M1 h;refine Kf al bj 0 Z 3 Z Z (Kn 1 Z Z .u (.fn Tryz.call51 Z) (bu g aU a0.Mh 4 _ ax) sT Z Z (Ky Z (Kf al bj 0 Z 3 Z Z (Kb Z (KC Z Oj) Z ?_))));obtain⟨ay,az,h⟩:=M1 h;refine Kn 1 Z Z .u (.fn Tryz.call51 Z) (bu g aw (a0.Mc.length:Int) 4 _ az) sT Z Z (Ky Z (Kf al bj 0 Z 2 Z Z (Kb Z (KC Z Oj) Z (Kk al Z (T.block ?_)))));obtain⟨aV,D,aA⟩:=M1 h;have aM:=Lb hX;refine K4 (fun m e Rs=> ∃ (b:Nat) (i:AI×Int),b+m=a0.Mc.length/\e = [(1,jP g),(39,.slice s a0.Mc.length c2),(40,jI (a0.Mc.length:Int)),(41,jI (b:Int))]/\Rs = [aR V 36 #[.bool a0.Mk.null,jS a0.Mk.data,jI a0.Mz,jI a0.Mh,.slice s a0.Mc.length c2],bz g i]/\dD (a0.Mc.drop b) i=some aV) (a0.Mc.length) [0,0] ⟨0,ay,by simp,Z,Z,by rw[List.drop_zero]; exact D⟩ QL QL ?_;clear D h;rintro E _ _ ⟨b,i,a6,rfl,rfl,h⟩
  cases E with
  | zero =>
   rw[List.drop_of_length_le QI,dD] at h;have G: ¬ ((b:Int)<(a0.Mc.length:Int)):=by omega
   refine Ka Z (Kk al Z (T.seq (KN Z (M5 G) ?_)));obtain rfl:=M2 h;obtain rfl:=M2 aA;exact T.exit (Kx (Kx (K1 (Lm [1] Tryz.results100 ⟨Z,Z,Z⟩ QL (.inr Z)))))
  | succ E =>
   obtain⟨a,j⟩: ∃ x,a0.Mc[b]? = some x:=⟨_,List.getElem?_eq_getElem QI⟩;rw[bN j,dD] at h;have H:(b:Int)<(a0.Mc.length:Int):=by omega
   refine Ka Z (Kk al Z (T.seq (Kr Z (M4 H) (Kw (T.seq ?_)))));obtain⟨I,h,t⟩:=M1 h;refine K7 (fun e Rs=>e = [(1,jP g),(39,.slice s a0.Mc.length c2),(40,jI (a0.Mc.length:Int)),(41,jI (b:Int))]/\Rs = [aR V 36 #[.bool a0.Mk.null,jS a0.Mk.data,jI a0.Mz,jI a0.Mh,.slice s a0.Mc.length c2],bz g I]) ?_ ?_
   ·clear t;obtain⟨l,n,rfl,aY,aZ,W,Y,y⟩:=KU QJ hX j;obtain⟨aD,y,aa⟩:=y;obtain⟨q,f,rfl,ab⟩:=y;have J:(RX.of (ar 2 cB) [.slice q a.Me.length f] a.Me).reads w F:=⟨aD,ab,aa⟩;refine T.block (Ka Z ?_);refine Kb Z (KB (k:=b) Z Z Z Oj Oo (M6 j).1) Z ?_;refine Kb Z (Lf (us := [jS a.Mm,.slice q a.Me.length f]) 0 Z Qf Oo Y W Z Z Z) Z (TL.alloc Z .u Tryz.zeroValue176 Z (fun ap=>(Kj 0 Z (cs':= #[jS a.Mm,.slice q a.Me.length f]) Z .u Z Z Oo Z Z Z Z Z (Ky Z ?_))));obtain⟨aE,aF,h⟩:=M1 h;refine Kf al bj 0 Z 3 Z Z (Kn 2 Z Z .u (.fn Tryz.call88 Z) (ly g i a.Mm _ aF) sT Z Z (Ky Z (Kf al bj 0 Z 3 Z Z (Kb Z (KC Z Oi) Z ?_))));obtain⟨aG,aH,h⟩:=M1 h;refine Kn 2 Z Z .u (.fn Tryz.call51 Z) (bu g aE (a.Me.length:Int) 4 _ aH) sT Z Z (Ky Z (Kf al bj 0 Z 2 Z Z (Kb Z (KC Z Oi) Z (Kk al Z (T.block ?_)))));obtain⟨aW,K,L⟩:=M1 h;have aN:=Lb J;refine K4 (fun m e Rs=> ∃ (c:Nat) (o:AI×Int),c+m=a.Me.length/\e = [(1,jP g),(39,.slice (some ⟨l,n,none⟩) a0.Mc.length c2),(40,jI (a0.Mc.length:Int)),(41,jI (b:Int)),(55,.slice q a.Me.length f),(56,jI (a.Me.length:Int)),(57,jI (c:Int))]/\Rs = [aR ap 176 #[jS a.Mm,.slice q a.Me.length f],aR V 36 #[.bool a0.Mk.null,jS a0.Mk.data,jI a0.Mz,jI a0.Mh,.slice (some ⟨l,n,none⟩) a0.Mc.length c2],bz g o]/\dC (a.Me.drop c) o=some aW) (a.Me.length) [0,0,0] ⟨0,aG,by simp,Z,Z,by rw[List.drop_zero]; exact K⟩ QL QL ?_;clear K h;rintro M _ _ ⟨c,o,a7,rfl,rfl,h⟩
    cases M with
    | zero =>
     rw[List.drop_of_length_le QI,dC] at h;have O: ¬ ((c:Int)<(a.Me.length:Int)):=by omega
     refine Ka Z (Kk al Z (T.seq (KN Z (M5 O) ?_)));obtain rfl:=M2 h;replace h:=L;clear L;try dsimp only at h
     cases h;exact T.exit (Kx (Kx (K1 (KD (Kq [1,1])))))
    | succ M =>
     obtain⟨d,p⟩: ∃ x,a.Me[c]? = some x:=⟨_,List.getElem?_eq_getElem QI⟩;rw[bN p,dC] at h;have P:(c:Int)<(a.Me.length:Int):=by omega
     refine Ka Z (Kk al Z (T.seq (Kr Z (M4 P) ?_)));obtain⟨Q,R,rfl,a1,a3,ad,ae,z⟩:=KU QJ J p;obtain⟨aI,z,af⟩:=z;obtain⟨B,C,rfl,ag⟩:=z;have aJ:(RX.of (ar 12 dk) [.slice B d.Mq.length C] d.Mq).reads w F:=⟨aI,ag,af⟩;refine Kw (T.seq (T.block (Ka Z ?_)));refine Kb Z (KB (k:=c) Z Z Z Oi Og (M6 p).1) Z ?_;refine Kb Z (Lf (us := [jI d.Mw,.slice B d.Mq.length C]) 0 Z PD Og ae ad Z Z Z) Z (TL.alloc Z .u Tryz.zeroValue179 Z (fun aq=>(Kj 0 Z (cs':= #[jI d.Mw,.slice B d.Mq.length C]) Z .u Z Z Og Z Z Z Z Z (Ky Z ?_))));obtain⟨⟨au,aX⟩,aK,h⟩:=M1 h;refine Kf al bj 0 Z 2 Z Z (Kt Z .u (.fn Tryz.call157 Z) (uG d.Mq _ _ _ aK) (fun _ hs=>(KL hs aJ)) Z (Kk al Z (T.seq (Ka Z (Kk al Z ?_)))));obtain⟨S,h,A⟩:=M1 h;refine K7 (fun e Rs=>e = [(1,jP g),(10,jP aq),(11,jS au),(39,.slice (some ⟨l,n,none⟩) a0.Mc.length c2),(40,jI (a0.Mc.length:Int)),(41,jI (b:Int)),(55,.slice (some ⟨Q,R,none⟩) a.Me.length f),(56,jI (a.Me.length:Int)),(57,jI (c:Int))]/\Rs = [aR aq 179 #[jI d.Mw,.slice B d.Mq.length C],aR ap 176 #[jS a.Mm,.slice (some ⟨Q,R,none⟩) a.Me.length f],aR V 36 #[.bool a0.Mk.null,jS a0.Mk.data,jI a0.Mz,jI a0.Mh,.slice (some ⟨l,n,none⟩) a0.Mc.length c2],bz g S]) ?_ ?_
     ·clear A;rcases jF h with⟨U,h⟩ | ⟨U,h⟩
      ·refine T.nn Z U ?_;cases h;exact T.skip (Kq [0,0,0,0])
      refine T.yn Z U (T.region Z ?_);obtain⟨a4,ah,h⟩:=M1 h;refine J9 al 2 Z (Kn 3 Z Z .u (.fn Tryz.call94 Z) (g6 g o aX _ ah) sT Z Z ?_);cases h;exact TL.nil (Kq [0,0,0,0])
     rintro _ _ ⟨rfl,rfl⟩;clear h;have h:=A;clear A;refine X.seq (Ka Z ?_);obtain⟨ai,aj,h⟩:=M1 h;refine Kf al bj 0 Z 3 Z Z (Kn 3 Z Z .u (.fn Tryz.call51 Z) (bu g S d.Mw 4 _ aj) sT Z Z (Kc (T.region Z ?_)));obtain⟨aL,ak,h⟩:=M1 h;refine J9 al 2 Z (Kt Z .u (.fn Tryz.call143 Z) (GG au _ ak) rT Z ?_);obtain⟨am,an,h⟩:=M1 h;exact Kn 3 Z Z .u (.fn Tryz.call95 Z) (kp g ai aL 4 _ an) sT Z Z (TL.nil (KD (X.seq (T.region Z (Kb Z (Ex.add Z Z QI) Z (J9 al 1 Z (TL.nil (X.back (m':=M) [1,1,1] QI ⟨c+1,am,by omega,Z,Z,h⟩ QL QL))))))))
   rintro _ _ ⟨rfl,rfl⟩;clear h;have h:=t;clear t;exact X.seq (T.region Z (Kb Z (Ex.add Z Z QI) Z (J9 al 1 Z (TL.nil (X.back (m':=E) [0,0] QI ⟨b+1,I,by omega,Z,Z,h⟩ QL QL)))))
 refine KF Z c6 (Ka Z ?_);obtain⟨a5,ao,h⟩:=M1 h;refine J9 al 2 Z (Kn 1 Z Z .u (.fn Tryz.call94 Z) (g6 g st x4 _ ao) sT Z Z ?_);obtain rfl:=M2 h;exact Kc (T.ret (Ke (Lm [1] Tryz.results100 ⟨Z,Z,Z⟩ QL (.inl Z))))
def cD:Nat->List Bat->I->I->Option (List Bat×I×I)
 | 0,_,_,_=>none
 | m+1,c,d,h=>((iG h).bind fun (n,a)=>if n=0 then ((wM d).bind fun (o,e)=>if o>0 then some (true,e,a) else some (false,e,a)) else some (false,d,a)).bind fun (p,f,b)=>if p=true then ((ju f).bind fun (q,i)=>if (c.length+1)*96<=140737488355328 then ((iG i).bind fun (g,j)=>(if g=0 then some b else ((ci b g).bind fun k=>some k)).bind fun l=>cD m (c ++ [q]) j l) else none) else some (c,f,b)
def gP (st:I)  : Option (bl×I):=(ea st 4).bind fun (i,f)=>(lc f 4).bind fun (g,c)=>(if g.null=true then ((ci c 4).bind fun d=>some d) else some c).bind fun a=>(vE g.data).bind fun b=>(cD (((b.rest.length:Int)+(a.rest.length:Int)+1).toNat+1) [] b a).bind fun (h,j,e)=>some ((⟨i,h⟩:bl),e)
theorem mr (g:Nat) (st:I)  (r:bl×I) (h:gP st  = some r):aB Tryz.prog 173 #[jP g] .triv (InR g st) (fun v A' N=> ∃ (af:AT) (ag:Nat),v= .agg #[jI r.1.Mw,.slice af r.1.Mq.length ag]/\A'=InR g r.2/\N = [RdR (ar 12 dk) [.slice af r.1.Mq.length ag] r.1.Mq]):=by
 refine aS Tryz.func173 Z Tryz.ntmps173 Z ?_;intro F w hX;unfold gP at h;refine Ka Z (TL.alloc Z .u Tryz.zeroValue179 Z (fun t=>(Ky Z ?_)));obtain⟨⟨n,ap⟩,aq,h⟩:=M1 h;refine J9 al 1 Z (Kn 1 Z Z .u (.fn Tryz.call68 Z) (bw g st 4 _ aq) sT Z Z ?_);refine Kb Z (KH (cells:= #[jI n,A5]) wh Z QK) Z ?_;refine TL.alloc Z .u Tryz.zeroValue179 Z (fun x=>(Kj 0 Z (cs':= #[jI n,A5]) Z .u Z Z Og Z Z Z Z Z (Ky Z ?_)));obtain⟨⟨D,au⟩,av,h⟩:=M1 h;refine J9 al 1 Z (Kn 2 Z Z .u (.fn Tryz.call142 Z) (j8 g ap 4 _ av) sT Z Z (TL.alloc Z .u Tryz.zeroValue23 Z (fun P=>(Kj 0 Z (cs':=wA3 D) Z .u Z Z Nh Z Z Z Z Z (Kc (T.seq (Ka Z (Lw al bj 0 Z Z Z ?_))))))));obtain⟨H,h,J⟩:=M1 h;refine K7 (fun e Rs=>e = [(0,jP g),(2,jP t),(3,jP x),(4,jP P)]/\Rs = [aR P 23 (wA3 D),aR x 179 #[jI n,A5],aR t 179 #[jI 0,A5],InR g H]) ?_ ?_
 ·clear J;rcases jF h with⟨B,h⟩ | ⟨B,h⟩
  ·refine Kr Z B (T.region Z ?_);obtain⟨az,ah,h⟩:=M1 h;refine J9 al 1 Z (Kn 3 Z Z .u (.fn Tryz.call70 Z) (bD g au 4 _ ah) sT Z Z ?_);cases h;exact TL.nil (Kq [0,0,0,0])
  replace B:=M7 B;refine KN Z B ?_;cases h;exact T.skip (Kq [0,0,0,0])
 rintro _ _ ⟨rfl,rfl⟩;clear h;have h:=J;clear J;refine X.seq (Ka Z ?_);obtain⟨Q,ai,h⟩:=M1 h;refine Kf al bj 0 Z 2 Z Z (K2 Z .u (.fn Tryz.call19 Z) (j7 D.data _ ai) rT Z ?_);rintro _ _ _ ⟨k,rfl,rfl,rfl⟩;refine KK [0,0,0,0,0] Z (Kk al Z (T.seq (T.block (Le 97 12 dk ?_))));obtain⟨aw,R,S⟩:=M1 h;refine K4 (fun m e Rs=> ∃ (a:List Bat) (o:AT) (p:Nat) (z:I) (A:I),e = [(0,jP g),(2,jP t),(3,jP x),(5,jP k)]/\Rs = [bC 97 12 dk (.slice o a.length p) a,InR k z,aR P 23 (wA3 D),aR x 179 #[jI n,.slice o a.length p],aR t 179 #[jI 0,A5],InR g A]/\cD m a z A=some aw) (((Q.rest.length:Int)+(H.rest.length:Int)+1).toNat+1) [0,0,0,0,0,0] ⟨[],none,0,Q,H,Z,Z,by exact R⟩ QL QL ?_;clear R h;rintro U _ _ ⟨a,o,p,z,A,rfl,rfl,h⟩
 cases U with
 | zero =>
  rw[cD] at h;cases h
 | succ U =>
  rw[cD] at h;refine Lq ?_;obtain⟨⟨ax,K,L⟩,h,M⟩:=M1 h;refine K7 (fun e Rs=>e = [(0,jP g),(2,jP t),(3,jP x),(5,jP k),(26,.bool ax)]/\Rs = [bC 97 12 dk (.slice o a.length p) a,InR k K,aR P 23 (wA3 D),aR x 179 #[jI n,.slice o a.length p],aR t 179 #[jI 0,A5],InR g L]) ?_ ?_
  ·clear M;refine T.region Z ?_;obtain⟨⟨aE,aA⟩,ak,h⟩:=M1 h;refine J9 al 1 Z (Kn 5 Z Z .u (.fn Tryz.call23 Z) (cz g A _ ak) sT Z Z ?_);rcases jF h with⟨V,h⟩ | ⟨V,h⟩
   ·refine J9 al 2 Z (Kh 22 Z (M4 V) ?_);obtain⟨⟨aF,aC⟩,am,h⟩:=M1 h;refine Ki al 1 Z (Kn 1 Z Z (.g Z Z Z) (.fn Tryz.call71 Z) (o8 k z _ am) sT Z Z (Ki al 2 Z ?_));rcases jF h with⟨W,h⟩ | ⟨W,h⟩
    ·cases h;exact TL.nil (K3 (d:=26) (v':= .bool true) Z (congrArg Value.bool (M4 W)) (Kq [0,0,0,0,0,0]))
    cases h;exact TL.nil (K3 (d:=26) (v':= .bool false) Z (congrArg Value.bool (M5 W)) (Kq [0,0,0,0,0,0]))
   refine J9 al 2 Z (Kh 22 Z (M5 V) (Ki al 4 Z ?_));cases h;exact TL.nil (Kq [0,0,0,0,0,0])
  rintro _ _ ⟨rfl,rfl⟩;clear h;have h:=M;clear M;try dsimp only at h
  rcases jF h with⟨C,h⟩ | ⟨C,h⟩
  ·refine X.seq (Kr Z C ?_);obtain⟨⟨b,Y⟩,aa,h⟩:=M1 h;try dsimp only at h
   obtain⟨y,h⟩:=aj h;refine Kw (T.block (T.seq ?_));refine LJ (fun e Rs=> ∃ (i:AT) (j:Nat) (s:Nat) (c:AT) (f:Nat),e = [(0,jP g),(2,jP t),(3,jP x),(5,jP k)]/\Rs = [bC 97 12 dk (.slice c (a ++ [b]).length f) (a ++ [b]),InR k Y,aR P 23 (wA3 D),aR x 179 #[jI n,.slice c (a ++ [b]).length f],aR t 179 #[jI 0,A5],InR g L]) ?_ ?_
   ·refine KQ (.q 0 (.q 2 (.br 1 (.e 3 (.e 4 (.e 5 (.q 6 (.e 7 .nil))))) (.e 3 (.br 1 (.e 4 (.e 5 (.q 6 (.e 7 .nil)))) (.e 4 (.e 1 (.e 5 (.q 6 (.e 7 .nil)))))))))) [2,3,3] Z nP om QK ?_;refine TD.run al [0,2] Z Z ?_;refine TD.br ?_ ?_
    ·refine LD Z .u (KI 3 Z Pp Z Z) Z [2,3,3] Z ?_;refine TD.cg1 Z .u (.fn Tryz.call80 Z) (nO k K _ aa) sT Z [3,4,4] ?_ ?_
     ·rintro _ _ _ ⟨i,j,rfl,rfl,rfl⟩;rfl
     rintro _ _ _ ⟨i,j,rfl,rfl,rfl⟩;refine Lg [0,0,0,0,0,0,0] Z ?_;refine Lu (cells:=wA6 b i j) Z .u kH Z QK Z [4,5,5] (fun _=>Z) (fun s=> ?_);refine L3 1 0 Z .u (us:=wL7 b i j) (u:=b) (l:=a) (E:=dk) Tryz.underlying177 nc Z QJ Z Z Z Z Z Z Z (fun w G hG=>⟨_,_,Z,hG.1⟩) (by have hq:=y; omega) (by have hq:=y; omega) Z [2,3,3] (fun _ _=>Z) (fun c f=> ?_);exact Lg [0,0,0,0,0,0] Z (TD.run al [6] Z Z (K9 3 Z (cs':= #[jI n,.slice c (a ++ [b]).length f]) Z .u Z Z PB Z Z Z Z Z [2,3,3] (Z) (TD.nil (Lr [0,0,0,0,0,0] ⟨i,j,s,c,f,Z,Z⟩ QL QL))))
    refine TD.cg1 Z .u (.fn Tryz.call80 Z) (nO k K _ aa) sT Z [3,4,4] ?_ ?_
    ·rintro _ _ _ ⟨i,j,rfl,rfl,rfl⟩;rfl
    rintro _ _ _ ⟨i,j,rfl,rfl,rfl⟩;refine Lg [0,0,0,0,0,0,0] Z ?_;refine TD.br ?_ ?_
    ·refine LD Z .u (KI 4 Z Pp Z Z) Z [3,4,4] Z ?_;refine Lu (cells:=wA6 b i j) Z .u kH Z QK Z [4,5,5] (fun _=>Z) (fun s=> ?_);refine L3 1 0 Z .u (us:=wL7 b i j) (u:=b) (l:=a) (E:=dk) Tryz.underlying177 nc Z QJ Z Z Z Z Z Z Z (fun w G hG=>⟨_,_,Z,hG.1⟩) (by have hq:=y; omega) (by have hq:=y; omega) Z [2,3,3] (fun _ _=>Z) (fun c f=> ?_);exact Lg [0,0,0,0,0,0] Z (TD.run al [6] Z Z (K9 3 Z (cs':= #[jI n,.slice c (a ++ [b]).length f]) Z .u Z Z PB Z Z Z Z Z [2,3,3] (Z) (TD.nil (Lr [0,0,0,0,0,0] ⟨i,j,s,c,f,Z,Z⟩ QL QL))))
    refine Lu (cells:=wA6 b i j) Z .u kH Z QK Z [4,5,5] (fun _=>Z) (fun s=> ?_);refine LD Z .u (KI 5 Z Pp Z Z) Z [4,5,5] Z ?_;refine L3 1 0 Z .u (us:=wL7 b i j) (u:=b) (l:=a) (E:=dk) Tryz.underlying177 nc Z QJ Z Z Z Z Z Z Z (fun w G hG=>⟨_,_,Z,hG.1⟩) (by have hq:=y; omega) (by have hq:=y; omega) Z [2,3,3] (fun _ _=>Z) (fun c f=> ?_);exact Lg [0,0,0,0,0,0] Z (TD.run al [6] Z Z (K9 3 Z (cs':= #[jI n,.slice c (a ++ [b]).length f]) Z .u Z Z PB Z Z Z Z Z [2,3,3] (Z) (TD.nil (Lr [0,0,0,0,0,0] ⟨i,j,s,c,f,Z,Z⟩ QL QL))))
   rintro _ _ ⟨i,j,s,c,f,rfl,rfl⟩;refine X.seq (Ka Z ?_);obtain⟨⟨ay,ab⟩,an,h⟩:=M1 h;refine J9 al 1 Z (Kn 1 Z Z .u (.fn Tryz.call23 Z) (cz k Y _ an) sT Z Z (KJ al Z Z (Kk al Z ?_)));obtain⟨ad,h,O⟩:=M1 h;refine K7 (fun e Rs=>e = [(0,jP g),(2,jP t),(3,jP x),(5,jP k)]/\Rs = [bC 97 12 dk (.slice c (a ++ [b]).length f) (a ++ [b]),InR k ab,aR P 23 (wA3 D),aR x 179 #[jI n,.slice c (a ++ [b]).length f],aR t 179 #[jI 0,A5],InR g ad]) ?_ ?_
   ·clear O;rcases jF h with⟨ae,h⟩ | ⟨ae,h⟩
    ·refine T.nn Z ae ?_;cases h;exact T.skip (Kq [0,0,0,0,0,0])
    refine T.yn Z ae (T.region Z ?_);obtain⟨aD,ao,h⟩:=M1 h;refine J9 al 2 Z (Kn 5 Z Z .u (.fn Tryz.call70 Z) (bD g L ay _ ao) sT Z Z ?_);cases h;exact TL.nil (Kq [0,0,0,0,0,0])
   rintro _ _ ⟨rfl,rfl⟩;clear h;have h:=O;clear O;try dsimp only at h
   exact KD (X.back (m':=U) [0,0,0,0,0,0] QI ⟨(a ++ [b]),c,f,ab,ad,Z,Z,h⟩ QL QL)
  replace C:=M7 C;refine X.seq (KN Z C ?_);obtain rfl:=M2 h;replace h:=S;clear S;refine T.exit (Kx (Kx (K1 (X.seq (Ka Z (Kb Z (Kp (us := [jI n,.slice o a.length p]) 3 Z PD Og Z Z Z) Z (Kj 4 Z (cs':= #[jI n,.slice o a.length p]) Z .u Z Z Og Z Z Z Z Z ?_)))))));obtain rfl:=M2 h;exact Kc (T.ret (Ll QJ 0 Z (KX [0,0,0,0,0,0] Z (Ks [5,0] Tryz.results173 (Kz (us:= #[jI n,.slice o a.length p]) 4 Z PD Og Z Z) ⟨_,_,Z,Z,Z⟩ QL (.inl Z)))))
def cg (e:Int):Nat->Nat->List bl->I->Option (Lp (aC×I) (Nat×List bl×I))
 | 0,_,_,_=>none
 | g+1,a,b,c=>if (a:Int)<e then ((gP c).bind fun (h,f)=>if (b.length+1)*32<=140737488355328 then ((iG f).bind fun (i,d)=>if i=0 then (if A0 ((a:Int)+1) then (cg e g (a+1) (b ++ [h]) d) else none) else (some (Lp.ret ((⟨(⟨false,[]⟩:Bl),0,0,[]⟩:aC),d)))) else none) else (some (Lp.go (a,b,c)))
def dm (f:Int):Nat->Nat->List aM->I->Option (Lp (aC×I) (Nat×List aM×I))
 | 0,_,_,_=>none
 | k+1,a,b,c=>if (a:Int)<f then ((sR c).bind fun (l,h)=>(jB h 4 8).bind fun (g,i)=>(cg g ((g).toNat+1) 0 [] i).bind fun e=>match e with | .ret r=>some (Lp.ret r) | .go (o,m,j)=>((iG j).bind fun (n,d)=>if n=0 then (if (b.length+1)*40<=140737488355328 then (if A0 ((a:Int)+1) then (dm f k (a+1) (b ++ [(⟨l,m⟩:aM)]) d) else none) else none) else (some (Lp.ret ((⟨(⟨false,[]⟩:Bl),0,0,[]⟩:aC),d))))) else (some (Lp.go (a,b,c)))
theorem rC (a:Int) (b:Nat) (c:List aM) (d:I):dm a 0 b c d=none:=rfl
theorem gF (d:Int) (g:Nat) (a:Nat) (c:List aM) (b:I):dm d (g+1) a c b=(if (a:Int)<d then ((sR b).bind fun (l,i)=>(jB i 4 8).bind fun (h,j)=>(cg h ((h).toNat+1) 0 [] j).bind fun e=>match e with | .ret r=>some (Lp.ret r) | .go (o,m,k)=>((iG k).bind fun (n,f)=>if n=0 then (if (c.length+1)*40<=140737488355328 then (if A0 ((a:Int)+1) then (dm d g (a+1) (c ++ [(⟨l,m⟩:aM)]) f) else none) else none) else (some (Lp.ret ((⟨(⟨false,[]⟩:Bl),0,0,[]⟩:aC),f))))) else (some (Lp.go (a,c,b)))):=rfl
def eD (st:I) (a1:Int):Option (aC×I):=(lc st 2).bind fun (n,o)=>(ea o 2).bind fun (p,q)=>(ea q 4).bind fun (s,t)=>(jB t 4 6).bind fun (j,k)=>(dm j ((j).toNat+1) 0 [] k).bind fun e=>match e with | .ret r=>some r | .go (u,c,f)=>((iG f).bind fun (l,a)=>(if l=0 then ((cC (⟨n,p,s,c⟩:aC) a1).bind fun d=>(if d=0 then some a else ((ci a d).bind fun g=>some g)).bind fun h=>some h) else some a).bind fun i=>(iG i).bind fun (m,b)=>if m=0 then (some ((⟨n,p,s,c⟩:aC),b)) else (some ((⟨(⟨false,[]⟩:Bl),0,0,[]⟩:aC),b)))
theorem rD (g:Nat) (st:I) (a1:Int) (r:aC×I) (h:eD st a1=some r):aB Tryz.prog 120 #[jP g,jI a1] .triv (InR g st) (fun v A' N=> ∃ (Y:AT) (aa:Nat),v= .agg #[.bool r.1.Mk.null,jS r.1.Mk.data,jI r.1.Mz,jI r.1.Mh,.slice Y r.1.Mc.length aa]/\A'=InR g r.2/\N = [RdR (ar 2 aT) [.slice Y r.1.Mc.length aa] r.1.Mc]):=by
 refine aS Tryz.func120 Z Tryz.ntmps120 Z ?_;intro F w hX;unfold eD at h;refine Ka Z (TL.alloc Z .u Tryz.zeroValue36 Z (fun B=>(Ky Z ?_)));obtain⟨⟨p,aQ⟩,aU,h⟩:=M1 h;refine J9 al 1 Z (Kn 1 Z Z .u (.fn Tryz.call142 Z) (j8 g st 2 _ aU) sT Z Z ?_);obtain⟨⟨t,aV⟩,aW,h⟩:=M1 h;refine J9 al 1 Z (Kn 1 Z Z .u (.fn Tryz.call68 Z) (bw g aQ 2 _ aW) sT Z Z ?_);obtain⟨⟨x,aX⟩,az,h⟩:=M1 h;refine J9 al 1 Z (Kn 1 Z Z .u (.fn Tryz.call68 Z) (bw g aV 4 _ az) sT Z Z ?_);refine Kb Z (KH (cells:= #[.bool p.null,jS p.data,jI t,jI x,A5]) kF Z QK) Z ?_;refine TL.alloc Z .u Tryz.zeroValue36 Z (fun s=>(Kj 0 Z (cs':= #[.bool p.null,jS p.data,jI t,jI x,A5]) Z .u Z Z Om Z Z Z Z Z (Kc (T.seq (Ka Z ?_)))));obtain⟨⟨O,aA⟩,aD,h⟩:=M1 h;refine J9 al 1 Z (Kn 2 Z Z .u (.fn Tryz.call144 Z) (lE g aX 4 6 _ aD) sT Z Z (Kk al Z (T.block (Le 176 2 aT ?_))));obtain⟨aY,ab,K⟩:=M1 h;refine K4 (fun m e Rs=> ∃ (C:Nat) (a:List aM) (d:AT) (f:Nat) (z:I),e = [(0,jP g),(1,jI a1),(4,jP B),(5,jP s),(16,jI O),(17,jI (C:Int))]/\Rs = [bC 176 2 aT (.slice d a.length f) a,aR s 36 (C9 t x d f (a).length p),aR B 36 vA0,InR g z]/\dm O m C a z=some aY) ((O).toNat+1) [0,0,0,0] ⟨0,[],none,0,aA,Z,Z,by exact ab⟩ QL QL ?_;clear ab h;rintro ad _ _ ⟨C,a,d,f,z,rfl,rfl,h⟩
 cases ad with
 | zero =>
  rw[rC] at h;cases h
 | succ ad =>
  rw[gF] at h;refine Ka Z (J9 al 1 Z ?_);rcases jF h with⟨ae,h⟩ | ⟨ae,h⟩
  ·refine Kc (T.seq (Lx Z ae (Kw (T.seq (T.block (Ka Z ?_))))));obtain⟨⟨k,aE⟩,aF,h⟩:=M1 h;refine J9 al 1 Z (Kn 3 Z Z .u (.fn Tryz.call86 Z) (o9 g z _ aF) sT Z Z ?_);refine Kb Z (KH (cells:= #[jS k,A5]) wg Z QK) Z ?_;refine TL.alloc Z .u Tryz.zeroValue176 Z (fun V=>(Kj 0 Z (cs':= #[jS k,A5]) Z .u Z Z Oo Z Z Z Z Z (Kc (T.seq (Ka Z ?_)))));obtain⟨⟨W,aG⟩,aH,h⟩:=M1 h;refine J9 al 1 Z (Kn 4 Z Z .u (.fn Tryz.call144 Z) (lE g aE 4 8 _ aH) sT Z Z (Kk al Z (T.block (Le 179 2 cB ?_))));obtain⟨aZ,af,Q⟩:=M1 h;refine K4 (fun m e Rs=> ∃ (P:Nat) (c:List bl) (D:AT) (H:Nat) (y:I),e = [(0,jP g),(1,jI a1),(4,jP B),(5,jP s),(6,jP V),(16,jI O),(17,jI (C:Int)),(23,jI W),(24,jI (P:Int))]/\Rs = [bC 179 2 cB (.slice D c.length H) c,aR V 176 #[jS k,.slice D c.length H],bC 176 2 aT (.slice d a.length f) a,aR s 36 (C9 t x d f (a).length p),aR B 36 vA0,InR g y]/\cg W m P c y=some aZ) ((W).toNat+1) [0,0,0,0,0,0] ⟨0,[],none,0,aG,Z,Z,by exact af⟩ QL QL ?_;clear af h;rintro ag _ _ ⟨P,c,D,H,y,rfl,rfl,h⟩
   cases ag with
   | zero =>
    rw[cg] at h;cases h
   | succ ag =>
    rw[cg] at h;refine Ka Z (J9 al 1 Z ?_);rcases jF h with⟨ah,h⟩ | ⟨ah,h⟩
    ·refine Kc (T.seq (Lx Z ah ?_));obtain⟨⟨b,ai⟩,ak,h⟩:=M1 h;try dsimp only at h
     obtain⟨J,h⟩:=aj h;refine Kw (T.seq (T.block (T.seq ?_)));refine LJ (fun e Rs=> ∃ (i:AT) (j:Nat) (A:Nat) (n:AT) (o:Nat),e = [(0,jP g),(1,jI a1),(4,jP B),(5,jP s),(6,jP V),(16,jI O),(17,jI (C:Int)),(23,jI W),(24,jI (P:Int))]/\Rs = [bC 179 2 cB (.slice n (c ++ [b]).length o) (c ++ [b]),aR V 176 #[jS k,.slice n (c ++ [b]).length o],bC 176 2 aT (.slice d a.length f) a,aR s 36 (C9 t x d f (a).length p),aR B 36 vA0,InR g ai]) ?_ ?_
     ·refine KQ (.q 0 (.q 2 (.br 1 (.e 3 (.e 4 (.e 5 (.q 6 (.e 7 .nil))))) (.e 3 (.br 1 (.e 4 (.e 5 (.q 6 (.e 7 .nil)))) (.e 4 (.e 1 (.e 5 (.q 6 (.e 7 .nil)))))))))) [2,2,2] Z nP om QK ?_;refine TD.run al [0,2] Z Z ?_;refine TD.br ?_ ?_
      ·refine LD Z .u (KI 1 Z PS Z Z) Z [2,2,2] Z ?_;refine TD.cg5 Z .u (.fn Tryz.call173 Z) (mr g y _ ak) sT Z [3,3,3] ?_ ?_
       ·rintro _ _ _ ⟨i,j,rfl,rfl,rfl⟩;rfl
       rintro _ _ _ ⟨i,j,rfl,rfl,rfl⟩;refine Lg [0,0,0,0,0,0,0] Z (Lu (cells:= #[jI b.Mw,.slice i b.Mq.length j]) Z .u kG Z QL Z [4,4,4] (fun _=>Z) (fun A=> ?_));refine L3 1 0 Z .u (us := [jI b.Mw,.slice i b.Mq.length j]) (u:=b) (l:=c) (E:=cB) Tryz.underlying174 ma Z QJ Z Z Z Z Z Z Z (fun w G hG=>⟨_,_,Z,hG.1⟩) (by have hq:=J; omega) (by have hq:=J; omega) Z [2,2,2] (fun _ _=>Z) (fun n o=> ?_);exact Lg [0,0,0,0,0,0] Z (TD.run al [6] Z Z (K9 1 Z (cs':= #[jS k,.slice n (c ++ [b]).length o]) Z .u Z Z Qb Z Z Z Z Z [2,2,2] (Z) (TD.nil (Lr [0,0,0,0,0,0] ⟨i,j,A,n,o,Z,Z⟩ QL QL))))
      refine TD.cg5 Z .u (.fn Tryz.call173 Z) (mr g y _ ak) sT Z [3,3,3] ?_ ?_
      ·rintro _ _ _ ⟨i,j,rfl,rfl,rfl⟩;rfl
      rintro _ _ _ ⟨i,j,rfl,rfl,rfl⟩;refine Lg [0,0,0,0,0,0,0] Z ?_;refine TD.br ?_ ?_
      ·refine LD Z .u (KI 2 Z PS Z Z) Z [3,3,3] Z (Lu (cells:= #[jI b.Mw,.slice i b.Mq.length j]) Z .u kG Z QL Z [4,4,4] (fun _=>Z) (fun A=> ?_));refine L3 1 0 Z .u (us := [jI b.Mw,.slice i b.Mq.length j]) (u:=b) (l:=c) (E:=cB) Tryz.underlying174 ma Z QJ Z Z Z Z Z Z Z (fun w G hG=>⟨_,_,Z,hG.1⟩) (by have hq:=J; omega) (by have hq:=J; omega) Z [2,2,2] (fun _ _=>Z) (fun n o=> ?_);exact Lg [0,0,0,0,0,0] Z (TD.run al [6] Z Z (K9 1 Z (cs':= #[jS k,.slice n (c ++ [b]).length o]) Z .u Z Z Qb Z Z Z Z Z [2,2,2] (Z) (TD.nil (Lr [0,0,0,0,0,0] ⟨i,j,A,n,o,Z,Z⟩ QL QL))))
      refine Lu (cells:= #[jI b.Mw,.slice i b.Mq.length j]) Z .u kG Z QL Z [4,4,4] (fun _=>Z) (fun A=>(LD Z .u (KI 3 Z PS Z Z) Z [4,4,4] Z ?_));refine L3 1 0 Z .u (us := [jI b.Mw,.slice i b.Mq.length j]) (u:=b) (l:=c) (E:=cB) Tryz.underlying174 ma Z QJ Z Z Z Z Z Z Z (fun w G hG=>⟨_,_,Z,hG.1⟩) (by have hq:=J; omega) (by have hq:=J; omega) Z [2,2,2] (fun _ _=>Z) (fun n o=> ?_);exact Lg [0,0,0,0,0,0] Z (TD.run al [6] Z Z (K9 1 Z (cs':= #[jS k,.slice n (c ++ [b]).length o]) Z .u Z Z Qb Z Z Z Z Z [2,2,2] (Z) (TD.nil (Lr [0,0,0,0,0,0] ⟨i,j,A,n,o,Z,Z⟩ QL QL))))
     rintro _ _ ⟨i,j,A,n,o,rfl,rfl⟩;refine X.seq (Ka Z ?_);obtain⟨⟨a6,aI⟩,aJ,h⟩:=M1 h;refine J9 al 1 Z (Kn 5 Z Z .u (.fn Tryz.call23 Z) (cz g ai _ aJ) sT Z Z (J9 al 1 Z ?_));rcases jF h with⟨am,h⟩ | ⟨am,h⟩
     ·refine KG Z am ?_;obtain⟨a0,h⟩:=aj h;exact T.skip (KD (X.seq (T.region Z (Kb Z (Ex.add Z Z a0) Z (J9 al 1 Z (TL.nil (X.back (m':=ag) [0,0,0,0,0,0] QI ⟨P+1,(c ++ [b]),n,o,aI,Z,Z,h⟩ QL QL)))))))
     refine KF Z am (Ka Z ?_);refine Kb Z (KH (cells:=vA0) kF Z QK) Z ?_;refine Kj 4 Z (cs':=vA0) Z .u Z Z Om Z Z Z Z Z ?_;obtain rfl:=M2 h;obtain rfl:=M2 Q;obtain rfl:=M2 K;exact Kc (T.ret (Ko (Ke (Ke (Ko (Ke (Ko (Ke (Ke (Ko (Ke (Kl 2 aT (Ks [6,0] Qy (Kz (us:=vA0) 5 Z Po Om Z Z) ⟨_,_,Z,Z,Z⟩ QL (.inl Z))))))))))))))
    refine Kc (T.seq (LC Z ah ?_));obtain rfl:=M2 h;replace h:=Q;clear Q;refine T.exit (Kx (Kx (K1 (X.seq (T.seq (Ka Z ?_))))));obtain⟨⟨a7,aK⟩,aL,h⟩:=M1 h;refine J9 al 1 Z (Kn 5 Z Z .u (.fn Tryz.call23 Z) (cz g y _ aL) sT Z Z (J9 al 1 Z ?_));rcases jF h with⟨an,h⟩ | ⟨an,h⟩
    ·refine KG Z an (Kw (T.region Z (Kf al bj 3 Z 2 Z Z (Kb Z (Kp (us := [jS k,.slice D c.length H]) 1 Z Qf Oo Z Z Z) Z (Lj (cells:= #[jS k,.slice D c.length H]) Z .u uH Z QL Z (fun a8=> ?_))))));obtain⟨aw,h⟩:=aj h;refine Ly 2 0 Z .u (us := [jS k,.slice D c.length H]) (u:=(⟨k,c⟩:aM)) (l:=a) (E:=aT) Tryz.underlying34 wi Z QJ Z Z Z Z Z Z Z (fun w G hG=>⟨_,_,Z,bB QJ _ _ hG⟩) (by have hq:=aw; omega) (by have hq:=aw; omega) Z (fun ax ay=> ?_);refine KK [0,0,0,0,0] Z (J9 al 1 Z (Kj 2 Z (cs':= #[.bool p.null,jS p.data,jI t,jI x,.slice ax (a ++ [(⟨k,c⟩:aM)]).length ay]) Z .u Z Z Tryz.sizeOf34 Z Z Z Z Z ?_));obtain⟨a2,h⟩:=aj h;exact TL.nil (KD (X.seq (T.region Z (Kb Z (Ex.add Z Z a2) Z (J9 al 1 Z (TL.nil (X.back (m':=ad) [0,1,1,1] QI ⟨C+1,(a ++ [(⟨k,c⟩:aM)]),ax,ay,aK,Z,Z,h⟩ QL QL)))))))
    refine KF Z an (Ka Z ?_);refine Kb Z (KH (cells:=vA0) kF Z QK) Z ?_;refine Kj 4 Z (cs':=vA0) Z .u Z Z Om Z Z Z Z Z ?_;obtain rfl:=M2 h;obtain rfl:=M2 K;exact Kc (T.ret (Ke (Ko (Ke (Ke (Ko (Ke (Kl 2 aT (Ks [6,0] Qy (Kz (us:=vA0) 5 Z Po Om Z Z) ⟨_,_,Z,Z,Z⟩ QL (.inl Z))))))))))
  refine Kc (T.seq (LC Z ae ?_));obtain rfl:=M2 h;replace h:=K;clear K;refine T.exit (Kx (Kx (K1 (X.seq (T.seq (Ka Z ?_))))));obtain⟨⟨a9,aN⟩,aO,h⟩:=M1 h;refine J9 al 1 Z (Kn 3 Z Z .u (.fn Tryz.call23 Z) (cz g z _ aO) sT Z Z (Kk al Z ?_));obtain⟨ao,h,L⟩:=M1 h;refine K7 (fun e Rs=>e = [(0,jP g),(4,jP B),(5,jP s)]/\Rs = [bC 176 2 aT (.slice d a.length f) a,aR s 36 (C9 t x d f (a).length p),aR B 36 vA0,InR g ao]) ?_ ?_
  ·clear L;rcases jF h with⟨R,h⟩ | ⟨R,h⟩
   ·refine Lx Z R (Ka Z (Kb Z (Kp (us := [.bool p.null,jS p.data,jI t,jI x,.slice d a.length f]) 1 Z Po Om Z Z Z) Z ?_));obtain⟨aP,ap,h⟩:=M1 h;refine J9 al 1 Z (Kt Z .u (.fn Tryz.call156 Z) (iP (⟨p,t,x,a⟩:aC) _ _ a1 _ ap) (fun _ hs=>(SrcE.res 0 hs Z (fun w G h=>bB QJ w G h))) Z (KJ al Z Z (Kk al Z ?_)));obtain⟨aq,h,M⟩:=M1 h;refine K7 (fun e Rs=>e = [(0,jP g),(4,jP B),(5,jP s)]/\Rs = [bC 176 2 aT (.slice d a.length f) a,aR s 36 (C9 t x d f (a).length p),aR B 36 vA0,InR g aq]) ?_ ?_
    ·clear M;rcases jF h with⟨S,h⟩ | ⟨S,h⟩
     ·refine T.nn Z S ?_;cases h;exact T.skip (Kq [0,0,0,0])
     refine T.yn Z S (T.region Z ?_);obtain⟨a3,au,h⟩:=M1 h;refine J9 al 2 Z (Kn 3 Z Z .u (.fn Tryz.call70 Z) (bD g aN aP _ au) sT Z Z ?_);cases h;exact TL.nil (Kq [0,0,0,0])
    rintro _ _ ⟨rfl,rfl⟩;clear h;have h:=M;clear M;try dsimp only at h
    cases h;exact Kq [0,0,0,0]
   refine LC Z R ?_;cases h;exact T.skip (Kq [0,0,0,0])
  rintro _ _ ⟨rfl,rfl⟩;clear h;have h:=L;clear L;refine X.seq (T.seq (Ka Z ?_));obtain⟨⟨a5,a4⟩,av,h⟩:=M1 h;refine J9 al 1 Z (Kn 3 Z Z .u (.fn Tryz.call23 Z) (cz g ao _ av) sT Z Z (J9 al 1 Z ?_));rcases jF h with⟨U,h⟩ | ⟨U,h⟩
  ·refine KG Z U (Kv Z (Kb Z (Kp (us := [.bool p.null,jS p.data,jI t,jI x,.slice d a.length f]) 1 Z Po Om Z Z Z) Z (Kj 2 Z (cs':=C9 t x d f (a).length p) Z .u Z Z Om Z Z Z Z Z ?_)));obtain rfl:=M2 h;exact Kc (T.ret (Ll QJ 0 Z (KX [0,0,0,0] Z (Ks [3,0] Qy (Kz (us:=C9 t x d f (a).length p) 2 Z Po Om Z Z) ⟨_,_,Z,Z,Z⟩ QL (.inl Z)))))
  refine KF Z U (Ka Z ?_);refine Kb Z (KH (cells:=vA0) kF Z QK) Z ?_;refine Kj 2 Z (cs':=vA0) Z .u Z Z Om Z Z Z Z Z ?_;obtain rfl:=M2 h;exact Kc (T.ret (Ke (Kl 2 aT (Ks [4,0] Qy (Kz (us:=vA0) 3 Z Po Om Z Z) ⟨_,_,Z,Z,Z⟩ QL (.inl Z)))))
theorem sw {w W:World} (h:Below w.heap.size w W) (o:Obj):Below w.heap.size w (W.alloc o):=h.alloc h.size o
theorem FT {w W:World} (h:Below w.heap.size w W) (i:Nat) (u:Value):Below w.heap.size w (W.setCell ⟨w.heap.size,i,none⟩ u):=h.setCell (p:=⟨w.heap.size,i,none⟩) (NA _) u
def ne:Array Value:= #[.int .i64 0,.string ⟨#[112,114,111,100,117,99,101]⟩,.int .i64 3,.int .i64 4,.int .i64 22,.string ⟨#[98,101,103,105,110]⟩,.int .i64 0,.int .i64 1,
 .int .i64 24,.string ⟨#[97,100,100]⟩,.int .i64 0,.int .i64 0,.int .i64 26,.string ⟨#[101,110,100]⟩,.int .i64 0,.int .i64 0,.int .i64 27,.string ⟨#[109,97,114,107]⟩,.int .i64 0,.int .i64 1]
theorem Dj:ne.all (·.oneCell')=true:=by simp[ne,Value.oneCell']
theorem Dk:(Tryz.prog.info? 317).map (·.size)=some 20:=by kernel_rfl
theorem mF (w:World) :
 Calls Tryz.prog 219 #[] w fun e w'=>e= .returned (.agg ne)/\Below w.heap.size w w':=by
 have hi:=Dk;go_enter Tryz.func219,Tryz.ntmps219
 go_wp2_with (refine tF (w:=w) rfl 317 _ _ rfl 317 _ ne rfl rfl Dk rfl Dj ?_)
 refine bodyPost_ret (v:= .agg ne) ?_ rfl ?_
 ·exact results_cell_row QL _ _ w.heap.size 317 ne (0,0) _ rfl (heap_alloc_new w _) Tryz.underlying317 rfl Dk
 ·exact⟨rfl,(Below.refl _ _).alloc (NA _) _⟩
def kI (k:Int):Value×Bool :=
 if k=0 then (.agg #[.int .i64 0,.string ⟨#[112,114,111,100,117,99,101]⟩,.int .i64 3,.int .i64 4],true)
 else if k=22 then (.agg #[.int .i64 22,.string ⟨#[98,101,103,105,110]⟩,.int .i64 0,.int .i64 1],true)
 else if k=24 then (.agg #[.int .i64 24,.string ⟨#[97,100,100]⟩,.int .i64 0,.int .i64 0],true)
 else if k=26 then (.agg #[.int .i64 26,.string ⟨#[101,110,100]⟩,.int .i64 0,.int .i64 0],true)
 else if k=27 then (.agg #[.int .i64 27,.string ⟨#[109,97,114,107]⟩,.int .i64 0,.int .i64 1],true)
 else (.agg #[.int .i64 0,A7,.int .i64 0,.int .i64 0],false)
theorem dn {w w1:World} {c:Array Value} {t:TypeId} (hb:Below (w.alloc (.cells c t)).heap.size (w.alloc (.cells c t)) w1) (i:Nat):w1.cell? ⟨w.heap.size,i,none⟩=c[i]? /\ w1.frozen? ⟨w.heap.size,i,none⟩=false:=by
 have h:w1.heap[w.heap.size]? = some (.cells c t (0,0)):=(hb.block w.heap.size (by simp)).trans (heap_alloc_new w _);exact⟨bp h i,bZ h i⟩
theorem rg {w w1:World} {o:Obj} (hb:Below (w.alloc o).heap.size (w.alloc o) w1):w.heap.size<w1.heap.size:=by
 have:=hb.size;simp at this;omega
theorem GY (k:Int) (w:World) :
 Calls Tryz.prog 191 #[.int .i64 k] w fun e w'=>e= .returned (.tuple #[(kI k).1,.bool (kI k).2])/\Below w.heap.size w w':=by
 have u: ∀ w:World,(Instr.index 317 (.agg ne) (.int .i64 0)).run Tryz.prog w= .ok (.agg #[.int .i64 0,.string ⟨#[112,114,111,100,117,99,101]⟩,.int .i64 3,.int .i64 4]) w:=fun _=>by kernel_rfl
 have x: ∀ w:World,(Instr.index 317 (.agg ne) (.int .i64 1)).run Tryz.prog w= .ok (.agg #[.int .i64 22,.string ⟨#[98,101,103,105,110]⟩,.int .i64 0,.int .i64 1]) w:=fun _=>by kernel_rfl
 have y: ∀ w:World,(Instr.index 317 (.agg ne) (.int .i64 2)).run Tryz.prog w= .ok (.agg #[.int .i64 24,.string ⟨#[97,100,100]⟩,.int .i64 0,.int .i64 0]) w:=fun _=>by kernel_rfl
 have z: ∀ w:World,(Instr.index 317 (.agg ne) (.int .i64 3)).run Tryz.prog w= .ok (.agg #[.int .i64 26,.string ⟨#[101,110,100]⟩,.int .i64 0,.int .i64 0]) w:=fun _=>by kernel_rfl
 have A: ∀ w:World,(Instr.index 317 (.agg ne) (.int .i64 4)).run Tryz.prog w= .ok (.agg #[.int .i64 27,.string ⟨#[109,97,114,107]⟩,.int .i64 0,.int .i64 1]) w:=fun _=>by kernel_rfl
 have way:k=0\/k=22\/k=24\/k=26\/k=27\/((0 == k)=false/\(22 == k)=false/\(24 == k)=false/\(26 == k)=false/\(27 == k)=false/\kI k=(.agg #[.int .i64 0,A7,.int .i64 0,.int .i64 0],false)):=by
  by_cases p:k=0
  ·simp[p]
  by_cases q:k=22
  ·simp[q]
  by_cases r:k=24
  ·simp[r]
  by_cases s:k=26
  ·simp[s]
  by_cases t:k=27
  ·simp[t]
  refine .inr (.inr (.inr (.inr (.inr ⟨?_,?_,?_,?_,?_,by simp[kI,p,q,r,s,t]⟩))));all_goals (rw[beq_eq_false_iff_ne]; omega)
 rcases way with rfl | rfl | rfl | rfl | rfl | ⟨p,q,r,s,t,hv⟩
 ·go_enter Qa,PU
  go_wp2_with (go_at_call 219; refine (mF _).mono ?_; rintro e w1 ⟨rfl,hb⟩; obtain⟨a,l⟩:=dn hb 0; obtain⟨b,m⟩:=dn hb 1; obtain⟨c,n⟩:=dn hb 2; obtain⟨d,o⟩:=dn hb 3; simp at a b c d; have HB:=Lib.hid hb; have hz:=rg hb; have f:w.heap.size<w1.heap.size+1:=(by omega); have g:w.heap.size<w1.heap.size+1+1:=(by omega); have h:w.heap.size<w1.heap.size+1+1+1:=(by omega); have i:w.heap.size<w1.heap.size+1+1+1+1:=(by omega); have j:w.heap.size<w1.heap.size+1+1+1+1+1:=(by omega); clear hb)
  refine wp_loop_rounds 6 ?_;repeat (rw[rounds_succ]; go_wp2_with fail)
  have hbel:Below w.heap.size w w1:=((Below.refl _ _).alloc (NA _) _).trans (HB.out.mono (by simp));refine bodyPost_ret (v:= .tuple #[(kI 0).1,.bool (kI 0).2]) ?_ rfl ⟨rfl,?_⟩
  ·simp[results,PJ,go_sem,a,b,c,d,hz,f,g,h,i,j,kI]
  ·repeat (first | (with_reducible exact hbel) | (with_reducible refine FT ?_ _ _) | (with_reducible refine sw ?_ _))
 ·go_enter Qa,PU
  go_wp2_with (go_at_call 219; refine (mF _).mono ?_; rintro e w1 ⟨rfl,hb⟩; obtain⟨a,l⟩:=dn hb 0; obtain⟨b,m⟩:=dn hb 1; obtain⟨c,n⟩:=dn hb 2; obtain⟨d,o⟩:=dn hb 3; simp at a b c d; have HB:=Lib.hid hb; have hz:=rg hb; have f:w.heap.size<w1.heap.size+1:=(by omega); have g:w.heap.size<w1.heap.size+1+1:=(by omega); have h:w.heap.size<w1.heap.size+1+1+1:=(by omega); have i:w.heap.size<w1.heap.size+1+1+1+1:=(by omega); have j:w.heap.size<w1.heap.size+1+1+1+1+1:=(by omega); clear hb)
  refine wp_loop_rounds 6 ?_;repeat (rw[rounds_succ]; go_wp2_with fail)
  have hbel:Below w.heap.size w w1:=((Below.refl _ _).alloc (NA _) _).trans (HB.out.mono (by simp));refine bodyPost_ret (v:= .tuple #[(kI 22).1,.bool (kI 22).2]) ?_ rfl ⟨rfl,?_⟩
  ·simp[results,PJ,go_sem,a,b,c,d,hz,f,g,h,i,j,kI]
  ·repeat (first | (with_reducible exact hbel) | (with_reducible refine FT ?_ _ _) | (with_reducible refine sw ?_ _))
 ·go_enter Qa,PU
  go_wp2_with (go_at_call 219; refine (mF _).mono ?_; rintro e w1 ⟨rfl,hb⟩; obtain⟨a,l⟩:=dn hb 0; obtain⟨b,m⟩:=dn hb 1; obtain⟨c,n⟩:=dn hb 2; obtain⟨d,o⟩:=dn hb 3; simp at a b c d; have HB:=Lib.hid hb; have hz:=rg hb; have f:w.heap.size<w1.heap.size+1:=(by omega); have g:w.heap.size<w1.heap.size+1+1:=(by omega); have h:w.heap.size<w1.heap.size+1+1+1:=(by omega); have i:w.heap.size<w1.heap.size+1+1+1+1:=(by omega); have j:w.heap.size<w1.heap.size+1+1+1+1+1:=(by omega); clear hb)
  refine wp_loop_rounds 6 ?_;repeat (rw[rounds_succ]; go_wp2_with fail)
  have hbel:Below w.heap.size w w1:=((Below.refl _ _).alloc (NA _) _).trans (HB.out.mono (by simp));refine bodyPost_ret (v:= .tuple #[(kI 24).1,.bool (kI 24).2]) ?_ rfl ⟨rfl,?_⟩
  ·simp[results,PJ,go_sem,a,b,c,d,hz,f,g,h,i,j,kI]
  ·repeat (first | (with_reducible exact hbel) | (with_reducible refine FT ?_ _ _) | (with_reducible refine sw ?_ _))
 ·go_enter Qa,PU
  go_wp2_with (go_at_call 219; refine (mF _).mono ?_; rintro e w1 ⟨rfl,hb⟩; obtain⟨a,l⟩:=dn hb 0; obtain⟨b,m⟩:=dn hb 1; obtain⟨c,n⟩:=dn hb 2; obtain⟨d,o⟩:=dn hb 3; simp at a b c d; have HB:=Lib.hid hb; have hz:=rg hb; have f:w.heap.size<w1.heap.size+1:=(by omega); have g:w.heap.size<w1.heap.size+1+1:=(by omega); have h:w.heap.size<w1.heap.size+1+1+1:=(by omega); have i:w.heap.size<w1.heap.size+1+1+1+1:=(by omega); have j:w.heap.size<w1.heap.size+1+1+1+1+1:=(by omega); clear hb)
  refine wp_loop_rounds 6 ?_;repeat (rw[rounds_succ]; go_wp2_with fail)
  have hbel:Below w.heap.size w w1:=((Below.refl _ _).alloc (NA _) _).trans (HB.out.mono (by simp));refine bodyPost_ret (v:= .tuple #[(kI 26).1,.bool (kI 26).2]) ?_ rfl ⟨rfl,?_⟩
  ·simp[results,PJ,go_sem,a,b,c,d,hz,f,g,h,i,j,kI]
  ·repeat (first | (with_reducible exact hbel) | (with_reducible refine FT ?_ _ _) | (with_reducible refine sw ?_ _))
 ·go_enter Qa,PU
  go_wp2_with (go_at_call 219; refine (mF _).mono ?_; rintro e w1 ⟨rfl,hb⟩; obtain⟨a,l⟩:=dn hb 0; obtain⟨b,m⟩:=dn hb 1; obtain⟨c,n⟩:=dn hb 2; obtain⟨d,o⟩:=dn hb 3; simp at a b c d; have HB:=Lib.hid hb; have hz:=rg hb; have f:w.heap.size<w1.heap.size+1:=(by omega); have g:w.heap.size<w1.heap.size+1+1:=(by omega); have h:w.heap.size<w1.heap.size+1+1+1:=(by omega); have i:w.heap.size<w1.heap.size+1+1+1+1:=(by omega); have j:w.heap.size<w1.heap.size+1+1+1+1+1:=(by omega); clear hb)
  refine wp_loop_rounds 6 ?_;repeat (rw[rounds_succ]; go_wp2_with fail)
  have hbel:Below w.heap.size w w1:=((Below.refl _ _).alloc (NA _) _).trans (HB.out.mono (by simp));refine bodyPost_ret (v:= .tuple #[(kI 27).1,.bool (kI 27).2]) ?_ rfl ⟨rfl,?_⟩
  ·simp[results,PJ,go_sem,a,b,c,d,hz,f,g,h,i,j,kI]
  ·repeat (first | (with_reducible exact hbel) | (with_reducible refine FT ?_ _ _) | (with_reducible refine sw ?_ _))
 ·go_enter Qa,PU
  go_wp2_with (go_at_call 219; refine (mF _).mono ?_; rintro e w1 ⟨rfl,hb⟩; obtain⟨a,l⟩:=dn hb 0; obtain⟨b,m⟩:=dn hb 1; obtain⟨c,n⟩:=dn hb 2; obtain⟨d,o⟩:=dn hb 3; simp at a b c d; have HB:=Lib.hid hb; have hz:=rg hb; have f:w.heap.size<w1.heap.size+1:=(by omega); have g:w.heap.size<w1.heap.size+1+1:=(by omega); have h:w.heap.size<w1.heap.size+1+1+1:=(by omega); have i:w.heap.size<w1.heap.size+1+1+1+1:=(by omega); have j:w.heap.size<w1.heap.size+1+1+1+1+1:=(by omega); clear hb)
  refine wp_loop_rounds 6 ?_;repeat (rw[rounds_succ]; go_wp2_with fail)
  have hbel:Below w.heap.size w w1:=((Below.refl _ _).alloc (NA _) _).trans (HB.out.mono (by simp));refine bodyPost_ret (v:= .tuple #[(kI k).1,.bool (kI k).2]) ?_ rfl ⟨rfl,?_⟩
  ·rw[hv];simp[results,PJ,go_sem,a,b,c,d,hz,f,g,h,i,j]
  ·repeat (first | (with_reducible exact hbel) | (with_reducible refine FT ?_ _ _) | (with_reducible refine sw ?_ _))
theorem Jm (k:Int) (r:Value) (b:Bool) (h:kI k=(r,b)) (w:World) :
 Calls Tryz.prog 191 #[.int .i64 k] w fun e w'=>e= .returned (.tuple #[r,.bool b])/\Below w.heap.size w w':=by
 have:=GY k w
 rwa [h] at this
def gQ (k:Int):Int×Int×ByteArray×Bool :=
 if k=0 then (3,4,⟨#[112,114,111,100,117,99,101]⟩,true) else if k=22 then (0,1,⟨#[98,101,103,105,110]⟩,true)
 else if k=24 then (0,0,⟨#[97,100,100]⟩,true) else if k=26 then (0,0,⟨#[101,110,100]⟩,true) else if k=27 then (0,1,⟨#[109,97,114,107]⟩,true) else (0,0,⟨#[]⟩,false)
theorem Dl (k:Int): ∃ f,kI k=(.agg #[.int .i64 f,.string (gQ k).2.2.1,.int .i64 (gQ k).1,.int .i64 (gQ k).2.1],(gQ k).2.2.2):=by
 by_cases a:k=0
 ·exact⟨0,by simp[kI,gQ,a]⟩
 by_cases b:k=22
 ·exact⟨22,by simp[kI,gQ,b]⟩
 by_cases c:k=24
 ·exact⟨24,by simp[kI,gQ,c]⟩
 by_cases d:k=26
 ·exact⟨26,by simp[kI,gQ,d]⟩
 by_cases e:k=27
 ·exact⟨27,by simp[kI,gQ,e]⟩
 exact⟨0,by simp[kI,gQ,a,b,c,d,e]⟩
def gR (k v:Int):Int:=if (gQ k).2.2.2=false then 12 else if v<(gQ k).1\/(gQ k).2.1<v then 7 else 0
theorem BM (k v:Int):mf Tryz.prog 147 #[.int .i64 k,.int .i64 v] (fun r N=>r= .int .i64 (gR k v)/\N = []):=by
 intro w;obtain⟨d,hr⟩:=Dl k;have HC:=Lib.hid (show gR k v=if (gQ k).2.2.2=false then 12 else if v<(gQ k).1\/(gQ k).2.1<v then 7 else 0 from rfl);generalize gR k v=c at *;generalize gQ k=q at *;obtain⟨lo,hi,nm,ok⟩:=q;simp only at hr;have HF:=Lib.hid (Jm k _ _ hr);clear hr;have way:(ok=false/\c=12)\/(ok=true/\v<lo/\c=7)\/(ok=true/\ ¬ v<lo/\hi<v/\c=7)\/(ok=true/\ ¬ v<lo/\ ¬ hi<v/\c=0):=by
  rw[HC.out];cases ok
  ·simp
  ·by_cases a:v<lo <;> by_cases b:hi<v <;> simp[a,b]
 clear HC;rcases way with⟨rfl,rfl⟩ | ⟨rfl,a,rfl⟩ | ⟨rfl,a,b,rfl⟩ | ⟨rfl,a,b,rfl⟩;all_goals
  go_enter Tryz.func147,Tryz.ntmps147
  go_wp2_with (go_at_call 191; refine (HF.out _).mono ?_; rintro e w1 ⟨rfl,hb⟩; have HB:=Lib.hid hb; clear hb)
  go_ret
  exact⟨_,_,rfl,⟨rfl,rfl⟩,LQ (sw HB.out _),trivial⟩
def wo (k v:Int):Option Int:=some (gR k v)
theorem Dm (k v:Int):wo k v=some (gR k v):=rfl
theorem tg (k v:Int) (r:Int) (h:wo k v=some r):aB Tryz.prog 147 #[.int .i64 k,.int .i64 v] .triv aI (fun u A' N=>u= .int .i64 r/\A'=aI/\N = []):=by
 obtain rfl:=M2 h;exact Lt (BM k v)
def Dn:eY := [(23,1,1),(25,0,0),(25,1,1),(25,2,2),(25,3,3)]
theorem aP:(Dn).OK Tryz.prog:=⟨FOK.mk NF rfl NG rfl,FOK.mk OA rfl M9 rfl,FOK.mk OA rfl M9 rfl,FOK.mk OA rfl M9 rfl,FOK.mk OA rfl Nh rfl,trivial⟩
def Do:List Nat := [3,9]
theorem gv:NOK Tryz.prog Do:=⟨Nc,NQ,trivial⟩
theorem kJ:BOK Tryz.prog 25 #[.int .i64 0,.int .i64 0,.int .i64 0,.bool false,A7] [(0,1),(1,1),(2,1),(3,2)]:=BOK.mk Tryz.zeroValue25 OA (by intro w; simp)
def mb (a0:fq):Option (Int):=(wo a0.Mn a0.Ml).bind fun a=>if a=0 then ((jy a0.Mt 4).bind fun b=>if b=true then ((qp a0.Mj).bind fun c=>if c=true then (if (a0.Mj.data.length:Int)>32767 then some 4 else some 0) else some 4) else some 11) else some a
theorem qJ (a0:fq) (r:Int) (h:mb a0=some r):aB Tryz.prog 93 #[.agg #[jI a0.Mn,jI a0.Ml,jI a0.Mt,.bool a0.Mj.null,jS a0.Mj.data]] .triv (aI) (fun v A' N=>v=jI r/\A'=aI/\N = []):=by
 refine aS Tryz.func93 Z Tryz.ntmps93 Z ?_;intro F w hX;unfold mb at h;refine Ka Z (TL.box Z .u Z Z (fun j=>(Kk aP Z (T.seq (Ka Z ?_)))));obtain⟨k,e,h⟩:=M1 h;refine Kf aP gv 0 Z 4 Z Z (Kt Z .u (.fn Tryz.call147 Z) (tg a0.Mn a0.Ml _ e) rT Z (KJ aP Z Z (J9 aP 2 Z ?_)));rcases jF h with⟨d,h⟩ | ⟨d,h⟩
 ·refine KG Z d (Kw (T.seq (T.block (Ka Z ?_))));obtain⟨l,f,h⟩:=M1 h;refine Kf aP gv 0 Z 2 Z Z (Kt Z .u (.fn Tryz.call101 Z) (KM (fun w=>dG a0.Mt 4 _ f w)) (fun _ _=>Ku _ _) Z (J9 aP 2 Z ?_));rcases jF h with⟨b,h⟩ | ⟨b,h⟩
  ·refine Kc (KN Z (bc b) (Ka Z (J9 aP 1 Z (Kb Z (Kp (us:=wL0 a0.Mj) 0 Z NL Nh Z Z Z) Z ?_))));obtain⟨m,i,h⟩:=M1 h;refine Kt Z .u (.fn Tryz.call148 Z) (nI a0.Mj _ i) rT Z ?_;rcases jF h with⟨a,h⟩ | ⟨a,h⟩
   ·refine J9 aP 2 Z (Kh 22 Z (bc a) (Kf aP gv 0 Z 3 Z Z (TL.q Z (.g Z Z Z) (KT Z Na) Z (Ki aP 3 Z ?_))));rcases jF h with⟨c,h⟩ | ⟨c,h⟩
    ·refine KE Z c (Ka Z (J9 aP 1 Z ?_));obtain rfl:=M2 h;exact Kc (T.ret (Ko (Ke (Km [1] Qd (Kd Z)))))
    refine KA Z c (T.skip (KD (X.seq (Ka Z (J9 aP 1 Z ?_)))));obtain rfl:=M2 h;exact Kc (T.ret (Km [1] Qd (Kd Z)))
   replace a:=M7 a;refine J9 aP 2 Z (Kh 22 Z (bt a) (K0 aP Z (Kr Z Z (Ka Z (J9 aP 1 Z ?_)))));obtain rfl:=M2 h;exact Kc (T.ret (Ko (Ke (Km [1] Qd (Kd Z)))))
  replace b:=M7 b;refine Kc (Kr Z (bt b) (Ka Z (J9 aP 1 Z ?_)));obtain rfl:=M2 h;exact Kc (T.ret (Ko (Ke (Km [1] Qd (Kd Z)))))
 refine KF Z d (Ka Z (J9 aP 2 Z ?_));obtain rfl:=M2 h;exact Kc (T.ret (Ke (Km [1] Qd (Kd Z))))
def mc (st:AI×Int) (a1:fq):Option (AI×Int):=(mb a1).bind fun c=>if c=0 then ((ed st a1.Mn 2).bind fun d=>(ed d a1.Ml 2).bind fun e=>(ed e a1.Mt 4).bind fun f=>(mC f a1.Mj 2).bind fun a=>some a) else ((lX st c).bind fun b=>some b)
theorem qK (g:Nat) (st:AI×Int) (a1:fq) (r:AI×Int) (h:mc st a1=some r):aB Tryz.prog 47 #[jP g,.agg #[jI a1.Mn,jI a1.Ml,jI a1.Mt,.bool a1.Mj.null,jS a1.Mj.data]] .triv (bz g st) (fun v A' N=>v= .tuple #[]/\A'=bz g r/\N = []):=by
 refine aS Tryz.func47 Z Tryz.ntmps47 Z ?_;intro F w hX;unfold mc at h;refine Ka Z (TL.box Z .u Z Z (fun p=>(Kc (T.seq (Ka Z (Kb Z (Kp (us := [jI a1.Mn,jI a1.Ml,jI a1.Mt,.bool a1.Mj.null,jS a1.Mj.data]) 0 Z O3 Of Z Z Z) Z ?_))))));obtain⟨m,e,h⟩:=M1 h;refine Kt Z .u (.fn Tryz.call93 Z) (qJ a1 _ e) rT Z (KJ aP Z Z (J9 aP 2 Z ?_));rcases jF h with⟨a,h⟩ | ⟨a,h⟩
 ·refine KG Z a (Kv Z ?_);obtain⟨f,i,h⟩:=M1 h;refine Kf aP gv 0 Z 3 Z Z (Kn 1 Z Z .u (.fn Tryz.call51 Z) (bu g st a1.Mn 2 _ i) sT Z Z (Ky Z ?_));obtain⟨j,k,h⟩:=M1 h;refine Kf aP gv 0 Z 3 Z Z (Kn 1 Z Z .u (.fn Tryz.call51 Z) (bu g f a1.Ml 2 _ k) sT Z Z (Ky Z ?_));obtain⟨l,b,h⟩:=M1 h;refine Kf aP gv 0 Z 3 Z Z (Kn 1 Z Z .u (.fn Tryz.call51 Z) (bu g j a1.Mt 4 _ b) sT Z Z (Kc (T.region Z (J9 aP 2 Z (Kb Z (Kp (us:=wL0 a1.Mj) 0 Z NL Nh Z Z Z) Z ?_)))));obtain⟨n,c,h⟩:=M1 h;refine Kn 1 Z Z .u (.fn Tryz.call95 Z) (kp g l a1.Mj 2 _ c) sT Z Z ?_;obtain rfl:=M2 h;exact TL.nil (Lm [1] Tryz.results47 ⟨Z,Z,Z⟩ QL (.inr Z))
 refine KF Z a (Ka Z ?_);obtain⟨o,d,h⟩:=M1 h;refine J9 aP 2 Z (Kn 1 Z Z .u (.fn Tryz.call94 Z) (g6 g st m _ d) sT Z Z ?_);obtain rfl:=M2 h;exact Kc (T.ret (Ke (Lm [1] Tryz.results47 ⟨Z,Z,Z⟩ QL (.inl Z))))
def gT (st:I)  : Option (fq×I):=(ea st 2).bind fun (e,o)=>(ea o 2).bind fun (f,p)=>(iG p).bind fun (z,a)=>if z=0 then ((wo e f).bind fun g=>if g=0 then ((ea a 4).bind fun (q,h)=>(lc h 2).bind fun (r,i)=>(iG i).bind fun (s,b)=>if s=0 then (some ((⟨e,f,q,r⟩:fq),b)) else (some ((⟨0,0,0,(⟨false,[]⟩:Bl)⟩:fq),b))) else ((ci a g).bind fun j=>(ea j 4).bind fun (t,k)=>(lc k 2).bind fun (u,l)=>(iG l).bind fun (v,c)=>if v=0 then (some ((⟨e,f,t,u⟩:fq),c)) else (some ((⟨0,0,0,(⟨false,[]⟩:Bl)⟩:fq),c)))) else ((ea a 4).bind fun (w,m)=>(lc m 2).bind fun (x,n)=>(iG n).bind fun (y,d)=>if y=0 then (some ((⟨e,f,w,x⟩:fq),d)) else (some ((⟨0,0,0,(⟨false,[]⟩:Bl)⟩:fq),d)))
theorem rE (g:Nat) (st:I)  (r:fq×I) (h:gT st  = some r):aB Tryz.prog 115 #[jP g] .triv (InR g st) (fun v A' N=>v= .agg #[jI r.1.Mn,jI r.1.Ml,jI r.1.Mt,.bool r.1.Mj.null,jS r.1.Mj.data]/\A'=InR g r.2/\N = []):=by
 refine aS Tryz.func115 Z Tryz.ntmps115 Z ?_;intro F w hX;unfold gT at h;refine Ka Z (TL.alloc Z .u Tryz.zeroValue25 Z (fun b1=>(Ky Z ?_)));obtain⟨⟨a,Q⟩,R,h⟩:=M1 h;refine J9 aP 1 Z (Kn 1 Z Z .u (.fn Tryz.call68 Z) (bw g st 2 _ R) sT Z Z ?_);obtain⟨⟨b,S⟩,U,h⟩:=M1 h;refine J9 aP 1 Z (Kn 1 Z Z .u (.fn Tryz.call68 Z) (bw g Q 2 _ U) sT Z Z ?_);refine Kb Z (KH (cells:=Ah a b) kJ Z QK) Z ?_;refine TL.alloc Z .u Tryz.zeroValue25 Z (fun b8=>(Kj 0 Z (cs':=Ah a b) Z .u Z Z Of Z Z Z Z Z (Kc (T.seq (Ka Z ?_)))));obtain⟨⟨x9,k⟩,q,h⟩:=M1 h;refine J9 aP 1 Z (Kn 2 Z Z .u (.fn Tryz.call23 Z) (cz g S _ q) sT Z Z (J9 aP 1 Z ?_));rcases jF h with⟨l,h⟩ | ⟨l,h⟩
 ·refine KE Z l (Ka Z ?_);obtain⟨V,s,h⟩:=M1 h;refine Kf aP gv 0 Z 4 Z Z (Kt Z .u (.fn Tryz.call147 Z) (tg a b _ s) rT Z (KJ aP Z Z (J9 aP 2 Z ?_)));rcases jF h with⟨m,h⟩ | ⟨m,h⟩
  ·refine KG Z m (Kv Z ?_);obtain⟨⟨c,t⟩,x,h⟩:=M1 h;refine J9 aP 1 Z (Kn 2 Z Z .u (.fn Tryz.call68 Z) (bw g k 4 _ x) sT Z Z (J9 aP 1 Z (Kj 0 Z (cs':=vA16 a b c) Z .u Z Z M9 Z Z Z Z Z (Ky Z ?_))));obtain⟨⟨d,y⟩,z,h⟩:=M1 h;refine J9 aP 1 Z (Kn 2 Z Z .u (.fn Tryz.call142 Z) (j8 g t 2 _ z) sT Z Z (J9 aP 1 Z (Kj 0 Z (cs':=Aj a b c d) Z .u Z Z Nh Z Z Z Z Z (Kc (T.seq (Ka Z ?_))))));obtain⟨⟨aa,W⟩,A,h⟩:=M1 h;refine J9 aP 1 Z (Kn 2 Z Z .u (.fn Tryz.call23 Z) (cz g y _ A) sT Z Z (J9 aP 1 Z ?_));rcases jF h with⟨n,h⟩ | ⟨n,h⟩
   ·refine KG Z n (Kv Z (Kb Z (Kp (us := [jI a,jI b,jI c,.bool d.null,jS d.data]) 0 Z O3 Of Z Z Z) Z (Kj 1 Z (cs':=Aj a b c d) Z .u Z Z Of Z Z Z Z Z ?_)));obtain rfl:=M2 h;exact Kc (T.ret (Km [2] PK (Kz (us:=Aj a b c d) 1 Z O3 Of Z Z)))
   refine KF Z n (Ka Z ?_);refine Kb Z (KH (cells:=nw) kJ Z QK) Z ?_;refine Kj 1 Z (cs':=nw) Z .u Z Z Of Z Z Z Z Z ?_;obtain rfl:=M2 h;exact Kc (T.ret (Ke (Km [2] PK (Kz (us:=nw) 1 Z O3 Of Z Z))))
  refine KF Z m (T.region Z ?_);obtain⟨B,C,h⟩:=M1 h;refine J9 aP 2 Z (Kn 2 Z Z .u (.fn Tryz.call70 Z) (bD g k V _ C) sT Z Z (Ky Z ?_));obtain⟨⟨e,D⟩,E,h⟩:=M1 h;refine J9 aP 1 Z (Kn 2 Z Z .u (.fn Tryz.call68 Z) (bw g B 4 _ E) sT Z Z (J9 aP 1 Z (Kj 0 Z (cs':=vA16 a b e) Z .u Z Z M9 Z Z Z Z Z (Ky Z ?_))));obtain⟨⟨f,G⟩,H,h⟩:=M1 h;refine J9 aP 1 Z (Kn 2 Z Z .u (.fn Tryz.call142 Z) (j8 g D 2 _ H) sT Z Z (J9 aP 1 Z (Kj 0 Z (cs':=Aj a b e f) Z .u Z Z Nh Z Z Z Z Z (Kc (T.seq (Ka Z ?_))))));obtain⟨⟨ab,X⟩,J,h⟩:=M1 h;refine J9 aP 1 Z (Kn 2 Z Z .u (.fn Tryz.call23 Z) (cz g G _ J) sT Z Z (J9 aP 1 Z ?_));rcases jF h with⟨o,h⟩ | ⟨o,h⟩
  ·refine KG Z o (Kv Z (Kb Z (Kp (us := [jI a,jI b,jI e,.bool f.null,jS f.data]) 0 Z O3 Of Z Z Z) Z (Kj 1 Z (cs':=Aj a b e f) Z .u Z Z Of Z Z Z Z Z ?_)));obtain rfl:=M2 h;exact Kc (T.ret (Km [2] PK (Kz (us:=Aj a b e f) 1 Z O3 Of Z Z)))
  refine KF Z o (Ka Z ?_);refine Kb Z (KH (cells:=nw) kJ Z QK) Z ?_;refine Kj 1 Z (cs':=nw) Z .u Z Z Of Z Z Z Z Z ?_;obtain rfl:=M2 h;exact Kc (T.ret (Ke (Km [2] PK (Kz (us:=nw) 1 Z O3 Of Z Z))))
 refine KA Z l (Kv Z ?_);obtain⟨⟨i,K⟩,L,h⟩:=M1 h;refine J9 aP 1 Z (Kn 2 Z Z .u (.fn Tryz.call68 Z) (bw g k 4 _ L) sT Z Z (J9 aP 1 Z (Kj 0 Z (cs':=vA16 a b i) Z .u Z Z M9 Z Z Z Z Z (Ky Z ?_))));obtain⟨⟨j,M⟩,O,h⟩:=M1 h;refine J9 aP 1 Z (Kn 2 Z Z .u (.fn Tryz.call142 Z) (j8 g K 2 _ O) sT Z Z (J9 aP 1 Z (Kj 0 Z (cs':=Aj a b i j) Z .u Z Z Nh Z Z Z Z Z (Kc (T.seq (Ka Z ?_))))));obtain⟨⟨ad,Y⟩,P,h⟩:=M1 h;refine J9 aP 1 Z (Kn 2 Z Z .u (.fn Tryz.call23 Z) (cz g M _ P) sT Z Z (J9 aP 1 Z ?_));rcases jF h with⟨p,h⟩ | ⟨p,h⟩
 ·refine KG Z p (Kv Z (Kb Z (Kp (us := [jI a,jI b,jI i,.bool j.null,jS j.data]) 0 Z O3 Of Z Z Z) Z (Kj 1 Z (cs':=Aj a b i j) Z .u Z Z Of Z Z Z Z Z ?_)));obtain rfl:=M2 h;exact Kc (T.ret (Km [2] PK (Kz (us:=Aj a b i j) 1 Z O3 Of Z Z)))
 refine KF Z p (Ka Z ?_);refine Kb Z (KH (cells:=nw) kJ Z QK) Z ?_;refine Kj 1 Z (cs':=nw) Z .u Z Z Of Z Z Z Z Z ?_;obtain rfl:=M2 h;exact Kc (T.ret (Ke (Km [2] PK (Kz (us:=nw) 1 Z O3 Of Z Z))))
end Go.Proofs.YtheikonlgjdopaaGreat.Sl
