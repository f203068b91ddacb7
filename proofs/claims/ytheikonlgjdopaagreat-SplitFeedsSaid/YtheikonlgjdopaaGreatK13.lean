/- SplitFeeds: for every input the law returns true, and its arguments read behind the call as they did before. -/
import Derived.Test.YtheikonlgjdopaaGreatRows
import Derived.WalkKit
import Derived.ProofKit
import Derived.OpenShut
import Derived.ShutString
import Derived.ChangeOld
import Derived.Below
import Derived.SizedLaws
import Derived.Test.YtheikonlgjdopaaGreatK12
set_option maxRecDepth 100000
set_option maxHeartbeats 4000000
set_option linter.defProp false
namespace Go.Proofs.YtheikonlgjdopaaGreat.Sl
open Go.RowKit
set_option linter.unusedVariables false
set_option linter.unusedSimpArgs false
def QA := @Tryz.runUnderlying72
def vc:eY := [(85,0,0),(85,1,1),(85,2,2)]
theorem ai:(vc).OK Tryz.prog:=⟨FOK.mk OS rfl Tryz.sizeOf75 rfl,FOK.mk OS rfl M9 rfl,FOK.mk OS rfl M9 rfl,trivial⟩
theorem iS:Tryz.prog.follows .mixedOrders=true:=by kernel_rfl
theorem q9:BOK Tryz.prog 25 #[.int .i64 0,.int .i64 0,.int .i64 0,.bool false,A7] [(0,1),(1,1),(2,1),(3,2)]:=BOK.mk Tryz.zeroValue25 OA (by intro w; simp)
theorem ra:BOK Tryz.prog 32 #[A7,.int .i64 0,.int .i64 0,.bool false] [(0,1),(1,1),(2,1),(3,1)]:=BOK.mk Tryz.zeroValue32 Ok (by intro w; simp)
theorem rc:BOK Tryz.prog 38 #[.int .i64 0,.int .i64 0,.int .i64 0,.bool false,A7,.bool false,A7,.int .i64 0,.int .i64 0,.int .i64 0,A7,.int .i64 0,.int .i64 0,A5,A7,.int .i64 0,.int .i64 0,.bool false,A5,.bool false,A7,.int .i64 0,.int .i64 0,A5] [(0,5),(5,5),(10,4),(14,4),(18,1),(19,5)]:=BOK.mk Tryz.zeroValue38 Od (by intro w; simp)
theorem kP:SOK Tryz.prog 78 9 1 1 #[A7]:=SOK.mk Oz NG Tryz.zeroValue9 QJ QK
theorem ms:(Tryz.prog.info? 9).map (fun i=>(i.zero,i.size,i.bytes))=some (some A7,1,16):=by kernel_rfl
def mB  : Option (Bool):=(ng (⟨(⟨26,0,0,(⟨false,[]⟩:Bl)⟩:fq),(⟨(⟨false,[]⟩:Bl),0,0,0⟩:bg),(⟨[],0,0,[]⟩:bU),(⟨[97],0,0,false⟩:bT),[],(⟨(⟨false,[]⟩:Bl),0,0,[]⟩:aC)⟩:aH)).bind fun (d,n)=>(lV).bind fun f=>(if n=0 then (if (d.length:Int)=28 then some false else some true) else some true).bind fun o=>if o=true then some false else (if 9<=d.length then ((cE f (d.take 9)).bind fun (g,h,e)=>if 9<=d.length then ((cE e (d.drop 9)).bind fun (i,j,a)=>(if (g.length:Int)=0 then (if h=0 then (if (i.length:Int)=1 then (if j=0 then ((fg a).bind fun (k,c)=>if k=1 then ((dR c).bind fun (l,b)=>if l=0 then some (true,b.fcount.fmany,b.fcount.fat,b.fheld,b.ferr) else some (false,b.fcount.fmany,b.fcount.fat,b.fheld,b.ferr)) else some (false,c.fcount.fmany,c.fcount.fat,c.fheld,c.ferr)) else some (false,a.fcount.fmany,a.fcount.fat,a.fheld,a.ferr)) else some (false,a.fcount.fmany,a.fcount.fat,a.fheld,a.ferr)) else some (false,a.fcount.fmany,a.fcount.fat,a.fheld,a.ferr)) else some (false,a.fcount.fmany,a.fcount.fat,a.fheld,a.ferr)).bind fun (m,p,q,r,s)=>some m) else none) else none)
theorem tD  (r:Bool) (h:mB  = some r):aB Tryz.prog 26 #[] .triv (aI) (fun v A' N=>v= .bool r/\A'=aI/\N = []):=by
 refine aS Tryz.func26 Z Tryz.ntmps26 Z ?_;intro F w hX;unfold mB at h;refine Ka Z (KJ ai Z Z ?_);refine Kb Z (KH (cells:= #[jI 26,jI 0,jI 0,.bool false,A7]) q9 Z QK) Z ?_;refine Kb Z (KH (cells:= #[.string ⟨#[97]⟩,jI 0,jI 0,.bool false]) ra Z QK) Z ?_;refine Kb Z (KH (cells:= #[jI 26,jI 0,jI 0,.bool false,A7,.bool false,A7,jI 0,jI 0,jI 0,A7,jI 0,jI 0,A5,.string ⟨#[97]⟩,jI 0,jI 0,.bool false,A5,.bool false,A7,jI 0,jI 0,A5]) rc Z QK) Z ?_;obtain⟨⟨a,x2⟩,L,h⟩:=M1 h;refine Kt Z .u (.fn Tryz.call12 Z) (rF (⟨(⟨26,0,0,(⟨false,[]⟩:Bl)⟩:fq),(⟨(⟨false,[]⟩:Bl),0,0,0⟩:bg),(⟨[],0,0,[]⟩:bU),(⟨[97],0,0,false⟩:bT),[],(⟨(⟨false,[]⟩:Bl),0,0,[]⟩:aC)⟩:aH) _ _ _ _ _ _ _ L) (fun _ hs=>(La eJ (La eJ eJ))) Z (J9 ai 5 Z ?_);obtain⟨y,M,h⟩:=M1 h;refine Ky Z (K2 Z .u (.fn Tryz.call27 Z) (oY _ M) rT Z ?_);rintro _ _ _ ⟨c,rfl,rfl,rfl⟩;refine KK [0,0] Z (Kk ai Z (Lq ?_));obtain⟨y9,h,f⟩:=M1 h;refine K7 (fun e Rs=>e = [(0,.bool false),(1,jS a),(3,jP c),(26,.bool y9)]/\Rs = [aR c 149 (tU y),aI]) ?_ ?_
 ·clear f;refine T.region Z ?_;rcases jF h with⟨j,h⟩ | ⟨j,h⟩
  ·refine J9 ai 3 Z (Kh 18 Z (bc (M4 j)) (Ki ai 1 Z (TL.q Z (.g Z Z Z) (KT Z Na) Z ?_)));rcases jF h with⟨k,h⟩ | ⟨k,h⟩
   ·refine Ki ai 3 Z (Kh 23 Z (bc (M4 k)) (Ki ai 1 Z (TL.q Z (.g Z Z Z) (Ex.pNe (.inl ⟨Z,Z⟩) Z Z Tryz.runUnderlying76) Z (Ki ai 1 Z ?_))));cases h;exact TL.nil (Kq [0,0])
   refine Ki ai 3 Z (Kh 23 Z (bt (M5 k)) (Ki ai 3 Z ?_));cases h;exact TL.nil (Kq [0,0])
  refine J9 ai 3 Z (Kh 18 Z (bt (M5 j)) (Ki ai 8 Z ?_));cases h;exact TL.nil (Kq [0,0])
 rintro _ _ ⟨rfl,rfl⟩;clear h;have h:=f;clear f;try dsimp only at h
 rcases jF h with⟨b,h⟩ | ⟨b,h⟩
 ·refine X.seq (Kr Z b (Ka Z (J9 ai 1 Z ?_)));obtain rfl:=M2 h;exact Kc (T.ret (Ke (Km [1] Tryz.results26 (Kd Z))))
 replace b:=M7 b;refine X.seq (KN Z b (Kv Z ?_));obtain⟨z,h⟩:=aj h;refine J9 ai 2 Z ?_;replace z:9<=a.length:=z;refine Kb Z (KZ (p:=0) (q:=9) (m:=(a.take 9)) Z Na .none (.some Z Z) (by first | omega | (dsimp only; omega)) (by simp)) Z ?_;obtain⟨⟨A,ab,D⟩,E,h⟩:=M1 h;refine TL.cg0 Z .u (.fn Tryz.call29 Z) (fX c y (a.take 9) _ E) sT Z ?_;rintro _ _ _ ⟨O,P,rfl,rfl,rfl⟩;refine KK [0,0,0] Z (KJ ai Z Z ?_);obtain⟨B,h⟩:=aj h;refine J9 ai 2 Z ?_;replace B:9<=a.length:=B;refine Kb Z (KZ (p:=9) (q:=a.length) (m:=(a.drop 9)) Z Na (.some Z Z) .none (by first | omega | (dsimp only; omega)) (dy _ _)) Z ?_;obtain⟨⟨C,ad,G⟩,H,h⟩:=M1 h;refine LR Z .u (.fn Tryz.call29 Z) (fX c D (a.drop 9) _ H) sT Z ?_;rintro _ _ _ ⟨Q,R,rfl,rfl,rfl⟩;refine KK [0,0,0,0] Z (Kk ai Z (T.seq ?_));obtain⟨⟨S,U,V,W,Y⟩,h,i⟩:=M1 h;refine K7 (fun e Rs=>e = [(0,.bool S)]/\Rs = [RdR (ar 24 du) [.slice Q C.length R] C,RdR (ar 24 du) [.slice O A.length P] A,aR c 149 (Da U V W Y),aI]) ?_ ?_
 ·clear i;refine T.region Z (J9 ai 1 Z (Kb Z (KC Z Pb) Z ?_));rcases jF h with⟨l,h⟩ | ⟨l,h⟩
  ·refine J9 ai 2 Z (Kh 44 Z (M4 l) ?_);rcases jF h with⟨n,h⟩ | ⟨n,h⟩
   ·refine Ki ai 4 Z (Kh 48 Z (M4 n) (Ki ai 1 Z (TL.q Z (.g Z Z Z) (KC Z Pb) Z ?_)));rcases jF h with⟨o,h⟩ | ⟨o,h⟩
    ·refine Ki ai 3 Z (Kh 53 Z (M4 o) ?_);rcases jF h with⟨s,h⟩ | ⟨s,h⟩
     ·refine Ki ai 4 Z (Kh 57 Z (M4 s) ?_);obtain⟨⟨ae,I⟩,J,h⟩:=M1 h;refine Ki ai 1 Z (Kn 2 Z Z (.g Z Z Z) (.fn Tryz.call34 Z) (jz c G _ J) sT Z Z ?_);rcases jF h with⟨t,h⟩ | ⟨t,h⟩
      ·refine Ki ai 3 Z (Kh 62 Z (M4 t) ?_);obtain⟨⟨af,aa⟩,K,h⟩:=M1 h;refine Ki ai 1 Z (Kn 2 Z Z (.g Z Z Z) (.fn Tryz.call32 Z) (fU c I _ K) sT Z Z (Ki ai 3 Z ?_));rcases jF h with⟨x,h⟩ | ⟨x,h⟩
       ·cases h;exact TL.nil (K3 (d:=0) (v':= .bool true) Z (congrArg Value.bool (M4 x)) (Kq [0,0,0,0]))
       cases h;exact TL.nil (K3 (d:=0) (v':= .bool false) Z (congrArg Value.bool (M5 x)) (Kq [0,0,0,0]))
      refine Ki ai 3 Z (Kh 62 Z (M5 t) (Ki ai 5 Z ?_));cases h;exact TL.nil (Kq [0,0,0,0])
     refine Ki ai 4 Z (Kh 57 Z (M5 s) (Ki ai 10 Z ?_));cases h;exact TL.nil (Kq [0,0,0,0])
    refine Ki ai 3 Z (Kh 53 Z (M5 o) (Ki ai 14 Z ?_));cases h;exact TL.nil (Kq [0,0,0,0])
   refine Ki ai 4 Z (Kh 48 Z (M5 n) (Ki ai 19 Z ?_));cases h;exact TL.nil (Kq [0,0,0,0])
  refine J9 ai 2 Z (Kh 44 Z (M5 l) (Ki ai 23 Z ?_));cases h;exact TL.nil (Kq [0,0,0,0])
 rintro _ _ ⟨rfl,rfl⟩;clear h;have h:=i;clear i;obtain rfl:=M2 h;exact X.seq (T.ret (Km [3] Tryz.results26 (Kd Z)))
def gp:List Int->AI->List AI->Option (AI×List AI)
 | [],b,d=>some (b,d)
 | c::xs,b,d=>(if A0 c then (if (b.length:Int)<c then some (b.length:Int) else some c) else none).bind fun a=>if 0<=a/\a.toNat<=b.length then (if 0<=a/\a.toNat<=b.length then (if (d.length+1)*16<=140737488355328 then (gp xs (b.drop a.toNat) (d ++ [(b.take a.toNat)])) else none) else none) else none
def o4 (a0:AI) (a1:List Int):Option (List AI):=(gp a1 a0 []).bind fun (b,a)=>if (a.length+1)*16<=140737488355328 then some (a ++ [b]) else none
theorem ym (a0:AI) (a1:List Int) (M:AT) (c2:Nat) (r:List AI) (h:o4 a0 a1=some r):aB Tryz.prog 28 #[jS a0,.slice M a1.length c2] (RX.of (ar 1 u8E) [.slice M a1.length c2] a1) (aI) (fun v A' N=> ∃ (H:AT) (I:Nat),v= .slice H r.length I/\A'=aI/\N = [RdR (ar 1 lF) [.slice H r.length I] r]):=by
 refine aS Tryz.func28 Z Tryz.ntmps28 Z ?_;intro F w hX;unfold o4 at h;refine Ka Z (KJ ai Z Z (Kk ai Z (T.seq (Ka Z (J9 ai 1 Z (Kb Z (KC Z QA) Z (J9 ai 1 Z ?_)))))));refine Kc (T.block (Le 9 1 lF ?_));obtain⟨E8,J,j⟩:=M1 h;have Q:=Lb hX;refine K4 (fun m e Rs=> ∃ (b:AI) (c:List AI) (n:AT) (o:Nat) (d:Nat),d+m=a1.length/\e = [(0,jS b),(4,A5),(5,.slice n c.length o),(9,.slice M a1.length c2),(10,jI (a1.length:Int)),(11,jI (d:Int))]/\Rs = [bC 9 1 lF (.slice n c.length o) c,aI]/\gp (a1.drop d) b c=some E8) (a1.length) [0,0] ⟨a0,[],none,0,0,by simp,Z,Z,by rw[List.drop_zero]; exact J⟩ QL QL ?_;clear J h;rintro s _ _ ⟨b,c,n,o,d,aa,rfl,rfl,h⟩
 cases s with
 | zero =>
  rw[List.drop_of_length_le QI,gp] at h;have t: ¬ ((d:Int)<(a1.length:Int)):=by omega
  refine Ka Z (Kk ai Z (T.seq (KN Z (M5 t) ?_)));obtain rfl:=M2 h;replace h:=j;clear j;refine T.exit (Kx (Kx (K1 (X.seq (Ka Z (J9 ai 2 Z (Lj (cells:= #[jS b]) Z .u kP Z QL Z (fun ad=> ?_))))))));obtain⟨K,h⟩:=aj h;refine L2 0 Z .u (us := [jS b]) (u:=b) (l:=c) (E:=lF) Tryz.underlying78 ms Z QJ Z Z Z Z Z Z (fun _ _=>Z) (by have hq:=K; omega) (by have hq:=K; omega) Z (fun ae af=> ?_);refine KK [0,0] Z (J9 ai 1 Z ?_);obtain rfl:=M2 h;exact Kc (T.ret (Ll QJ 0 Z (KX [0,0] Z (Ks [1,0] Tryz.results28 (Kd Z) ⟨_,_,Z,Z,Z⟩ QL (.inl Z)))))
 | succ s =>
  obtain⟨R,f⟩: ∃ x,a1[d]? = some x:=⟨_,List.getElem?_eq_getElem QI⟩;rw[bN f,gp] at h;have y:(d:Int)<(a1.length:Int):=by omega
  refine Ka Z (Kk ai Z (T.seq (Kr Z (M4 y) ?_)));obtain⟨O,P,rfl,C,W,D,G,g⟩:=KU QJ hX f;obtain⟨ab,g,Y⟩:=g;obtain rfl:C = [.int .u8 R]:=g;refine Kw (T.seq (T.block (Ka Z ?_)));refine Kb Z (KB (k:=d) Z Z Z QA Tryz.sizeOf5 (M6 f).1) Z ?_;refine Kb Z (K5 0 Z Tryz.isAgg5 G D Z Z) Z (Kk ai Z (T.seq ?_));obtain⟨a,h,i⟩:=M1 h;refine K7 (fun e Rs=>e = [(0,jS b),(4,A5),(5,.slice n c.length o),(8,jI a),(9,.slice (some ⟨O,P,none⟩) a1.length c2),(10,jI (a1.length:Int)),(11,jI (d:Int))]/\Rs = [bC 9 1 lF (.slice n c.length o) c,aI]) ?_ ?_
  ·clear i;refine T.region Z ?_;obtain⟨S,h⟩:=aj h;refine J9 ai 1 Z (Kb Z (LK Z QB Ox S) Z (J9 ai 1 Z (Kb Z (KT Z Na) Z ?_)));rcases jF h with⟨z,h⟩ | ⟨z,h⟩
   ·refine Kb Z (Ex.miny Z Z z) Z (J9 ai 1 Z ?_);cases h;exact TL.nil (Kq [0,0])
   refine Kb Z (Ex.minx Z Z z) Z (J9 ai 1 Z ?_);cases h;exact TL.nil (Kq [0,0])
  rintro _ _ ⟨rfl,rfl⟩;clear h;have h:=i;clear i;refine X.seq (KQ (.q 0 (.q 1 (.q 2 (.q 3 (.q 6 (.q 7 (.q 8 (.e 4 (.e 5 (.q 9 (.q 10 .nil))))))))))) [1] Z iS (NoP.blk (NoP.seq (NoP.seq (NoP.blk (NoP.seq bi))))) QK ?_);obtain⟨A,h⟩:=aj h;refine TD.run ai [0,1,2] Z Z ?_;replace A:0<=a/\a.toNat<=b.length:=A;refine Kg Z (KZ (p:=0) (q:=a.toNat) (m:=(b.take a.toNat)) Z Na .none (.some Z ((Int.toNat_of_nonneg A.1).symm)) (by first | omega | (dsimp only; omega)) (by simp)) Z ?_;obtain⟨B,h⟩:=aj h;refine TD.run ai [6,7] Z Z ?_;replace B:0<=a/\a.toNat<=b.length:=B;refine Kg Z (KZ (p:=a.toNat) (q:=b.length) (m:=(b.drop a.toNat)) Z Na (.some Z ((Int.toNat_of_nonneg B.1).symm)) .none (by first | omega | (dsimp only; omega)) (dy _ _)) Z ?_;refine Lu (cells:= #[.string (aW (b.take a.toNat))]) Z .u kP Z QL Z [2] (fun _=>Z) (fun ag=> ?_);obtain⟨L,h⟩:=aj h;refine LP 0 Z .u (us := [.string (aW (b.take a.toNat))]) (u:=(b.take a.toNat)) (l:=c) (E:=lF) Tryz.underlying78 ms Z QJ Z Z Z Z Z Z (fun _ _=>Z) (by have hq:=L; omega) (by have hq:=L; omega) Z [1] (fun _ _=>Z) (fun U V=> ?_);exact Lg [0,0] Z (TD.run ai [9,10] Z Z (TD.nil (KD (X.seq (T.region Z (Kb Z (Ex.add Z Z QI) Z (J9 ai 1 Z (TL.nil (X.back (m':=s) [0,0] QI ⟨(b.drop a.toNat),(c ++ [(b.take a.toNat)]),U,V,d+1,by omega,Z,Z,h⟩ QL QL)))))))))
def gx (a1:List bE):List aH->Bool->Nat->Option (Lp Bool Bool)
 | [],a,b=>some (Lp.go a)
 | c::xs,a,b=>(a1[b]?).bind fun d=>(oR c).bind fun e=>(j2 e d).bind fun f=>if f=true then (gx a1 xs a (b+1)) else some (Lp.ret false)
def nq (a0:List aH) (a1:List bE):Option (Bool):=if (a0.length:Int)=(a1.length:Int) then ((gx a1 a0 false 0).bind fun e=>match e with | .ret r=>some r | .go a=>some true) else some false
theorem wl (a0:List aH) (D:AT) (c2:Nat) (a1:List bE) (E:AT) (G:Nat) (r:Bool) (h:nq a0 a1=some r):aB Tryz.prog 30 #[.slice D a0.length c2,.slice E a1.length G] (RX.and (RX.of (ar 24 du) [.slice D a0.length c2] a0) (RX.of (ar 18 g7) [.slice E a1.length G] a1)) (aI) (fun v A' N=>v= .bool r/\A'=aI/\N = []):=by
 refine aS Tryz.func30 Z Tryz.ntmps30 Z ?_;intro F w hX;obtain⟨S,hS,hSF⟩:=hX;have hX:(RX.and (RX.of (ar 24 du) [.slice D a0.length c2] a0) (RX.of (ar 18 g7) [.slice E a1.length G] a1)).reads w F:=⟨S,hS,hSF⟩;unfold nq at h;refine Ka Z (Kk ai Z (T.seq (Ka Z (J9 ai 1 Z (Kb Z (KC Z Pb) Z (J9 ai 1 Z (Kb Z (KC Z Pa) Z (J9 ai 1 Z ?_))))))));rcases jF h with⟨c5,h⟩ | ⟨c5,h⟩
 ·refine KG Z c5 (Kw (T.seq (Ka Z (J9 ai 1 Z (Kb Z (KC Z Pb) Z (Kk ai Z (T.block ?_)))))));obtain⟨E8,Q,g⟩:=M1 h;have ak:=Lb (K8 hX);refine K4 (fun m e Rs=> ∃ (H:Bool) (c:Nat),c+m=a0.length/\e = [(1,.slice E a1.length G),(4,.bool H),(12,.slice D a0.length c2),(13,jI (a0.length:Int)),(14,jI (c:Int))]/\Rs = [aI]/\gx a1 (a0.drop c) H c=some E8) (a0.length) [0] ⟨false,0,by simp,Z,Z,by rw[List.drop_zero]; exact Q⟩ QL QL ?_;clear Q h;rintro z _ _ ⟨H,c,az,rfl,rfl,h⟩
  cases z with
  | zero =>
   rw[List.drop_of_length_le QI,gx] at h;have A: ¬ ((c:Int)<(a0.length:Int)):=by omega
   refine Ka Z (Kk ai Z (T.seq (KN Z (M5 A) ?_)));obtain rfl:=M2 h;replace h:=g;clear g;refine T.exit (Kx (Kx (K1 (X.seq (Ka Z (J9 ai 1 Z ?_))))));obtain rfl:=M2 h;exact Kc (T.ret (Km [0] Tryz.results30 (Kd Z)))
  | succ z =>
   obtain⟨a,d⟩: ∃ x,a0[c]? = some x:=⟨_,List.getElem?_eq_getElem QI⟩;rw[bN d,gx] at h;have B:(c:Int)<(a0.length:Int):=by omega
   refine Ka Z (Kk ai Z (T.seq (Kr Z (M4 B) (Kw (T.seq (T.block (Ka Z ?_)))))));obtain⟨aA,aC,rfl,av,aw,I,J,ab⟩:=L6 QJ hS.1 hSF d;obtain⟨i,j,l,n,o,p,rfl,s,t,y⟩:=ab;have aD:(RX.of (ar 2 aU) [.slice i a.MJ.Mc.length j] a.MJ.Mc).reads w F:=⟨S,s,hSF⟩;have aE:(RX.of (ar 5 bk) [.slice l a.MF.length n] a.MF).reads w F:=⟨S,t,hSF⟩;have aF:(RX.of (ar 2 aT) [.slice o a.Mp.Mc.length p] a.Mp.Mc).reads w F:=⟨S,y,hSF⟩;refine J9 ai 1 Z ?_;refine Kb Z (KB (k:=c) Z Z Z Pb Nt (M6 d).1) Z ?_;refine Kb Z (Lf (us:=C6 a i l o j n p) 0 Z N6 Nt J I Z Z Z) Z (TL.alloc Z .u Tryz.zeroValue38 Z (fun aK=>(J9 ai 1 Z (Kj 0 Z (cs':=qt a i l o j n p) Z .u Z Z Nt Z Z Z Z Z ?_))));refine Kc (T.seq (KQ (.q 0 (.q 2 (.q 3 (.q 4 (.q 5 (.e 1 (.e 6 (.q 7 .nil)))))))) [0,0] Z iS (NoP.seq (NoP.blk (NoP.seq (NoP.seq (NoP.blk (NoP.seq bi)))))) QK ?_));refine Kg Z (Kp (us:=C6 a i l o j n p) 0 Z N6 Nt Z Z Z) Z ?_;obtain⟨b,C,h⟩:=M1 h;obtain⟨aG,aJ,rfl,ax,ay,K,L,ad⟩:=L6 QJ hS.2 hSF C;obtain⟨R,U,V,W,Y,aa,rfl,M,O,P⟩:=ad;have ae:(RX.of (ar 2 aU) [.slice R b.MI.Mc.length U] b.MI.Mc).reads w F:=⟨S,M,hSF⟩;have af:(RX.of (ar 5 bd) [.slice V b.MF.length W] b.MF).reads w F:=⟨S,O,hSF⟩;have ag:(RX.of (ar 2 ba) [.slice Y b.Mp.Mc.length aa] b.Mp.Mc).reads w F:=⟨S,P,hSF⟩;refine TD.run ai [2,3] Z Z ?_;refine Kg Z (KB (k:=c) Z Z Z Pa NS (M6 C).1) Z ?_;refine Kg Z (Lf (us:=wL27 b R V Y U W aa) 0 Z Oy NS L K Z Z Z) Z ?_;obtain⟨al,ah,h⟩:=M1 h;refine TD.cso  Z .u (.fn Tryz.call14 Z) (yG a _ _ _ _ _ _ _ ah) ⟨s,t,y⟩ hSF Z [3,3] ?_ ?_
   ·rintro _ _ _ ⟨am,an,ao,ap,aq,au,rfl,rfl,rfl⟩;rfl
   rintro _ _ _ ⟨am,an,ao,ap,aq,au,rfl,rfl,rfl⟩;refine Lg [0,0,0,0,0] Z ?_;obtain⟨aL,aj,h⟩:=M1 h;refine Lh Z .u (.fn Tryz.call17 Z) (wc al _ _ _ _ _ _ b _ _ _ _ _ _ _ aj) (fun _ hs=>(La (L8 0 hs Z Ad hSF) (La (L8 1 hs Z Ad hSF) (La (L8 2 hs Z Ad hSF) (La (KL hs ae) (La (KL hs af) (KL hs ag))))))) Z [3,3] (Z) (TD.run ai [7] Z Z ?_);rcases jF h with⟨f,h⟩ | ⟨f,h⟩
   ·exact K6 (KN Z (bc f) (T.skip (KD (X.seq (T.region Z (Kb Z (Ex.add Z Z QI) Z (J9 ai 1 Z (TL.nil (X.back (m':=z) [4] QI ⟨H,c+1,by omega,Z,Z,h⟩ QL QL)))))))))
   replace f:=M7 f;refine K6 (Kr Z (bt f) (Ka Z (J9 ai 1 Z ?_)));obtain rfl:=M2 h;obtain rfl:=M2 g;exact Kc (T.ret (Ko (Ke (Ke (Ko (Ke (Km [4] Tryz.results30 (Kd Z))))))))
 refine KF Z c5 (Ka Z (J9 ai 1 Z ?_));obtain rfl:=M2 h;exact Kc (T.ret (Ke (Km [0] Tryz.results30 (Kd Z))))
def bQ:List AI->Bool->AI->Int->Int->Int->Int->AI->Int->Option (Lp Bool (Bool×AI×Int×Int×Int×Int×AI×Int))
 | [],j,d,e,i,k,l,m,n=>some (Lp.go (j,d,e,i,k,l,m,n))
 | f::xs,j,d,e,i,k,l,m,n=>(cE (⟨(⟨k,l⟩:ew),m,n⟩:aO) f).bind fun (o,p,a)=>if i=0 then (if d.length+f.length<=9223372036854775807 then ((mG (d++f)).bind fun b=>(if p=b.MX then (if (b.MW.length:Int)<e then some (true,a.fcount.fmany,a.fcount.fat,a.fheld,a.ferr) else (if 0<=e/\e.toNat<=b.MW.length then ((nq o (b.MW.drop e.toNat)).bind fun q=>if q=true then ((fg a).bind fun (r,g)=>if r=(b.MW.length:Int) then ((iw g).bind fun (s,h)=>if s=b.M0 then (if A0 (((d++f).length:Int) - b.M0) then ((gm h).bind fun (t,c)=>if t=(((d++f).length:Int) - b.M0) then some (false,c.fcount.fmany,c.fcount.fat,c.fheld,c.ferr) else some (true,c.fcount.fmany,c.fcount.fat,c.fheld,c.ferr)) else none) else some (true,h.fcount.fmany,h.fcount.fat,h.fheld,h.ferr)) else some (true,g.fcount.fmany,g.fcount.fat,g.fheld,g.ferr)) else some (true,a.fcount.fmany,a.fcount.fat,a.fheld,a.ferr)) else none)) else some (true,a.fcount.fmany,a.fcount.fat,a.fheld,a.ferr)).bind fun (u,v,w,x,y)=>if u=true then none else (bQ xs j (d++f) (b.MW.length:Int) b.MX v w x y)) else none) else ((if (o.length:Int)>0 then some true else (if p=i then some false else some true)).bind fun z=>if z=true then none else (bQ xs j d e i a.fcount.fmany a.fcount.fat a.fheld a.ferr))
def jx (a0:AI) (a1:List Int):Option (Bool):=(mB).bind fun s=>if s=true then ((if (a0.length:Int)>1500 then some true else (if (a1.length:Int)>200 then some true else some false)).bind fun t=>if t=true then some true else ((lV).bind fun c=>(o4 a0 a1).bind fun q=>(bQ q false [] 0 0 c.fcount.fmany c.fcount.fat c.fheld c.ferr).bind fun e=>match e with | .ret r=>some r | .go (z,d,u,f,h,i,j,k)=>((if f=0 then ((mG d).bind fun l=>if l.M0<(d.length:Int) then some true else some false) else some false).bind fun m=>(if m=true then ((some 1:Option (Int))) else some f).bind fun g=>((dR (⟨(⟨h,i⟩:ew),j,k⟩:aO)).bind fun (n,b)=>if n=g then ((dR b).bind fun (o,a)=>if o=g then some (true,a.fcount.fmany,a.fcount.fat,a.fheld,a.ferr) else some (false,a.fcount.fmany,a.fcount.fat,a.fheld,a.ferr)) else some (false,b.fcount.fmany,b.fcount.fat,b.fheld,b.ferr)).bind fun (p,v,w,x,y)=>some p))) else none
theorem f_l22_SplitFeeds_spec (a0:AI) (a1:List Int) (A1:AT) (c2:Nat) (r:Bool) (h:jx a0 a1=some r):aB Tryz.prog 7 #[jS a0,.slice A1 a1.length c2] (RX.of (ar 1 u8E) [.slice A1 a1.length c2] a1) (aI) (fun v A' N=>v= .bool r/\A'=aI/\N = []):=by
 refine aS Tryz.func7 Z Tryz.ntmps7 Z ?_;intro F w hX;unfold jx at h;refine Ka Z (J9 ai 1 Z ?_);obtain⟨x3,bb,h⟩:=M1 h;refine Kc (T.seq (Ka Z (Kt Z .u (.fn Tryz.call26 Z) (tD _ bb) rT Z (J9 ai 1 Z ?_))));rcases jF h with⟨c5,h⟩ | ⟨c5,h⟩
 ·refine Kc (KN Z (bc c5) (Kw (Lq ?_)));obtain⟨y7,h,am⟩:=M1 h;refine K7 (fun e Rs=>e = [(0,jS a0),(1,.slice A1 a1.length c2),(4,.bool false),(23,.bool y7)]/\Rs = [aI]) ?_ ?_
  ·clear am;refine T.region Z (J9 ai 1 Z (Kb Z (KT Z Na) Z ?_));rcases jF h with⟨c9,h⟩ | ⟨c9,h⟩
   ·refine J9 ai 2 Z (Kh 19 Z (M4 c9) (Ki ai 4 Z ?_));cases h;exact TL.nil (Kq [0])
   refine J9 ai 2 Z (Kh 19 Z (M5 c9) (Ki ai 1 Z (TL.q Z (.g Z Z Z) (KC Z QA) Z (Ki ai 2 Z ?_))));rcases jF h with⟨an,h⟩ | ⟨an,h⟩
   ·cases h;exact TL.nil (K3 (d:=23) (v':= .bool true) Z (congrArg Value.bool (M4 an)) (Kq [0]))
   cases h;exact TL.nil (K3 (d:=23) (v':= .bool false) Z (congrArg Value.bool (M5 an)) (Kq [0]))
  rintro _ _ ⟨rfl,rfl⟩;clear h;have h:=am;clear am;try dsimp only at h
  rcases jF h with⟨V,h⟩ | ⟨V,h⟩
  ·refine X.seq (Kr Z V (Ka Z (J9 ai 1 Z ?_)));obtain rfl:=M2 h;exact Kc (T.ret (Ke (Km [0] Tryz.results7 (Kd Z))))
  replace V:=M7 V;refine X.seq (KN Z V ?_);obtain⟨P,aQ,h⟩:=M1 h;refine Kv Z (K2 Z .u (.fn Tryz.call27 Z) (oY _ aQ) rT Z ?_);rintro _ _ _ ⟨b,rfl,rfl,rfl⟩;refine KK [0,0] Z (Kk ai Z (T.seq (Ka Z ?_)));obtain⟨a,aT,h⟩:=M1 h;refine J9 ai 2 Z (K2 Z .u (.fn Tryz.call28 Z) (ym a0 a1 _ _ _ aT) (fun _ hs=>(KL hs hX)) Z ?_);rintro _ _ _ ⟨W,o,rfl,rfl,rfl⟩;refine KK [0,0,0] Z (Kb Z (KC Z Oz) Z (Kk ai Z (T.block ?_)));obtain⟨bd,ao,ap⟩:=M1 h;refine T.blen 0 Z (fun w G h=>et w G h) (fun al=> ?_);try dsimp only at al
  refine K4 (fun m e Rs=> ∃ (s:Bool) (t:AI) (y:Int) (H:Int) (c:Nat) (I:Int) (J:Int) (K:AI) (L:Int),c+m=a.length/\e = [(4,.bool s),(5,jP b),(6,jS t),(7,jI y),(8,jI H),(27,.slice W a.length o),(28,jI (a.length:Int)),(29,jI (c:Int))]/\Rs = [RdR (ar 1 lF) [.slice W a.length o] a,aR b 149 (Da I J K L),aI]/\bQ (a.drop c) s t y H I J K L=some bd) (a.length) [0,0,0] ⟨false,[],0,0,0,P.fcount.fmany,P.fcount.fat,P.fheld,P.ferr,by simp,Z,Z,by rw[List.drop_zero]; exact ao⟩ QL QL ?_;clear ao h;rintro ak _ _ ⟨s,t,y,H,c,I,J,K,L,bl,rfl,rfl,h⟩
  cases ak with
  | zero =>
   rw[List.drop_of_length_le QI,bQ] at h;have aq: ¬ ((c:Int)<(a.length:Int)):=by omega
   refine Ka Z (Kk ai Z (T.seq (KN Z (M5 aq) ?_)));obtain rfl:=M2 h;replace h:=ap;clear ap;refine T.exit (Kx (Kx (K1 (X.seq (Lq ?_)))));obtain⟨aU,h,Q⟩:=M1 h;refine K7 (fun e Rs=>e = [(4,.bool s),(5,jP b),(8,jI H),(114,.bool aU)]/\Rs = [RdR (ar 1 lF) [.slice W a.length o] a,aR b 149 (Da I J K L),aI]) ?_ ?_
   ·clear Q;refine T.region Z ?_;rcases jF h with⟨ab,h⟩ | ⟨ab,h⟩
    ·refine J9 ai 3 Z (Kh 107 Z (M4 ab) ?_);obtain⟨bm,aF,h⟩:=M1 h;refine Ki ai 1 Z (K2 Z (.g Z Z Z) (.fn Tryz.call33 Z) (q8 t _ aF) rT Z ?_);rintro _ _ _ ⟨bn,bo,rfl,rfl,rfl⟩;refine KK [0,0,0,0] Z (TL.q Z (.g Z Z Z) (Ex.fld 1 Z OS Z Nc Z) Z (Ki ai 1 Z (TL.q Z (.g Z Z Z) (KT Z Na) Z (Ki ai 2 Z ?_))));rcases jF h with⟨ad,h⟩ | ⟨ad,h⟩
     ·cases h;exact TL.nil (K3 (d:=114) (v':= .bool true) Z (congrArg Value.bool (M4 ad)) (Kq [1,1,1]))
     cases h;exact TL.nil (K3 (d:=114) (v':= .bool false) Z (congrArg Value.bool (M5 ad)) (Kq [1,1,1]))
    refine J9 ai 3 Z (Kh 107 Z (M5 ab) (Ki ai 7 Z ?_));cases h;exact TL.nil (Kq [0,0,0])
   rintro _ _ ⟨rfl,rfl⟩;clear h;have h:=Q;clear Q;refine X.seq ?_;obtain⟨aV,h,R⟩:=M1 h;refine K7 (fun e Rs=>e = [(4,.bool s),(5,jP b),(8,jI aV)]/\Rs = [RdR (ar 1 lF) [.slice W a.length o] a,aR b 149 (Da I J K L),aI]) ?_ ?_
   ·clear R;rcases jF h with⟨M,h⟩ | ⟨M,h⟩
    ·refine Kr Z M (T.region Z (J9 ai 1 Z ?_));cases h;exact TL.nil (Kq [0,0,0])
    replace M:=M7 M;refine KN Z M ?_;cases h;exact T.skip (Kq [0,0,0])
   rintro _ _ ⟨rfl,rfl⟩;clear h;have h:=R;clear R;refine X.seq (T.seq ?_);obtain⟨⟨aX,aY,aZ,a2,a3⟩,h,S⟩:=M1 h;refine K7 (fun e Rs=>e = [(4,.bool aX)]/\Rs = [RdR (ar 1 lF) [.slice W a.length o] a,aR b 149 (Da aY aZ a2 a3),aI]) ?_ ?_
   ·clear S;refine T.region Z ?_;obtain⟨⟨bp,aG⟩,aH,h⟩:=M1 h;refine J9 ai 1 Z (Kn 1 Z Z .u (.fn Tryz.call32 Z) (fU b (⟨(⟨I,J⟩:ew),K,L⟩:aO) _ aH) sT Z Z ?_);rcases jF h with⟨ae,h⟩ | ⟨ae,h⟩
    ·refine J9 ai 3 Z (Kh 119 Z (M4 ae) ?_);obtain⟨⟨bq,bk⟩,aJ,h⟩:=M1 h;refine Ki ai 1 Z (Kn 1 Z Z (.g Z Z Z) (.fn Tryz.call32 Z) (fU b aG _ aJ) sT Z Z (Ki ai 4 Z ?_));rcases jF h with⟨af,h⟩ | ⟨af,h⟩
     ·cases h;exact TL.nil (K3 (d:=4) (v':= .bool true) Z (congrArg Value.bool (M4 af)) (Kq [0,0,0]))
     cases h;exact TL.nil (K3 (d:=4) (v':= .bool false) Z (congrArg Value.bool (M5 af)) (Kq [0,0,0]))
    refine J9 ai 3 Z (Kh 119 Z (M5 ae) (Ki ai 6 Z ?_));cases h;exact TL.nil (Kq [0,0,0])
   rintro _ _ ⟨rfl,rfl⟩;clear h;have h:=S;clear S;obtain rfl:=M2 h;exact X.seq (T.ret (Km [2] Tryz.results7 (Kd Z)))
  | succ ak =>
   obtain⟨l,U⟩: ∃ x,a[c]? = some x:=⟨_,List.getElem?_eq_getElem QI⟩;rw[bN U,bQ] at h;have au:(c:Int)<(a.length:Int):=by omega
   refine Ka Z (Kk ai Z (T.seq (Kr Z (M4 au) (Kw (T.seq (T.block (Ka Z (LO (E:=lF) (k:=c) 0 Z (fun w G h=>et w G h) QJ U ?_))))))));rintro A B _ ⟨⟩ _ ⟨_,_,rfl⟩;refine KK [0,0,0] Z ?_;refine Kb Z (KB (k:=c) Z Z Z Oz NG (M6 U).1) Z ?_;refine Kb Z (LA (cs := [jS l]) 0 0 Z NQ Z (fun _ _ h=>h.2.2.1) Z) Z (KJ ai Z Z ?_);obtain⟨⟨O,be,C⟩,a4,h⟩:=M1 h;refine J9 ai 2 Z (LR Z .u (.fn Tryz.call29 Z) (fX b (⟨(⟨I,J⟩:ew),K,L⟩:aO) l _ a4) sT Z ?_);rintro _ _ _ ⟨av,aw,rfl,rfl,rfl⟩;refine KK [0,0,0,0] Z (Kk ai Z (T.seq (Ka Z (J9 ai 2 Z ?_))));rcases jF h with⟨ax,h⟩ | ⟨ax,h⟩
   ·refine KG Z ax (Kv Z ?_);obtain⟨bf,h⟩:=aj h;refine J9 ai 2 Z (Kb Z (Ex.sAdd Z Z bf) Z (KJ ai Z Z ?_));obtain⟨z,a5,h⟩:=M1 h;refine J9 ai 1 Z (K2 Z .u (.fn Tryz.call33 Z) (q8 (t++l) _ a5) rT Z ?_);rintro _ _ _ ⟨ay,az,rfl,rfl,rfl⟩;refine KK [0,0,0,0,0] Z (TL.alloc Z .u Tryz.zeroValue85 Z (fun aK=>(Kj 0 Z (cs':=wA26 z ay az) Z .u Z Z OE Z Z Z Z Z (Kc (Lq ?_)))));obtain⟨⟨bg,aL,aM,aN,aP⟩,h,ag⟩:=M1 h;refine K7 (fun e Rs=>e = [(4,.bool s),(5,jP b),(6,.string (aW (t++l))),(7,jI y),(8,jI H),(13,jP aK),(27,.slice (some ⟨A,B,none⟩) a.length o),(28,jI (a.length:Int)),(29,jI (c:Int)),(98,.bool bg)]/\Rs = [aR aK 85 (wA26 z ay az),RdR (ar 18 g7) [.slice ay z.MW.length az] z.MW,RdR (ar 24 du) [.slice av O.length aw] O,l6 (RdR (ar 1 lF) [.slice (some ⟨A,B,none⟩) a.length o] a) lF A (B+c*1) [jS l] l,aR b 149 (Da aL aM aN aP),aI]) ?_ ?_
    ·clear ag;refine KQ (.q 0 (.q 1 (.q 2 (.q 3 (.q 4 (.q 5 (.q 6 (.q 7 (.q 8 (.q 9 (.q 10 (.q 11 (.q 12 (.q 13 (.q 14 (.q 15 (.q 16 (.e 17 (.q 18 (.q 19 (.q 20 (.q 21 (.q 23 (.q 24 (.q 25 (.e 22 (.q 26 (.q 27 (.q 28 (.q 29 (.q 31 (.q 32 (.e 30 (.q 33 (.q 34 (.q 35 (.q 36 (.q 38 (.q 39 (.q 40 (.q 41 (.q 42 (.e 37 (.q 43 (.q 44 .nil))))))))))))))))))))))))))))))))))))))))))))) [0,0,0,0,1] Z iS (NoP.seq (NoP.seq (NoP.seq (NoP.blk (NoP.seq (NoP.seq (NoP.blk (NoP.seq bi)))))))) QK ?_;refine TD.run ai [0,1] Z Z (Kg Z (KI 0 Z Nc Z Z) Z ?_);rcases jF h with⟨D,h⟩ | ⟨D,h⟩
     ·refine TD.run ai [3,4] Z Z (TD.q Z (.g Z Z (bc (M4 D))) (KV ai Z) Z (TD.q Z (.g Z Z (bc (M4 D))) (KI 0 Z Qz Z Z) Z (TD.q Z (.g Z Z (bc (M4 D))) (KC Z Pa) Z ?_)));iterate 2 refine TD.q Z (.g Z Z (bc (M4 D))) (KV ai Z) Z ?_
      refine Kg Z (Li Z (bc (M4 D)) Z) Z ?_;rcases jF h with⟨j,h⟩ | ⟨j,h⟩
      ·refine TD.run ai [11] Z Z ?_;iterate 5 refine KW Z (.gn Z Z (M4 j)) Z ?_
       refine Lo Z (.gn Z Z (M4 j)) Z [0,0,0,0,1] Z (KW Z (.gn Z Z (M4 j)) Z (Kg Z (Ld Z (M4 j) Z) Z (TD.run ai [20] Z Z ?_)));iterate 4 refine KW Z (.gn Z Z Z) Z ?_
       refine Lo Z (.gn Z Z Z) Z [0,0,0,0,1] Z (KW Z (.gn Z Z Z) Z (Kg Z (Ld Z Z Z) Z (TD.run ai [28] Z Z ?_)));iterate 3 refine KW Z (.gn Z Z Z) Z ?_
       refine Lo Z (.gn Z Z Z) Z [0,0,0,0,1] Z (KW Z (.gn Z Z Z) Z (Kg Z (Ld Z Z Z) Z (TD.run ai [35] Z Z ?_)));iterate 6 refine KW Z (.gn Z Z Z) Z ?_
       refine Lo Z (.gn Z Z Z) Z [0,0,0,0,1] Z (KW Z (.gn Z Z Z) Z (Kg Z (Ld Z Z Z) Z ?_));cases h;exact TD.nil (Kq [0,0,0,0,0,0])
      refine TD.run ai [11] Z Z ?_;iterate 2 refine TD.q Z (.g Z Z (M5 j)) (KV ai Z) Z ?_
      refine TD.q Z (.g Z Z (M5 j)) (KI 0 Z Qz Z Z) Z (TD.q Z (.g Z Z (M5 j)) (KV ai Z) Z ?_);obtain⟨aA,h⟩:=aj h;refine TD.q Z (.g Z Z (M5 j)) (Ex.subS (p:=y.toNat) (q:=z.MW.length) (mm:=(z.MW.drop y.toNat).length) (cap_of 1 Z (fun w G h=>et w G h)) Z Pa NS (.some Z (Int.toNat_of_nonneg aA.1).symm) .none aA.2 (NA _) (Nb)) Z ?_;obtain⟨bs,a6,h⟩:=M1 h;refine Lh Z (.g Z Z (M5 j)) (.fn Tryz.call30 Z) (wl O _ _ (z.MW.drop y.toNat) _ _ _ a6) (fun _ hs=>(La (SrcE.res 2 hs Z (fun w G h=>et w G h)) (SrcE.res 1 hs Z (fun w G h=>RX.sub ((fun w G h=>et w G h) w G h) aA.2 (NA _) (List.take_of_length_le (by rw[Nb]; exact NA _)))))) Z [0,0,0,0,1] (Z) ?_;refine TD.q Z (.g Z Z (M5 j)) (KV ai Z) Z (Kg Z (Li Z (M5 j) Z) Z ?_);rcases jF h with⟨f,h⟩ | ⟨f,h⟩
      ·refine TD.run ai [20] Z Z ?_;iterate 2 refine TD.q Z (.g Z Z (bc f)) (KV ai Z) Z ?_
       refine TD.q Z (.g Z Z (bc f)) (KI 0 Z Qz Z Z) Z (TD.q Z (.g Z Z (bc f)) (KC Z Pa) Z ?_);obtain⟨⟨bu,a7⟩,a8,h⟩:=M1 h;refine Lk 4 Z Z (.g Z Z (bc f)) (.fn Tryz.call34 Z) (jz b C _ a8) sT Z Z [0,0,0,0,1] (Z) (TD.q Z (.g Z Z (bc f)) (KV ai Z) Z (Kg Z (Li Z (bc f) Z) Z ?_));rcases jF h with⟨n,h⟩ | ⟨n,h⟩
       ·refine TD.run ai [28] Z Z ?_;iterate 2 refine TD.q Z (.g Z Z (bc (M4 n))) (KV ai Z) Z ?_
        refine TD.q Z (.g Z Z (bc (M4 n))) (KI 0 Z Nc Z Z) Z ?_;obtain⟨⟨bv,a9⟩,a_,h⟩:=M1 h;refine Lk 4 Z Z (.g Z Z (bc (M4 n))) (.fn Tryz.call31 Z) (oZ b a7 _ a_) sT Z Z [0,0,0,0,1] (Z) (TD.q Z (.g Z Z (bc (M4 n))) (KV ai Z) Z (Kg Z (Li Z (bc (M4 n)) Z) Z ?_));rcases jF h with⟨i,h⟩ | ⟨i,h⟩
        ·refine TD.run ai [35] Z Z ?_;iterate 2 refine TD.q Z (.g Z Z (bc (M4 i))) (KV ai Z) Z ?_
         refine TD.q Z (.g Z Z (bc (M4 i))) (KT Z Na) Z (TD.q Z (.g Z Z (bc (M4 i))) (KV ai Z) Z (TD.q Z (.g Z Z (bc (M4 i))) (KI 0 Z Nc Z Z) Z ?_));obtain⟨bh,h⟩:=aj h;refine TD.q Z (.g Z Z (bc (M4 i))) (Ex.sub Z Z bh) Z ?_;obtain⟨⟨bw,br⟩,ba,h⟩:=M1 h;refine Lk 4 Z Z (.g Z Z (bc (M4 i))) (.fn Tryz.call35 Z) (nE b a9 _ ba) sT Z Z [0,0,0,0,1] (Z) (TD.q Z (.g Z Z (bc (M4 i))) (KV ai Z) Z (Kg Z (Li Z (bc (M4 i)) Z) Z ?_));rcases jF h with⟨aC,h⟩ | ⟨aC,h⟩
         ·cases h;exact TD.nil (K3 (d:=98) (v':= .bool false) Z (congrArg Value.bool (bc (M4 aC))) (Kq [0,0,0,0,0,0]))
         cases h;exact TD.nil (K3 (d:=98) (v':= .bool true) Z (congrArg Value.bool (bt (M5 aC))) (Kq [0,0,0,0,0,0]))
        refine TD.run ai [35] Z Z ?_;iterate 6 refine KW Z (.gn Z Z (bt (M5 i))) Z ?_
        refine Lo Z (.gn Z Z (bt (M5 i))) Z [0,0,0,0,1] Z (KW Z (.gn Z Z (bt (M5 i))) Z (Kg Z (Ld Z (bt (M5 i)) Z) Z ?_));cases h;exact TD.nil (Kq [0,0,0,0,0,0])
       refine TD.run ai [28] Z Z ?_;iterate 3 refine KW Z (.gn Z Z (bt (M5 n))) Z ?_
       refine Lo Z (.gn Z Z (bt (M5 n))) Z [0,0,0,0,1] Z (KW Z (.gn Z Z (bt (M5 n))) Z (Kg Z (Ld Z (bt (M5 n)) Z) Z (TD.run ai [35] Z Z ?_)));iterate 6 refine KW Z (.gn Z Z Z) Z ?_
       refine Lo Z (.gn Z Z Z) Z [0,0,0,0,1] Z (KW Z (.gn Z Z Z) Z (Kg Z (Ld Z Z Z) Z ?_));cases h;exact TD.nil (Kq [0,0,0,0,0,0])
      replace f:=M7 f;refine TD.run ai [20] Z Z ?_;iterate 4 refine KW Z (.gn Z Z (bt f)) Z ?_
      refine Lo Z (.gn Z Z (bt f)) Z [0,0,0,0,1] Z (KW Z (.gn Z Z (bt f)) Z (Kg Z (Ld Z (bt f) Z) Z (TD.run ai [28] Z Z ?_)));iterate 3 refine KW Z (.gn Z Z Z) Z ?_
      refine Lo Z (.gn Z Z Z) Z [0,0,0,0,1] Z (KW Z (.gn Z Z Z) Z (Kg Z (Ld Z Z Z) Z (TD.run ai [35] Z Z ?_)));iterate 6 refine KW Z (.gn Z Z Z) Z ?_
      refine Lo Z (.gn Z Z Z) Z [0,0,0,0,1] Z (KW Z (.gn Z Z Z) Z (Kg Z (Ld Z Z Z) Z ?_));cases h;exact TD.nil (Kq [0,0,0,0,0,0])
     refine TD.run ai [3,4] Z Z ?_;iterate 5 refine KW Z (.gn Z Z (bt (M5 D))) Z ?_
     refine Kg Z (Ld Z (bt (M5 D)) Z) Z (TD.run ai [11] Z Z ?_);iterate 5 refine KW Z (.gn Z Z Z) Z ?_
     refine Lo Z (.gn Z Z Z) Z [0,0,0,0,1] Z (KW Z (.gn Z Z Z) Z (Kg Z (Ld Z Z Z) Z (TD.run ai [20] Z Z ?_)));iterate 4 refine KW Z (.gn Z Z Z) Z ?_
     refine Lo Z (.gn Z Z Z) Z [0,0,0,0,1] Z (KW Z (.gn Z Z Z) Z (Kg Z (Ld Z Z Z) Z (TD.run ai [28] Z Z ?_)));iterate 3 refine KW Z (.gn Z Z Z) Z ?_
     refine Lo Z (.gn Z Z Z) Z [0,0,0,0,1] Z (KW Z (.gn Z Z Z) Z (Kg Z (Ld Z Z Z) Z (TD.run ai [35] Z Z ?_)));iterate 6 refine KW Z (.gn Z Z Z) Z ?_
     refine Lo Z (.gn Z Z Z) Z [0,0,0,0,1] Z (KW Z (.gn Z Z Z) Z (Kg Z (Ld Z Z Z) Z ?_));cases h;exact TD.nil (Kq [0,0,0,0,0,0])
    rintro _ _ ⟨rfl,rfl⟩;clear h;have h:=ag;clear ag;try dsimp only at h
    rcases jF h with⟨Y,h⟩ | ⟨Y,h⟩
    ·exact X.seq (Kr rfl Y (nomatch h))
    replace Y:=M7 Y;refine X.seq (KN Z Y ?_);refine Kw (KQ (.q 0 (.q 1 (.q 2 (.q 3 (.q 4 (.q 5 (.q 6 .nil))))))) [0,0,0,0,0,0] Z iS (NoP.blk (NoP.seq (NoP.seq (NoP.blk (NoP.seq bi))))) QK ?_);refine TD.run ai [0] Z Z (Kg Z (KI 0 Z Qz Z Z) Z (Kg Z (KC Z Pa) Z (TD.run ai [3] Z Z (Kg Z (KI 0 Z Nc Z Z) Z (TD.run ai [5,6] Z Z (TD.nil (KD (X.seq (T.region Z (Kb Z (Ex.add Z Z QI) Z ?_))))))))));exact J9 ai 1 Z (TL.nil (X.unf 3 Z (KX [0,0,0,0,0,0] Z (X.back (m':=ak) [3,3,3] QI ⟨s,(t++l),(z.MW.length:Int),z.MX,c+1,aL,aM,aN,aP,by omega,Z,Z,h⟩ QL QL))))
   refine KF Z ax (Lq ?_);obtain⟨bj,h,ah⟩:=M1 h;refine K7 (fun e Rs=>e = [(4,.bool s),(5,jP b),(6,jS t),(7,jI y),(8,jI H),(10,jS l),(11,.slice av O.length aw),(12,jI be),(27,.slice (some ⟨A,B,none⟩) a.length o),(28,jI (a.length:Int)),(29,jI (c:Int)),(48,.bool bj)]/\Rs = [RdR (ar 24 du) [.slice av O.length aw] O,l6 (RdR (ar 1 lF) [.slice (some ⟨A,B,none⟩) a.length o] a) lF A (B+c*1) [jS l] l,aR b 149 (tU C),aI]) ?_ ?_
   ·clear ah;refine T.region Z (J9 ai 1 Z (Kb Z (KC Z Pb) Z ?_));rcases jF h with⟨aD,h⟩ | ⟨aD,h⟩
    ·refine J9 ai 2 Z (Kh 44 Z (M4 aD) (Ki ai 4 Z ?_));cases h;exact TL.nil (Kq [0,0,0,0])
    refine J9 ai 2 Z (Kh 44 Z (M5 aD) (Ki ai 4 Z ?_));rcases jF h with⟨aE,h⟩ | ⟨aE,h⟩
    ·cases h;exact TL.nil (K3 (d:=48) (v':= .bool false) Z (congrArg Value.bool (bc (M4 aE))) (Kq [0,0,0,0]))
    cases h;exact TL.nil (K3 (d:=48) (v':= .bool true) Z (congrArg Value.bool (bt (M5 aE))) (Kq [0,0,0,0]))
   rintro _ _ ⟨rfl,rfl⟩;clear h;have h:=ah;clear ah;try dsimp only at h
   rcases jF h with⟨aa,h⟩ | ⟨aa,h⟩
   ·exact X.seq (Kr rfl aa (nomatch h))
   replace aa:=M7 aa;refine X.seq (KN Z aa (Kw (T.exit (Kx (K1 (X.seq (T.region Z (Kb Z (Ex.add Z Z QI) Z (J9 ai 1 Z (TL.nil (X.unf 1 Z (KX [0,0,0,0] Z ?_))))))))))));exact X.back (m':=ak) [1,1,1] QI ⟨s,t,y,H,c+1,C.fcount.fmany,C.fcount.fat,C.fheld,C.ferr,by omega,Z,Z,h⟩ QL QL
 replace c5:=M7 c5;exact Kc (Kr rfl (bt c5) (nomatch h))
theorem IZ:mB=some true:=by kernel_rfl
theorem Ea {c:ew} {h:AI} (a:h.length<4):dt ⟨c,h,0⟩=some (0,false,⟨c,h,0⟩):=by
 unfold dt;rw[QM (by show (h.length:Int)<4; omega)]
theorem fr_len (f:aH):(vC f).length=4+(rX f).length:=by rw[vC,M8,aZ]
theorem Fg: ∀ (ns:List Int) (s:AI) (l:List AI),(∀ n,n∈ns->0<=n/\n<=255)->l.length+ns.length<=1000->s.length<=10000000-> ∃ t m,gp ns s l=some (t,m)/\m.flatten++t=l.flatten++s/\m.length=l.length+ns.length
 | [],s,l,_,_,_=>⟨s,l,rfl,rfl,rfl⟩
 | n::ns,s,l,hn,hl,hs=>by
  rw[Ng] at hl;have e:=hn n (.head _);have key: ∀ k:Nat,k<=s.length-> ∃ t m,gp ns (s.drop k) (l ++ [s.take k])=some (t,m)/\m.flatten++t=l.flatten++s/\m.length=l.length+(n::ns).length:=by
   intro k hk;obtain⟨t,m,a,b,d⟩:=Fg ns (s.drop k) (l ++ [s.take k]) (fun z hz=>hn z (.tail _ hz)) (by rw[M8,NY]; omega) (by rw[Nb]; omega);refine⟨t,m,a,?_,by rw[d,M8,NY,Ng]; omega⟩;rw[b,List.flatten_append,List.flatten_cons,List.flatten_nil,Nx,Nd,List.take_append_drop]
  rw[gp,QM QI];by_cases c:(s.length:Int)<n
  ·obtain⟨t,m,a,b⟩:=key s.length (NA _);refine⟨t,m,?_,b⟩;rw[QM c,M3,QM QI,QM QI,QM QI,Nu,a]
  ·obtain⟨t,m,a,b⟩:=key n.toNat QI;refine⟨t,m,?_,b⟩;rw[QO c,M3,QM QI,QM QI,QM QI,a]
theorem J6 {s:AI} {ns:List Int} (hn: ∀ n,n∈ns->0<=n/\n<=255) (hl:ns.length<=200) (hs:s.length<=10000000): ∃ cs,o4 s ns=some cs/\cs.flatten=s:=by
 obtain⟨t,l,a,b,c⟩:=Fg ns s [] hn (by rw[N8]; omega) hs;refine⟨l ++ [t],?_,by rw[List.flatten_append,List.flatten_cons,List.flatten_nil,Nx]; exact b⟩;unfold o4;rw[a,M3];dsimp only;rw[N8] at c;rw[QM QI]
def nxt (h:AI):Option (Except Int (aH×Nat)) :=
 if h.length<4 then none
 else if bb (h.take 4)<0\/bb (h.take 4)>16777216 then some (.error 4)
 else if (h.length:Int)<4+bb (h.take 4) then none
 else if (qV (h.take (4+(bb (h.take 4)).toNat))).2=0 then some (.ok ((qV (h.take (4+(bb (h.take 4)).toNat))).1,4+(bb (h.take 4)).toNat))
 else some (.error (qV (h.take (4+(bb (h.take 4)).toNat))).2)
structure Gs where
 fs:List aH
 at_:Nat
 err:Int
def gS:Nat->AI->Gs
 | 0,_=>⟨[],0,0⟩
 | n+1,h=>match nxt h with
  | none=>⟨[],0,0⟩
  | some (.error e)=>⟨[],0,e⟩
  | some (.ok (f,k))=>⟨f::(gS n (h.drop k)).fs,k+(gS n (h.drop k)).at_,(gS n (h.drop k)).err⟩
theorem take4 {h:AI} {k:Nat} (hk:4<=k):(h.take k).take 4=h.take 4:=by rw[List.take_take,show min 4 k=4 by omega]
theorem zV {d:AI} (c:4<=d.length) (hn:0<=bb (d.take 4)) (hl:d.length=4+(bb (d.take 4)).toNat) (hs:d.length<=1000000) :
 (∃ e,yg d 0= .error e/\qV d=(zF,e)/\e≠0)\/(∃ f,yg d 0= .ok (f,d.length)/\qV d=(f,0)/\okFr f/\d=vC f):=by
 cases hp:yg d 0 with
 | error e=>exact .inl ⟨e,rfl,by unfold qV; rw[hp]; rfl,B_frm.nz d 0 e hs (Nn _) hp⟩
 | ok x =>
  obtain⟨f,r⟩:=x;obtain⟨g,h,i,a,b⟩:=Gk hs (Nn _) hp;have hr:r=d.length:=by
   unfold yg at hp;rw[fx QI] at hp;simp only[List.drop_zero,Nat.zero_add] at hp;split at hp
   ·exact nomatch hp
   split at hp
   ·exact nomatch hp
   split at hp
   ·injection hp with hp;have:=(NE hp).2;omega
   ·exact nomatch hp
  subst hr;refine .inr ⟨f,rfl,?_,b,?_⟩
  ·unfold qV;rw[hp];exact QO (Nat.lt_irrefl _)
  ·rw[List.take_length,List.take_zero,Nm] at a;exact a
theorem yo {h:AI} {f:aH} {k:Nat} (hs:h.length<=1000000) (hx:nxt h=some (.ok (f,k))):4<=k/\k<=h.length/\okFr f/\h.take k=vC f/\k=4+(bb (h.take 4)).toNat/\0<=bb (h.take 4)/\bb (h.take 4)<=16777216/\qV (h.take k)=(f,0):=by
 unfold nxt at hx;split at hx
 ·exact nomatch hx
 rename_i l;split at hx
 ·exact nomatch hx
 rename_i c2;split at hx
 ·exact nomatch hx
 rename_i m;split at hx
 ·rename_i c;injection hx with hx;injection hx with hx;obtain⟨rfl,rfl⟩:=NE hx;have hl:(h.take (4+(bb (h.take 4)).toNat)).length=4+(bb (h.take 4)).toNat:=by rw[Np]; omega
  have g:(h.take (4+(bb (h.take 4)).toNat)).take 4=h.take 4:=take4 QI;rcases zV (d:=h.take (4+(bb (h.take 4)).toNat)) QI (by rw[g]; omega) (by rw[g]; exact hl) QI with⟨e,i,a,b⟩ | ⟨f,i,a,b,j⟩
  ·rw[a] at c;exact absurd c b
  ·rw[a];exact⟨by omega,by omega,b,j,rfl,by omega,by omega,rfl⟩
 ·exact nomatch hx
theorem Fh: ∀ (n m:Nat) (h:AI),h.length<=1000000->h.length<n->h.length<m->gS n h=gS m h
 | 0,m,h,_,a,_=>absurd a (Nat.not_lt_zero _)
 | n+1,0,h,_,_,b=>absurd b (Nat.not_lt_zero _)
 | n+1,m+1,h,hs,a,b=>by
  rw[gS,gS]
  cases hx:nxt h with
  | none=>rfl
  | some x =>
   cases x with
   | error e=>rfl
   | ok p =>
    obtain⟨f,k⟩:=p;obtain⟨c,d,_⟩:=yo hs hx;simp only;rw[Fh n m (h.drop k) (by rw[Nb]; omega) (by rw[Nb]; omega) (by rw[Nb]; omega)]
def gW (h:AI):Gs:=gS (h.length+1) h
theorem gW_of {h:AI} {n:Nat} (hs:h.length<=1000000) (hn:h.length<n):gS n h=gW h:=Fh _ _ h hs hn (Nat.lt_succ_self _)
theorem rm {h:AI} (hx:nxt h=none):gW h=⟨[],0,0⟩:=by rw[gW,gS,hx]
theorem vd {h:AI} {e:Int} (hx:nxt h=some (.error e)):gW h=⟨[],0,e⟩:=by rw[gW,gS,hx]
theorem zW {h:AI} {f:aH} {k:Nat} (hs:h.length<=1000000) (hx:nxt h=some (.ok (f,k))):gW h=⟨f::(gW (h.drop k)).fs,k+(gW (h.drop k)).at_,(gW (h.drop k)).err⟩:=by
 obtain⟨a,b,_⟩:=yo hs hx;rw[gW,gS,hx];simp only;rw[gW_of (by rw[Nb]; omega) (by rw[Nb]; omega)]
theorem Ba: ∀ (n:Nat) (h:AI),h.length<=n->h.length<=3000->(gW h).at_<=h.length/\4*(gW h).fs.length<=(gW h).at_/\ ∀ f,f∈(gW h).fs->okFr f/\smF f
 | n,h,hn,hs=>by
  cases hx:nxt h with
  | none=>rw[rm hx]; exact⟨Nn _,NA _,fun f hf=>nomatch hf⟩
  | some x =>
   cases x with
   | error e=>rw[vd hx]; exact⟨Nn _,NA _,fun f hf=>nomatch hf⟩
   | ok p =>
    obtain⟨f,k⟩:=p;obtain⟨i,j,a,b,_⟩:=yo QI hx
    cases n with
    | zero=>omega
    | succ n =>
     obtain⟨c,l,d⟩:=Ba n (h.drop k) (by rw[Nb]; omega) (by rw[Nb]; omega);rw[Nb] at c;rw[zW QI hx];refine⟨by simp only; omega,by simp only[Ng]; omega,fun g hg=> ?_⟩;rcases List.mem_cons.1 hg with rfl | hg
     ·have hl:=congrArg List.length b;rw[Np,fr_len] at hl;exact⟨a,smF_of a QI⟩
     ·exact d g hg
theorem J7 {h c:AI} {f:aH} {k:Nat} (hs:h.length<=1000000) (hx:nxt h=some (.ok (f,k))):nxt (h++c)=some (.ok (f,k)):=by
 obtain⟨g,a,i,j,b,l,m,d⟩:=yo hs hx;have e:(h++c).take 4=h.take 4:=List.take_append_of_le_length QI;have ek:(h++c).take k=h.take k:=List.take_append_of_le_length a;unfold nxt;rw[e,<- b,ek,d,QO (by rw[M8]; omega),QO QI,QO (by rw[M8]; omega)];exact QM rfl
theorem Eb: ∀ (n:Nat) (h c:AI),h.length<=n->(h++c).length<=3000->(gW h).err=0->gW (h++c)=⟨(gW h).fs++(gW (h.drop (gW h).at_++c)).fs,(gW h).at_+(gW (h.drop (gW h).at_++c)).at_,(gW (h.drop (gW h).at_++c)).err⟩
 | n,h,c,hn,hs,he=>by
  have hl:(h++c).length=h.length+c.length:=M8
  cases hx:nxt h with
  | none=>rw[rm hx]; simp only[List.drop_zero,Nm,Nat.zero_add]
  | some x =>
   cases x with
   | error e =>
    rw[vd hx] at he ⊢;have he:e=0:=he;subst he;simp only[List.drop_zero,Nm,Nat.zero_add]
   | ok p =>
    obtain⟨f,k⟩:=p;obtain⟨b,a,_⟩:=yo QI hx
    cases n with
    | zero=>omega
    | succ n =>
     rw[zW QI hx] at he;have ih:=Eb n (h.drop k) c (by rw[Nb]; omega) (by rw[M8,Nb]; omega) he;rw[zW QI (J7 QI hx),zW QI hx,List.drop_append_of_le_length a,ih];simp only[NM,List.cons_append,Nat.add_assoc]
theorem I0 {c:ew} {h:AI} (hl:h.length<=1000000):dt ⟨c,h,0⟩=some (match nxt h with
 | none=>(if h.length<4 then 0 else 4+bb (h.take 4),false,⟨c,h,0⟩)
 | some _=>if bb (h.take 4)<0\/bb (h.take 4)>16777216 then (0,false,⟨c,h,4⟩) else (4+bb (h.take 4),true,⟨c,h,0⟩)):=by
 unfold nxt;by_cases d:h.length<4
 ·rw[Ea d,QM d,QM d]
 rw[QO d];have a: ∃ st,ea ⟨h,0,0⟩ 4=some (bb (h.take 4),st):=by
  rcases Q4.run h 0 (Nn _) with⟨e,st,b,a,j,k⟩ | ⟨m,r',b,a,l,n⟩
  ·rw[fx QI] at b; exact nomatch b
  ·rw[fx QI] at b;injection b with b;obtain⟨rfl,rfl⟩:=NE b;rw[List.drop_zero] at a;exact⟨_,a⟩
 obtain⟨st,a⟩:=a;unfold dt;dsimp only;rw[QO QI,kn _ QI,M3,a,M3];dsimp only;by_cases f:bb (h.take 4)<0\/bb (h.take 4)>16777216
 ·rw[QM f];simp only;rw[QM f];by_cases c2:bb (h.take 4)<0
  ·rw[QM c2,M3,QM rfl]
  ·rw[QO c2,QM QI,M3,QM rfl]
 ·rw[QO f,QO QI,QO QI,M3,QO QJ,QM QI,QM QI];by_cases g:(h.length:Int)<4+bb (h.take 4)
  ·rw[QM g,QO QI];simp only;rw[QO d]
  ·rw[QO g,QM QI];by_cases i:(qV (h.take (4+(bb (h.take 4)).toNat))).2=0
   ·rw[QM i];simp only;rw[QO f]
   ·rw[QO i];simp only;rw[QO f]
theorem Cx (d:List aH) (e:Int): ∀ (fuel:Nat) (acc:List aH) (h:AI) (m a:Int),h.length<fuel->h.length<=3000->acc.length+h.length<=100000->0<=m->m+(h.length:Int)<=1000000->0<=a->a+(h.length:Int)<=1000000000 ->
 cN fuel d e acc m a h 0=some (.ret (acc++(gW h).fs,(gW h).err,⟨⟨m+((gW h).fs.length:Int),a+((gW h).at_:Int)⟩,h.drop (gW h).at_,(gW h).err⟩))
 | 0,acc,h,m,a,f,_,_,_,_,_,_=>absurd f (Nat.not_lt_zero _)
 | fuel+1,acc,h,m,a,f,j,k,l,n,o,p=>by
  rw[cN,I0 QI,M3]
  cases hx:nxt h with
  | none =>
   rw[rm hx];simp only;rw[QO QJ,Nx,N8,List.drop_zero];simp only[Int.natCast_zero,Int.add_zero]
  | some x =>
   have b:=hx;unfold nxt at b;split at b
   ·exact nomatch b
   rename_i q;simp only;split at b
   ·rename_i c2;injection b with b;subst b;rw[QM c2,vd hx];simp only;rw[QO QJ,Nx,N8,List.drop_zero];simp only[Int.natCast_zero,Int.add_zero]
   rename_i c2;split at b
   ·exact nomatch b
   rename_i r;have hl:(h.take (4+(bb (h.take 4)).toNat)).length=4+(bb (h.take 4)).toNat:=by rw[Np]; omega
   have hn:(4+bb (h.take 4)).toNat=4+(bb (h.take 4)).toNat:=by omega
   rw[QO c2];simp only;rw[QM trivial,hn,QM ⟨by omega,by omega⟩,D8 _ QI,M3];split at b
   ·rename_i c;injection b with b;subst b;rw[QM c,QM QI];unfold jw;dsimp only;rw[QM QI,QM QI,M3];dsimp only;rw[QM ⟨by omega,by omega⟩,Cx d e fuel _ _ _ _ (by rw[Nb]; omega) (by rw[Nb]; omega) (by rw[M8,NY,Nb]; omega) QI (by rw[Nb]; omega) QI (by rw[Nb]; omega),zW QI hx];simp only[Nd,Ng,NM];have g:m+1+((gW (h.drop (4+(bb (h.take 4)).toNat))).fs.length:Int)=m+(((gW (h.drop (4+(bb (h.take 4)).toNat))).fs.length+1:Nat):Int):=by omega
    have i:a+(4+bb (h.take 4))+((gW (h.drop (4+(bb (h.take 4)).toNat))).at_:Int)=a+((4+(bb (h.take 4)).toNat+(gW (h.drop (4+(bb (h.take 4)).toNat))).at_:Nat):Int):=by omega
    rw[g,i];rfl
   ·rename_i c;injection b with b;subst b;rw[QO c,vd hx];simp only;rw[Nx,N8,List.drop_zero];simp only[Int.natCast_zero,Int.add_zero]
theorem Cy (s:AI) (hs:s.length<=3000): ∀ (fuel:Nat) (acc:List bE) (q:Nat),q<=s.length->s.length - q<4*fuel->acc.length<=q ->
 gl s fuel acc (q:Int)=some (.ret ⟨acc++(gW (s.drop q)).fs.map ofF,((q+(gW (s.drop q)).at_:Nat):Int),(gW (s.drop q)).err⟩)\/(gl s fuel acc (q:Int)=some (.go (acc++(gW (s.drop q)).fs.map ofF,((q+(gW (s.drop q)).at_:Nat):Int)))/\(gW (s.drop q)).err=0)
 | 0,acc,q,m,j,_=>absurd j QI
 | fuel+1,acc,q,m,j,v=>by
  have hd:(s.drop q).length=s.length - q:=Nb;rw[gl,QM QI];by_cases b:(s.drop q).length<4
  ·have hx:nxt (s.drop q)=none:=by unfold nxt; exact QM b
   rw[QO QI,rm hx];exact .inr ⟨by simp only[List.map_nil,Nx,Nat.add_zero],rfl⟩
  have n:((q:Int)+4).toNat - ((q:Int)).toNat=4:=by omega
  rw[QM QI,QM QI,QM ⟨by omega,by omega,by omega,by omega⟩,n,Nu,cX _ (by rw[Np]; omega),M3];generalize hh:s.drop q=h at *;by_cases c2:bb (h.take 4)<0\/bb (h.take 4)>16777216
  ·have hx:nxt h=some (.error 4):=by unfold nxt; rw[QO b,QM c2]
   rw[vd hx];refine .inl ?_;simp only[List.map_nil,Nx,Nat.add_zero];by_cases a:bb (h.take 4)<0
   ·rw[QM a,M3,QM rfl]
   ·rw[QO a,QM QI,M3,QM rfl]
  rw[QO QI,QO QI,M3,QO QJ,QM QI,QM QI];by_cases a:(h.length:Int)<4+bb (h.take 4)
  ·have hx:nxt h=none:=by unfold nxt; rw[QO b,QO c2,QM a]
   rw[QM QI,rm hx];exact .inl (by simp only[List.map_nil,Nx,Nat.add_zero])
  rw[QO QI,QM QI,QM QI,QM ⟨by omega,by omega,by omega,by omega⟩];have o:((q:Int)+4+bb (h.take 4)).toNat - q=4+(bb (h.take 4)).toNat:=by omega
  rw[o];have hl:(h.take (4+(bb (h.take 4)).toNat)).length=4+(bb (h.take 4)).toNat:=by rw[Np]; omega
  have l:(h.take (4+(bb (h.take 4)).toNat)).take 4=h.take 4:=take4 QI;rw[IW _ QI,M3];rcases zV (d:=h.take (4+(bb (h.take 4)).toNat)) QI (by rw[l]; omega) (by rw[l]; exact hl) QI with⟨e,c,g,i⟩ | ⟨f,c,g,i,w⟩
  ·have hx:nxt h=some (.error e):=by unfold nxt; rw[QO b,QO c2,QO a,g]; exact QO i
   rw[c,vd hx];simp only;rw[QO (show ¬ (Gp e).MX=0 from i)];exact .inl (by simp only[List.map_nil,Nx,Nat.add_zero]; rfl)
  ·have hx:nxt h=some (.ok (f,4+(bb (h.take 4)).toNat)):=by unfold nxt; rw[QO b,QO c2,QO a,g]; exact QM rfl
   have p:(q:Int)+4+bb (h.take 4)=((q+(4+(bb (h.take 4)).toNat):Nat):Int):=by omega
   rw[c,zW QI hx];simp only;rw[QM trivial,QM QI,QM QI,QM QI,p];have r:h.drop (4+(bb (h.take 4)).toNat)=s.drop (q+(4+(bb (h.take 4)).toNat)):=by rw[<- hh,NM]
   rw[r];have t: ∀ z:Nat,q+(4+(bb (h.take 4)).toNat+z)=q+(4+(bb (h.take 4)).toNat)+z:=fun z=>by omega
   rw[t];rcases Cy s hs fuel (acc ++ [ofF f]) (q+(4+(bb (h.take 4)).toNat)) QI QI (by rw[M8,NY]; omega) with k | ⟨k,u⟩
   ·exact .inl (by rw[k,List.map_cons,Nd]; rfl)
   ·exact .inr ⟨by rw[k,List.map_cons,Nd]; rfl,u⟩
theorem all22 (s:AI) (hs:s.length<=3000):mG s=some ⟨(gW s).fs.map ofF,((gW s).at_:Int),(gW s).err⟩:=by
 unfold mG;rcases Cy s hs ((((s.length:Int) - 0) - 3).toNat+1) [] 0 (Nn _) QI (Nn _) with h | ⟨h,a⟩
 ·rw[show ((0:Nat):Int)=0 from rfl] at h;rw[h,M3];simp only[Nm,List.drop_zero,Nat.zero_add]
 ·rw[show ((0:Nat):Int)=0 from rfl] at h;rw[h,M3];simp only[Nm,List.drop_zero,Nat.zero_add] at a ⊢;rw[a]
theorem Cz (b:List bE) (y:Bool): ∀ (l:List aH) (k:Nat),(∀ x,x∈l->smF x)->b.drop k=l.map ofF->gx b l y k=some (.go y)
 | [],k,_,_=>rfl
 | x::l,k,h,hd=>by
  have hF:=h x (.head _);rw[List.map_cons] at hd;have hk:b[k]? = some (ofF x):=by
   have:=congrArg (·[0]?) hd;simpa using this
  have hd2:b.drop (k+1)=l.map ofF:=by
   have:=congrArg (List.drop 1) hd;rw[NM] at this;simpa using this
  rw[gx,hk,M3,rd_of hF,M3,J5 hF,M3,QM rfl];exact Cz b y l (k+1) (fun z hz=>h z (.tail _ hz)) hd2
theorem J8 {l:List aH} (h: ∀ x,x∈l->smF x):nq l (l.map ofF)=some true:=by
 unfold nq;rw[QM (by rw[NB]),Cz (l.map ofF) false l 0 h rfl];rfl
def spW (s:AI):aO:=⟨⟨((gW s).fs.length:Int),((gW s).at_:Int)⟩,s.drop (gW s).at_,(gW s).err⟩
theorem feed_W {p c:AI} (hs:(p++c).length<=3000) (he:(gW p).err=0):cE (spW p) c=some ((gW (p++c)).fs.drop (gW p).fs.length,(gW (p++c)).err,spW (p++c)):=by
 have hl:(p++c).length=p.length+c.length:=M8;obtain⟨e,g,h⟩:=Ba _ p (NA _) QI;have hd:(p.drop (gW p).at_).length=p.length - (gW p).at_:=Nb;have hap:=Eb _ p c (NA _) hs he;unfold cE spW;dsimp only;rw[QM he,QM QI,he,Cx [] 0 _ [] _ _ _ QI (by rw[M8]; omega) (by rw[N8,M8]; omega) QI (by rw[M8]; omega) QI (by rw[M8]; omega),M3];dsimp only;rw[hap];simp only[Nm,List.drop_left,M8];have f:(p.drop (gW p).at_++c).drop (gW (p.drop (gW p).at_++c)).at_=(p++c).drop ((gW p).at_+(gW (p.drop (gW p).at_++c)).at_):=by
  rw[<- NM,List.drop_append_of_le_length e]
 rw[f];have d: ∀ a b:Nat,(a:Int)+(b:Int)=((a+b:Nat):Int):=fun a b=>by omega
 rw[d,d]
theorem I1 {st:aO} (c:AI) (he:st.ferr≠0):cE st c=some ([],st.ferr,st):=by
 unfold cE;exact QO he
theorem I2 (y:Bool) (s:AI) (n:Int): ∀ (cs:List AI) (st:aO),st.ferr≠0->bQ cs y s n st.ferr st.fcount.fmany st.fcount.fat st.fheld st.ferr=some (.go (y,s,n,st.ferr,st.fcount.fmany,st.fcount.fat,st.fheld,st.ferr))
 | [],st,he=>rfl
 | c::cs,st,he=>by
  have e:(⟨(⟨st.fcount.fmany,st.fcount.fat⟩:ew),st.fheld,st.ferr⟩:aO)=st:=rfl;rw[bQ,e,I1 c he,M3];dsimp only;rw[QO he,QO QJ,QM rfl,M3,QO QJ];exact I2 y s n cs st he
theorem sf_l1 (y:Bool): ∀ (cs:List AI) (p:AI),(p++cs.flatten).length<=3000->(gW p).err=0 ->
 ∃ s,bQ cs y p ((gW p).fs.length:Int) 0 ((gW p).fs.length:Int) ((gW p).at_:Int) (p.drop (gW p).at_) 0=some (.go (y,s,((gW s).fs.length:Int),(gW s).err,(spW s).fcount.fmany,(spW s).fcount.fat,(spW s).fheld,(spW s).ferr))/\s.length<=3000
 | [],p,hl,he=>by
  refine⟨p,?_,by rw[List.flatten_nil,Nx] at hl; exact hl⟩;rw[bQ];unfold spW;rw[he]
 | c::cs,p,hl,he=>by
  rw[List.flatten_cons,<- Nd] at hl;have a:(p++c).length<=3000:=by rw[M8] at hl; omega
  have e:(⟨(⟨((gW p).fs.length:Int),((gW p).at_:Int)⟩:ew),p.drop (gW p).at_,0⟩:aO)=spW p:=by unfold spW; rw[he]
  have hpc:(p++c).length=p.length+c.length:=M8;obtain⟨h,i,b⟩:=Ba _ (p++c) (NA _) a;have hap:=Eb _ p c (NA _) a he;have hle:(gW p).fs.length<=(gW (p++c)).fs.length:=by rw[hap]; simp only[M8]; omega
  rw[bQ,e,feed_W a he,M3];dsimp only;rw[QM rfl,QM QI,all22 _ a,M3];dsimp only;rw[QM rfl,QO (by rw[NB]; omega),QM ⟨by omega,by rw[NB]; omega⟩,Nu,<- List.map_drop,J8 (fun x hx=>(b x (List.mem_of_mem_drop hx)).2),M3,QM rfl];unfold fg iw gm;rw[M3];dsimp only;rw[QM (by show (spW (p++c)).fcount.fmany= _; rw[NB]; rfl),M3];dsimp only;rw[QM QL,QM QI,M3];dsimp only;rw[QM (by show (((p++c).drop (gW (p++c)).at_).length:Int)= _; rw[Nb]; omega),M3];dsimp only;rw[QO QJ,NB];by_cases hz:(gW (p++c)).err=0
  ·obtain⟨s,d,f⟩:=sf_l1 y cs (p++c) hl hz;refine⟨s,?_,f⟩;rw[hz];have g:(spW (p++c)).ferr=0:=hz;rw[g];exact d
  ·exact⟨p++c,I2 y (p++c) _ cs (spW (p++c)) hz,a⟩
theorem pure_SplitFeeds (a0:AI) (a1:List Int) (w0:a0.length<=140737488351232) (w1:(wL wU8) a1):jx a0 a1=some true:=by
 unfold jx;rw[IZ,M3,QM rfl];by_cases a:(a0.length:Int)>1500
 ·rw[QM a,M3,QM rfl]
 by_cases b:(a1.length:Int)>200
 ·rw[QO a,QM b,M3,QM rfl]
 rw[QO a,QO b,M3,QO QJ];have hnew:lV=some ⟨⟨0,0⟩,[],0⟩:=rfl;obtain⟨cs,f,g⟩:=J6 (s:=a0) (ns:=a1) (fun n hn=>w1.2 n hn) QI QI;have hz:gW []=⟨[],0,0⟩:=rm rfl;obtain⟨s,d,e⟩:=sf_l1 false cs [] (by rw[Nm,g]; omega) (by rw[hz]);rw[hz] at d;have h1':bQ cs false [] 0 0 0 0 [] 0= _:=d;rw[hnew,M3,f,M3];dsimp only;rw[h1',M3];dsimp only;obtain⟨i,j,k⟩:=Ba _ s (NA _) e;have hdl:(s.drop (gW s).at_).length=s.length - (gW s).at_:=Nb;unfold dR spW;dsimp only;by_cases he:(gW s).err=0
 ·rw[QM he,all22 s e,M3];dsimp only;by_cases c:(gW s).at_<s.length
  ·have hne: ¬ (s.drop (gW s).at_ = []):=fun h=>by rw[h,N8] at hdl; omega
   rw[QM QI,M3,QM rfl,M3,QM he,QO hne,M3,QM rfl,M3,M3];dsimp only;rw[QM rfl,QO QJ,M3,QO QJ,M3,M3];dsimp only;rw[QM rfl];rfl
  ·have hne:s.drop (gW s).at_ = []:=List.length_eq_zero_iff.1 QI;rw[QO QI,M3,QO QJ,M3,QM he,QM hne,M3,QO QJ,M3,M3];dsimp only;rw[QM rfl,QM he,QM hne,M3,QO QJ,M3,M3];dsimp only;rw[QM rfl];rfl
 ·rw[QO he,M3,QO QJ,M3,QO he,M3,QO QJ,M3,M3];dsimp only;rw[QM rfl,QO he,M3,QO QJ,M3,M3];dsimp only;rw[QM rfl];rfl
end Go.Proofs.YtheikonlgjdopaaGreat.Sl
namespace Go.Proofs.YtheikonlgjdopaaGreat.splitFeeds
open Go.ChangeShapes Go.WideShapes Go.ChangeAt Go.RowKit
open Go.ChangeMaps (open_string shut_string)
set_option linter.unusedVariables false
theorem own:ownKnob Tryz.prog.godebug=none:=by kernel_rfl
theorem laidOut:laidOutB Tryz.prog=true:=by kernel_rfl
theorem lifted (os:Os) (started:os.Started) (H:Type) (enc:TypeId×Value->H) :
 ReturnsInHanded {} Tryz.checked os 7 .any (Rows.splitFeedsSpec.pre6 enc Tryz.prog Tryz.f7 Rows.splitFeedsRow.domain false) (Rows.splitFeedsSpec.post enc Tryz.prog Tryz.f7 false true false false):=by
 refine returnsInHanded_of_change_sized (C:=Tryz.checked) own started (by kernel_rfl) Tryz.func7
  (ChangeSpec.witness6 (enc:=enc) (C:=Tryz.checked) false ⟨#[],#[.string ByteArray.empty,.slice none 0 0],[]⟩ 8 (by kernel_rfl) (by kernel_rfl) (by kernel_rfl) (by kernel_rfl)) ?_
 intro W base args ds gs before hval0 hW hcnd hsz0 _;have hsz:(DataW.weightsEach Tryz.prog (Tryz.f7.params.toList++Rows.splitFeedsSpec.plain.varTypes Tryz.prog) (ds++gs)).all (· <= reachBytes)=true:=hsz0;have hval: ∀ (j:Nat) t v,Tryz.f7.params[j]? = some t->args[j]? = some v->Value.okWide Tryz.prog W .any base t v:=hval0;have hW':=hW;obtain⟨p,q,hA0,hV,rfl,hfz,hnd⟩:=hW;have hA:DataW.TrodAll enc Tryz.prog W 0 (fun _=>true) true Tryz.f7.params.toList args.toList ds p:=hA0;rw[Tryz.params7] at hA hval hsz;obtain⟨b,vs0,s,ds0,u,w,hargs,rfl,rfl,g,i⟩:=trodAll_cons hA;obtain⟨v1,vs1,y,ds1,k,A,rfl,rfl,rfl,c,r1⟩:=trodAll_cons i;obtain⟨rfl,rfl,rfl⟩:=trodAll_nil r1;obtain rfl:args= #[b,v1]:=by cases args; simp_all
 obtain⟨rfl,rfl⟩:=trodVars_none hV;obtain⟨d,rfl,rfl,rfl,l⟩:=open_string Tryz.underlying9 (hval 0 9 b rfl rfl) g;have n:d.size<=140737488351232:=by
  have z:=sized_string hsz (j:=0) (t:=9) rfl rfl;rw[Array.length_toList] at z;exact z
 obtain⟨a0,rfl⟩:=Sl.bsOf_of d;have w0:a0.length<=140737488351232:=by rwa [Sl.bsOf_size] at n
 have f:=c;have lt1: ∀ x∈k,x.block<W.heap.size:=by obtain⟨m,hm⟩:=f; exact DataW.trod_lt m _ _ _ hm
 obtain⟨a1,r_1,w1⟩:=Sl.opens_arg1 Tryz.underlying72 (hval 1 72 v1 rfl rfl) (Sl.op_slice 1 1 Tryz.underlying72 (by kernel_rfl) (by kernel_rfl) (by decide) (by decide) (Sl.op_u8 Tryz.underlying5)) c (fun x hx=>of_decide_eq_true (List.all_eq_true.1 hsz x (Sl.weights_in 1 rfl rfl hx)));obtain⟨o,r,a⟩:=Sl.slice_cells r_1;injection a with a;subst a;clear hA0 hval0 hsz0 hsz;refine (Sl.f_l22_SplitFeeds_spec a0 a1 o r true (Sl.pure_SplitFeeds a0 a1 w0 w1) (fun _=>False) W (fun _ h=>h) (Sl.RX.reads_all r_1)).mono fun e W' hP=> ?_;obtain⟨v,A',Ns,rfl,⟨rfl,rfl,rfl⟩,hst⟩:=hP;have bel:=Sl.St.below hst;exact⟨_,rfl,_,_,_,[],_,[],hW',trodAll_mk1 (shut_bool Tryz.underlying4 _),(trodAll_cons_mk (shut_string Tryz.underlying9 l) (trodAll_cons_mk (Below.trod laidOut (by kernel_rfl) (of_decide_eq_true (by kernel_rfl)) f bel lt1) trodAll_mk0)),rfl,bel.frame _,fun h=>by cases h⟩
theorem over:Rows.splitFeedsRow.holds Tryz.pinned (OpenSpec.ofChange Rows.splitFeedsSpec) :=
 OpenClaim.holds_of_wide 7 Tryz.f7 rfl rfl rfl rfl rfl rfl rfl ⟨rfl,rfl,rfl,rfl,rfl⟩ rfl rfl rfl rfl rfl (by kernel_rfl) Tryz.func7 (by kernel_rfl)
  (of_decide_eq_true (by kernel_rfl)) (by unfold Func.isWrapper; first | (rw[if_pos (by decide +kernel)]; kernel_rfl) | (rw[if_neg (by decide +kernel)]; exact⟨rfl,rfl⟩))
  (fun os started H enc _=>lifted os started H enc)
theorem proved:Rows.SplitFeedsSaid:=over
end Go.Proofs.YtheikonlgjdopaaGreat.splitFeeds
namespace Go.Proofs.YtheikonlgjdopaaGreat
theorem splitFeeds_holds:Rows.SplitFeedsSaid:=splitFeeds.proved
end Go.Proofs.YtheikonlgjdopaaGreat
