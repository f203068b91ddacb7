/- frameEncodes_holds: part 8. -/
import Derived.Test.YtheikonlgjdopaaGreatK7
set_option maxRecDepth 100000
set_option maxHeartbeats 4000000
set_option linter.defProp false
namespace Go.Proofs.YtheikonlgjdopaaGreat.Sl
open Go.RowKit
set_option linter.unusedVariables false
set_option linter.unusedSimpArgs false
def Oh := @Tryz.sizeOf36
def Oq := @Tryz.sizeOf25
def ON := @Tryz.runUnderlying25
def OO := @Tryz.isAgg36
def O7 := @Tryz.isAgg25
def PL := @Tryz.results191
def PM := @Tryz.results115
def P1 := @Tryz.ntmps191
def P8 := @Tryz.results194
def P9 := @Tryz.results195
def Qa := @Tryz.results156
def Qe := @Tryz.func191
def Qh := @Tryz.results93
def Qz := @Tryz.results120
def DN:fg := [(23,0,0),(23,1,1),(36,0,0),(36,1,2),(36,2,3),(36,3,4),(97,3,3),(97,4,4),(176,0,0),(176,1,1),(179,0,0),(179,1,1)]
theorem ak:(DN).OK Tryz.prog:=⟨FOK.mk NS rfl N5 rfl,FOK.mk NS rfl NZ rfl,FOK.mk OS rfl ND rfl,FOK.mk OS rfl Ny rfl,FOK.mk OS rfl Ny rfl,FOK.mk OS rfl Tryz.sizeOf34 rfl,FOK.mk NQ rfl N5 rfl,FOK.mk NQ rfl N5 rfl,FOK.mk Pw rfl NZ rfl,FOK.mk Pw rfl Qg rfl,FOK.mk PN rfl Ny rfl,FOK.mk PN rfl PO rfl,trivial⟩
def DO:List Nat := [3,4,9,34,174,177]
theorem bh:NOK Tryz.prog DO:=⟨Nz,Ok,N4,Tryz.isAgg34,PY,O9,trivial⟩
theorem n8:Tryz.prog.follows .mixedOrders=true:=by kernel_rfl
theorem kO:BOK Tryz.prog 36 #[.bool false,.string ⟨#[]⟩,.int .i64 0,.int .i64 0,.slice none 0 0] [(0,2),(2,1),(3,1),(4,1)]:=BOK.mk Tryz.zeroValue36 OS (by intro w; simp)
theorem wb:BOK Tryz.prog 176 #[.string ⟨#[]⟩,.slice none 0 0] [(0,1),(1,1)]:=BOK.mk Tryz.zeroValue176 Pw (by intro w; simp)
theorem wc:BOK Tryz.prog 179 #[.int .i64 0,.slice none 0 0] [(0,1),(1,1)]:=BOK.mk Tryz.zeroValue179 PN (by intro w; simp)
theorem uY:SOK Tryz.prog 34 176 1 2 #[.string ⟨#[]⟩,.slice none 0 0]:=SOK.mk On Ot Tryz.zeroValue176 QH QI
theorem kP:SOK Tryz.prog 174 179 1 2 #[.int .i64 0,.slice none 0 0]:=SOK.mk Om Oj Tryz.zeroValue179 QH QI
theorem kQ:SOK Tryz.prog 177 97 1 12 #[.int .i64 0,.int .i64 0,.bool false,.bool false,.bool false,.int .i64 0,.int .i64 0,.int .i64 0,.int .i64 0,.int .i64 0,.int .i64 0,.slice none 0 0]:=SOK.mk NY NJ Tryz.zeroValue97 QH QI
theorem nr:(Tryz.prog.info? 97).map (fun i=>(i.zero,i.size,i.bytes))=some (some (.agg #[.int .i64 0,.int .i64 0,.bool false,.bool false,.bool false,.int .i64 0,.int .i64 0,.int .i64 0,.int .i64 0,.int .i64 0,.int .i64 0,.slice none 0 0]),12,96):=by kernel_rfl
theorem wd:(Tryz.prog.info? 176).map (fun i=>(i.zero,i.size,i.bytes))=some (some (.agg #[.string ⟨#[]⟩,.slice none 0 0]),2,40):=by kernel_rfl
theorem mo:(Tryz.prog.info? 179).map (fun i=>(i.zero,i.size,i.bytes))=some (some (.agg #[.int .i64 0,.slice none 0 0]),2,32):=by kernel_rfl
def dM (x10:aI):List aV→Int→Nat→Option (Lp Int Int)
 | [],y158,k159=>some (Lp.go y158)
 | x164::xs,y158,k159=>(if x164.M2<0 then some true else ((jM x164.M2 4).bind fun x223=>if x223=true then (if (k159:Int)>0 then (if -9223372036854775808≤((k159:Int) - 1)∧((k159:Int) - 1)≤9223372036854775807 then (if 0≤((k159:Int) - 1) then ((x10.MH[((k159:Int) - 1).toNat]?).bind fun x229=>if x229.M2≥x164.M2 then some true else some false) else none) else none) else some false) else some true)).bind fun y220=>if y220=true then some (Lp.ret 13) else (dM x10 xs y158 (k159+1))
def cQ (a0:List aI):List aI→Int→Nat→Option (Lp Int Int)
 | [],y4,k5=>some (Lp.go y4)
 | x10::xs,y4,k5=>if (x10.MH.length:Int)=0 then some (Lp.ret 10) else ((if x10.MO = [] then some true else (if (x10.MO.length:Int)>32767 then some true else (if (k5:Int)>0 then (if -9223372036854775808≤((k5:Int) - 1)∧((k5:Int) - 1)≤9223372036854775807 then (if 0≤((k5:Int) - 1) then ((a0[((k5:Int) - 1).toNat]?).bind fun x150=>if (Op.bytesLess x150.MO x10.MO)=true then some false else some true) else none) else none) else some false))).bind fun y143=>if y143=true then some (Lp.ret 13) else ((dM x10 x10.MH y4 0).bind fun e=>match e with | .ret r=>some (Lp.ret r) | .go y237=>(cQ a0 xs y237 (k5+1))))
theorem rz (a0:List aI) (y4:Int) (k5:Nat):cQ a0 [] y4 k5=(some (Lp.go y4)):=rfl
theorem rA (a0:List aI) (x10:aI) (xs:List aI) (y4:Int) (k5:Nat):cQ a0 (x10::xs) y4 k5=(if (x10.MH.length:Int)=0 then some (Lp.ret 10) else ((if x10.MO = [] then some true else (if (x10.MO.length:Int)>32767 then some true else (if (k5:Int)>0 then (if -9223372036854775808≤((k5:Int) - 1)∧((k5:Int) - 1)≤9223372036854775807 then (if 0≤((k5:Int) - 1) then ((a0[((k5:Int) - 1).toNat]?).bind fun x150=>if (Op.bytesLess x150.MO x10.MO)=true then some false else some true) else none) else none) else some false))).bind fun y143=>if y143=true then some (Lp.ret 13) else ((dM x10 x10.MH y4 0).bind fun e=>match e with | .ret r=>some (Lp.ret r) | .go y237=>(cQ a0 xs y237 (k5+1))))):=rfl
def jv (a0:List aI):Option (Int):=if (a0.length:Int)=0 then some 10 else ((cQ a0 a0 0 0).bind fun e=>match e with | .ret r=>some r | .go y239=>some 0)
theorem rB (a0:List aI) (A1:Option Addr) (c2:Nat) (r:Int) (h:jv a0=some r):aH Tryz.prog 194 #[.slice A1 a0.length c2] (RX.of (aq 2 aM) [.slice A1 a0.length c2] a0) (aK) (fun v A' N=>v=jI r∧A'=aK∧N = []):=by
 refine aU Tryz.func194 Z Tryz.ntmps194 Z ?_
 intro F w hX
 unfold jv at h
 refine KG Z (KP ak Z (T.seq (KG Z (KF ak 1 Z (KH Z (KX Z On) Z (KF ak 1 Z ?_))))))
 rcases jF h with⟨c3,h⟩ | ⟨c3,h⟩
 ·refine La Z c3 (KG Z (KF ak 1 Z ?_))
  obtain rfl:=Nq h
  exact KI (T.ret (KL (KQ [0] P8 (KJ Z))))
 refine K9 Z c3 (K3 (T.seq (KG Z (KF ak 1 Z (KH Z (KX Z On) Z (KP ak Z (T.block ?_)))))))
 obtain⟨E6,hE7,hO8⟩:=Np h
 have hk12len:=LA hX
 refine Lv (fun m e Rs=> ∃ (y4:Int) (k5:Nat),k5+m=a0.length∧e = [(0,.slice A1 a0.length c2),(2,jI y4),(10,.slice A1 a0.length c2),(11,jI (a0.length:Int)),(12,jI (k5:Int))]∧Rs = [aK]∧cQ a0 (a0.drop k5) y4 k5=some E6) (a0.length) [0] ⟨0,0,by simp,Z,Z,by rw[List.drop_zero]; exact hE7⟩ QJ QJ ?_
 clear hE7 h
 rintro m9 _ _ ⟨y4,k5,hk12,rfl,rfl,h⟩
 cases m9 with
 | zero =>
  rw[List.drop_of_length_le QG,rz] at h
  have hk12ge: ¬ ((k5:Int)<(a0.length:Int)):=by omega
  refine KG Z (KP ak Z (T.seq (Lb Z (Nu hk12ge) ?_)))
  obtain rfl:=Nq h
  replace h:=hO8
  clear hO8
  refine T.exit (KZ (KZ (Lu (X.seq (KG Z (KF ak 1 Z ?_))))))
  obtain rfl:=Nq h
  exact KI (T.ret (KQ [0] P8 (KJ Z)))
 | succ m9 =>
  obtain⟨x10,hxx10⟩: ∃ x,a0[k5]? = some x:=⟨_,List.getElem?_eq_getElem QG⟩
  rw[bJ hxx10,rA] at h
  have hk12lt:(k5:Int)<(a0.length:Int):=by omega
  refine KG Z (KP ak Z (T.seq (KV Z (Nt hk12lt) (K3 (T.seq (T.block (KG Z ?_)))))))
  obtain⟨gz126,oz126,rfl,z126cs,z126cl,z126cc,z126nf,z126r⟩:=Lf QH hX hxx10
  obtain⟨z126S,z126r,z126rr⟩:=z126r
  obtain⟨A127,c128,rfl,z126s0⟩:=z126r
  have hX129:(RX.of (aq 2 bX) [.slice A127 x10.MH.length c128] x10.MH).reads w F:=⟨z126S,z126s0,z126rr⟩
  refine KF ak 1 Z ?_
  refine KH Z (K1 (k:=k5) Z Z Z On Ot (Nw hxx10).1) Z ?_
  refine KH Z (LI (us := [jS x10.MO,.slice A127 x10.MH.length c128]) 0 Z PZ Ot z126nf z126cc Z Z Z) Z (TL.alloc Z .u Tryz.zeroValue176 Z (fun b130=>(KF ak 1 Z (KW 0 Z (cs':= #[jS x10.MO,.slice A127 x10.MH.length c128]) Z .u Z Z Ot Z Z Z Z Z (KI (T.seq (KG Z (KK ak bh 0 Z 2 Z Z (KH Z (KX Z Om) Z (KF ak 1 Z ?_))))))))))
  rcases jF h with⟨c131,h⟩ | ⟨c131,h⟩
  ·refine La Z c131 (KG Z (KF ak 1 Z ?_))
   obtain rfl:=Nq h
   obtain rfl:=Nq hO8
   exact KI (T.ret (KL (KU (KL (KL (KU (KL (KQ [1] P8 (KJ Z)))))))))
  refine K9 Z c131 (K3 (L3 ?_))
  obtain⟨y143,h,hk144⟩:=Np h
  refine Lz (fun e Rs=>e = [(0,.slice (some ⟨gz126,oz126,none⟩) a0.length c2),(2,jI y4),(4,jP b130),(10,.slice (some ⟨gz126,oz126,none⟩) a0.length c2),(11,jI (a0.length:Int)),(12,jI (k5:Int)),(44,.bool y143)]∧Rs = [aW b130 176 #[jS x10.MO,.slice A127 x10.MH.length c128],aK]) ?_ ?_
  ·clear hk144
   refine Lm (.q 0 (.q 1 (.q 2 (.q 3 (.q 4 (.q 5 (.q 6 (.q 7 (.q 8 (.q 9 (.q 10 (.q 11 (.q 12 (.q 13 (.q 14 (.q 15 (.q 16 (.q 17 (.q 18 (.q 19 (.q 20 (.q 21 (.q 22 (.q 23 .nil)))))))))))))))))))))))) [0,0] Z n8 (NoP.seq (NoP.seq (NoP.seq (NoP.blk (NoP.seq (NoP.seq (NoP.blk (NoP.seq bu)))))))) QI ?_
   refine TD.run ak [0] Z Z (KO Z (K5 0 Z N4 Z Z) Z (KO Z (Ex.sEq Z (m := []) Z) Z ?_))
   rcases jF h with⟨c145,h⟩ | ⟨c145,h⟩
   ·refine TD.run ak [3] Z Z ?_
    iterate 4 refine LD Z (.gn Z Z (Nt c145)) Z ?_
    refine KO Z (LN Z (Nt c145) Z) Z (TD.run ak [9] Z Z ?_)
    iterate 3 refine LD Z (.gn Z Z Z) Z ?_
    iterate 9 refine LD Z (.gu Z Z) Z ?_
    refine LD Z (.gn Z Z Z) Z (KO Z (LN Z Z Z) Z ?_)
    cases h
    exact TD.nil (KR [0,0])
   refine TD.run ak [3] Z Z (TD.q Z (.g Z Z (Nu c145)) (Ls ak Z) Z (TD.q Z (.g Z Z (Nu c145)) (K5 0 Z N4 Z Z) Z (TD.q Z (.g Z Z (Nu c145)) (Lx Z NE) Z (TD.q Z (.g Z Z (Nu c145)) (Ls ak Z) Z (KO Z (LL Z (Nu c145) Z) Z ?_)))))
   rcases jF h with⟨c146,h⟩ | ⟨c146,h⟩
   ·refine TD.run ak [9] Z Z ?_
    iterate 3 refine LD Z (.gn Z Z (Nt c146)) Z ?_
    iterate 9 refine LD Z (.gu Z Z) Z ?_
    refine LD Z (.gn Z Z (Nt c146)) Z (KO Z (LN Z (Nt c146) Z) Z ?_)
    cases h
    exact TD.nil (KR [0,0])
   refine TD.run ak [9] Z Z ?_
   iterate 3 refine TD.q Z (.g Z Z (Nu c146)) (Ls ak Z) Z ?_
   rcases jF h with⟨c147,h⟩ | ⟨c147,h⟩
   ·refine TD.q Z (.g Z Z (Nt c147)) (Ls ak Z) Z (TD.q Z (.g Z Z (Nt c147)) (Ls ak Z) Z ?_)
    obtain⟨c148,h⟩:=ao h
    refine TD.q Z (.g Z Z (Nt c147)) (Ex.sub Z Z c148) Z ?_
    obtain⟨c149,h⟩:=ao h
    obtain⟨x150,hx151,h⟩:=Np h
    obtain⟨z152cs,z152cl,z152cc,z152nf,z152r⟩:=Mc QH hX hx151
    obtain⟨z152S,z152r,z152rr⟩:=z152r
    obtain⟨A153,c154,rfl,z152s0⟩:=z152r
    have hX155:(RX.of (aq 2 bX) [.slice A153 x150.MH.length c154] x150.MH).reads w F:=⟨z152S,z152s0,z152rr⟩
    refine TD.q Z (.g Z Z (Nt c147)) (K1 (k:=((k5:Int) - 1).toNat) Z Z ((Int.toNat_of_nonneg c149).symm) On Ot (Nw hx151).1) Z ?_
    refine TD.q Z (.g Z Z (Nt c147)) (Ls ak Z) Z (TD.q Z (.g Z Z (Nt c147)) (Ln 0 Z N4 z152nf z152cc Z Z) Z (TD.q Z (.g Z Z (Nt c147)) (Ls ak Z) Z (TD.q Z (.g Z Z (Nt c147)) (K5 0 Z N4 Z Z) Z (TD.q Z (.g Z Z (Nt c147)) (Ex.sGe Z Z) Z (TD.q Z (.g Z Z (Nu c146)) (LN Z (Nt c147) Z) Z (KO Z (LL Z (Nu c146) Z) Z ?_))))))
    rcases jF h with⟨c156,h⟩ | ⟨c156,h⟩
    ·cases h
     exact TD.nil (LE (d:=44) (v':= .bool false) Z (congrArg Value.bool (bf c156)) (KR [0,0]))
    replace c156:=Nx c156
    cases h
    exact TD.nil (LE (d:=44) (v':= .bool true) Z (congrArg Value.bool (bG c156)) (KR [0,0]))
   refine LD Z (.gn Z Z (Nu c147)) Z ?_
   iterate 8 refine LD Z (.gn Z Z (Nu c147)) Z ?_
   refine TD.q Z (.g Z Z (Nu c146)) (LL Z (Nu c147) Z) Z (KO Z (LL Z (Nu c146) Z) Z ?_)
   cases h
   exact TD.nil (KR [0,0])
  rintro _ _ ⟨rfl,rfl⟩
  clear h
  have h:=hk144
  clear hk144
  try dsimp only at h
  rcases jF h with⟨c157,h⟩ | ⟨c157,h⟩
  ·refine X.seq (KV Z c157 (KG Z (KF ak 1 Z ?_)))
   obtain rfl:=Nq h
   obtain rfl:=Nq hO8
   exact KI (T.ret (KL (KU (KL (KL (KU (KL (KQ [1] P8 (KJ Z)))))))))
  replace c157:=Nx c157
  refine X.seq (Lb Z c157 (Lg Z (KK ak bh 0 Z 2 Z Z (KH Z (KX Z Om) Z (KP ak Z (T.block ?_))))))
  obtain⟨E160,hE161,hO162⟩:=Np h
  have hk166len:=LA hX129
  refine Lv (fun m e Rs=> ∃ (y158:Int) (k159:Nat),k159+m=x10.MH.length∧e = [(0,.slice (some ⟨gz126,oz126,none⟩) a0.length c2),(2,jI y158),(4,jP b130),(10,.slice (some ⟨gz126,oz126,none⟩) a0.length c2),(11,jI (a0.length:Int)),(12,jI (k5:Int)),(46,.slice A127 x10.MH.length c128),(47,jI (x10.MH.length:Int)),(48,jI (k159:Int))]∧Rs = [aW b130 176 #[jS x10.MO,.slice A127 x10.MH.length c128],aK]∧dM x10 (x10.MH.drop k159) y158 k159=some E160) (x10.MH.length) [0,0] ⟨y4,0,by simp,Z,Z,by rw[List.drop_zero]; exact hE161⟩ QJ QJ ?_
  clear hE161 h
  rintro m163 _ _ ⟨y158,k159,hk166,rfl,rfl,h⟩
  cases m163 with
  | zero =>
   rw[List.drop_of_length_le QG,dM] at h
   have hk166ge: ¬ ((k159:Int)<(x10.MH.length:Int)):=by omega
   refine KG Z (KP ak Z (T.seq (Lb Z (Nu hk166ge) ?_)))
   obtain rfl:=Nq h
   replace h:=hO162
   clear hO162
   exact T.exit (KZ (KZ (Lu (K4 (X.seq (T.region Z (KH Z (Ex.add Z Z QG) Z (KF ak 1 Z (TL.nil (X.back (m':=m9) [1] QG ⟨y158,k5+1,by omega,Z,Z,h⟩ QJ QJ))))))))))
  | succ m163 =>
   obtain⟨x164,hxx164⟩: ∃ x,x10.MH[k159]? = some x:=⟨_,List.getElem?_eq_getElem QG⟩
   rw[bJ hxx164,dM] at h
   have hk166lt:(k159:Int)<(x10.MH.length:Int):=by omega
   refine KG Z (KP ak Z (T.seq (KV Z (Nt hk166lt) (K3 (T.seq (T.block (KG Z ?_)))))))
   obtain⟨gz202,oz202,rfl,z202cs,z202cl,z202cc,z202nf,z202r⟩:=Lf QH hX129 hxx164
   obtain⟨z202S,z202r,z202rr⟩:=z202r
   obtain⟨A203,c204,rfl,z202s0⟩:=z202r
   have hX205:(RX.of (aq 12 dG) [.slice A203 x164.MP.length c204] x164.MP).reads w F:=⟨z202S,z202s0,z202rr⟩
   refine KF ak 1 Z ?_
   refine KH Z (K1 (k:=k159) Z Z Z Om Oj (Nw hxx164).1) Z ?_
   refine KH Z (LI (us := [jI x164.M2,.slice A203 x164.MP.length c204]) 0 Z PC Oj z202nf z202cc Z Z Z) Z (TL.alloc Z .u Tryz.zeroValue179 Z (fun b206=>(KF ak 1 Z (KW 0 Z (cs':= #[jI x164.M2,.slice A203 x164.MP.length c204]) Z .u Z Z Oj Z Z Z Z Z (KI (T.seq ?_))))))
   obtain⟨y220,h,hk221⟩:=Np h
   refine Lz (fun e Rs=>e = [(0,.slice (some ⟨gz126,oz126,none⟩) a0.length c2),(2,jI y158),(4,jP b130),(10,.slice (some ⟨gz126,oz126,none⟩) a0.length c2),(11,jI (a0.length:Int)),(12,jI (k5:Int)),(46,.slice (some ⟨gz202,oz202,none⟩) x10.MH.length c128),(47,jI (x10.MH.length:Int)),(48,jI (k159:Int)),(77,.bool y220)]∧Rs = [aW b206 179 #[jI x164.M2,.slice A203 x164.MP.length c204],aW b130 176 #[jS x10.MO,.slice (some ⟨gz202,oz202,none⟩) x10.MH.length c128],aK]) ?_ ?_
   ·clear hk221
    refine Lm (.q 0 (.q 1 (.q 2 (.q 3 (.q 4 (.q 5 (.e 6 (.q 7 (.q 8 (.q 9 (.q 10 (.q 11 (.q 12 (.q 13 (.q 14 (.q 15 (.q 16 (.q 17 (.q 18 (.q 19 (.q 20 (.q 21 (.q 22 (.q 23 (.q 24 .nil))))))))))))))))))))))))) [0,0,0] Z n8 (NoP.seq (NoP.seq (NoP.blk (NoP.seq (NoP.seq (NoP.blk (NoP.blk (NoP.seq (NoP.seq (NoP.blk (NoP.seq bu))))))))))) QI ?_
    refine TD.run ak [0] Z Z (KO Z (K5 0 Z Nz Z Z) Z ?_)
    rcases jF h with⟨c222,h⟩ | ⟨c222,h⟩
    ·refine TD.run ak [2,3] Z Z ?_
     iterate 2 refine LD Z (.gn Z Z (Nt c222)) Z ?_
     refine L6 Z (.gn Z Z (Nt c222)) Z [0,0,0] Z (LD Z (.gn Z Z (Nt c222)) Z (KO Z (LN Z (Nt c222) Z) Z (TD.run ak [9] Z Z ?_)))
     iterate 3 refine LD Z (.gn Z Z Z) Z ?_
     iterate 10 refine LD Z (.gu Z Z) Z ?_
     refine LD Z (.gn Z Z Z) Z (KO Z (LN Z Z Z) Z ?_)
     cases h
     exact TD.nil (KR [0,0,0])
    refine TD.run ak [2,3] Z Z (TD.q Z (.g Z Z (Nu c222)) (Ls ak Z) Z (TD.q Z (.g Z Z (Nu c222)) (K5 0 Z Nz Z Z) Z ?_))
    obtain⟨x223,hx224,h⟩:=Np h
    refine Lw Z (.g Z Z (Nu c222)) (.fn Tryz.call101 Z) (LB (fun w=>dF x164.M2 4 _ hx224 w)) (fun _ _=>Lk _ _) Z [0,0,0] (Z) (TD.q Z (.g Z Z (Nu c222)) (Ls ak Z) Z (KO Z (LL Z (Nu c222) Z) Z ?_))
    rcases jF h with⟨c225,h⟩ | ⟨c225,h⟩
    ·refine TD.run ak [9] Z Z ?_
     iterate 3 refine TD.q Z (.g Z Z (bf c225)) (Ls ak Z) Z ?_
     rcases jF h with⟨c226,h⟩ | ⟨c226,h⟩
     ·refine TD.q Z (.g Z Z (Nt c226)) (Ls ak Z) Z (TD.q Z (.g Z Z (Nt c226)) (K5 1 Z PY Z Z) Z (TD.q Z (.g Z Z (Nt c226)) (Ls ak Z) Z ?_))
      obtain⟨c227,h⟩:=ao h
      refine TD.q Z (.g Z Z (Nt c226)) (Ex.sub Z Z c227) Z ?_
      obtain⟨c228,h⟩:=ao h
      obtain⟨x229,hx230,h⟩:=Np h
      obtain⟨z231cs,z231cl,z231cc,z231nf,z231r⟩:=Mc QH hX129 hx230
      obtain⟨z231S,z231r,z231rr⟩:=z231r
      obtain⟨A232,c233,rfl,z231s0⟩:=z231r
      have hX234:(RX.of (aq 12 dG) [.slice A232 x229.MP.length c233] x229.MP).reads w F:=⟨z231S,z231s0,z231rr⟩
      refine TD.q Z (.g Z Z (Nt c226)) (K1 (k:=((k159:Int) - 1).toNat) Z Z ((Int.toNat_of_nonneg c228).symm) Om Oj (Nw hx230).1) Z ?_
      refine TD.q Z (.g Z Z (Nt c226)) (Ls ak Z) Z (TD.q Z (.g Z Z (Nt c226)) (Ln 0 Z Nz z231nf z231cc Z Z) Z (TD.q Z (.g Z Z (Nt c226)) (Ls ak Z) Z (TD.q Z (.g Z Z (Nt c226)) (K5 0 Z Nz Z Z) Z (TD.q Z (.g Z Z (Nt c226)) (Ls ak Z) Z (TD.q Z (.g Z Z (bf c225)) (LN Z (Nt c226) Z) Z (KO Z (LL Z (bf c225) Z) Z ?_))))))
      rcases jF h with⟨c235,h⟩ | ⟨c235,h⟩
      ·cases h
       exact TD.nil (LE (d:=77) (v':= .bool true) Z (congrArg Value.bool (Nt c235)) (KR [0,0,0]))
      cases h
      exact TD.nil (LE (d:=77) (v':= .bool false) Z (congrArg Value.bool (Nu c235)) (KR [0,0,0]))
     refine LD Z (.gn Z Z (Nu c226)) Z ?_
     iterate 9 refine LD Z (.gn Z Z (Nu c226)) Z ?_
     refine TD.q Z (.g Z Z (bf c225)) (LL Z (Nu c226) Z) Z (KO Z (LL Z (bf c225) Z) Z ?_)
     cases h
     exact TD.nil (KR [0,0,0])
    replace c225:=Nx c225
    refine TD.run ak [9] Z Z ?_
    iterate 3 refine LD Z (.gn Z Z (bG c225)) Z ?_
    iterate 10 refine LD Z (.gu Z Z) Z ?_
    refine LD Z (.gn Z Z (bG c225)) Z (KO Z (LN Z (bG c225) Z) Z ?_)
    cases h
    exact TD.nil (KR [0,0,0])
   rintro _ _ ⟨rfl,rfl⟩
   clear h
   have h:=hk221
   clear hk221
   try dsimp only at h
   rcases jF h with⟨c236,h⟩ | ⟨c236,h⟩
   ·refine X.seq (KV Z c236 (KG Z (KF ak 1 Z ?_)))
    obtain rfl:=Nq h
    obtain rfl:=Nq hO162
    obtain rfl:=Nq hO8
    exact KI (T.ret (KU (KL (KL (KU (KU (KL (KL (KU (KL (KQ [2] P8 (KJ Z))))))))))))
   replace c236:=Nx c236
   exact X.seq (Lb Z c236 (T.skip (K4 (X.seq (T.region Z (KH Z (Ex.add Z Z QG) Z (KF ak 1 Z (TL.nil (X.back (m':=m163) [1,1] QG ⟨y158,k159+1,by omega,Z,Z,h⟩ QJ QJ)))))))))
def bZ (a0:aA):List Bat→Int→Option (Lp Int Int)
 | [],y14=>some (Lp.go y14)
 | x20::xs,y14=>(dW x20).bind fun x28=>if x28=0 then (if x20.Nc=true then some (Lp.ret 12) else (if (x20.Nd == a0.MM.null)=true then some (Lp.ret 8) else (bZ a0 xs y14))) else some (Lp.ret x28)
def dX (a0:aA) (a1:List Bat) (a2:Int):Option (Int):=(if (a1.length:Int)=0 then some true else (if a2<4 then (if (a1.length:Int)>1 then some true else some false) else some false)).bind fun y8=>if y8=true then some 10 else ((bZ a0 a1 0).bind fun e=>match e with | .ret r=>some r | .go y33=>some 0)
theorem ma (a0:aA) (A1:Option Addr) (c2:Nat) (a1:List Bat) (A3:Option Addr) (c4:Nat) (a2:Int) (r:Int) (h:dX a0 a1 a2=some r):aH Tryz.prog 195 #[.agg #[.bool a0.MM.null,jS a0.MM.data,jI a0.M5,jI a0.ML,.slice A1 a0.MF.length c2],.slice A3 a1.length c4,jI a2] (RX.and (RX.of (aq 2 aM) [.slice A1 a0.MF.length c2] a0.MF) (RX.of (aq 12 dG) [.slice A3 a1.length c4] a1)) (aK) (fun v A' N=>v=jI r∧A'=aK∧N = []):=by
 refine aU Tryz.func195 Z Tryz.ntmps195 Z ?_
 intro F w hX
 unfold dX at h
 refine KG Z (TL.box Z .u Z Z (fun b5=>(KP ak Z (L3 ?_))))
 obtain⟨y8,h,hk9⟩:=Np h
 refine Lz (fun e Rs=>e = [(1,.slice A3 a1.length c4),(3,jP b5),(6,jI 0),(21,.bool y8)]∧Rs = [aW b5 36 #[.bool a0.MM.null,jS a0.MM.data,jI a0.M5,jI a0.ML,.slice A1 a0.MF.length c2],aK]) ?_ ?_
 ·clear hk9
  refine T.region Z (KF ak 1 Z (KH Z (KX Z NY) Z ?_))
  rcases jF h with⟨c10,h⟩ | ⟨c10,h⟩
  ·refine KF ak 2 Z (KN 13 Z (Nt c10) (KM ak 8 Z ?_))
   cases h
   exact TL.nil (KR [0,0])
  refine KF ak 2 Z (KN 13 Z (Nu c10) ?_)
  rcases jF h with⟨c11,h⟩ | ⟨c11,h⟩
  ·refine KM ak 3 Z (KN 16 Z (Nt c11) (KM ak 1 Z (TL.q Z (.g Z Z Z) (KX Z NY) Z (KM ak 3 Z ?_))))
   rcases jF h with⟨c12,h⟩ | ⟨c12,h⟩
   ·cases h
    exact TL.nil (LE (d:=21) (v':= .bool true) Z (congrArg Value.bool (Nt c12)) (KR [0,0]))
   cases h
   exact TL.nil (LE (d:=21) (v':= .bool false) Z (congrArg Value.bool (Nu c12)) (KR [0,0]))
  refine KM ak 3 Z (KN 16 Z (Nu c11) (KM ak 5 Z ?_))
  cases h
  exact TL.nil (KR [0,0])
 rintro _ _ ⟨rfl,rfl⟩
 clear h
 have h:=hk9
 clear hk9
 try dsimp only at h
 rcases jF h with⟨c13,h⟩ | ⟨c13,h⟩
 ·refine X.seq (KV Z c13 (KG Z (KF ak 1 Z ?_)))
  obtain rfl:=Nq h
  exact KI (T.ret (KL (KQ [1] P9 (KJ Z))))
 replace c13:=Nx c13
 refine X.seq (Lb Z c13 (K3 (T.seq (KG Z (KF ak 1 Z (KH Z (KX Z NY) Z (KP ak Z (T.block ?_))))))))
 obtain⟨E16,hE17,hO18⟩:=Np h
 have hk22len:=LA (K6 hX)
 refine Lv (fun m e Rs=> ∃ (y14:Int) (k15:Nat),k15+m=a1.length∧e = [(3,jP b5),(6,jI y14),(22,.slice A3 a1.length c4),(23,jI (a1.length:Int)),(24,jI (k15:Int))]∧Rs = [aW b5 36 #[.bool a0.MM.null,jS a0.MM.data,jI a0.M5,jI a0.ML,.slice A1 a0.MF.length c2],aK]∧bZ a0 (a1.drop k15) y14=some E16) (a1.length) [0,0] ⟨0,0,by simp,Z,Z,by rw[List.drop_zero]; exact hE17⟩ QJ QJ ?_
 clear hE17 h
 rintro m19 _ _ ⟨y14,k15,hk22,rfl,rfl,h⟩
 cases m19 with
 | zero =>
  rw[List.drop_of_length_le QG,bZ] at h
  have hk22ge: ¬ ((k15:Int)<(a1.length:Int)):=by omega
  refine KG Z (KP ak Z (T.seq (Lb Z (Nu hk22ge) ?_)))
  obtain rfl:=Nq h
  replace h:=hO18
  clear hO18
  refine T.exit (KZ (KZ (Lu (X.seq (KG Z (KF ak 1 Z ?_))))))
  obtain rfl:=Nq h
  exact KI (T.ret (KQ [1] P9 (KJ Z)))
 | succ m19 =>
  obtain⟨x20,hxx20⟩: ∃ x,a1[k15]? = some x:=⟨_,List.getElem?_eq_getElem QG⟩
  rw[bJ hxx20,bZ] at h
  have hk22lt:(k15:Int)<(a1.length:Int):=by omega
  refine KG Z (KP ak Z (T.seq (KV Z (Nt hk22lt) ?_)))
  obtain⟨gz23,oz23,rfl,z23cs,z23cl,z23cc,z23nf,z23r⟩:=Lf QH (K6 hX) hxx20
  obtain⟨z23S,z23r,z23rr⟩:=z23r
  obtain⟨A24,c25,rfl,z23s0⟩:=z23r
  have hX26:(RX.of (aq 7 da) [.slice A24 x20.MK.length c25] x20.MK).reads w F:=⟨z23S,z23s0,z23rr⟩
  refine K3 (T.seq (T.block (KG Z ?_)))
  refine KH Z (K1 (k:=k15) Z Z Z NY NJ (Nw hxx20).1) Z ?_
  refine KH Z (LI (us:=wL5 x20 A24 c25) 0 Z N6 NJ z23nf z23cc Z Z Z) Z (TL.alloc Z .u Tryz.zeroValue97 Z (fun b27=>(KW 0 Z (cs':=wA0 x20 A24 c25) Z .u Z Z NJ Z Z Z Z Z (KI (T.seq (KG Z (KH Z (KY (us:=wL5 x20 A24 c25) 0 Z N6 NJ Z Z Z) Z ?_)))))))
  obtain⟨x28,hx29,h⟩:=Np h
  refine K2 Z .u (.fn Tryz.call81 Z) (kb x20 _ _ _ hx29) (fun _ hs=>(K0 hs hX26)) Z (K8 ak Z Z (KF ak 2 Z ?_))
  rcases jF h with⟨c30,h⟩ | ⟨c30,h⟩
  ·refine Lj Z c30 (K3 (T.block (KG Z (KK ak bh 0 Z 3 Z Z ?_))))
   rcases jF h with⟨c31,h⟩ | ⟨c31,h⟩
   ·refine KI (KV Z c31 (KG Z (KF ak 1 Z ?_)))
    obtain rfl:=Nq h
    obtain rfl:=Nq hO18
    exact KI (T.ret (KU (KU (KL (KL (KU (KL (KQ [2] P9 (KJ Z)))))))))
   replace c31:=Nx c31
   refine KI (Lb Z c31 (KG Z (KK ak bh 0 Z 4 Z Z (KK ak bh 1 Z 1 Z Z (KH Z (Ex.bEq Z Z Z Z N1) Z (KF ak 1 Z ?_))))))
   rcases jF h with⟨c32,h⟩ | ⟨c32,h⟩
   ·refine KI (KV Z c32 (KG Z (KF ak 1 Z ?_)))
    obtain rfl:=Nq h
    obtain rfl:=Nq hO18
    exact KI (T.ret (KU (KU (KL (KL (KU (KL (KQ [2] P9 (KJ Z)))))))))
   replace c32:=Nx c32
   exact KI (Lb Z c32 (T.skip (K4 (K4 (X.seq (T.region Z (KH Z (Ex.add Z Z QG) Z (KF ak 1 Z (TL.nil (X.back (m':=m19) [1,1] QG ⟨y14,k15+1,by omega,Z,Z,h⟩ QJ QJ))))))))))
  refine Li Z c30 (KG Z (KF ak 2 Z ?_))
  obtain rfl:=Nq h
  obtain rfl:=Nq hO18
  exact KI (T.ret (KL (KU (KL (KL (KU (KL (KQ [2] P9 (KJ Z)))))))))
def cu (a0:aA) (a1:Int):List aV→Int→Option (Lp Int Int)
 | [],y51=>some (Lp.go y51)
 | x57::xs,y51=>(dX a0 x57.MP a1).bind fun x65=>if x65=0 then (cu a0 a1 xs y51) else some (Lp.ret x65)
def cv (a0:aA) (a1:Int):List aI→Int→Option (Lp Int Int)
 | [],y37=>some (Lp.go y37)
 | x43::xs,y37=>(cu a0 a1 x43.MH y37).bind fun e=>match e with | .ret r=>some (Lp.ret r) | .go y68=>(cv a0 a1 xs y68)
def cC (a0:aA) (a1:Int):Option (Int):=((ql a0.MM).bind fun x12=>if x12=true then (if a0.MM.null=true then some false else ((nR a0.MM.data).bind fun x16=>if x16=true then some false else some true)) else some true).bind fun y10=>if y10=true then some 4 else ((if a0.M5<(-1) then some true else (if a0.M5>1 then some true else (if a0.ML<0 then some true else ((jM a0.ML 4).bind fun x30=>if x30=true then some false else some true)))).bind fun y25=>if y25=true then some 11 else ((jv a0.MF).bind fun x34=>if x34=0 then ((cv a0 a1 a0.MF 0).bind fun e=>match e with | .ret r=>some r | .go y70=>some 0) else some x34))
theorem iX (a0:aA) (A1:Option Addr) (c2:Nat) (a1:Int) (r:Int) (h:cC a0 a1=some r):aH Tryz.prog 156 #[.agg #[.bool a0.MM.null,jS a0.MM.data,jI a0.M5,jI a0.ML,.slice A1 a0.MF.length c2],jI a1] (RX.of (aq 2 aM) [.slice A1 a0.MF.length c2] a0.MF) (aK) (fun v A' N=>v=jI r∧A'=aK∧N = []):=by
 refine aU Tryz.func156 Z Tryz.ntmps156 Z ?_
 intro F w hX
 unfold cC at h
 refine KG Z (TL.box Z .u Z Z (fun b3=>(KP ak Z (T.seq (T.block (T.seq ?_))))))
 obtain⟨y10,h,hk11⟩:=Np h
 refine Lz (fun e Rs=>e = [(1,jI a1),(2,jP b3),(4,jI 0),(11,.bool y10)]∧Rs = [aW b3 36 #[.bool a0.MM.null,jS a0.MM.data,jI a0.M5,jI a0.ML,.slice A1 a0.MF.length c2],aK]) ?_ ?_
 ·clear hk11
  refine T.region Z (KF ak 1 Z (KH Z (KY (us:=wL6 a0.MM) 0 Z N0 ND Z Z Z) Z ?_))
  obtain⟨x12,hx13,h⟩:=Np h
  refine K2 Z .u (.fn Tryz.call148 Z) (nQ a0.MM _ hx13) rT Z ?_
  rcases jF h with⟨c14,h⟩ | ⟨c14,h⟩
  ·refine KF ak 2 Z (KN 16 Z (bf c14) ?_)
   rcases jF h with⟨c15,h⟩ | ⟨c15,h⟩
   ·refine KK ak bh 0 Z 5 Z Z (KN 21 Z (bf c15) (KM ak 8 Z ?_))
    cases h
    exact TL.nil (KR [0,0])
   replace c15:=Nx c15
   refine KK ak bh 0 Z 5 Z Z (KN 21 Z (bG c15) ?_)
   obtain⟨x16,hx17,h⟩:=Np h
   refine KK ak bh 0 Z 3 Z Z (K2 Z (.g Z Z Z) (.fn Tryz.call87 Z) (LB (fun w=>mD a0.MM.data _ hx17 w)) (fun _ _=>Lk _ _) Z (KM ak 4 Z ?_))
   rcases jF h with⟨c18,h⟩ | ⟨c18,h⟩
   ·cases h
    exact TL.nil (LE (d:=11) (v':= .bool false) Z (congrArg Value.bool (bf c18)) (KR [0,0]))
   replace c18:=Nx c18
   cases h
   exact TL.nil (LE (d:=11) (v':= .bool true) Z (congrArg Value.bool (bG c18)) (KR [0,0]))
  replace c14:=Nx c14
  refine KF ak 2 Z (KN 16 Z (bG c14) (KM ak 13 Z ?_))
  cases h
  exact TL.nil (KR [0,0])
 rintro _ _ ⟨rfl,rfl⟩
 clear h
 have h:=hk11
 clear hk11
 try dsimp only at h
 rcases jF h with⟨c19,h⟩ | ⟨c19,h⟩
 ·refine X.seq (KV Z c19 (KG Z (KF ak 1 Z ?_)))
  obtain rfl:=Nq h
  exact KI (T.ret (KU (KL (KQ [1] Qa (KJ Z)))))
 replace c19:=Nx c19
 refine X.seq (Lb Z c19 (T.seq ?_))
 obtain⟨y25,h,hk26⟩:=Np h
 refine Lz (fun e Rs=>e = [(1,jI a1),(2,jP b3),(4,jI 0),(29,.bool y25)]∧Rs = [aW b3 36 #[.bool a0.MM.null,jS a0.MM.data,jI a0.M5,jI a0.ML,.slice A1 a0.MF.length c2],aK]) ?_ ?_
 ·clear hk26
  refine T.region Z ?_
  rcases jF h with⟨c27,h⟩ | ⟨c27,h⟩
  ·refine KK ak bh 0 Z 4 Z Z (KN 33 Z (Nt c27) (KM ak 16 Z ?_))
   cases h
   exact TL.nil (KR [0,0])
  refine KK ak bh 0 Z 4 Z Z (KN 33 Z (Nu c27) ?_)
  rcases jF h with⟨c28,h⟩ | ⟨c28,h⟩
  ·refine KK ak bh 0 Z 5 Z Z (KN 38 Z (Nt c28) (KM ak 11 Z ?_))
   cases h
   exact TL.nil (KR [0,0])
  refine KK ak bh 0 Z 5 Z Z (KN 38 Z (Nu c28) ?_)
  rcases jF h with⟨c29,h⟩ | ⟨c29,h⟩
  ·refine KK ak bh 0 Z 5 Z Z (KN 43 Z (Nt c29) (KM ak 6 Z ?_))
   cases h
   exact TL.nil (KR [0,0])
  refine KK ak bh 0 Z 5 Z Z (KN 43 Z (Nu c29) ?_)
  obtain⟨x30,hx31,h⟩:=Np h
  refine KK ak bh 0 Z 2 Z Z (K2 Z (.g Z Z Z) (.fn Tryz.call101 Z) (LB (fun w=>dF a0.ML 4 _ hx31 w)) (fun _ _=>Lk _ _) Z (KM ak 3 Z ?_))
  rcases jF h with⟨c32,h⟩ | ⟨c32,h⟩
  ·cases h
   exact TL.nil (LE (d:=29) (v':= .bool false) Z (congrArg Value.bool (bf c32)) (KR [0,0]))
  replace c32:=Nx c32
  cases h
  exact TL.nil (LE (d:=29) (v':= .bool true) Z (congrArg Value.bool (bG c32)) (KR [0,0]))
 rintro _ _ ⟨rfl,rfl⟩
 clear h
 have h:=hk26
 clear hk26
 try dsimp only at h
 rcases jF h with⟨c33,h⟩ | ⟨c33,h⟩
 ·refine X.seq (KV Z c33 (KG Z (KF ak 1 Z ?_)))
  obtain rfl:=Nq h
  exact KI (T.ret (KU (KL (KQ [1] Qa (KJ Z)))))
 replace c33:=Nx c33
 refine X.seq (Lb Z c33 (T.skip (K4 (X.seq (T.seq (KG Z ?_))))))
 obtain⟨x34,hx35,h⟩:=Np h
 refine KK ak bh 0 Z 2 Z Z (K2 Z .u (.fn Tryz.call194 Z) (rB a0.MF _ _ _ hx35) (fun _ hs=>(K0 hs hX)) Z (K8 ak Z Z (KF ak 2 Z ?_)))
 rcases jF h with⟨c36,h⟩ | ⟨c36,h⟩
 ·refine Lj Z c36 (K3 (T.seq (KG Z (KK ak bh 0 Z 2 Z Z (KH Z (KX Z On) Z (KP ak Z (T.block ?_)))))))
  obtain⟨E39,hE40,hO41⟩:=Np h
  have hk45len:=LA hX
  refine Lv (fun m e Rs=> ∃ (y37:Int) (k38:Nat),k38+m=a0.MF.length∧e = [(1,jI a1),(2,jP b3),(4,jI y37),(56,.slice A1 a0.MF.length c2),(57,jI (a0.MF.length:Int)),(58,jI (k38:Int))]∧Rs = [aW b3 36 #[.bool a0.MM.null,jS a0.MM.data,jI a0.M5,jI a0.ML,.slice A1 a0.MF.length c2],aK]∧cv a0 a1 (a0.MF.drop k38) y37=some E39) (a0.MF.length) [0,0] ⟨0,0,by simp,Z,Z,by rw[List.drop_zero]; exact hE40⟩ QJ QJ ?_
  clear hE40 h
  rintro m42 _ _ ⟨y37,k38,hk45,rfl,rfl,h⟩
  cases m42 with
  | zero =>
   rw[List.drop_of_length_le QG,cv] at h
   have hk45ge: ¬ ((k38:Int)<(a0.MF.length:Int)):=by omega
   refine KG Z (KP ak Z (T.seq (Lb Z (Nu hk45ge) ?_)))
   obtain rfl:=Nq h
   replace h:=hO41
   clear hO41
   refine T.exit (KZ (KZ (Lu (X.seq (KG Z (KF ak 1 Z ?_))))))
   obtain rfl:=Nq h
   exact KI (T.ret (KQ [1] Qa (KJ Z)))
  | succ m42 =>
   obtain⟨x43,hxx43⟩: ∃ x,a0.MF[k38]? = some x:=⟨_,List.getElem?_eq_getElem QG⟩
   rw[bJ hxx43,cv] at h
   have hk45lt:(k38:Int)<(a0.MF.length:Int):=by omega
   refine KG Z (KP ak Z (T.seq (KV Z (Nt hk45lt) ?_)))
   obtain⟨gz46,oz46,rfl,z46cs,z46cl,z46cc,z46nf,z46r⟩:=Lf QH hX hxx43
   obtain⟨z46S,z46r,z46rr⟩:=z46r
   obtain⟨A47,c48,rfl,z46s0⟩:=z46r
   have hX49:(RX.of (aq 2 bX) [.slice A47 x43.MH.length c48] x43.MH).reads w F:=⟨z46S,z46s0,z46rr⟩
   refine K3 (T.seq (T.block (KG Z ?_)))
   refine KH Z (K1 (k:=k38) Z Z Z On Ot (Nw hxx43).1) Z ?_
   refine KH Z (LI (us := [jS x43.MO,.slice A47 x43.MH.length c48]) 0 Z PZ Ot z46nf z46cc Z Z Z) Z (TL.alloc Z .u Tryz.zeroValue176 Z (fun b50=>(KW 0 Z (cs':= #[jS x43.MO,.slice A47 x43.MH.length c48]) Z .u Z Z Ot Z Z Z Z Z (K7 Z (KK ak bh 0 Z 2 Z Z (KH Z (KX Z Om) Z (KP ak Z (T.block ?_))))))))
   obtain⟨E53,hE54,hO55⟩:=Np h
   have hk59len:=LA hX49
   refine Lv (fun m e Rs=> ∃ (y51:Int) (k52:Nat),k52+m=x43.MH.length∧e = [(1,jI a1),(2,jP b3),(4,jI y51),(56,.slice (some ⟨gz46,oz46,none⟩) a0.MF.length c2),(57,jI (a0.MF.length:Int)),(58,jI (k38:Int)),(63,.slice A47 x43.MH.length c48),(64,jI (x43.MH.length:Int)),(65,jI (k52:Int))]∧Rs = [aW b50 176 #[jS x43.MO,.slice A47 x43.MH.length c48],aW b3 36 #[.bool a0.MM.null,jS a0.MM.data,jI a0.M5,jI a0.ML,.slice (some ⟨gz46,oz46,none⟩) a0.MF.length c2],aK]∧cu a0 a1 (x43.MH.drop k52) y51=some E53) (x43.MH.length) [0,0,0] ⟨y37,0,by simp,Z,Z,by rw[List.drop_zero]; exact hE54⟩ QJ QJ ?_
   clear hE54 h
   rintro m56 _ _ ⟨y51,k52,hk59,rfl,rfl,h⟩
   cases m56 with
   | zero =>
    rw[List.drop_of_length_le QG,cu] at h
    have hk59ge: ¬ ((k52:Int)<(x43.MH.length:Int)):=by omega
    refine KG Z (KP ak Z (T.seq (Lb Z (Nu hk59ge) ?_)))
    obtain rfl:=Nq h
    replace h:=hO55
    clear hO55
    exact T.exit (KZ (KZ (Lu (K4 (X.seq (T.region Z (KH Z (Ex.add Z Z QG) Z (KF ak 1 Z (TL.nil (X.back (m':=m42) [1,1] QG ⟨y51,k38+1,by omega,Z,Z,h⟩ QJ QJ))))))))))
   | succ m56 =>
    obtain⟨x57,hxx57⟩: ∃ x,x43.MH[k52]? = some x:=⟨_,List.getElem?_eq_getElem QG⟩
    rw[bJ hxx57,cu] at h
    have hk59lt:(k52:Int)<(x43.MH.length:Int):=by omega
    refine KG Z (KP ak Z (T.seq (KV Z (Nt hk59lt) ?_)))
    obtain⟨gz60,oz60,rfl,z60cs,z60cl,z60cc,z60nf,z60r⟩:=Lf QH hX49 hxx57
    obtain⟨z60S,z60r,z60rr⟩:=z60r
    obtain⟨A61,c62,rfl,z60s0⟩:=z60r
    have hX63:(RX.of (aq 12 dG) [.slice A61 x57.MP.length c62] x57.MP).reads w F:=⟨z60S,z60s0,z60rr⟩
    refine K3 (T.seq (T.block (KG Z ?_)))
    refine KH Z (K1 (k:=k52) Z Z Z Om Oj (Nw hxx57).1) Z ?_
    refine KH Z (LI (us := [jI x57.M2,.slice A61 x57.MP.length c62]) 0 Z PC Oj z60nf z60cc Z Z Z) Z (TL.alloc Z .u Tryz.zeroValue179 Z (fun b64=>(KW 0 Z (cs':= #[jI x57.M2,.slice A61 x57.MP.length c62]) Z .u Z Z Oj Z Z Z Z Z (K7 Z (KH Z (KY (us := [.bool a0.MM.null,jS a0.MM.data,jI a0.M5,jI a0.ML,.slice (some ⟨gz46,oz46,none⟩) a0.MF.length c2]) 2 Z OO Oh Z Z Z) Z ?_)))))
    obtain⟨x65,hx66,h⟩:=Np h
    refine KK ak bh 0 Z 3 Z Z (K2 Z .u (.fn Tryz.call195 Z) (ma a0 _ _ x57.MP _ _ a1 _ hx66) (fun _ hs=>(RX.reads_and (K0 hs hX) (K0 hs hX63))) Z (K8 ak Z Z (KF ak 2 Z ?_)))
    rcases jF h with⟨c67,h⟩ | ⟨c67,h⟩
    ·exact Lj Z c67 (T.skip (K4 (X.seq (T.region Z (KH Z (Ex.add Z Z QG) Z (KF ak 1 Z (TL.nil (X.back (m':=m56) [1,1,1] QG ⟨y51,k52+1,by omega,Z,Z,h⟩ QJ QJ))))))))
    refine Li Z c67 (KG Z (KF ak 2 Z ?_))
    obtain rfl:=Nq h
    obtain rfl:=Nq hO55
    obtain rfl:=Nq hO41
    exact KI (T.ret (KU (KL (KL (KU (KU (KL (KL (KU (KL (KQ [3] Qa (KJ Z))))))))))))
 refine Li Z c36 (KG Z (KF ak 2 Z ?_))
 obtain rfl:=Nq h
 exact KI (T.ret (KL (KQ [1] Qa (KJ Z))))
def bV:List aV→(List UInt8×Int)→Option (List UInt8×Int)
 | [],st78=>some st78
 | x83::xs,st78=>(l9 x83.MP).bind fun (x91,x92)=>(if x92=0 then some st78 else ((li st78 x92).bind fun st100=>some st100)).bind fun st97=>(d8 st97 x83.M2 4).bind fun st102=>(gOf x91).bind fun x104=>(kf st102 x104 4).bind fun st106=>bV xs st106
def bW:List aI→(List UInt8×Int)→Option (List UInt8×Int)
 | [],st16=>some st16
 | x21::xs,st16=>((kC st16 x21.MO).bind fun st73=>(d8 st73 (x21.MH.length:Int) 4).bind fun st75=>(bV x21.MH st75).bind fun st109=>some st109).bind fun st66=>bW xs st66
def dC (st:List UInt8×Int) (a0:aA) (a2:Int):Option (List UInt8×Int):=(cC a0 a2).bind fun x4=>if x4=0 then ((kf st a0.MM 2).bind fun st7=>(d8 st7 a0.M5 2).bind fun st9=>(d8 st9 a0.ML 4).bind fun st11=>(d8 st11 (a0.MF.length:Int) 4).bind fun st13=>(bW a0.MF st13).bind fun st111=>some st111) else ((li st x4).bind fun st112=>some st112)
theorem mH (g:Nat) (st:List UInt8×Int) (a0:aA) (A1:Option Addr) (c2:Nat) (a2:Int) (r:List UInt8×Int) (h:dC st a0 a2=some r):aH Tryz.prog 100 #[.agg #[.bool a0.MM.null,jS a0.MM.data,jI a0.M5,jI a0.ML,.slice A1 a0.MF.length c2],jP g,jI a2] (RX.of (aq 2 aM) [.slice A1 a0.MF.length c2] a0.MF) (bB g st) (fun v A' N=>v= .tuple #[]∧A'=bB g r∧N = []):=by
 refine aU Tryz.func100 Z Tryz.ntmps100 Z ?_
 intro F w hX
 unfold dC at h
 refine KG Z (TL.box Z .u Z Z (fun b3=>(KI (T.seq (KG Z (KH Z (KY (us := [.bool a0.MM.null,jS a0.MM.data,jI a0.M5,jI a0.ML,.slice A1 a0.MF.length c2]) 0 Z OO Oh Z Z Z) Z ?_))))))
 obtain⟨x4,hx5,h⟩:=Np h
 refine KF ak 1 Z (K2 Z .u (.fn Tryz.call156 Z) (iX a0 _ _ a2 _ hx5) (fun _ hs=>(K0 hs hX)) Z (K8 ak Z Z (KF ak 2 Z ?_)))
 rcases jF h with⟨c6,h⟩ | ⟨c6,h⟩
 ·refine Lj Z c6 (Lg Z (KF ak 2 Z (KH Z (KY (us:=wL6 a0.MM) 0 Z N0 ND Z Z Z) Z ?_)))
  obtain⟨st7,hx8,h⟩:=Np h
  refine KT 1 Z Z .u (.fn Tryz.call95 Z) (kB g st a0.MM 2 _ hx8) sT Z Z (K7 Z ?_)
  obtain⟨st9,hx10,h⟩:=Np h
  refine KK ak bh 0 Z 3 Z Z (KT 1 Z Z .u (.fn Tryz.call51 Z) (bt g st7 a0.M5 2 _ hx10) sT Z Z (K7 Z ?_))
  obtain⟨st11,hx12,h⟩:=Np h
  refine KK ak bh 0 Z 3 Z Z (KT 1 Z Z .u (.fn Tryz.call51 Z) (bt g st9 a0.ML 4 _ hx12) sT Z Z (K7 Z (KK ak bh 0 Z 3 Z Z (KH Z (KX Z On) Z ?_))))
  obtain⟨st13,hx14,h⟩:=Np h
  refine KT 1 Z Z .u (.fn Tryz.call51 Z) (bt g st11 (a0.MF.length:Int) 4 _ hx14) sT Z Z (K7 Z (KK ak bh 0 Z 2 Z Z (KH Z (KX Z On) Z (KP ak Z (T.block ?_)))))
  obtain⟨E17,hE18,hO19⟩:=Np h
  have hk23len:=LA hX
  refine Lv (fun m e Rs=> ∃ (k15:Nat) (st16:List UInt8×Int),k15+m=a0.MF.length∧e = [(1,jP g),(39,.slice A1 a0.MF.length c2),(40,jI (a0.MF.length:Int)),(41,jI (k15:Int))]∧Rs = [aW b3 36 #[.bool a0.MM.null,jS a0.MM.data,jI a0.M5,jI a0.ML,.slice A1 a0.MF.length c2],bB g st16]∧bW (a0.MF.drop k15) st16=some E17) (a0.MF.length) [0,0] ⟨0,st13,by simp,Z,Z,by rw[List.drop_zero]; exact hE18⟩ QJ QJ ?_
  clear hE18 h
  rintro m20 _ _ ⟨k15,st16,hk23,rfl,rfl,h⟩
  cases m20 with
  | zero =>
   rw[List.drop_of_length_le QG,bW] at h
   have hk23ge: ¬ ((k15:Int)<(a0.MF.length:Int)):=by omega
   refine KG Z (KP ak Z (T.seq (Lb Z (Nu hk23ge) ?_)))
   obtain rfl:=Nq h
   obtain rfl:=Nq hO19
   exact T.exit (KZ (KZ (Lu (LQ [1] Tryz.results100 ⟨Z,Z,Z⟩ QJ (.inr Z)))))
  | succ m20 =>
   obtain⟨x21,hxx21⟩: ∃ x,a0.MF[k15]? = some x:=⟨_,List.getElem?_eq_getElem QG⟩
   rw[bJ hxx21,bW] at h
   have hk23lt:(k15:Int)<(a0.MF.length:Int):=by omega
   refine KG Z (KP ak Z (T.seq (KV Z (Nt hk23lt) (K3 (T.seq ?_)))))
   obtain⟨st66,h,hk67⟩:=Np h
   refine Lz (fun e Rs=>e = [(1,jP g),(39,.slice A1 a0.MF.length c2),(40,jI (a0.MF.length:Int)),(41,jI (k15:Int))]∧Rs = [aW b3 36 #[.bool a0.MM.null,jS a0.MM.data,jI a0.M5,jI a0.ML,.slice A1 a0.MF.length c2],bB g st66]) ?_ ?_
   ·clear hk67
    obtain⟨gz68,oz68,rfl,z68cs,z68cl,z68cc,z68nf,z68r⟩:=Lf QH hX hxx21
    obtain⟨z68S,z68r,z68rr⟩:=z68r
    obtain⟨A69,c70,rfl,z68s0⟩:=z68r
    have hX71:(RX.of (aq 2 bX) [.slice A69 x21.MH.length c70] x21.MH).reads w F:=⟨z68S,z68s0,z68rr⟩
    refine T.block (KG Z ?_)
    refine KH Z (K1 (k:=k15) Z Z Z On Ot (Nw hxx21).1) Z ?_
    refine KH Z (LI (us := [jS x21.MO,.slice A69 x21.MH.length c70]) 0 Z PZ Ot z68nf z68cc Z Z Z) Z (TL.alloc Z .u Tryz.zeroValue176 Z (fun b72=>(KW 0 Z (cs':= #[jS x21.MO,.slice A69 x21.MH.length c70]) Z .u Z Z Ot Z Z Z Z Z (K7 Z ?_))))
    obtain⟨st73,hx74,h⟩:=Np h
    refine KK ak bh 0 Z 3 Z Z (KT 2 Z Z .u (.fn Tryz.call88 Z) (lG g st16 x21.MO _ hx74) sT Z Z (K7 Z (KK ak bh 0 Z 3 Z Z (KH Z (KX Z Om) Z ?_))))
    obtain⟨st75,hx76,h⟩:=Np h
    refine KT 2 Z Z .u (.fn Tryz.call51 Z) (bt g st73 (x21.MH.length:Int) 4 _ hx76) sT Z Z (K7 Z (KK ak bh 0 Z 2 Z Z (KH Z (KX Z Om) Z (KP ak Z (T.block ?_)))))
    obtain⟨E79,hE80,hO81⟩:=Np h
    have hk85len:=LA hX71
    refine Lv (fun m e Rs=> ∃ (k77:Nat) (st78:List UInt8×Int),k77+m=x21.MH.length∧e = [(1,jP g),(39,.slice (some ⟨gz68,oz68,none⟩) a0.MF.length c2),(40,jI (a0.MF.length:Int)),(41,jI (k15:Int)),(55,.slice A69 x21.MH.length c70),(56,jI (x21.MH.length:Int)),(57,jI (k77:Int))]∧Rs = [aW b72 176 #[jS x21.MO,.slice A69 x21.MH.length c70],aW b3 36 #[.bool a0.MM.null,jS a0.MM.data,jI a0.M5,jI a0.ML,.slice (some ⟨gz68,oz68,none⟩) a0.MF.length c2],bB g st78]∧bV (x21.MH.drop k77) st78=some E79) (x21.MH.length) [0,0,0] ⟨0,st75,by simp,Z,Z,by rw[List.drop_zero]; exact hE80⟩ QJ QJ ?_
    clear hE80 h
    rintro m82 _ _ ⟨k77,st78,hk85,rfl,rfl,h⟩
    cases m82 with
    | zero =>
     rw[List.drop_of_length_le QG,bV] at h
     have hk85ge: ¬ ((k77:Int)<(x21.MH.length:Int)):=by omega
     refine KG Z (KP ak Z (T.seq (Lb Z (Nu hk85ge) ?_)))
     obtain rfl:=Nq h
     replace h:=hO81
     clear hO81
     try dsimp only at h
     cases h
     exact T.exit (KZ (KZ (Lu (K4 (KR [1,1])))))
    | succ m82 =>
     obtain⟨x83,hxx83⟩: ∃ x,x21.MH[k77]? = some x:=⟨_,List.getElem?_eq_getElem QG⟩
     rw[bJ hxx83,bV] at h
     have hk85lt:(k77:Int)<(x21.MH.length:Int):=by omega
     refine KG Z (KP ak Z (T.seq (KV Z (Nt hk85lt) ?_)))
     obtain⟨gz86,oz86,rfl,z86cs,z86cl,z86cc,z86nf,z86r⟩:=Lf QH hX71 hxx83
     obtain⟨z86S,z86r,z86rr⟩:=z86r
     obtain⟨A87,c88,rfl,z86s0⟩:=z86r
     have hX89:(RX.of (aq 12 dG) [.slice A87 x83.MP.length c88] x83.MP).reads w F:=⟨z86S,z86s0,z86rr⟩
     refine K3 (T.seq (T.block (KG Z ?_)))
     refine KH Z (K1 (k:=k77) Z Z Z Om Oj (Nw hxx83).1) Z ?_
     refine KH Z (LI (us := [jI x83.M2,.slice A87 x83.MP.length c88]) 0 Z PC Oj z86nf z86cc Z Z Z) Z (TL.alloc Z .u Tryz.zeroValue179 Z (fun b90=>(KW 0 Z (cs':= #[jI x83.M2,.slice A87 x83.MP.length c88]) Z .u Z Z Oj Z Z Z Z Z (K7 Z ?_))))
     obtain⟨⟨x91,x92⟩,hx93,h⟩:=Np h
     refine KK ak bh 0 Z 2 Z Z (K2 Z .u (.fn Tryz.call157 Z) (uX x83.MP _ _ _ hx93) (fun _ hs=>(K0 hs hX89)) Z (KP ak Z (T.seq (KG Z (KP ak Z ?_)))))
     obtain⟨st97,h,hk98⟩:=Np h
     refine Lz (fun e Rs=>e = [(1,jP g),(10,jP b90),(11,jS x91),(39,.slice (some ⟨gz68,oz68,none⟩) a0.MF.length c2),(40,jI (a0.MF.length:Int)),(41,jI (k15:Int)),(55,.slice (some ⟨gz86,oz86,none⟩) x21.MH.length c70),(56,jI (x21.MH.length:Int)),(57,jI (k77:Int))]∧Rs = [aW b90 179 #[jI x83.M2,.slice A87 x83.MP.length c88],aW b72 176 #[jS x21.MO,.slice (some ⟨gz86,oz86,none⟩) x21.MH.length c70],aW b3 36 #[.bool a0.MM.null,jS a0.MM.data,jI a0.M5,jI a0.ML,.slice (some ⟨gz68,oz68,none⟩) a0.MF.length c2],bB g st97]) ?_ ?_
     ·clear hk98
      rcases jF h with⟨c99,h⟩ | ⟨c99,h⟩
      ·refine T.nn Z c99 ?_
       cases h
       exact T.skip (KR [0,0,0,0])
      refine T.yn Z c99 (T.region Z ?_)
      obtain⟨st100,hx101,h⟩:=Np h
      refine KF ak 2 Z (KT 3 Z Z .u (.fn Tryz.call94 Z) (ib g st78 x92 _ hx101) sT Z Z ?_)
      cases h
      exact TL.nil (KR [0,0,0,0])
     rintro _ _ ⟨rfl,rfl⟩
     clear h
     have h:=hk98
     clear hk98
     refine X.seq (KG Z ?_)
     obtain⟨st102,hx103,h⟩:=Np h
     refine KK ak bh 0 Z 3 Z Z (KT 3 Z Z .u (.fn Tryz.call51 Z) (bt g st97 x83.M2 4 _ hx103) sT Z Z (KI (T.region Z ?_)))
     obtain⟨x104,hx105,h⟩:=Np h
     refine KF ak 2 Z (K2 Z .u (.fn Tryz.call143 Z) (Hr x91 _ hx105) rT Z ?_)
     obtain⟨st106,hx107,h⟩:=Np h
     exact KT 3 Z Z .u (.fn Tryz.call95 Z) (kB g st102 x104 4 _ hx107) sT Z Z (TL.nil (K4 (X.seq (T.region Z (KH Z (Ex.add Z Z QG) Z (KF ak 1 Z (TL.nil (X.back (m':=m82) [1,1,1] QG ⟨k77+1,st106,by omega,Z,Z,h⟩ QJ QJ))))))))
   rintro _ _ ⟨rfl,rfl⟩
   clear h
   have h:=hk67
   clear hk67
   exact X.seq (T.region Z (KH Z (Ex.add Z Z QG) Z (KF ak 1 Z (TL.nil (X.back (m':=m20) [0,0] QG ⟨k15+1,st66,by omega,Z,Z,h⟩ QJ QJ)))))
 refine Li Z c6 (KG Z ?_)
 obtain⟨st112,hx113,h⟩:=Np h
 refine KF ak 2 Z (KT 1 Z Z .u (.fn Tryz.call94 Z) (ib g st x4 _ hx113) sT Z Z ?_)
 obtain rfl:=Nq h
 exact KI (T.ret (KL (LQ [1] Tryz.results100 ⟨Z,Z,Z⟩ QJ (.inl Z))))
def cD:Nat→List Bat→I→I→Option (List Bat×I×I)
 | 0,_,_,_=>none
 | m29+1,y21,st24,st25=>((iQ st25).bind fun (x44,st45)=>if x44=0 then ((wG st24).bind fun (x48,st49)=>if x48>0 then some (true,st49,st45) else some (false,st49,st45)) else some (false,st24,st45)).bind fun (y40,st41,st42)=>if y40=true then ((jG st41).bind fun (x53,st56)=>if (y21.length+1)*96≤140737488355328 then ((iQ st56).bind fun (x62,st63)=>(if x62=0 then some st42 else ((cj st42 x62).bind fun st71=>some st71)).bind fun st68=>cD m29 (y21 ++ [x53]) st63 st68) else none) else some (y21,st41,st42)
def g9 (st:I)  : Option (aV×I):=(ed st 4).bind fun (x2,st3)=>(lk st3 4).bind fun (x6,st7)=>(if x6.null=true then ((cj st7 4).bind fun st16=>some st16) else some st7).bind fun st13=>(wF x6.data).bind fun st18=>(cD (((st18.rest.length:Int)+(st13.rest.length:Int)+1).toNat+1) [] st18 st13).bind fun (y73,st76,st77)=>some ((⟨x2,y73⟩:aV),st77)
theorem mB (g:Nat) (st:I)  (r:aV×I) (h:g9 st  = some r):aH Tryz.prog 173 #[jP g] .triv (InR g st) (fun v A' N=> ∃ (A78:Option Addr) (c79:Nat),v= .agg #[jI r.1.M2,.slice A78 r.1.MP.length c79]∧A'=InR g r.2∧N = [RdR (aq 12 dG) [.slice A78 r.1.MP.length c79] r.1.MP]):=by
 refine aU Tryz.func173 Z Tryz.ntmps173 Z ?_
 intro F w hX
 unfold g9 at h
 refine KG Z (TL.alloc Z .u Tryz.zeroValue179 Z (fun b1=>(K7 Z ?_)))
 obtain⟨⟨x2,st3⟩,hx4,h⟩:=Np h
 refine KF ak 1 Z (KT 1 Z Z .u (.fn Tryz.call68 Z) (bx g st 4 _ hx4) sT Z Z ?_)
 refine KH Z (Ld (cells:= #[jI x2,.slice none 0 0]) wc Z QI) Z ?_
 refine TL.alloc Z .u Tryz.zeroValue179 Z (fun b5=>(KW 0 Z (cs':= #[jI x2,.slice none 0 0]) Z .u Z Z Oj Z Z Z Z Z (K7 Z ?_)))
 obtain⟨⟨x6,st7⟩,hx8,h⟩:=Np h
 refine KF ak 1 Z (KT 2 Z Z .u (.fn Tryz.call142 Z) (kg g st3 4 _ hx8) sT Z Z (TL.alloc Z .u Tryz.zeroValue23 Z (fun b9=>(KW 0 Z (cs':=wA7 x6) Z .u Z Z ND Z Z Z Z Z (KI (T.seq (KG Z (LT ak bh 0 Z Z Z ?_))))))))
 obtain⟨st13,h,hk14⟩:=Np h
 refine Lz (fun e Rs=>e = [(0,jP g),(2,jP b1),(3,jP b5),(4,jP b9)]∧Rs = [aW b9 23 (wA7 x6),aW b5 179 #[jI x2,.slice none 0 0],aW b1 179 #[jI 0,.slice none 0 0],InR g st13]) ?_ ?_
 ·clear hk14
  rcases jF h with⟨c15,h⟩ | ⟨c15,h⟩
  ·refine KV Z c15 (T.region Z ?_)
   obtain⟨st16,hx17,h⟩:=Np h
   refine KF ak 1 Z (KT 3 Z Z .u (.fn Tryz.call70 Z) (bH g st7 4 _ hx17) sT Z Z ?_)
   cases h
   exact TL.nil (KR [0,0,0,0])
  replace c15:=Nx c15
  refine Lb Z c15 ?_
  cases h
  exact T.skip (KR [0,0,0,0])
 rintro _ _ ⟨rfl,rfl⟩
 clear h
 have h:=hk14
 clear hk14
 refine X.seq (KG Z ?_)
 obtain⟨st18,hx19,h⟩:=Np h
 refine KK ak bh 0 Z 2 Z Z (L8 Z .u (.fn Tryz.call19 Z) (lj x6.data _ hx19) rT Z ?_)
 rintro _ _ _ ⟨b20,rfl,rfl,rfl⟩
 refine Lt [0,0,0,0,0] Z (KP ak Z (T.seq (T.block (LZ 97 12 dG ?_))))
 obtain⟨E26,hE27,hO28⟩:=Np h
 refine Lv (fun m e Rs=> ∃ (y21:List Bat) (A22:Option Addr) (c23:Nat) (st24:I) (st25:I),e = [(0,jP g),(2,jP b1),(3,jP b5),(5,jP b20)]∧Rs = [bU 97 12 dG (.slice A22 y21.length c23) y21,InR b20 st24,aW b9 23 (wA7 x6),aW b5 179 #[jI x2,.slice A22 y21.length c23],aW b1 179 #[jI 0,.slice none 0 0],InR g st25]∧cD m y21 st24 st25=some E26) (((st18.rest.length:Int)+(st13.rest.length:Int)+1).toNat+1) [0,0,0,0,0,0] ⟨[],none,0,st18,st13,Z,Z,by exact hE27⟩ QJ QJ ?_
 clear hE27 h
 rintro m29 _ _ ⟨y21,A22,c23,st24,st25,rfl,rfl,h⟩
 cases m29 with
 | zero =>
  rw[cD] at h
  cases h
 | succ m29 =>
  rw[cD] at h
  refine L3 ?_
  obtain⟨⟨y40,st41,st42⟩,h,hk43⟩:=Np h
  refine Lz (fun e Rs=>e = [(0,jP g),(2,jP b1),(3,jP b5),(5,jP b20),(26,.bool y40)]∧Rs = [bU 97 12 dG (.slice A22 y21.length c23) y21,InR b20 st41,aW b9 23 (wA7 x6),aW b5 179 #[jI x2,.slice A22 y21.length c23],aW b1 179 #[jI 0,.slice none 0 0],InR g st42]) ?_ ?_
  ·clear hk43
   refine T.region Z ?_
   obtain⟨⟨x44,st45⟩,hx46,h⟩:=Np h
   refine KF ak 1 Z (KT 5 Z Z .u (.fn Tryz.call23 Z) (cy g st25 _ hx46) sT Z Z ?_)
   rcases jF h with⟨c47,h⟩ | ⟨c47,h⟩
   ·refine KF ak 2 Z (KN 22 Z (Nt c47) ?_)
    obtain⟨⟨x48,st49⟩,hx50,h⟩:=Np h
    refine KM ak 1 Z (KT 1 Z Z (.g Z Z Z) (.fn Tryz.call71 Z) (pi b20 st24 _ hx50) sT Z Z (KM ak 2 Z ?_))
    rcases jF h with⟨c51,h⟩ | ⟨c51,h⟩
    ·cases h
     exact TL.nil (LE (d:=26) (v':= .bool true) Z (congrArg Value.bool (Nt c51)) (KR [0,0,0,0,0,0]))
    cases h
    exact TL.nil (LE (d:=26) (v':= .bool false) Z (congrArg Value.bool (Nu c51)) (KR [0,0,0,0,0,0]))
   refine KF ak 2 Z (KN 22 Z (Nu c47) (KM ak 4 Z ?_))
   cases h
   exact TL.nil (KR [0,0,0,0,0,0])
  rintro _ _ ⟨rfl,rfl⟩
  clear h
  have h:=hk43
  clear hk43
  try dsimp only at h
  rcases jF h with⟨c52,h⟩ | ⟨c52,h⟩
  ·refine X.seq (KV Z c52 ?_)
   obtain⟨⟨x53,st56⟩,hx57,h⟩:=Np h
   try dsimp only at h
   obtain⟨c59,h⟩:=ao h
   refine K3 (T.block (T.seq ?_))
   refine Ml (fun e Rs=> ∃ (A54:Option Addr) (c55:Nat) (b58:Nat) (A60:Option Addr) (c61:Nat),e = [(0,jP g),(2,jP b1),(3,jP b5),(5,jP b20)]∧Rs = [bU 97 12 dG (.slice A60 (y21 ++ [x53]).length c61) (y21 ++ [x53]),InR b20 st56,aW b9 23 (wA7 x6),aW b5 179 #[jI x2,.slice A60 (y21 ++ [x53]).length c61],aW b1 179 #[jI 0,.slice none 0 0],InR g st42]) ?_ ?_
   ·refine Lm (.q 0 (.q 2 (.br 1 (.e 3 (.e 4 (.e 5 (.q 6 (.e 7 .nil))))) (.e 3 (.br 1 (.e 4 (.e 5 (.q 6 (.e 7 .nil)))) (.e 4 (.e 1 (.e 5 (.q 6 (.e 7 .nil)))))))))) [2,3,3] Z n8 sP QI ?_
    refine TD.run ak [0,2] Z Z ?_
    refine TD.br ?_ ?_
    ·refine Mg Z .u (K5 3 Z O9 Z Z) Z [2,3,3] Z ?_
     refine TD.cg1 Z .u (.fn Tryz.call80 Z) (n7 b20 st41 _ hx57) sT Z [3,4,4] ?_ ?_
     ·rintro _ _ _ ⟨A54,c55,rfl,rfl,rfl⟩
      rfl
     rintro _ _ _ ⟨A54,c55,rfl,rfl,rfl⟩
     refine LM [0,0,0,0,0,0,0] Z ?_
     refine LY (cells:=wA0 x53 A54 c55) Z .u kQ Z QI Z [4,5,5] (fun _=>Z) (fun b58=> ?_)
     refine Mt 1 0 Z .u (us:=wL5 x53 A54 c55) (u:=x53) (l:=y21) (E:=dG) Tryz.underlying177 nr Z QH Z Z Z Z Z Z Z (fun w G hG=>⟨_,_,Z,hG.1⟩) (by have hq:=c59; omega) (by have hq:=c59; omega) Z [2,3,3] (fun _ _=>Z) (fun A60 c61=> ?_)
     exact LM [0,0,0,0,0,0] Z (TD.run ak [6] Z Z (LS 3 Z (cs':= #[jI x2,.slice A60 (y21 ++ [x53]).length c61]) Z .u Z Z PO Z Z Z Z Z [2,3,3] (Z) (TD.nil (L5 [0,0,0,0,0,0] ⟨A54,c55,b58,A60,c61,Z,Z⟩ QJ QJ))))
    refine TD.cg1 Z .u (.fn Tryz.call80 Z) (n7 b20 st41 _ hx57) sT Z [3,4,4] ?_ ?_
    ·rintro _ _ _ ⟨A54,c55,rfl,rfl,rfl⟩
     rfl
    rintro _ _ _ ⟨A54,c55,rfl,rfl,rfl⟩
    refine LM [0,0,0,0,0,0,0] Z ?_
    refine TD.br ?_ ?_
    ·refine Mg Z .u (K5 4 Z O9 Z Z) Z [3,4,4] Z ?_
     refine LY (cells:=wA0 x53 A54 c55) Z .u kQ Z QI Z [4,5,5] (fun _=>Z) (fun b58=> ?_)
     refine Mt 1 0 Z .u (us:=wL5 x53 A54 c55) (u:=x53) (l:=y21) (E:=dG) Tryz.underlying177 nr Z QH Z Z Z Z Z Z Z (fun w G hG=>⟨_,_,Z,hG.1⟩) (by have hq:=c59; omega) (by have hq:=c59; omega) Z [2,3,3] (fun _ _=>Z) (fun A60 c61=> ?_)
     exact LM [0,0,0,0,0,0] Z (TD.run ak [6] Z Z (LS 3 Z (cs':= #[jI x2,.slice A60 (y21 ++ [x53]).length c61]) Z .u Z Z PO Z Z Z Z Z [2,3,3] (Z) (TD.nil (L5 [0,0,0,0,0,0] ⟨A54,c55,b58,A60,c61,Z,Z⟩ QJ QJ))))
    refine LY (cells:=wA0 x53 A54 c55) Z .u kQ Z QI Z [4,5,5] (fun _=>Z) (fun b58=> ?_)
    refine Mg Z .u (K5 5 Z O9 Z Z) Z [4,5,5] Z ?_
    refine Mt 1 0 Z .u (us:=wL5 x53 A54 c55) (u:=x53) (l:=y21) (E:=dG) Tryz.underlying177 nr Z QH Z Z Z Z Z Z Z (fun w G hG=>⟨_,_,Z,hG.1⟩) (by have hq:=c59; omega) (by have hq:=c59; omega) Z [2,3,3] (fun _ _=>Z) (fun A60 c61=> ?_)
    exact LM [0,0,0,0,0,0] Z (TD.run ak [6] Z Z (LS 3 Z (cs':= #[jI x2,.slice A60 (y21 ++ [x53]).length c61]) Z .u Z Z PO Z Z Z Z Z [2,3,3] (Z) (TD.nil (L5 [0,0,0,0,0,0] ⟨A54,c55,b58,A60,c61,Z,Z⟩ QJ QJ))))
   rintro _ _ ⟨A54,c55,b58,A60,c61,rfl,rfl⟩
   refine X.seq (KG Z ?_)
   obtain⟨⟨x62,st63⟩,hx64,h⟩:=Np h
   refine KF ak 1 Z (KT 1 Z Z .u (.fn Tryz.call23 Z) (cy b20 st56 _ hx64) sT Z Z (K8 ak Z Z (KP ak Z ?_)))
   obtain⟨st68,h,hk69⟩:=Np h
   refine Lz (fun e Rs=>e = [(0,jP g),(2,jP b1),(3,jP b5),(5,jP b20)]∧Rs = [bU 97 12 dG (.slice A60 (y21 ++ [x53]).length c61) (y21 ++ [x53]),InR b20 st63,aW b9 23 (wA7 x6),aW b5 179 #[jI x2,.slice A60 (y21 ++ [x53]).length c61],aW b1 179 #[jI 0,.slice none 0 0],InR g st68]) ?_ ?_
   ·clear hk69
    rcases jF h with⟨c70,h⟩ | ⟨c70,h⟩
    ·refine T.nn Z c70 ?_
     cases h
     exact T.skip (KR [0,0,0,0,0,0])
    refine T.yn Z c70 (T.region Z ?_)
    obtain⟨st71,hx72,h⟩:=Np h
    refine KF ak 2 Z (KT 5 Z Z .u (.fn Tryz.call70 Z) (bH g st42 x62 _ hx72) sT Z Z ?_)
    cases h
    exact TL.nil (KR [0,0,0,0,0,0])
   rintro _ _ ⟨rfl,rfl⟩
   clear h
   have h:=hk69
   clear hk69
   try dsimp only at h
   exact K4 (X.back (m':=m29) [0,0,0,0,0,0] QG ⟨(y21 ++ [x53]),A60,c61,st63,st68,Z,Z,h⟩ QJ QJ)
  replace c52:=Nx c52
  refine X.seq (Lb Z c52 ?_)
  obtain rfl:=Nq h
  replace h:=hO28
  clear hO28
  refine T.exit (KZ (KZ (Lu (X.seq (KG Z (KH Z (KY (us := [jI x2,.slice A22 y21.length c23]) 3 Z PC Oj Z Z Z) Z (KW 4 Z (cs':= #[jI x2,.slice A22 y21.length c23]) Z .u Z Z Oj Z Z Z Z Z ?_)))))))
  obtain rfl:=Nq h
  exact KI (T.ret (Mz QH 0 Z (LC [0,0,0,0,0,0] Z (Le [5,0] Tryz.results173 (Ly (us:= #[jI x2,.slice A22 y21.length c23]) 4 Z PC Oj Z Z) ⟨_,_,Z,Z,Z⟩ QJ (.inl Z)))))
def ci (x32:Int):Nat→Nat→List aV→I→Option (Lp (aA×I) (Nat×List aV×I))
 | 0,_,_,_=>none
 | m43+1,k35,y36,st39=>if (k35:Int)<x32 then ((g9 st39).bind fun (x48,st51)=>if (y36.length+1)*32≤140737488355328 then ((iQ st51).bind fun (x57,st58)=>if x57=0 then (if -9223372036854775808≤((k35:Int)+1)∧((k35:Int)+1)≤9223372036854775807 then (ci x32 m43 (k35+1) (y36 ++ [x48]) st58) else none) else (some (Lp.ret ((⟨(⟨false,[]⟩:Bl),0,0,[]⟩:aA),st58)))) else none) else (some (Lp.go (k35,y36,st39)))
def dk (x12:Int):Nat→Nat→List aI→I→Option (Lp (aA×I) (Nat×List aI×I))
 | 0,_,_,_=>none
 | m23+1,k15,y16,st19=>if (k15:Int)<x12 then ((sO st19).bind fun (x28,st29)=>(jO st29 4 8).bind fun (x32,st33)=>(ci x32 ((x32).toNat+1) 0 [] st33).bind fun e=>match e with | .ret r=>some (Lp.ret r) | .go (k71,y72,st75)=>((iQ st75).bind fun (x76,st77)=>if x76=0 then (if (y16.length+1)*40≤140737488355328 then (if -9223372036854775808≤((k15:Int)+1)∧((k15:Int)+1)≤9223372036854775807 then (dk x12 m23 (k15+1) (y16 ++ [(⟨x28,y72⟩:aI)]) st77) else none) else none) else (some (Lp.ret ((⟨(⟨false,[]⟩:Bl),0,0,[]⟩:aA),st77))))) else (some (Lp.go (k15,y16,st19)))
theorem rC (x12:Int) (u1:Nat) (u2:List aI) (u3:I):dk x12 0 u1 u2 u3=none:=rfl
theorem gS (x12:Int) (m23:Nat) (k15:Nat) (y16:List aI) (st19:I):dk x12 (m23+1) k15 y16 st19=(if (k15:Int)<x12 then ((sO st19).bind fun (x28,st29)=>(jO st29 4 8).bind fun (x32,st33)=>(ci x32 ((x32).toNat+1) 0 [] st33).bind fun e=>match e with | .ret r=>some (Lp.ret r) | .go (k71,y72,st75)=>((iQ st75).bind fun (x76,st77)=>if x76=0 then (if (y16.length+1)*40≤140737488355328 then (if -9223372036854775808≤((k15:Int)+1)∧((k15:Int)+1)≤9223372036854775807 then (dk x12 m23 (k15+1) (y16 ++ [(⟨x28,y72⟩:aI)]) st77) else none) else none) else (some (Lp.ret ((⟨(⟨false,[]⟩:Bl),0,0,[]⟩:aA),st77))))) else (some (Lp.go (k15,y16,st19)))):=rfl
def ez (st:I) (a1:Int):Option (aA×I):=(lk st 2).bind fun (x2,st3)=>(ed st3 2).bind fun (x5,st6)=>(ed st6 4).bind fun (x8,st9)=>(jO st9 4 6).bind fun (x12,st13)=>(dk x12 ((x12).toNat+1) 0 [] st13).bind fun e=>match e with | .ret r=>some r | .go (k116,y117,st120)=>((iQ st120).bind fun (x121,st122)=>(if x121=0 then ((cC (⟨x2,x5,x8,y117⟩:aA) a1).bind fun x138=>(if x138=0 then some st122 else ((cj st122 x138).bind fun st146=>some st146)).bind fun st143=>some st143) else some st122).bind fun st135=>(iQ st135).bind fun (x148,st149)=>if x148=0 then (some ((⟨x2,x5,x8,y117⟩:aA),st149)) else (some ((⟨(⟨false,[]⟩:Bl),0,0,[]⟩:aA),st149)))
theorem rD (g:Nat) (st:I) (a1:Int) (r:aA×I) (h:ez st a1=some r):aH Tryz.prog 120 #[jP g,jI a1] .triv (InR g st) (fun v A' N=> ∃ (A152:Option Addr) (c153:Nat),v= .agg #[.bool r.1.MM.null,jS r.1.MM.data,jI r.1.M5,jI r.1.ML,.slice A152 r.1.MF.length c153]∧A'=InR g r.2∧N = [RdR (aq 2 aM) [.slice A152 r.1.MF.length c153] r.1.MF]):=by
 refine aU Tryz.func120 Z Tryz.ntmps120 Z ?_
 intro F w hX
 unfold ez at h
 refine KG Z (TL.alloc Z .u Tryz.zeroValue36 Z (fun b1=>(K7 Z ?_)))
 obtain⟨⟨x2,st3⟩,hx4,h⟩:=Np h
 refine KF ak 1 Z (KT 1 Z Z .u (.fn Tryz.call142 Z) (kg g st 2 _ hx4) sT Z Z ?_)
 obtain⟨⟨x5,st6⟩,hx7,h⟩:=Np h
 refine KF ak 1 Z (KT 1 Z Z .u (.fn Tryz.call68 Z) (bx g st3 2 _ hx7) sT Z Z ?_)
 obtain⟨⟨x8,st9⟩,hx10,h⟩:=Np h
 refine KF ak 1 Z (KT 1 Z Z .u (.fn Tryz.call68 Z) (bx g st6 4 _ hx10) sT Z Z ?_)
 refine KH Z (Ld (cells:= #[.bool x2.null,jS x2.data,jI x5,jI x8,.slice none 0 0]) kO Z QI) Z ?_
 refine TL.alloc Z .u Tryz.zeroValue36 Z (fun b11=>(KW 0 Z (cs':= #[.bool x2.null,jS x2.data,jI x5,jI x8,.slice none 0 0]) Z .u Z Z Oh Z Z Z Z Z (KI (T.seq (KG Z ?_)))))
 obtain⟨⟨x12,st13⟩,hx14,h⟩:=Np h
 refine KF ak 1 Z (KT 2 Z Z .u (.fn Tryz.call144 Z) (lN g st9 4 6 _ hx14) sT Z Z (KP ak Z (T.block (LZ 176 2 aM ?_))))
 obtain⟨E20,hE21,hO22⟩:=Np h
 refine Lv (fun m e Rs=> ∃ (k15:Nat) (y16:List aI) (A17:Option Addr) (c18:Nat) (st19:I),e = [(0,jP g),(1,jI a1),(4,jP b1),(5,jP b11),(16,jI x12),(17,jI (k15:Int))]∧Rs = [bU 176 2 aM (.slice A17 y16.length c18) y16,aW b11 36 (DG x5 x8 A17 c18 (y16).length x2),aW b1 36 vA0,InR g st19]∧dk x12 m k15 y16 st19=some E20) ((x12).toNat+1) [0,0,0,0] ⟨0,[],none,0,st13,Z,Z,by exact hE21⟩ QJ QJ ?_
 clear hE21 h
 rintro m23 _ _ ⟨k15,y16,A17,c18,st19,rfl,rfl,h⟩
 cases m23 with
 | zero =>
  rw[rC] at h
  cases h
 | succ m23 =>
  rw[gS] at h
  refine KG Z (KF ak 1 Z ?_)
  rcases jF h with⟨c27,h⟩ | ⟨c27,h⟩
  ·refine KI (T.seq (LU Z c27 (K3 (T.seq (T.block (KG Z ?_))))))
   obtain⟨⟨x28,st29⟩,hx30,h⟩:=Np h
   refine KF ak 1 Z (KT 3 Z Z .u (.fn Tryz.call86 Z) (pm g st19 _ hx30) sT Z Z ?_)
   refine KH Z (Ld (cells:= #[jS x28,.slice none 0 0]) wb Z QI) Z ?_
   refine TL.alloc Z .u Tryz.zeroValue176 Z (fun b31=>(KW 0 Z (cs':= #[jS x28,.slice none 0 0]) Z .u Z Z Ot Z Z Z Z Z (KI (T.seq (KG Z ?_)))))
   obtain⟨⟨x32,st33⟩,hx34,h⟩:=Np h
   refine KF ak 1 Z (KT 4 Z Z .u (.fn Tryz.call144 Z) (lN g st29 4 8 _ hx34) sT Z Z (KP ak Z (T.block (LZ 179 2 bX ?_))))
   obtain⟨E40,hE41,hO42⟩:=Np h
   refine Lv (fun m e Rs=> ∃ (k35:Nat) (y36:List aV) (A37:Option Addr) (c38:Nat) (st39:I),e = [(0,jP g),(1,jI a1),(4,jP b1),(5,jP b11),(6,jP b31),(16,jI x12),(17,jI (k15:Int)),(23,jI x32),(24,jI (k35:Int))]∧Rs = [bU 179 2 bX (.slice A37 y36.length c38) y36,aW b31 176 #[jS x28,.slice A37 y36.length c38],bU 176 2 aM (.slice A17 y16.length c18) y16,aW b11 36 (DG x5 x8 A17 c18 (y16).length x2),aW b1 36 vA0,InR g st39]∧ci x32 m k35 y36 st39=some E40) ((x32).toNat+1) [0,0,0,0,0,0] ⟨0,[],none,0,st33,Z,Z,by exact hE41⟩ QJ QJ ?_
   clear hE41 h
   rintro m43 _ _ ⟨k35,y36,A37,c38,st39,rfl,rfl,h⟩
   cases m43 with
   | zero =>
    rw[ci] at h
    cases h
   | succ m43 =>
    rw[ci] at h
    refine KG Z (KF ak 1 Z ?_)
    rcases jF h with⟨c47,h⟩ | ⟨c47,h⟩
    ·refine KI (T.seq (LU Z c47 ?_))
     obtain⟨⟨x48,st51⟩,hx52,h⟩:=Np h
     try dsimp only at h
     obtain⟨c54,h⟩:=ao h
     refine K3 (T.seq (T.block (T.seq ?_)))
     refine Ml (fun e Rs=> ∃ (A49:Option Addr) (c50:Nat) (b53:Nat) (A55:Option Addr) (c56:Nat),e = [(0,jP g),(1,jI a1),(4,jP b1),(5,jP b11),(6,jP b31),(16,jI x12),(17,jI (k15:Int)),(23,jI x32),(24,jI (k35:Int))]∧Rs = [bU 179 2 bX (.slice A55 (y36 ++ [x48]).length c56) (y36 ++ [x48]),aW b31 176 #[jS x28,.slice A55 (y36 ++ [x48]).length c56],bU 176 2 aM (.slice A17 y16.length c18) y16,aW b11 36 (DG x5 x8 A17 c18 (y16).length x2),aW b1 36 vA0,InR g st51]) ?_ ?_
     ·refine Lm (.q 0 (.q 2 (.br 1 (.e 3 (.e 4 (.e 5 (.q 6 (.e 7 .nil))))) (.e 3 (.br 1 (.e 4 (.e 5 (.q 6 (.e 7 .nil)))) (.e 4 (.e 1 (.e 5 (.q 6 (.e 7 .nil)))))))))) [2,2,2] Z n8 sP QI ?_
      refine TD.run ak [0,2] Z Z ?_
      refine TD.br ?_ ?_
      ·refine Mg Z .u (K5 1 Z PY Z Z) Z [2,2,2] Z ?_
       refine TD.cg5 Z .u (.fn Tryz.call173 Z) (mB g st39 _ hx52) sT Z [3,3,3] ?_ ?_
       ·rintro _ _ _ ⟨A49,c50,rfl,rfl,rfl⟩
        rfl
       rintro _ _ _ ⟨A49,c50,rfl,rfl,rfl⟩
       refine LM [0,0,0,0,0,0,0] Z (LY (cells:= #[jI x48.M2,.slice A49 x48.MP.length c50]) Z .u kP Z QJ Z [4,4,4] (fun _=>Z) (fun b53=> ?_))
       refine Mt 1 0 Z .u (us := [jI x48.M2,.slice A49 x48.MP.length c50]) (u:=x48) (l:=y36) (E:=bX) Tryz.underlying174 mo Z QH Z Z Z Z Z Z Z (fun w G hG=>⟨_,_,Z,hG.1⟩) (by have hq:=c54; omega) (by have hq:=c54; omega) Z [2,2,2] (fun _ _=>Z) (fun A55 c56=> ?_)
       exact LM [0,0,0,0,0,0] Z (TD.run ak [6] Z Z (LS 1 Z (cs':= #[jS x28,.slice A55 (y36 ++ [x48]).length c56]) Z .u Z Z Qg Z Z Z Z Z [2,2,2] (Z) (TD.nil (L5 [0,0,0,0,0,0] ⟨A49,c50,b53,A55,c56,Z,Z⟩ QJ QJ))))
      refine TD.cg5 Z .u (.fn Tryz.call173 Z) (mB g st39 _ hx52) sT Z [3,3,3] ?_ ?_
      ·rintro _ _ _ ⟨A49,c50,rfl,rfl,rfl⟩
       rfl
      rintro _ _ _ ⟨A49,c50,rfl,rfl,rfl⟩
      refine LM [0,0,0,0,0,0,0] Z ?_
      refine TD.br ?_ ?_
      ·refine Mg Z .u (K5 2 Z PY Z Z) Z [3,3,3] Z (LY (cells:= #[jI x48.M2,.slice A49 x48.MP.length c50]) Z .u kP Z QJ Z [4,4,4] (fun _=>Z) (fun b53=> ?_))
       refine Mt 1 0 Z .u (us := [jI x48.M2,.slice A49 x48.MP.length c50]) (u:=x48) (l:=y36) (E:=bX) Tryz.underlying174 mo Z QH Z Z Z Z Z Z Z (fun w G hG=>⟨_,_,Z,hG.1⟩) (by have hq:=c54; omega) (by have hq:=c54; omega) Z [2,2,2] (fun _ _=>Z) (fun A55 c56=> ?_)
       exact LM [0,0,0,0,0,0] Z (TD.run ak [6] Z Z (LS 1 Z (cs':= #[jS x28,.slice A55 (y36 ++ [x48]).length c56]) Z .u Z Z Qg Z Z Z Z Z [2,2,2] (Z) (TD.nil (L5 [0,0,0,0,0,0] ⟨A49,c50,b53,A55,c56,Z,Z⟩ QJ QJ))))
      refine LY (cells:= #[jI x48.M2,.slice A49 x48.MP.length c50]) Z .u kP Z QJ Z [4,4,4] (fun _=>Z) (fun b53=>(Mg Z .u (K5 3 Z PY Z Z) Z [4,4,4] Z ?_))
      refine Mt 1 0 Z .u (us := [jI x48.M2,.slice A49 x48.MP.length c50]) (u:=x48) (l:=y36) (E:=bX) Tryz.underlying174 mo Z QH Z Z Z Z Z Z Z (fun w G hG=>⟨_,_,Z,hG.1⟩) (by have hq:=c54; omega) (by have hq:=c54; omega) Z [2,2,2] (fun _ _=>Z) (fun A55 c56=> ?_)
      exact LM [0,0,0,0,0,0] Z (TD.run ak [6] Z Z (LS 1 Z (cs':= #[jS x28,.slice A55 (y36 ++ [x48]).length c56]) Z .u Z Z Qg Z Z Z Z Z [2,2,2] (Z) (TD.nil (L5 [0,0,0,0,0,0] ⟨A49,c50,b53,A55,c56,Z,Z⟩ QJ QJ))))
     rintro _ _ ⟨A49,c50,b53,A55,c56,rfl,rfl⟩
     refine X.seq (KG Z ?_)
     obtain⟨⟨x57,st58⟩,hx59,h⟩:=Np h
     refine KF ak 1 Z (KT 5 Z Z .u (.fn Tryz.call23 Z) (cy g st51 _ hx59) sT Z Z (KF ak 1 Z ?_))
     rcases jF h with⟨c60,h⟩ | ⟨c60,h⟩
     ·refine Lj Z c60 ?_
      obtain⟨c61,h⟩:=ao h
      exact T.skip (K4 (X.seq (T.region Z (KH Z (Ex.add Z Z c61) Z (KF ak 1 Z (TL.nil (X.back (m':=m43) [0,0,0,0,0,0] QG ⟨k35+1,(y36 ++ [x48]),A55,c56,st58,Z,Z,h⟩ QJ QJ)))))))
     refine Li Z c60 (KG Z ?_)
     refine KH Z (Ld (cells:=vA0) kO Z QI) Z ?_
     refine KW 4 Z (cs':=vA0) Z .u Z Z Oh Z Z Z Z Z ?_
     obtain rfl:=Nq h
     obtain rfl:=Nq hO42
     obtain rfl:=Nq hO22
     exact KI (T.ret (KU (KL (KL (KU (KL (KU (KL (KL (KU (KL (Lc 2 aM (Le [6,0] Qz (Ly (us:=vA0) 5 Z OO Oh Z Z) ⟨_,_,Z,Z,Z⟩ QJ (.inl Z))))))))))))))
    refine KI (T.seq (LX Z c47 ?_))
    obtain rfl:=Nq h
    replace h:=hO42
    clear hO42
    refine T.exit (KZ (KZ (Lu (X.seq (T.seq (KG Z ?_))))))
    obtain⟨⟨x62,st63⟩,hx64,h⟩:=Np h
    refine KF ak 1 Z (KT 5 Z Z .u (.fn Tryz.call23 Z) (cy g st39 _ hx64) sT Z Z (KF ak 1 Z ?_))
    rcases jF h with⟨c65,h⟩ | ⟨c65,h⟩
    ·refine Lj Z c65 (K3 (T.region Z (KK ak bh 3 Z 2 Z Z (KH Z (KY (us := [jS x28,.slice A37 y36.length c38]) 1 Z PZ Ot Z Z Z) Z (L7 (cells:= #[jS x28,.slice A37 y36.length c38]) Z .u uY Z QJ Z (fun b66=> ?_))))))
     obtain⟨c67,h⟩:=ao h
     refine Ms 2 0 Z .u (us := [jS x28,.slice A37 y36.length c38]) (u:=(⟨x28,y36⟩:aI)) (l:=y16) (E:=aM) Tryz.underlying34 wd Z QH Z Z Z Z Z Z Z (fun w G hG=>⟨_,_,Z,cm QH _ _ hG⟩) (by have hq:=c67; omega) (by have hq:=c67; omega) Z (fun A68 c69=> ?_)
     refine Lt [0,0,0,0,0] Z (KF ak 1 Z (KW 2 Z (cs':= #[.bool x2.null,jS x2.data,jI x5,jI x8,.slice A68 (y16 ++ [(⟨x28,y36⟩:aI)]).length c69]) Z .u Z Z Tryz.sizeOf34 Z Z Z Z Z ?_))
     obtain⟨c70,h⟩:=ao h
     exact TL.nil (K4 (X.seq (T.region Z (KH Z (Ex.add Z Z c70) Z (KF ak 1 Z (TL.nil (X.back (m':=m23) [0,1,1,1] QG ⟨k15+1,(y16 ++ [(⟨x28,y36⟩:aI)]),A68,c69,st63,Z,Z,h⟩ QJ QJ)))))))
    refine Li Z c65 (KG Z ?_)
    refine KH Z (Ld (cells:=vA0) kO Z QI) Z ?_
    refine KW 4 Z (cs':=vA0) Z .u Z Z Oh Z Z Z Z Z ?_
    obtain rfl:=Nq h
    obtain rfl:=Nq hO22
    exact KI (T.ret (KL (KU (KL (KL (KU (KL (Lc 2 aM (Le [6,0] Qz (Ly (us:=vA0) 5 Z OO Oh Z Z) ⟨_,_,Z,Z,Z⟩ QJ (.inl Z))))))))))
  refine KI (T.seq (LX Z c27 ?_))
  obtain rfl:=Nq h
  replace h:=hO22
  clear hO22
  refine T.exit (KZ (KZ (Lu (X.seq (T.seq (KG Z ?_))))))
  obtain⟨⟨x85,st86⟩,hx87,h⟩:=Np h
  refine KF ak 1 Z (KT 3 Z Z .u (.fn Tryz.call23 Z) (cy g st19 _ hx87) sT Z Z (KP ak Z ?_))
  obtain⟨st99,h,hk100⟩:=Np h
  refine Lz (fun e Rs=>e = [(0,jP g),(4,jP b1),(5,jP b11)]∧Rs = [bU 176 2 aM (.slice A17 y16.length c18) y16,aW b11 36 (DG x5 x8 A17 c18 (y16).length x2),aW b1 36 vA0,InR g st99]) ?_ ?_
  ·clear hk100
   rcases jF h with⟨c101,h⟩ | ⟨c101,h⟩
   ·refine LU Z c101 (KG Z (KH Z (KY (us := [.bool x2.null,jS x2.data,jI x5,jI x8,.slice A17 y16.length c18]) 1 Z OO Oh Z Z Z) Z ?_))
    obtain⟨x102,hx103,h⟩:=Np h
    refine KF ak 1 Z (K2 Z .u (.fn Tryz.call156 Z) (iX (⟨x2,x5,x8,y16⟩:aA) _ _ a1 _ hx103) (fun _ hs=>(SrcE.res 0 hs Z (fun w G h=>cm QH w G h))) Z (K8 ak Z Z (KP ak Z ?_)))
    obtain⟨st107,h,hk108⟩:=Np h
    refine Lz (fun e Rs=>e = [(0,jP g),(4,jP b1),(5,jP b11)]∧Rs = [bU 176 2 aM (.slice A17 y16.length c18) y16,aW b11 36 (DG x5 x8 A17 c18 (y16).length x2),aW b1 36 vA0,InR g st107]) ?_ ?_
    ·clear hk108
     rcases jF h with⟨c109,h⟩ | ⟨c109,h⟩
     ·refine T.nn Z c109 ?_
      cases h
      exact T.skip (KR [0,0,0,0])
     refine T.yn Z c109 (T.region Z ?_)
     obtain⟨st110,hx111,h⟩:=Np h
     refine KF ak 2 Z (KT 3 Z Z .u (.fn Tryz.call70 Z) (bH g st86 x102 _ hx111) sT Z Z ?_)
     cases h
     exact TL.nil (KR [0,0,0,0])
    rintro _ _ ⟨rfl,rfl⟩
    clear h
    have h:=hk108
    clear hk108
    try dsimp only at h
    cases h
    exact KR [0,0,0,0]
   refine LX Z c101 ?_
   cases h
   exact T.skip (KR [0,0,0,0])
  rintro _ _ ⟨rfl,rfl⟩
  clear h
  have h:=hk100
  clear hk100
  refine X.seq (T.seq (KG Z ?_))
  obtain⟨⟨x112,st113⟩,hx114,h⟩:=Np h
  refine KF ak 1 Z (KT 3 Z Z .u (.fn Tryz.call23 Z) (cy g st99 _ hx114) sT Z Z (KF ak 1 Z ?_))
  rcases jF h with⟨c115,h⟩ | ⟨c115,h⟩
  ·refine Lj Z c115 (Lg Z (KH Z (KY (us := [.bool x2.null,jS x2.data,jI x5,jI x8,.slice A17 y16.length c18]) 1 Z OO Oh Z Z Z) Z (KW 2 Z (cs':=DG x5 x8 A17 c18 (y16).length x2) Z .u Z Z Oh Z Z Z Z Z ?_)))
   obtain rfl:=Nq h
   exact KI (T.ret (Mz QH 0 Z (LC [0,0,0,0] Z (Le [3,0] Qz (Ly (us:=DG x5 x8 A17 c18 (y16).length x2) 2 Z OO Oh Z Z) ⟨_,_,Z,Z,Z⟩ QJ (.inl Z)))))
  refine Li Z c115 (KG Z ?_)
  refine KH Z (Ld (cells:=vA0) kO Z QI) Z ?_
  refine KW 2 Z (cs':=vA0) Z .u Z Z Oh Z Z Z Z Z ?_
  obtain rfl:=Nq h
  exact KI (T.ret (KL (Lc 2 aM (Le [4,0] Qz (Ly (us:=vA0) 3 Z OO Oh Z Z) ⟨_,_,Z,Z,Z⟩ QJ (.inl Z)))))
theorem sf {w W:World} (h:Below w.heap.size w W) (o:Obj):Below w.heap.size w (W.alloc o):=h.alloc h.size o
theorem Gq {w W:World} (h:Below w.heap.size w W) (i:Nat) (u:Value):Below w.heap.size w (W.setCell ⟨w.heap.size,i,none⟩ u):=h.setCell (p:=⟨w.heap.size,i,none⟩) (NW _) u
def ns:Array Value:= #[.int .i64 0,.string ⟨#[112,114,111,100,117,99,101]⟩,.int .i64 3,.int .i64 4,.int .i64 22,.string ⟨#[98,101,103,105,110]⟩,.int .i64 0,.int .i64 1,
 .int .i64 24,.string ⟨#[97,100,100]⟩,.int .i64 0,.int .i64 0,.int .i64 26,.string ⟨#[101,110,100]⟩,.int .i64 0,.int .i64 0,.int .i64 27,.string ⟨#[109,97,114,107]⟩,.int .i64 0,.int .i64 1]
theorem DP:ns.all (·.oneCell')=true:=by simp[ns,Value.oneCell']
theorem DQ:(Tryz.prog.info? 317).map (·.size)=some 20:=by kernel_rfl
theorem mQ (w:World) :
 Calls Tryz.prog 219 #[] w fun e w'=>e= .returned (.agg ns)∧Below w.heap.size w w':=by
 have hi:=DQ
 go_enter Tryz.func219,Tryz.ntmps219
 go_wp2_with (refine tM (w:=w) rfl 317 _ _ rfl 317 _ ns rfl rfl DQ rfl DP ?_)
 refine bodyPost_ret (v:= .agg ns) ?_ rfl ?_
 ·exact results_cell_row QJ _ _ w.heap.size 317 ns (0,0) _ rfl (heap_alloc_new w _) Tryz.underlying317 rfl DQ
 ·exact⟨rfl,(Below.refl _ _).alloc (NW _) _⟩
def kR (k:Int):Value×Bool :=
 if k=0 then (.agg #[.int .i64 0,.string ⟨#[112,114,111,100,117,99,101]⟩,.int .i64 3,.int .i64 4],true)
 else if k=22 then (.agg #[.int .i64 22,.string ⟨#[98,101,103,105,110]⟩,.int .i64 0,.int .i64 1],true)
 else if k=24 then (.agg #[.int .i64 24,.string ⟨#[97,100,100]⟩,.int .i64 0,.int .i64 0],true)
 else if k=26 then (.agg #[.int .i64 26,.string ⟨#[101,110,100]⟩,.int .i64 0,.int .i64 0],true)
 else if k=27 then (.agg #[.int .i64 27,.string ⟨#[109,97,114,107]⟩,.int .i64 0,.int .i64 1],true)
 else (.agg #[.int .i64 0,.string ⟨#[]⟩,.int .i64 0,.int .i64 0],false)
theorem dl {w w1:World} {c:Array Value} {t:TypeId} (hb:Below (w.alloc (.cells c t)).heap.size (w.alloc (.cells c t)) w1) (i:Nat):w1.cell? ⟨w.heap.size,i,none⟩=c[i]? ∧ w1.frozen? ⟨w.heap.size,i,none⟩=false:=by
 have h:w1.heap[w.heap.size]? = some (.cells c t (0,0)):=(hb.block w.heap.size (by simp)).trans (heap_alloc_new w _)
 exact⟨bq h i,dy h i⟩
theorem rc {w w1:World} {o:Obj} (hb:Below (w.alloc o).heap.size (w.alloc o) w1):w.heap.size<w1.heap.size:=by
 have:=hb.size
 simp at this
 omega
theorem H9 (k:Int) (w:World) :
 Calls Tryz.prog 191 #[.int .i64 k] w fun e w'=>e= .returned (.tuple #[(kR k).1,.bool (kR k).2])∧Below w.heap.size w w':=by
 have i0: ∀ w:World,(Instr.index 317 (.agg ns) (.int .i64 0)).run Tryz.prog w= .ok (.agg #[.int .i64 0,.string ⟨#[112,114,111,100,117,99,101]⟩,.int .i64 3,.int .i64 4]) w:=fun _=>by kernel_rfl
 have i1: ∀ w:World,(Instr.index 317 (.agg ns) (.int .i64 1)).run Tryz.prog w= .ok (.agg #[.int .i64 22,.string ⟨#[98,101,103,105,110]⟩,.int .i64 0,.int .i64 1]) w:=fun _=>by kernel_rfl
 have i2: ∀ w:World,(Instr.index 317 (.agg ns) (.int .i64 2)).run Tryz.prog w= .ok (.agg #[.int .i64 24,.string ⟨#[97,100,100]⟩,.int .i64 0,.int .i64 0]) w:=fun _=>by kernel_rfl
 have i3: ∀ w:World,(Instr.index 317 (.agg ns) (.int .i64 3)).run Tryz.prog w= .ok (.agg #[.int .i64 26,.string ⟨#[101,110,100]⟩,.int .i64 0,.int .i64 0]) w:=fun _=>by kernel_rfl
 have i4: ∀ w:World,(Instr.index 317 (.agg ns) (.int .i64 4)).run Tryz.prog w= .ok (.agg #[.int .i64 27,.string ⟨#[109,97,114,107]⟩,.int .i64 0,.int .i64 1]) w:=fun _=>by kernel_rfl
 have way:k=0∨k=22∨k=24∨k=26∨k=27∨((0 == k)=false∧(22 == k)=false∧(24 == k)=false∧(26 == k)=false∧(27 == k)=false∧kR k=(.agg #[.int .i64 0,.string ⟨#[]⟩,.int .i64 0,.int .i64 0],false)):=by
  by_cases h0:k=0
  ·simp[h0]
  by_cases h1:k=22
  ·simp[h1]
  by_cases h2:k=24
  ·simp[h2]
  by_cases h3:k=26
  ·simp[h3]
  by_cases h4:k=27
  ·simp[h4]
  refine .inr (.inr (.inr (.inr (.inr ⟨?_,?_,?_,?_,?_,by simp[kR,h0,h1,h2,h3,h4]⟩))))
  all_goals (rw[beq_eq_false_iff_ne]; omega)
 rcases way with rfl | rfl | rfl | rfl | rfl | ⟨h0,h1,h2,h3,h4,hv⟩
 ·go_enter Qe,P1
  go_wp2_with (go_at_call 219; refine (mQ _).mono ?_; rintro e w1 ⟨rfl,hb⟩; obtain⟨d0,e0⟩:=dl hb 0; obtain⟨d1,e1⟩:=dl hb 1; obtain⟨d2,e2⟩:=dl hb 2; obtain⟨d3,e3⟩:=dl hb 3; simp at d0 d1 d2 d3; have HB:=Lib.hid hb; have hz:=rc hb; have hz1:w.heap.size<w1.heap.size+1:=(by omega); have hz2:w.heap.size<w1.heap.size+1+1:=(by omega); have hz3:w.heap.size<w1.heap.size+1+1+1:=(by omega); have hz4:w.heap.size<w1.heap.size+1+1+1+1:=(by omega); have hz5:w.heap.size<w1.heap.size+1+1+1+1+1:=(by omega); clear hb)
  refine wp_loop_rounds 6 ?_
  repeat (rw[rounds_succ]; go_wp2_with fail)
  have hbel:Below w.heap.size w w1:=((Below.refl _ _).alloc (NW _) _).trans (HB.out.mono (by simp))
  refine bodyPost_ret (v:= .tuple #[(kR 0).1,.bool (kR 0).2]) ?_ rfl ⟨rfl,?_⟩
  ·simp[results,PL,go_sem,d0,d1,d2,d3,hz,hz1,hz2,hz3,hz4,hz5,kR]
  ·repeat (first | (with_reducible exact hbel) | (with_reducible refine Gq ?_ _ _) | (with_reducible refine sf ?_ _))
 ·go_enter Qe,P1
  go_wp2_with (go_at_call 219; refine (mQ _).mono ?_; rintro e w1 ⟨rfl,hb⟩; obtain⟨d0,e0⟩:=dl hb 0; obtain⟨d1,e1⟩:=dl hb 1; obtain⟨d2,e2⟩:=dl hb 2; obtain⟨d3,e3⟩:=dl hb 3; simp at d0 d1 d2 d3; have HB:=Lib.hid hb; have hz:=rc hb; have hz1:w.heap.size<w1.heap.size+1:=(by omega); have hz2:w.heap.size<w1.heap.size+1+1:=(by omega); have hz3:w.heap.size<w1.heap.size+1+1+1:=(by omega); have hz4:w.heap.size<w1.heap.size+1+1+1+1:=(by omega); have hz5:w.heap.size<w1.heap.size+1+1+1+1+1:=(by omega); clear hb)
  refine wp_loop_rounds 6 ?_
  repeat (rw[rounds_succ]; go_wp2_with fail)
  have hbel:Below w.heap.size w w1:=((Below.refl _ _).alloc (NW _) _).trans (HB.out.mono (by simp))
  refine bodyPost_ret (v:= .tuple #[(kR 22).1,.bool (kR 22).2]) ?_ rfl ⟨rfl,?_⟩
  ·simp[results,PL,go_sem,d0,d1,d2,d3,hz,hz1,hz2,hz3,hz4,hz5,kR]
  ·repeat (first | (with_reducible exact hbel) | (with_reducible refine Gq ?_ _ _) | (with_reducible refine sf ?_ _))
 ·go_enter Qe,P1
  go_wp2_with (go_at_call 219; refine (mQ _).mono ?_; rintro e w1 ⟨rfl,hb⟩; obtain⟨d0,e0⟩:=dl hb 0; obtain⟨d1,e1⟩:=dl hb 1; obtain⟨d2,e2⟩:=dl hb 2; obtain⟨d3,e3⟩:=dl hb 3; simp at d0 d1 d2 d3; have HB:=Lib.hid hb; have hz:=rc hb; have hz1:w.heap.size<w1.heap.size+1:=(by omega); have hz2:w.heap.size<w1.heap.size+1+1:=(by omega); have hz3:w.heap.size<w1.heap.size+1+1+1:=(by omega); have hz4:w.heap.size<w1.heap.size+1+1+1+1:=(by omega); have hz5:w.heap.size<w1.heap.size+1+1+1+1+1:=(by omega); clear hb)
  refine wp_loop_rounds 6 ?_
  repeat (rw[rounds_succ]; go_wp2_with fail)
  have hbel:Below w.heap.size w w1:=((Below.refl _ _).alloc (NW _) _).trans (HB.out.mono (by simp))
  refine bodyPost_ret (v:= .tuple #[(kR 24).1,.bool (kR 24).2]) ?_ rfl ⟨rfl,?_⟩
  ·simp[results,PL,go_sem,d0,d1,d2,d3,hz,hz1,hz2,hz3,hz4,hz5,kR]
  ·repeat (first | (with_reducible exact hbel) | (with_reducible refine Gq ?_ _ _) | (with_reducible refine sf ?_ _))
 ·go_enter Qe,P1
  go_wp2_with (go_at_call 219; refine (mQ _).mono ?_; rintro e w1 ⟨rfl,hb⟩; obtain⟨d0,e0⟩:=dl hb 0; obtain⟨d1,e1⟩:=dl hb 1; obtain⟨d2,e2⟩:=dl hb 2; obtain⟨d3,e3⟩:=dl hb 3; simp at d0 d1 d2 d3; have HB:=Lib.hid hb; have hz:=rc hb; have hz1:w.heap.size<w1.heap.size+1:=(by omega); have hz2:w.heap.size<w1.heap.size+1+1:=(by omega); have hz3:w.heap.size<w1.heap.size+1+1+1:=(by omega); have hz4:w.heap.size<w1.heap.size+1+1+1+1:=(by omega); have hz5:w.heap.size<w1.heap.size+1+1+1+1+1:=(by omega); clear hb)
  refine wp_loop_rounds 6 ?_
  repeat (rw[rounds_succ]; go_wp2_with fail)
  have hbel:Below w.heap.size w w1:=((Below.refl _ _).alloc (NW _) _).trans (HB.out.mono (by simp))
  refine bodyPost_ret (v:= .tuple #[(kR 26).1,.bool (kR 26).2]) ?_ rfl ⟨rfl,?_⟩
  ·simp[results,PL,go_sem,d0,d1,d2,d3,hz,hz1,hz2,hz3,hz4,hz5,kR]
  ·repeat (first | (with_reducible exact hbel) | (with_reducible refine Gq ?_ _ _) | (with_reducible refine sf ?_ _))
 ·go_enter Qe,P1
  go_wp2_with (go_at_call 219; refine (mQ _).mono ?_; rintro e w1 ⟨rfl,hb⟩; obtain⟨d0,e0⟩:=dl hb 0; obtain⟨d1,e1⟩:=dl hb 1; obtain⟨d2,e2⟩:=dl hb 2; obtain⟨d3,e3⟩:=dl hb 3; simp at d0 d1 d2 d3; have HB:=Lib.hid hb; have hz:=rc hb; have hz1:w.heap.size<w1.heap.size+1:=(by omega); have hz2:w.heap.size<w1.heap.size+1+1:=(by omega); have hz3:w.heap.size<w1.heap.size+1+1+1:=(by omega); have hz4:w.heap.size<w1.heap.size+1+1+1+1:=(by omega); have hz5:w.heap.size<w1.heap.size+1+1+1+1+1:=(by omega); clear hb)
  refine wp_loop_rounds 6 ?_
  repeat (rw[rounds_succ]; go_wp2_with fail)
  have hbel:Below w.heap.size w w1:=((Below.refl _ _).alloc (NW _) _).trans (HB.out.mono (by simp))
  refine bodyPost_ret (v:= .tuple #[(kR 27).1,.bool (kR 27).2]) ?_ rfl ⟨rfl,?_⟩
  ·simp[results,PL,go_sem,d0,d1,d2,d3,hz,hz1,hz2,hz3,hz4,hz5,kR]
  ·repeat (first | (with_reducible exact hbel) | (with_reducible refine Gq ?_ _ _) | (with_reducible refine sf ?_ _))
 ·go_enter Qe,P1
  go_wp2_with (go_at_call 219; refine (mQ _).mono ?_; rintro e w1 ⟨rfl,hb⟩; obtain⟨d0,e0⟩:=dl hb 0; obtain⟨d1,e1⟩:=dl hb 1; obtain⟨d2,e2⟩:=dl hb 2; obtain⟨d3,e3⟩:=dl hb 3; simp at d0 d1 d2 d3; have HB:=Lib.hid hb; have hz:=rc hb; have hz1:w.heap.size<w1.heap.size+1:=(by omega); have hz2:w.heap.size<w1.heap.size+1+1:=(by omega); have hz3:w.heap.size<w1.heap.size+1+1+1:=(by omega); have hz4:w.heap.size<w1.heap.size+1+1+1+1:=(by omega); have hz5:w.heap.size<w1.heap.size+1+1+1+1+1:=(by omega); clear hb)
  refine wp_loop_rounds 6 ?_
  repeat (rw[rounds_succ]; go_wp2_with fail)
  have hbel:Below w.heap.size w w1:=((Below.refl _ _).alloc (NW _) _).trans (HB.out.mono (by simp))
  refine bodyPost_ret (v:= .tuple #[(kR k).1,.bool (kR k).2]) ?_ rfl ⟨rfl,?_⟩
  ·rw[hv]
   simp[results,PL,go_sem,d0,d1,d2,d3,hz,hz1,hz2,hz3,hz4,hz5]
  ·repeat (first | (with_reducible exact hbel) | (with_reducible refine Gq ?_ _ _) | (with_reducible refine sf ?_ _))
theorem J3 (k:Int) (r:Value) (b:Bool) (h:kR k=(r,b)) (w:World) :
 Calls Tryz.prog 191 #[.int .i64 k] w fun e w'=>e= .returned (.tuple #[r,.bool b])∧Below w.heap.size w w':=by
 have:=H9 k w
 rwa [h] at this
def hC (k:Int):Int×Int×ByteArray×Bool :=
 if k=0 then (3,4,⟨#[112,114,111,100,117,99,101]⟩,true) else if k=22 then (0,1,⟨#[98,101,103,105,110]⟩,true)
 else if k=24 then (0,0,⟨#[97,100,100]⟩,true) else if k=26 then (0,0,⟨#[101,110,100]⟩,true) else if k=27 then (0,1,⟨#[109,97,114,107]⟩,true) else (0,0,⟨#[]⟩,false)
theorem DR (k:Int): ∃ k2,kR k=(.agg #[.int .i64 k2,.string (hC k).2.2.1,.int .i64 (hC k).1,.int .i64 (hC k).2.1],(hC k).2.2.2):=by
 by_cases h0:k=0
 ·exact⟨0,by simp[kR,hC,h0]⟩
 by_cases h1:k=22
 ·exact⟨22,by simp[kR,hC,h1]⟩
 by_cases h2:k=24
 ·exact⟨24,by simp[kR,hC,h2]⟩
 by_cases h3:k=26
 ·exact⟨26,by simp[kR,hC,h3]⟩
 by_cases h4:k=27
 ·exact⟨27,by simp[kR,hC,h4]⟩
 exact⟨0,by simp[kR,hC,h0,h1,h2,h3,h4]⟩
def gO (k v:Int):Int:=if (hC k).2.2.2=false then 12 else if v<(hC k).1∨(hC k).2.1<v then 7 else 0
theorem B9 (k v:Int):ke Tryz.prog 147 #[.int .i64 k,.int .i64 v] (fun r N=>r= .int .i64 (gO k v)∧N = []):=by
 intro w
 obtain⟨k2,hr⟩:=DR k
 have HC:=Lib.hid (show gO k v=if (hC k).2.2.2=false then 12 else if v<(hC k).1∨(hC k).2.1<v then 7 else 0 from rfl)
 generalize gO k v=c at *
 generalize hC k=q at *
 obtain⟨lo,hi,nm,ok⟩:=q
 simp only at hr
 have HF:=Lib.hid (J3 k _ _ hr)
 clear hr
 have way:(ok=false∧c=12)∨(ok=true∧v<lo∧c=7)∨(ok=true∧ ¬ v<lo∧hi<v∧c=7)∨(ok=true∧ ¬ v<lo∧ ¬ hi<v∧c=0):=by
  rw[HC.out]
  cases ok
  ·simp
  ·by_cases h1:v<lo <;> by_cases h2:hi<v <;> simp[h1,h2]
 clear HC
 rcases way with⟨rfl,rfl⟩ | ⟨rfl,h1,rfl⟩ | ⟨rfl,h1,h2,rfl⟩ | ⟨rfl,h1,h2,rfl⟩
 all_goals
  go_enter Tryz.func147,Tryz.ntmps147
  go_wp2_with (go_at_call 191; refine (HF.out _).mono ?_; rintro e w1 ⟨rfl,hb⟩; have HB:=Lib.hid hb; clear hb)
  go_ret
  exact⟨_,_,rfl,⟨rfl,rfl⟩,Md (sf HB.out _),trivial⟩
def wi (k v:Int):Option Int:=some (gO k v)
theorem xp (k v:Int):wi k v=some (gO k v):=rfl
theorem tf (k v:Int) (r:Int) (h:wi k v=some r):aH Tryz.prog 147 #[.int .i64 k,.int .i64 v] .triv aK (fun u A' N=>u= .int .i64 r∧A'=aK∧N = []):=by
 obtain rfl:=Nq h
 exact LR (B9 k v)
def DS:fg := [(23,1,1),(25,0,0),(25,1,1),(25,2,2),(25,3,3)]
theorem aS:(DS).OK Tryz.prog:=⟨FOK.mk NS rfl NZ rfl,FOK.mk ON rfl Ny rfl,FOK.mk ON rfl Ny rfl,FOK.mk ON rfl Ny rfl,FOK.mk ON rfl ND rfl,trivial⟩
def DT:List Nat := [3,9]
theorem gP:NOK Tryz.prog DT:=⟨Nz,N4,trivial⟩
theorem kS:BOK Tryz.prog 25 #[.int .i64 0,.int .i64 0,.int .i64 0,.bool false,.string ⟨#[]⟩] [(0,1),(1,1),(2,1),(3,2)]:=BOK.mk Tryz.zeroValue25 ON (by intro w; simp)
def iI (a0:fx):Option (Int):=(wi a0.MS a0.MR).bind fun x2=>if x2=0 then ((jM a0.MY 4).bind fun x5=>if x5=true then ((ql a0.MQ).bind fun x8=>if x8=true then (if (a0.MQ.data.length:Int)>32767 then some 4 else some 0) else some 4) else some 11) else some x2
theorem qA (a0:fx) (r:Int) (h:iI a0=some r):aH Tryz.prog 93 #[.agg #[jI a0.MS,jI a0.MR,jI a0.MY,.bool a0.MQ.null,jS a0.MQ.data]] .triv (aK) (fun v A' N=>v=jI r∧A'=aK∧N = []):=by
 refine aU Tryz.func93 Z Tryz.ntmps93 Z ?_
 intro F w hX
 unfold iI at h
 refine KG Z (TL.box Z .u Z Z (fun b1=>(KP aS Z (T.seq (KG Z ?_)))))
 obtain⟨x2,hx3,h⟩:=Np h
 refine KK aS gP 0 Z 4 Z Z (K2 Z .u (.fn Tryz.call147 Z) (tf a0.MS a0.MR _ hx3) rT Z (K8 aS Z Z (KF aS 2 Z ?_)))
 rcases jF h with⟨c4,h⟩ | ⟨c4,h⟩
 ·refine Lj Z c4 (K3 (T.seq (T.block (KG Z ?_))))
  obtain⟨x5,hx6,h⟩:=Np h
  refine KK aS gP 0 Z 2 Z Z (K2 Z .u (.fn Tryz.call101 Z) (LB (fun w=>dF a0.MY 4 _ hx6 w)) (fun _ _=>Lk _ _) Z (KF aS 2 Z ?_))
  rcases jF h with⟨c7,h⟩ | ⟨c7,h⟩
  ·refine KI (Lb Z (bf c7) (KG Z (KF aS 1 Z (KH Z (KY (us:=wL6 a0.MQ) 0 Z N0 ND Z Z Z) Z ?_))))
   obtain⟨x8,hx9,h⟩:=Np h
   refine K2 Z .u (.fn Tryz.call148 Z) (nQ a0.MQ _ hx9) rT Z ?_
   rcases jF h with⟨c10,h⟩ | ⟨c10,h⟩
   ·refine KF aS 2 Z (KN 22 Z (bf c10) (KK aS gP 0 Z 3 Z Z (TL.q Z (.g Z Z Z) (Lx Z NE) Z (KM aS 3 Z ?_))))
    rcases jF h with⟨c11,h⟩ | ⟨c11,h⟩
    ·refine La Z c11 (KG Z (KF aS 1 Z ?_))
     obtain rfl:=Nq h
     exact KI (T.ret (KU (KL (KQ [1] Qh (KJ Z)))))
    refine K9 Z c11 (T.skip (K4 (X.seq (KG Z (KF aS 1 Z ?_)))))
    obtain rfl:=Nq h
    exact KI (T.ret (KQ [1] Qh (KJ Z)))
   replace c10:=Nx c10
   refine KF aS 2 Z (KN 22 Z (bG c10) (Lq aS Z (KV Z Z (KG Z (KF aS 1 Z ?_)))))
   obtain rfl:=Nq h
   exact KI (T.ret (KU (KL (KQ [1] Qh (KJ Z)))))
  replace c7:=Nx c7
  refine KI (KV Z (bG c7) (KG Z (KF aS 1 Z ?_)))
  obtain rfl:=Nq h
  exact KI (T.ret (KU (KL (KQ [1] Qh (KJ Z)))))
 refine Li Z c4 (KG Z (KF aS 2 Z ?_))
 obtain rfl:=Nq h
 exact KI (T.ret (KL (KQ [1] Qh (KJ Z))))
def iJ (st:List UInt8×Int) (a1:fx):Option (List UInt8×Int):=(iI a1).bind fun x2=>if x2=0 then ((d8 st a1.MS 2).bind fun st5=>(d8 st5 a1.MR 2).bind fun st7=>(d8 st7 a1.MY 4).bind fun st9=>(kf st9 a1.MQ 2).bind fun st11=>some st11) else ((li st x2).bind fun st13=>some st13)
theorem qB (g:Nat) (st:List UInt8×Int) (a1:fx) (r:List UInt8×Int) (h:iJ st a1=some r):aH Tryz.prog 47 #[jP g,.agg #[jI a1.MS,jI a1.MR,jI a1.MY,.bool a1.MQ.null,jS a1.MQ.data]] .triv (bB g st) (fun v A' N=>v= .tuple #[]∧A'=bB g r∧N = []):=by
 refine aU Tryz.func47 Z Tryz.ntmps47 Z ?_
 intro F w hX
 unfold iJ at h
 refine KG Z (TL.box Z .u Z Z (fun b1=>(KI (T.seq (KG Z (KH Z (KY (us := [jI a1.MS,jI a1.MR,jI a1.MY,.bool a1.MQ.null,jS a1.MQ.data]) 0 Z O7 Oq Z Z Z) Z ?_))))))
 obtain⟨x2,hx3,h⟩:=Np h
 refine K2 Z .u (.fn Tryz.call93 Z) (qA a1 _ hx3) rT Z (K8 aS Z Z (KF aS 2 Z ?_))
 rcases jF h with⟨c4,h⟩ | ⟨c4,h⟩
 ·refine Lj Z c4 (Lg Z ?_)
  obtain⟨st5,hx6,h⟩:=Np h
  refine KK aS gP 0 Z 3 Z Z (KT 1 Z Z .u (.fn Tryz.call51 Z) (bt g st a1.MS 2 _ hx6) sT Z Z (K7 Z ?_))
  obtain⟨st7,hx8,h⟩:=Np h
  refine KK aS gP 0 Z 3 Z Z (KT 1 Z Z .u (.fn Tryz.call51 Z) (bt g st5 a1.MR 2 _ hx8) sT Z Z (K7 Z ?_))
  obtain⟨st9,hx10,h⟩:=Np h
  refine KK aS gP 0 Z 3 Z Z (KT 1 Z Z .u (.fn Tryz.call51 Z) (bt g st7 a1.MY 4 _ hx10) sT Z Z (KI (T.region Z (KF aS 2 Z (KH Z (KY (us:=wL6 a1.MQ) 0 Z N0 ND Z Z Z) Z ?_)))))
  obtain⟨st11,hx12,h⟩:=Np h
  refine KT 1 Z Z .u (.fn Tryz.call95 Z) (kB g st9 a1.MQ 2 _ hx12) sT Z Z ?_
  obtain rfl:=Nq h
  exact TL.nil (LQ [1] Tryz.results47 ⟨Z,Z,Z⟩ QJ (.inr Z))
 refine Li Z c4 (KG Z ?_)
 obtain⟨st13,hx14,h⟩:=Np h
 refine KF aS 2 Z (KT 1 Z Z .u (.fn Tryz.call94 Z) (ib g st x2 _ hx14) sT Z Z ?_)
 obtain rfl:=Nq h
 exact KI (T.ret (KL (LQ [1] Tryz.results47 ⟨Z,Z,Z⟩ QJ (.inl Z))))
def hM (st:I)  : Option (fx×I):=(ed st 2).bind fun (x2,st3)=>(ed st3 2).bind fun (x5,st6)=>(iQ st6).bind fun (x9,st10)=>if x9=0 then ((wi x2 x5).bind fun x13=>if x13=0 then ((ed st10 4).bind fun (x16,st17)=>(lk st17 2).bind fun (x19,st20)=>(iQ st20).bind fun (x22,st23)=>if x22=0 then (some ((⟨x2,x5,x16,x19⟩:fx),st23)) else (some ((⟨0,0,0,(⟨false,[]⟩:Bl)⟩:fx),st23))) else ((cj st10 x13).bind fun st26=>(ed st26 4).bind fun (x28,st29)=>(lk st29 2).bind fun (x31,st32)=>(iQ st32).bind fun (x34,st35)=>if x34=0 then (some ((⟨x2,x5,x28,x31⟩:fx),st35)) else (some ((⟨0,0,0,(⟨false,[]⟩:Bl)⟩:fx),st35)))) else ((ed st10 4).bind fun (x38,st39)=>(lk st39 2).bind fun (x41,st42)=>(iQ st42).bind fun (x44,st45)=>if x44=0 then (some ((⟨x2,x5,x38,x41⟩:fx),st45)) else (some ((⟨0,0,0,(⟨false,[]⟩:Bl)⟩:fx),st45)))
theorem rE (g:Nat) (st:I)  (r:fx×I) (h:hM st  = some r):aH Tryz.prog 115 #[jP g] .triv (InR g st) (fun v A' N=>v= .agg #[jI r.1.MS,jI r.1.MR,jI r.1.MY,.bool r.1.MQ.null,jS r.1.MQ.data]∧A'=InR g r.2∧N = []):=by
 refine aU Tryz.func115 Z Tryz.ntmps115 Z ?_
 intro F w hX
 unfold hM at h
 refine KG Z (TL.alloc Z .u Tryz.zeroValue25 Z (fun b1=>(K7 Z ?_)))
 obtain⟨⟨x2,st3⟩,hx4,h⟩:=Np h
 refine KF aS 1 Z (KT 1 Z Z .u (.fn Tryz.call68 Z) (bx g st 2 _ hx4) sT Z Z ?_)
 obtain⟨⟨x5,st6⟩,hx7,h⟩:=Np h
 refine KF aS 1 Z (KT 1 Z Z .u (.fn Tryz.call68 Z) (bx g st3 2 _ hx7) sT Z Z ?_)
 refine KH Z (Ld (cells:= #[jI x2,jI x5,jI 0,.bool false,.string ⟨#[]⟩]) kS Z QI) Z ?_
 refine TL.alloc Z .u Tryz.zeroValue25 Z (fun b8=>(KW 0 Z (cs':= #[jI x2,jI x5,jI 0,.bool false,.string ⟨#[]⟩]) Z .u Z Z Oq Z Z Z Z Z (KI (T.seq (KG Z ?_)))))
 obtain⟨⟨x9,st10⟩,hx11,h⟩:=Np h
 refine KF aS 1 Z (KT 2 Z Z .u (.fn Tryz.call23 Z) (cy g st6 _ hx11) sT Z Z (KF aS 1 Z ?_))
 rcases jF h with⟨c12,h⟩ | ⟨c12,h⟩
 ·refine La Z c12 (KG Z ?_)
  obtain⟨x13,hx14,h⟩:=Np h
  refine KK aS gP 0 Z 4 Z Z (K2 Z .u (.fn Tryz.call147 Z) (tf x2 x5 _ hx14) rT Z (K8 aS Z Z (KF aS 2 Z ?_)))
  rcases jF h with⟨c15,h⟩ | ⟨c15,h⟩
  ·refine Lj Z c15 (Lg Z ?_)
   obtain⟨⟨x16,st17⟩,hx18,h⟩:=Np h
   refine KF aS 1 Z (KT 2 Z Z .u (.fn Tryz.call68 Z) (bx g st10 4 _ hx18) sT Z Z (KF aS 1 Z (KW 0 Z (cs':= #[jI x2,jI x5,jI x16,.bool false,.string ⟨#[]⟩]) Z .u Z Z Ny Z Z Z Z Z (K7 Z ?_))))
   obtain⟨⟨x19,st20⟩,hx21,h⟩:=Np h
   refine KF aS 1 Z (KT 2 Z Z .u (.fn Tryz.call142 Z) (kg g st17 2 _ hx21) sT Z Z (KF aS 1 Z (KW 0 Z (cs':=AE x2 x5 x16 x19) Z .u Z Z ND Z Z Z Z Z (KI (T.seq (KG Z ?_))))))
   obtain⟨⟨x22,st23⟩,hx24,h⟩:=Np h
   refine KF aS 1 Z (KT 2 Z Z .u (.fn Tryz.call23 Z) (cy g st20 _ hx24) sT Z Z (KF aS 1 Z ?_))
   rcases jF h with⟨c25,h⟩ | ⟨c25,h⟩
   ·refine Lj Z c25 (Lg Z (KH Z (KY (us := [jI x2,jI x5,jI x16,.bool x19.null,jS x19.data]) 0 Z O7 Oq Z Z Z) Z (KW 1 Z (cs':=AE x2 x5 x16 x19) Z .u Z Z Oq Z Z Z Z Z ?_)))
    obtain rfl:=Nq h
    exact KI (T.ret (KQ [2] PM (Ly (us:=AE x2 x5 x16 x19) 1 Z O7 Oq Z Z)))
   refine Li Z c25 (KG Z ?_)
   refine KH Z (Ld (cells:=AF) kS Z QI) Z ?_
   refine KW 1 Z (cs':=AF) Z .u Z Z Oq Z Z Z Z Z ?_
   obtain rfl:=Nq h
   exact KI (T.ret (KL (KQ [2] PM (Ly (us:=AF) 1 Z O7 Oq Z Z))))
  refine Li Z c15 (T.region Z ?_)
  obtain⟨st26,hx27,h⟩:=Np h
  refine KF aS 2 Z (KT 2 Z Z .u (.fn Tryz.call70 Z) (bH g st10 x13 _ hx27) sT Z Z (K7 Z ?_))
  obtain⟨⟨x28,st29⟩,hx30,h⟩:=Np h
  refine KF aS 1 Z (KT 2 Z Z .u (.fn Tryz.call68 Z) (bx g st26 4 _ hx30) sT Z Z (KF aS 1 Z (KW 0 Z (cs':= #[jI x2,jI x5,jI x28,.bool false,.string ⟨#[]⟩]) Z .u Z Z Ny Z Z Z Z Z (K7 Z ?_))))
  obtain⟨⟨x31,st32⟩,hx33,h⟩:=Np h
  refine KF aS 1 Z (KT 2 Z Z .u (.fn Tryz.call142 Z) (kg g st29 2 _ hx33) sT Z Z (KF aS 1 Z (KW 0 Z (cs':=AE x2 x5 x28 x31) Z .u Z Z ND Z Z Z Z Z (KI (T.seq (KG Z ?_))))))
  obtain⟨⟨x34,st35⟩,hx36,h⟩:=Np h
  refine KF aS 1 Z (KT 2 Z Z .u (.fn Tryz.call23 Z) (cy g st32 _ hx36) sT Z Z (KF aS 1 Z ?_))
  rcases jF h with⟨c37,h⟩ | ⟨c37,h⟩
  ·refine Lj Z c37 (Lg Z (KH Z (KY (us := [jI x2,jI x5,jI x28,.bool x31.null,jS x31.data]) 0 Z O7 Oq Z Z Z) Z (KW 1 Z (cs':=AE x2 x5 x28 x31) Z .u Z Z Oq Z Z Z Z Z ?_)))
   obtain rfl:=Nq h
   exact KI (T.ret (KQ [2] PM (Ly (us:=AE x2 x5 x28 x31) 1 Z O7 Oq Z Z)))
  refine Li Z c37 (KG Z ?_)
  refine KH Z (Ld (cells:=AF) kS Z QI) Z ?_
  refine KW 1 Z (cs':=AF) Z .u Z Z Oq Z Z Z Z Z ?_
  obtain rfl:=Nq h
  exact KI (T.ret (KL (KQ [2] PM (Ly (us:=AF) 1 Z O7 Oq Z Z))))
 refine K9 Z c12 (Lg Z ?_)
 obtain⟨⟨x38,st39⟩,hx40,h⟩:=Np h
 refine KF aS 1 Z (KT 2 Z Z .u (.fn Tryz.call68 Z) (bx g st10 4 _ hx40) sT Z Z (KF aS 1 Z (KW 0 Z (cs':= #[jI x2,jI x5,jI x38,.bool false,.string ⟨#[]⟩]) Z .u Z Z Ny Z Z Z Z Z (K7 Z ?_))))
 obtain⟨⟨x41,st42⟩,hx43,h⟩:=Np h
 refine KF aS 1 Z (KT 2 Z Z .u (.fn Tryz.call142 Z) (kg g st39 2 _ hx43) sT Z Z (KF aS 1 Z (KW 0 Z (cs':=AE x2 x5 x38 x41) Z .u Z Z ND Z Z Z Z Z (KI (T.seq (KG Z ?_))))))
 obtain⟨⟨x44,st45⟩,hx46,h⟩:=Np h
 refine KF aS 1 Z (KT 2 Z Z .u (.fn Tryz.call23 Z) (cy g st42 _ hx46) sT Z Z (KF aS 1 Z ?_))
 rcases jF h with⟨c47,h⟩ | ⟨c47,h⟩
 ·refine Lj Z c47 (Lg Z (KH Z (KY (us := [jI x2,jI x5,jI x38,.bool x41.null,jS x41.data]) 0 Z O7 Oq Z Z Z) Z (KW 1 Z (cs':=AE x2 x5 x38 x41) Z .u Z Z Oq Z Z Z Z Z ?_)))
  obtain rfl:=Nq h
  exact KI (T.ret (KQ [2] PM (Ly (us:=AE x2 x5 x38 x41) 1 Z O7 Oq Z Z)))
 refine Li Z c47 (KG Z ?_)
 refine KH Z (Ld (cells:=AF) kS Z QI) Z ?_
 refine KW 1 Z (cs':=AF) Z .u Z Z Oq Z Z Z Z Z ?_
 obtain rfl:=Nq h
 exact KI (T.ret (KL (KQ [2] PM (Ly (us:=AF) 1 Z O7 Oq Z Z))))
end Go.Proofs.YtheikonlgjdopaaGreat.Sl
