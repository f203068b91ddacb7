/- scanFeeds_holds: part 3. -/
import Derived.Test.YtahjmpipllajcaaGreatK2
set_option maxRecDepth 100000
set_option maxHeartbeats 4000000
set_option linter.defProp false
namespace Go.Proofs.YtahjmpipllajcaaGreat.Sl
open Go.RowKit
set_option linter.unusedVariables false
set_option linter.unusedSimpArgs false
def xh := @Tryz.sizeOf128
def xl := @Tryz.sizeOf43
def xn := @Tryz.runUnderlying41
def xo := @Tryz.runUnderlying124
def xr := @Tryz.runUnderlying43
def xu := @Tryz.runUnderlying89
def xA := @Tryz.isAgg43
def xI := @Tryz.isAgg128
def xJ := @Tryz.isAgg126
def xL := @Tryz.isAgg41
def xS := @Tryz.results62
def yg := @Tryz.sizeOf89
def yp := @Tryz.results33
def yv := @Tryz.results61
def yE := @Tryz.results65
def yL := @Tryz.isAgg89
def yW := @Tryz.results49
def yZ := @Tryz.runUnderlying128
def zd := @Tryz.results22
def rW:dU := [(89,0,0),(89,1,1),(89,2,2),(89,3,3),(89,4,4),(89,5,5),(89,6,6),(89,7,7),(89,8,8),(89,9,9),(89,10,10),(89,11,11),(128,0,0),(128,1,1)]
theorem ae:(rW).OK Tryz.prog:=⟨FOK.mk xu rfl xg rfl,FOK.mk xu rfl xg rfl,FOK.mk xu rfl xg rfl,FOK.mk xu rfl xg rfl,FOK.mk xu rfl xg rfl,FOK.mk xu rfl xg rfl,FOK.mk xu rfl xg rfl,FOK.mk xu rfl xg rfl,FOK.mk xu rfl xg rfl,FOK.mk xu rfl xg rfl,FOK.mk xu rfl xg rfl,FOK.mk xu rfl xg rfl,FOK.mk yZ rfl Tryz.sizeOf126 rfl,FOK.mk yZ rfl xg rfl,trivial⟩
theorem aH:Tryz.prog.follows .mixedOrders=true:=by kernel_rfl
theorem mJ:BOK Tryz.prog 89 #[.int .i64 0,.int .i64 0,.int .i64 0,.int .i64 0,.int .i64 0,.int .i64 0,.int .i64 0,.int .i64 0,.int .i64 0,.int .i64 0,.int .i64 0,.int .i64 0] [(0,1),(1,1),(2,1),(3,1),(4,1),(5,1),(6,1),(7,1),(8,1),(9,1),(10,1),(11,1)]:=BOK.mk Tryz.zeroValue89 xu (by intro w; simp)
theorem aW:BOK Tryz.prog 128 #[.pointer none,.int .i64 0] [(0,1),(1,1)]:=BOK.mk Tryz.zeroValue128 yZ (by intro w; simp)
theorem jO:SOK Tryz.prog 124 128 13 2 #[.pointer none,.int .i64 0,.pointer none,.int .i64 0,.pointer none,.int .i64 0,.pointer none,.int .i64 0,.pointer none,.int .i64 0,.pointer none,.int .i64 0,.pointer none,.int .i64 0,.pointer none,.int .i64 0,.pointer none,.int .i64 0,.pointer none,.int .i64 0,.pointer none,.int .i64 0,.pointer none,.int .i64 0,.pointer none,.int .i64 0]:=SOK.mk xo xh Tryz.zeroValue128 (by decide) (by kernel_rfl)
def eM (p0:Nat) (p1:Nat):Option (Unit):=some ()
theorem dM (p0:Nat) (p1:Nat) (r:Unit) (h:eM p0 p1=some r):au Tryz.prog 69 #[jP p0,jP p1] .triv (aw) (fun v A' N=> ∃ q:Nat,v= .slice (some ⟨q,0,none⟩) 13 13∧A'=aw∧N = [aD q 128 #[jP p0,jI 8,.pointer (some ⟨p0,1,none⟩),jI 4,.pointer (some ⟨p0,2,none⟩),jI 4,jP p1,jI 1,.pointer (some ⟨p0,3,none⟩),jI 4,.pointer (some ⟨p0,4,none⟩),jI 2,.pointer (some ⟨p0,5,none⟩),jI 4,.pointer (some ⟨p0,6,none⟩),jI 8,.pointer (some ⟨p0,7,none⟩),jI 8,.pointer (some ⟨p0,8,none⟩),jI 8,.pointer (some ⟨p0,9,none⟩),jI 2,.pointer (some ⟨p0,10,none⟩),jI 4,.pointer (some ⟨p0,11,none⟩),jI 4]]):=by
 refine aF Tryz.func69 Z Tryz.ntmps69 Z ?_
 intro F w hX
 unfold eM at h
 refine T.seq (T.region Z (TL.run ae [0] Z Z ?_))
 refine TL.nil (X.seq (T.seq (uZ (.q 0 (.q 1 (.q 2 (.q 3 (.q 4 (.q 5 (.q 6 (.q 7 (.q 8 (.q 9 (.q 10 (.q 11 (.q 12 (.q 13 (.q 14 (.q 15 (.q 16 (.q 17 (.q 18 (.q 19 (.q 20 (.q 21 (.q 22 (.q 23 (.q 24 (.q 25 (.q 26 (.q 27 (.q 28 (.q 29 (.q 30 (.q 31 (.q 32 (.q 33 (.q 34 (.q 35 (.q 36 (.q 37 (.q 38 (.q 39 (.q 40 (.q 41 (.q 42 (.q 43 (.q 44 (.q 45 (.q 46 (.q 47 (.q 48 (.q 49 (.e 50 (.q 51 .nil)))))))))))))))))))))))))))))))))))))))))))))))))))) [0] Z aH (NoP.seq aI) (by kernel_rfl) ?_)))
 refine TD.run ae [0,1,2] Z Z ?_
 refine TD.q Z .u (uU (cells:= #[jP p0,jI 8]) aW Z (by kernel_rfl)) Z ?_
 refine TD.run ae [4,5,6] Z Z ?_
 refine TD.q Z .u (uU (cells:= #[.pointer (some ⟨p0,1,none⟩),jI 4]) aW Z (by kernel_rfl)) Z ?_
 refine TD.run ae [8,9,10] Z Z ?_
 refine TD.q Z .u (uU (cells:= #[.pointer (some ⟨p0,2,none⟩),jI 4]) aW Z (by kernel_rfl)) Z ?_
 refine TD.run ae [12] Z Z ?_
 refine TD.q Z .u (uU (cells:= #[jP p1,jI 1]) aW Z (by kernel_rfl)) Z ?_
 refine TD.run ae [14,15,16] Z Z ?_
 refine TD.q Z .u (uU (cells:= #[.pointer (some ⟨p0,3,none⟩),jI 4]) aW Z (by kernel_rfl)) Z ?_
 refine TD.run ae [18,19,20] Z Z ?_
 refine TD.q Z .u (uU (cells:= #[.pointer (some ⟨p0,4,none⟩),jI 2]) aW Z (by kernel_rfl)) Z ?_
 refine TD.run ae [22,23,24] Z Z ?_
 refine TD.q Z .u (uU (cells:= #[.pointer (some ⟨p0,5,none⟩),jI 4]) aW Z (by kernel_rfl)) Z ?_
 refine TD.run ae [26,27,28] Z Z ?_
 refine TD.q Z .u (uU (cells:= #[.pointer (some ⟨p0,6,none⟩),jI 8]) aW Z (by kernel_rfl)) Z ?_
 refine TD.run ae [30,31,32] Z Z ?_
 refine TD.q Z .u (uU (cells:= #[.pointer (some ⟨p0,7,none⟩),jI 8]) aW Z (by kernel_rfl)) Z ?_
 refine TD.run ae [34,35,36] Z Z ?_
 refine TD.q Z .u (uU (cells:= #[.pointer (some ⟨p0,8,none⟩),jI 8]) aW Z (by kernel_rfl)) Z ?_
 refine TD.run ae [38,39,40] Z Z ?_
 refine TD.q Z .u (uU (cells:= #[.pointer (some ⟨p0,9,none⟩),jI 2]) aW Z (by kernel_rfl)) Z ?_
 refine TD.run ae [42,43,44] Z Z ?_
 refine TD.q Z .u (uU (cells:= #[.pointer (some ⟨p0,10,none⟩),jI 4]) aW Z (by kernel_rfl)) Z ?_
 refine TD.run ae [46,47,48] Z Z ?_
 refine TD.q Z .u (uU (cells:= #[.pointer (some ⟨p0,11,none⟩),jI 4]) aW Z (by kernel_rfl)) Z ?_
 refine TD.lit (cells:= #[jP p0,jI 8,.pointer (some ⟨p0,1,none⟩),jI 4,.pointer (some ⟨p0,2,none⟩),jI 4,jP p1,jI 1,.pointer (some ⟨p0,3,none⟩),jI 4,.pointer (some ⟨p0,4,none⟩),jI 2,.pointer (some ⟨p0,5,none⟩),jI 4,.pointer (some ⟨p0,6,none⟩),jI 8,.pointer (some ⟨p0,7,none⟩),jI 8,.pointer (some ⟨p0,8,none⟩),jI 8,.pointer (some ⟨p0,9,none⟩),jI 2,.pointer (some ⟨p0,10,none⟩),jI 4,.pointer (some ⟨p0,11,none⟩),jI 4]) Z .u jO Z (by kernel_rfl) Z [1] (fun _=>Z) (fun b1=> ?_)
 refine TD.run ae [51] Z Z ?_
 obtain rfl:=xa h
 exact TD.nil (X.seq (T.ret (uC [1,0] Tryz.results69 (uD Z) ⟨_,Z,Z,Z⟩ (by rfl) (.inl Z))))
def db (st:I)  : Option (Pfx×I):=(eJ st 8).bind fun (x6,st7)=>(eJ st7 4).bind fun (x10,st11)=>(eJ st11 4).bind fun (x14,st15)=>(eJ st15 1).bind fun (x18,st19)=>(eJ st19 4).bind fun (x22,st23)=>(eJ st23 2).bind fun (x26,st27)=>(eJ st27 4).bind fun (x30,st31)=>(eJ st31 8).bind fun (x34,st35)=>(eJ st35 8).bind fun (x38,st39)=>(eJ st39 8).bind fun (x42,st43)=>(eJ st43 2).bind fun (x46,st47)=>(eJ st47 4).bind fun (x50,st51)=>(eJ st51 4).bind fun (x54,st55)=>(jH st55).bind fun (x57,st58)=>(if x57=0 then ((if x18=2 then ((if x10<49 then ((bi st58 4).bind fun st164=>some st164) else ((if x54<0 then ((bi st58 10).bind fun st172=>some st172) else some st58).bind fun st169=>some st169)).bind fun st161=>some st161) else ((bi st58 6).bind fun st174=>some st174)).bind fun st147=>some st147) else some st58).bind fun st117=>(jH st117).bind fun (x176,st177)=>if x176=0 then (some ((⟨x6,x10,x14,(Go.bits .and .i64 x22 4294967295),x26,x30,x34,x38,x42,x46,x50,x54⟩:Pfx),st177)) else (some ((⟨0,0,0,0,0,0,0,0,0,0,0,0⟩:Pfx),st177))
theorem fL (g:Nat) (st:I)  (r:Pfx×I) (h:db st  = some r):au Tryz.prog 46 #[jP g] .triv (InR g st) (fun v A' N=>v= .agg #[jI r.1.wG,jI r.1.wM,jI r.1.wz,jI r.1.wT,jI r.1.wQ,jI r.1.wE,jI r.1.wx,jI r.1.wJ,jI r.1.ww,jI r.1.wA,jI r.1.wv,jI r.1.wR]∧A'=InR g r.2∧N = []):=by
 refine aF Tryz.func46 Z Tryz.ntmps46 Z ?_
 intro F w hX
 unfold db at h
 refine T.seq (T.region Z (TL.alloc Z .u Tryz.zeroValue89 Z (fun b1=>(TL.nil (X.seq (T.seq (T.region Z (TL.alloc Z .u Tryz.zeroValue89 Z (fun b2=>(TL.nil (X.seq (T.seq (T.region Z (TL.alloc Z .u Tryz.zeroValue3 Z (fun b3=>(uO (cs':= #[jI 0]) Z .u Z Z xg Z Z Z Z (TL.nil (X.seq (T.seq (T.seq (T.region Z ?_)))))))))))))))))))))
 refine u0 Z .u (.fn Tryz.call69 Z) (dM b2 b3 () Z) (fun _ hs=>uE _ _) Z ?_
 rintro _ _ _ ⟨b4,rfl,rfl,rfl⟩
 refine uM [0,0,0,0,0] rfl (TL.q rfl .u (uY rfl xo) rfl (TL.run ae [2] rfl rfl (TL.nil (X.seq (T.block (T.unroll0 (TW.step (T.seq (T.region rfl (TL.run ae [0] rfl rfl (TL.nil (X.seq (T.seq (uF rfl (wY (show 0<13 by omega)) ?_))))))))))))))
 refine T.skip (X.seq (T.seq (T.block (T.seq (T.region Z (TL.q Z .u (vj (k:=0) (r:=0) Z Z Z xo xh (by decide) Z) Z (TL.q Z .u (uN (us := [jP b2,jI 8]) 0 Z xI xh Z Z Z) Z (TL.alloc Z .u Tryz.zeroValue128 Z (fun b5=>(uO (cs':= #[jP b2,jI 8]) Z .u Z Z xh Z Z Z Z ?_))))))))))
 refine TL.nil (X.seq (uZ (.q 0 (.q 1 (.q 2 (.q 3 (.q 4 (.e 5 (.q 6 (.e 7 .nil)))))))) [0,0,0,1] Z aH (NoP.blk (NoP.seq (NoP.seq (NoP.blk (NoP.seq aI))))) (by kernel_rfl) ?_))
 refine TD.run ae [0] Z Z (TD.q Z .u (uB 0 Z xJ Z Z) Z (TD.run ae [2,3] Z Z (TD.q Z .u (uB 0 Z xc Z Z) Z ?_)))
 obtain⟨⟨x6,st7⟩,hx8,h⟩:=wX h
 try dsimp only at h
 refine vT Z .u (.fn Tryz.call77 Z) (bF g st 8 _ hx8) (fun _ hs=>(Src.triv _)) Z [0,0,0,1] (Z) (TD.run ae [6] Z Z (vE (cs':= #[jI x6,jI 0,jI 0,jI 0,jI 0,jI 0,jI 0,jI 0,jI 0,jI 0,jI 0,jI 0]) Z .u Z Z xg Z Z Z Z [0,0,0,1] (Z) (TD.nil (uQ (X.seq (T.region Z (TL.q Z .u (Ex.add Z Z (by omega)) Z (TL.run ae [1] Z Z (TL.nil (vy (TW.step (T.seq (T.region Z (TL.run ae [0] Z Z ?_))))))))))))))
 refine TL.nil (X.seq (T.seq (uF rfl (wY (show 1<13 by omega)) (T.skip (X.seq (T.seq (T.block (T.seq (T.region rfl (TL.q rfl .u (vj (k:=1) (r:=2) rfl rfl rfl xo xh (by decide) rfl) rfl (TL.q rfl .u (uN (us := [.pointer (some ⟨b2,1,none⟩),jI 4]) 1 rfl xI xh rfl rfl rfl) rfl (TL.alloc rfl .u Tryz.zeroValue128 rfl (fun b9=>(uO (cs':= #[.pointer (some ⟨b2,1,none⟩),jI 4]) rfl .u rfl rfl xh rfl rfl rfl rfl ?_))))))))))))))
 refine TL.nil (X.seq (uZ (.q 0 (.q 1 (.q 2 (.q 3 (.q 4 (.e 5 (.q 6 (.e 7 .nil)))))))) [0,0,0,0,1] Z aH (NoP.blk (NoP.seq (NoP.seq (NoP.blk (NoP.seq aI))))) (by kernel_rfl) ?_))
 refine TD.run ae [0] Z Z (TD.q Z .u (uB 0 Z xJ Z Z) Z (TD.run ae [2,3] Z Z (TD.q Z .u (uB 0 Z xc Z Z) Z ?_)))
 obtain⟨⟨x10,st11⟩,hx12,h⟩:=wX h
 try dsimp only at h
 refine v5 Z .u (.fn Tryz.call77 Z) (bF g st7 4 _ hx12) (fun _ hs=>(Src.triv _)) Z [0,0,0,0,1] (Z) (TD.run ae [6] Z Z (vP (cs':= #[jI x6,jI x10,jI 0,jI 0,jI 0,jI 0,jI 0,jI 0,jI 0,jI 0,jI 0,jI 0]) Z .u Z Z xg Z Z Z Z [0,0,0,0,1] (Z) (TD.nil (uQ (X.seq (T.region Z (TL.q Z .u (Ex.add Z Z (by omega)) Z (TL.run ae [1] Z Z (TL.nil (uW [0,1,1,1,1,1] Z ?_))))))))))
 refine vy (TW.step (T.seq (T.region rfl (TL.run ae [0] rfl rfl (TL.nil (X.seq (T.seq (uF rfl (wY (show 2<13 by omega)) (T.skip (X.seq (T.seq (T.block (T.seq (T.region rfl (TL.q rfl .u (vj (k:=2) (r:=4) rfl rfl rfl xo xh (by decide) rfl) rfl (TL.q rfl .u (uN (us := [.pointer (some ⟨b2,2,none⟩),jI 4]) 1 rfl xI xh rfl rfl rfl) rfl (TL.alloc rfl .u Tryz.zeroValue128 rfl (fun b13=> ?_))))))))))))))))))
 refine uO (cs':= #[.pointer (some ⟨b2,2,none⟩),jI 4]) Z .u Z Z xh Z Z Z Z ?_
 refine TL.nil (X.seq (uZ (.q 0 (.q 1 (.q 2 (.q 3 (.q 4 (.e 5 (.q 6 (.e 7 .nil)))))))) [0,0,0,0,1] Z aH (NoP.blk (NoP.seq (NoP.seq (NoP.blk (NoP.seq aI))))) (by kernel_rfl) ?_))
 refine TD.run ae [0] Z Z (TD.q Z .u (uB 0 Z xJ Z Z) Z (TD.run ae [2,3] Z Z (TD.q Z .u (uB 0 Z xc Z Z) Z ?_)))
 obtain⟨⟨x14,st15⟩,hx16,h⟩:=wX h
 try dsimp only at h
 refine v5 Z .u (.fn Tryz.call77 Z) (bF g st11 4 _ hx16) (fun _ hs=>(Src.triv _)) Z [0,0,0,0,1] (Z) (TD.run ae [6] Z Z (vP (cs':= #[jI x6,jI x10,jI x14,jI 0,jI 0,jI 0,jI 0,jI 0,jI 0,jI 0,jI 0,jI 0]) Z .u Z Z xg Z Z Z Z [0,0,0,0,1] (Z) (TD.nil (uQ (X.seq (T.region Z (TL.q Z .u (Ex.add Z Z (by omega)) Z (TL.run ae [1] Z Z (TL.nil (uW [0,1,1,1,1,1] Z ?_))))))))))
 refine vy (TW.step (T.seq (T.region rfl (TL.run ae [0] rfl rfl (TL.nil (X.seq (T.seq (uF rfl (wY (show 3<13 by omega)) (T.skip (X.seq (T.seq (T.block (T.seq (T.region rfl (TL.q rfl .u (vj (k:=3) (r:=6) rfl rfl rfl xo xh (by decide) rfl) rfl (TL.q rfl .u (uN (us := [jP b3,jI 1]) 1 rfl xI xh rfl rfl rfl) rfl (TL.alloc rfl .u Tryz.zeroValue128 rfl (fun b17=> ?_))))))))))))))))))
 refine uO (cs':= #[jP b3,jI 1]) Z .u Z Z xh Z Z Z Z ?_
 refine TL.nil (X.seq (uZ (.q 0 (.q 1 (.q 2 (.q 3 (.q 4 (.e 5 (.q 6 (.e 7 .nil)))))))) [0,0,0,1,1] Z aH (NoP.blk (NoP.seq (NoP.seq (NoP.blk (NoP.seq aI))))) (by kernel_rfl) ?_))
 refine TD.run ae [0] Z Z (TD.q Z .u (uB 0 Z xJ Z Z) Z (TD.run ae [2,3] Z Z (TD.q Z .u (uB 0 Z xc Z Z) Z ?_)))
 obtain⟨⟨x18,st19⟩,hx20,h⟩:=wX h
 try dsimp only at h
 refine v5 Z .u (.fn Tryz.call77 Z) (bF g st15 1 _ hx20) (fun _ hs=>(Src.triv _)) Z [0,0,0,1,1] (Z) (TD.run ae [6] Z Z (vE (cs':= #[jI x18]) Z .u Z Z xg Z Z Z Z [0,0,0,1,1] (Z) (TD.nil (uQ (X.seq (T.region Z (TL.q Z .u (Ex.add Z Z (by omega)) Z (TL.run ae [1] Z Z (TL.nil (uW [0,1,1,1,1,1] Z ?_))))))))))
 refine vy (TW.step (T.seq (T.region rfl (TL.run ae [0] rfl rfl (TL.nil (X.seq (T.seq (uF rfl (wY (show 4<13 by omega)) (T.skip (X.seq (T.seq (T.block (T.seq (T.region rfl (TL.q rfl .u (vj (k:=4) (r:=8) rfl rfl rfl xo xh (by decide) rfl) rfl (TL.q rfl .u (uN (us := [.pointer (some ⟨b2,3,none⟩),jI 4]) 1 rfl xI xh rfl rfl rfl) rfl (TL.alloc rfl .u Tryz.zeroValue128 rfl (fun b21=> ?_))))))))))))))))))
 refine uO (cs':= #[.pointer (some ⟨b2,3,none⟩),jI 4]) Z .u Z Z xh Z Z Z Z ?_
 refine TL.nil (X.seq (uZ (.q 0 (.q 1 (.q 2 (.q 3 (.q 4 (.e 5 (.q 6 (.e 7 .nil)))))))) [0,0,0,0,1] Z aH (NoP.blk (NoP.seq (NoP.seq (NoP.blk (NoP.seq aI))))) (by kernel_rfl) ?_))
 refine TD.run ae [0] Z Z (TD.q Z .u (uB 0 Z xJ Z Z) Z (TD.run ae [2,3] Z Z (TD.q Z .u (uB 0 Z xc Z Z) Z ?_)))
 obtain⟨⟨x22,st23⟩,hx24,h⟩:=wX h
 try dsimp only at h
 refine v5 Z .u (.fn Tryz.call77 Z) (bF g st19 4 _ hx24) (fun _ hs=>(Src.triv _)) Z [0,0,0,0,1] (Z) (TD.run ae [6] Z Z (vP (cs':= #[jI x6,jI x10,jI x14,jI x22,jI 0,jI 0,jI 0,jI 0,jI 0,jI 0,jI 0,jI 0]) Z .u Z Z xg Z Z Z Z [0,0,0,0,1] (Z) (TD.nil (uQ (X.seq (T.region Z (TL.q Z .u (Ex.add Z Z (by omega)) Z (TL.run ae [1] Z Z (TL.nil (uW [0,1,1,1,1,1] Z ?_))))))))))
 refine vy (TW.step (T.seq (T.region rfl (TL.run ae [0] rfl rfl (TL.nil (X.seq (T.seq (uF rfl (wY (show 5<13 by omega)) (T.skip (X.seq (T.seq (T.block (T.seq (T.region rfl (TL.q rfl .u (vj (k:=5) (r:=10) rfl rfl rfl xo xh (by decide) rfl) rfl (TL.q rfl .u (uN (us := [.pointer (some ⟨b2,4,none⟩),jI 2]) 1 rfl xI xh rfl rfl rfl) rfl (TL.alloc rfl .u Tryz.zeroValue128 rfl (fun b25=> ?_))))))))))))))))))
 refine uO (cs':= #[.pointer (some ⟨b2,4,none⟩),jI 2]) Z .u Z Z xh Z Z Z Z ?_
 refine TL.nil (X.seq (uZ (.q 0 (.q 1 (.q 2 (.q 3 (.q 4 (.e 5 (.q 6 (.e 7 .nil)))))))) [0,0,0,0,1] Z aH (NoP.blk (NoP.seq (NoP.seq (NoP.blk (NoP.seq aI))))) (by kernel_rfl) ?_))
 refine TD.run ae [0] Z Z (TD.q Z .u (uB 0 Z xJ Z Z) Z (TD.run ae [2,3] Z Z (TD.q Z .u (uB 0 Z xc Z Z) Z ?_)))
 obtain⟨⟨x26,st27⟩,hx28,h⟩:=wX h
 try dsimp only at h
 refine v5 Z .u (.fn Tryz.call77 Z) (bF g st23 2 _ hx28) (fun _ hs=>(Src.triv _)) Z [0,0,0,0,1] (Z) (TD.run ae [6] Z Z (vP (cs':= #[jI x6,jI x10,jI x14,jI x22,jI x26,jI 0,jI 0,jI 0,jI 0,jI 0,jI 0,jI 0]) Z .u Z Z xg Z Z Z Z [0,0,0,0,1] (Z) (TD.nil (uQ (X.seq (T.region Z (TL.q Z .u (Ex.add Z Z (by omega)) Z (TL.run ae [1] Z Z (TL.nil (uW [0,1,1,1,1,1] Z ?_))))))))))
 refine vy (TW.step (T.seq (T.region rfl (TL.run ae [0] rfl rfl (TL.nil (X.seq (T.seq (uF rfl (wY (show 6<13 by omega)) (T.skip (X.seq (T.seq (T.block (T.seq (T.region rfl (TL.q rfl .u (vj (k:=6) (r:=12) rfl rfl rfl xo xh (by decide) rfl) rfl (TL.q rfl .u (uN (us := [.pointer (some ⟨b2,5,none⟩),jI 4]) 1 rfl xI xh rfl rfl rfl) rfl (TL.alloc rfl .u Tryz.zeroValue128 rfl (fun b29=> ?_))))))))))))))))))
 refine uO (cs':= #[.pointer (some ⟨b2,5,none⟩),jI 4]) Z .u Z Z xh Z Z Z Z ?_
 refine TL.nil (X.seq (uZ (.q 0 (.q 1 (.q 2 (.q 3 (.q 4 (.e 5 (.q 6 (.e 7 .nil)))))))) [0,0,0,0,1] Z aH (NoP.blk (NoP.seq (NoP.seq (NoP.blk (NoP.seq aI))))) (by kernel_rfl) ?_))
 refine TD.run ae [0] Z Z (TD.q Z .u (uB 0 Z xJ Z Z) Z (TD.run ae [2,3] Z Z (TD.q Z .u (uB 0 Z xc Z Z) Z ?_)))
 obtain⟨⟨x30,st31⟩,hx32,h⟩:=wX h
 try dsimp only at h
 refine v5 Z .u (.fn Tryz.call77 Z) (bF g st27 4 _ hx32) (fun _ hs=>(Src.triv _)) Z [0,0,0,0,1] (Z) (TD.run ae [6] Z Z (vP (cs':= #[jI x6,jI x10,jI x14,jI x22,jI x26,jI x30,jI 0,jI 0,jI 0,jI 0,jI 0,jI 0]) Z .u Z Z xg Z Z Z Z [0,0,0,0,1] (Z) (TD.nil (uQ (X.seq (T.region Z (TL.q Z .u (Ex.add Z Z (by omega)) Z (TL.run ae [1] Z Z (TL.nil (uW [0,1,1,1,1,1] Z ?_))))))))))
 refine vy (TW.step (T.seq (T.region rfl (TL.run ae [0] rfl rfl (TL.nil (X.seq (T.seq (uF rfl (wY (show 7<13 by omega)) (T.skip (X.seq (T.seq (T.block (T.seq (T.region rfl (TL.q rfl .u (vj (k:=7) (r:=14) rfl rfl rfl xo xh (by decide) rfl) rfl (TL.q rfl .u (uN (us := [.pointer (some ⟨b2,6,none⟩),jI 8]) 1 rfl xI xh rfl rfl rfl) rfl (TL.alloc rfl .u Tryz.zeroValue128 rfl (fun b33=> ?_))))))))))))))))))
 refine uO (cs':= #[.pointer (some ⟨b2,6,none⟩),jI 8]) Z .u Z Z xh Z Z Z Z ?_
 refine TL.nil (X.seq (uZ (.q 0 (.q 1 (.q 2 (.q 3 (.q 4 (.e 5 (.q 6 (.e 7 .nil)))))))) [0,0,0,0,1] Z aH (NoP.blk (NoP.seq (NoP.seq (NoP.blk (NoP.seq aI))))) (by kernel_rfl) ?_))
 refine TD.run ae [0] Z Z (TD.q Z .u (uB 0 Z xJ Z Z) Z (TD.run ae [2,3] Z Z (TD.q Z .u (uB 0 Z xc Z Z) Z ?_)))
 obtain⟨⟨x34,st35⟩,hx36,h⟩:=wX h
 try dsimp only at h
 refine v5 Z .u (.fn Tryz.call77 Z) (bF g st31 8 _ hx36) (fun _ hs=>(Src.triv _)) Z [0,0,0,0,1] (Z) (TD.run ae [6] Z Z (vP (cs':= #[jI x6,jI x10,jI x14,jI x22,jI x26,jI x30,jI x34,jI 0,jI 0,jI 0,jI 0,jI 0]) Z .u Z Z xg Z Z Z Z [0,0,0,0,1] (Z) (TD.nil (uQ (X.seq (T.region Z (TL.q Z .u (Ex.add Z Z (by omega)) Z (TL.run ae [1] Z Z (TL.nil (uW [0,1,1,1,1,1] Z ?_))))))))))
 refine vy (TW.step (T.seq (T.region rfl (TL.run ae [0] rfl rfl (TL.nil (X.seq (T.seq (uF rfl (wY (show 8<13 by omega)) (T.skip (X.seq (T.seq (T.block (T.seq (T.region rfl (TL.q rfl .u (vj (k:=8) (r:=16) rfl rfl rfl xo xh (by decide) rfl) rfl (TL.q rfl .u (uN (us := [.pointer (some ⟨b2,7,none⟩),jI 8]) 1 rfl xI xh rfl rfl rfl) rfl (TL.alloc rfl .u Tryz.zeroValue128 rfl (fun b37=> ?_))))))))))))))))))
 refine uO (cs':= #[.pointer (some ⟨b2,7,none⟩),jI 8]) Z .u Z Z xh Z Z Z Z ?_
 refine TL.nil (X.seq (uZ (.q 0 (.q 1 (.q 2 (.q 3 (.q 4 (.e 5 (.q 6 (.e 7 .nil)))))))) [0,0,0,0,1] Z aH (NoP.blk (NoP.seq (NoP.seq (NoP.blk (NoP.seq aI))))) (by kernel_rfl) ?_))
 refine TD.run ae [0] Z Z (TD.q Z .u (uB 0 Z xJ Z Z) Z (TD.run ae [2,3] Z Z (TD.q Z .u (uB 0 Z xc Z Z) Z ?_)))
 obtain⟨⟨x38,st39⟩,hx40,h⟩:=wX h
 try dsimp only at h
 refine v5 Z .u (.fn Tryz.call77 Z) (bF g st35 8 _ hx40) (fun _ hs=>(Src.triv _)) Z [0,0,0,0,1] (Z) (TD.run ae [6] Z Z (vP (cs':= #[jI x6,jI x10,jI x14,jI x22,jI x26,jI x30,jI x34,jI x38,jI 0,jI 0,jI 0,jI 0]) Z .u Z Z xg Z Z Z Z [0,0,0,0,1] (Z) (TD.nil (uQ (X.seq (T.region Z (TL.q Z .u (Ex.add Z Z (by omega)) Z (TL.run ae [1] Z Z (TL.nil (uW [0,1,1,1,1,1] Z ?_))))))))))
 refine vy (TW.step (T.seq (T.region rfl (TL.run ae [0] rfl rfl (TL.nil (X.seq (T.seq (uF rfl (wY (show 9<13 by omega)) (T.skip (X.seq (T.seq (T.block (T.seq (T.region rfl (TL.q rfl .u (vj (k:=9) (r:=18) rfl rfl rfl xo xh (by decide) rfl) rfl (TL.q rfl .u (uN (us := [.pointer (some ⟨b2,8,none⟩),jI 8]) 1 rfl xI xh rfl rfl rfl) rfl (TL.alloc rfl .u Tryz.zeroValue128 rfl (fun b41=> ?_))))))))))))))))))
 refine uO (cs':= #[.pointer (some ⟨b2,8,none⟩),jI 8]) Z .u Z Z xh Z Z Z Z ?_
 refine TL.nil (X.seq (uZ (.q 0 (.q 1 (.q 2 (.q 3 (.q 4 (.e 5 (.q 6 (.e 7 .nil)))))))) [0,0,0,0,1] Z aH (NoP.blk (NoP.seq (NoP.seq (NoP.blk (NoP.seq aI))))) (by kernel_rfl) ?_))
 refine TD.run ae [0] Z Z (TD.q Z .u (uB 0 Z xJ Z Z) Z (TD.run ae [2,3] Z Z (TD.q Z .u (uB 0 Z xc Z Z) Z ?_)))
 obtain⟨⟨x42,st43⟩,hx44,h⟩:=wX h
 try dsimp only at h
 refine v5 Z .u (.fn Tryz.call77 Z) (bF g st39 8 _ hx44) (fun _ hs=>(Src.triv _)) Z [0,0,0,0,1] (Z) (TD.run ae [6] Z Z (vP (cs':= #[jI x6,jI x10,jI x14,jI x22,jI x26,jI x30,jI x34,jI x38,jI x42,jI 0,jI 0,jI 0]) Z .u Z Z xg Z Z Z Z [0,0,0,0,1] (Z) (TD.nil (uQ (X.seq (T.region Z (TL.q Z .u (Ex.add Z Z (by omega)) Z (TL.run ae [1] Z Z (TL.nil (uW [0,1,1,1,1,1] Z ?_))))))))))
 refine vy (TW.step (T.seq (T.region rfl (TL.run ae [0] rfl rfl (TL.nil (X.seq (T.seq (uF rfl (wY (show 10<13 by omega)) (T.skip (X.seq (T.seq (T.block (T.seq (T.region rfl (TL.q rfl .u (vj (k:=10) (r:=20) rfl rfl rfl xo xh (by decide) rfl) rfl (TL.q rfl .u (uN (us := [.pointer (some ⟨b2,9,none⟩),jI 2]) 1 rfl xI xh rfl rfl rfl) rfl (TL.alloc rfl .u Tryz.zeroValue128 rfl (fun b45=> ?_))))))))))))))))))
 refine uO (cs':= #[.pointer (some ⟨b2,9,none⟩),jI 2]) Z .u Z Z xh Z Z Z Z ?_
 refine TL.nil (X.seq (uZ (.q 0 (.q 1 (.q 2 (.q 3 (.q 4 (.e 5 (.q 6 (.e 7 .nil)))))))) [0,0,0,0,1] Z aH (NoP.blk (NoP.seq (NoP.seq (NoP.blk (NoP.seq aI))))) (by kernel_rfl) ?_))
 refine TD.run ae [0] Z Z (TD.q Z .u (uB 0 Z xJ Z Z) Z (TD.run ae [2,3] Z Z (TD.q Z .u (uB 0 Z xc Z Z) Z ?_)))
 obtain⟨⟨x46,st47⟩,hx48,h⟩:=wX h
 try dsimp only at h
 refine v5 Z .u (.fn Tryz.call77 Z) (bF g st43 2 _ hx48) (fun _ hs=>(Src.triv _)) Z [0,0,0,0,1] (Z) (TD.run ae [6] Z Z (vP (cs':= #[jI x6,jI x10,jI x14,jI x22,jI x26,jI x30,jI x34,jI x38,jI x42,jI x46,jI 0,jI 0]) Z .u Z Z xg Z Z Z Z [0,0,0,0,1] (Z) (TD.nil (uQ (X.seq (T.region Z (TL.q Z .u (Ex.add Z Z (by omega)) Z (TL.run ae [1] Z Z (TL.nil (uW [0,1,1,1,1,1] Z ?_))))))))))
 refine vy (TW.step (T.seq (T.region rfl (TL.run ae [0] rfl rfl (TL.nil (X.seq (T.seq (uF rfl (wY (show 11<13 by omega)) (T.skip (X.seq (T.seq (T.block (T.seq (T.region rfl (TL.q rfl .u (vj (k:=11) (r:=22) rfl rfl rfl xo xh (by decide) rfl) rfl (TL.q rfl .u (uN (us := [.pointer (some ⟨b2,10,none⟩),jI 4]) 1 rfl xI xh rfl rfl rfl) rfl (TL.alloc rfl .u Tryz.zeroValue128 rfl (fun b49=> ?_))))))))))))))))))
 refine uO (cs':= #[.pointer (some ⟨b2,10,none⟩),jI 4]) Z .u Z Z xh Z Z Z Z ?_
 refine TL.nil (X.seq (uZ (.q 0 (.q 1 (.q 2 (.q 3 (.q 4 (.e 5 (.q 6 (.e 7 .nil)))))))) [0,0,0,0,1] Z aH (NoP.blk (NoP.seq (NoP.seq (NoP.blk (NoP.seq aI))))) (by kernel_rfl) ?_))
 refine TD.run ae [0] Z Z (TD.q Z .u (uB 0 Z xJ Z Z) Z (TD.run ae [2,3] Z Z (TD.q Z .u (uB 0 Z xc Z Z) Z ?_)))
 obtain⟨⟨x50,st51⟩,hx52,h⟩:=wX h
 try dsimp only at h
 refine v5 Z .u (.fn Tryz.call77 Z) (bF g st47 4 _ hx52) (fun _ hs=>(Src.triv _)) Z [0,0,0,0,1] (Z) (TD.run ae [6] Z Z (vP (cs':= #[jI x6,jI x10,jI x14,jI x22,jI x26,jI x30,jI x34,jI x38,jI x42,jI x46,jI x50,jI 0]) Z .u Z Z xg Z Z Z Z [0,0,0,0,1] (Z) (TD.nil (uQ (X.seq (T.region Z (TL.q Z .u (Ex.add Z Z (by omega)) Z (TL.run ae [1] Z Z (TL.nil (uW [0,1,1,1,1,1] Z ?_))))))))))
 refine vy (TW.step (T.seq (T.region rfl (TL.run ae [0] rfl rfl (TL.nil (X.seq (T.seq (uF rfl (wY (show 12<13 by omega)) (T.skip (X.seq (T.seq (T.block (T.seq (T.region rfl (TL.q rfl .u (vj (k:=12) (r:=24) rfl rfl rfl xo xh (by decide) rfl) rfl (TL.q rfl .u (uN (us := [.pointer (some ⟨b2,11,none⟩),jI 4]) 1 rfl xI xh rfl rfl rfl) rfl (TL.alloc rfl .u Tryz.zeroValue128 rfl (fun b53=> ?_))))))))))))))))))
 refine uO (cs':= #[.pointer (some ⟨b2,11,none⟩),jI 4]) Z .u Z Z xh Z Z Z Z ?_
 refine TL.nil (X.seq (uZ (.q 0 (.q 1 (.q 2 (.q 3 (.q 4 (.e 5 (.q 6 (.e 7 .nil)))))))) [0,0,0,0,1] Z aH (NoP.blk (NoP.seq (NoP.seq (NoP.blk (NoP.seq aI))))) (by kernel_rfl) ?_))
 refine TD.run ae [0] Z Z (TD.q Z .u (uB 0 Z xJ Z Z) Z (TD.run ae [2,3] Z Z (TD.q Z .u (uB 0 Z xc Z Z) Z ?_)))
 obtain⟨⟨x54,st55⟩,hx56,h⟩:=wX h
 try dsimp only at h
 refine v5 Z .u (.fn Tryz.call77 Z) (bF g st51 4 _ hx56) (fun _ hs=>(Src.triv _)) Z [0,0,0,0,1] (Z) (TD.run ae [6] Z Z (vP (cs':= #[jI x6,jI x10,jI x14,jI x22,jI x26,jI x30,jI x34,jI x38,jI x42,jI x46,jI x50,jI x54]) Z .u Z Z xg Z Z Z Z [0,0,0,0,1] (Z) (TD.nil (uQ (X.seq (T.region Z (TL.q Z .u (Ex.add Z Z (by omega)) Z (TL.run ae [1] Z Z (TL.nil (uW [0,1,1,1,1,1] Z ?_))))))))))
 refine vy (TW.step (T.seq (T.region rfl (TL.run ae [0] rfl rfl (TL.nil (X.seq (T.seq (uK rfl (wZ (show ¬ (13<13) by omega)) (T.exit (uR (uR (vn (X.seq (T.seq (T.region rfl (TL.run ae [0] rfl rfl (TL.q rfl .u (uB 3 rfl xc rfl rfl) rfl (TL.q rfl .u (Ex.bitw rfl rfl rfl) rfl ?_))))))))))))))))))
 refine TL.run ae [3] Z Z (vg (cs':= #[jI x6,jI x10,jI x14,jI (Go.bits .and .i64 x22 4294967295),jI x26,jI x30,jI x34,jI x38,jI x42,jI x46,jI x50,jI x54]) Z .u Z Z xg Z Z Z Z (TL.nil (X.seq (T.seq (T.block (T.seq (T.region Z ?_)))))))
 obtain⟨⟨x57,st58⟩,hx59,h⟩:=wX h
 try dsimp only at h
 refine TL.run ae [0] Z Z (TL.c5 Z .u (.fn Tryz.call23 Z) (dT g st55 _ hx59) (fun _ hs=>(Src.triv _)) Z (TL.run ae [2,3] Z Z (TL.nil (X.seq ?_))))
 obtain⟨st117,h,hk118⟩:=wX h
 refine vF (fun e Rs=>e = [(0,jP g),(2,jP b1),(3,jP b2)]∧Rs = [aD b53 128 #[.pointer (some ⟨b2,11,none⟩),jI 4],aD b4 128 #[jP b2,jI 8,.pointer (some ⟨b2,1,none⟩),jI 4,.pointer (some ⟨b2,2,none⟩),jI 4,jP b3,jI 1,.pointer (some ⟨b2,3,none⟩),jI 4,.pointer (some ⟨b2,4,none⟩),jI 2,.pointer (some ⟨b2,5,none⟩),jI 4,.pointer (some ⟨b2,6,none⟩),jI 8,.pointer (some ⟨b2,7,none⟩),jI 8,.pointer (some ⟨b2,8,none⟩),jI 8,.pointer (some ⟨b2,9,none⟩),jI 2,.pointer (some ⟨b2,10,none⟩),jI 4,.pointer (some ⟨b2,11,none⟩),jI 4],aD b3 3 #[jI x18],aD b2 89 #[jI x6,jI x10,jI x14,jI (Go.bits .and .i64 x22 4294967295),jI x26,jI x30,jI x34,jI x38,jI x42,jI x46,jI x50,jI x54],aD b1 89 #[jI 0,jI 0,jI 0,jI 0,jI 0,jI 0,jI 0,jI 0,jI 0,jI 0,jI 0,jI 0],InR g st117]) ?_ ?_
 ·clear hk118
  rcases jF h with⟨c119,h⟩ | ⟨c119,h⟩
  ·refine uK Z (av (wY c119)) (T.seq (T.region Z (TL.q Z .u (uB 2 Z xc Z Z) Z (TL.run ae [1,2] Z Z (TL.nil (X.seq ?_))))))
   obtain⟨st147,h,hk148⟩:=wX h
   refine vF (fun e Rs=>e = [(0,jP g),(2,jP b1),(3,jP b2)]∧Rs = [aD b53 128 #[.pointer (some ⟨b2,11,none⟩),jI 4],aD b4 128 #[jP b2,jI 8,.pointer (some ⟨b2,1,none⟩),jI 4,.pointer (some ⟨b2,2,none⟩),jI 4,jP b3,jI 1,.pointer (some ⟨b2,3,none⟩),jI 4,.pointer (some ⟨b2,4,none⟩),jI 2,.pointer (some ⟨b2,5,none⟩),jI 4,.pointer (some ⟨b2,6,none⟩),jI 8,.pointer (some ⟨b2,7,none⟩),jI 8,.pointer (some ⟨b2,8,none⟩),jI 8,.pointer (some ⟨b2,9,none⟩),jI 2,.pointer (some ⟨b2,10,none⟩),jI 4,.pointer (some ⟨b2,11,none⟩),jI 4],aD b3 3 #[jI x18],aD b2 89 #[jI x6,jI x10,jI x14,jI (Go.bits .and .i64 x22 4294967295),jI x26,jI x30,jI x34,jI x38,jI x42,jI x46,jI x50,jI x54],aD b1 89 #[jI 0,jI 0,jI 0,jI 0,jI 0,jI 0,jI 0,jI 0,jI 0,jI 0,jI 0,jI 0],InR g st147]) ?_ ?_
   ·clear hk148
    rcases jF h with⟨c149,h⟩ | ⟨c149,h⟩
    ·refine uK Z (av (wY c149)) (T.seq (T.region Z (TL.run ae [0] Z Z (TL.q Z .u (uB 3 Z xc Z Z) Z (TL.run ae [2,3] Z Z (TL.nil (X.seq ?_)))))))
     obtain⟨st161,h,hk162⟩:=wX h
     refine vF (fun e Rs=>e = [(0,jP g),(2,jP b1),(3,jP b2)]∧Rs = [aD b53 128 #[.pointer (some ⟨b2,11,none⟩),jI 4],aD b4 128 #[jP b2,jI 8,.pointer (some ⟨b2,1,none⟩),jI 4,.pointer (some ⟨b2,2,none⟩),jI 4,jP b3,jI 1,.pointer (some ⟨b2,3,none⟩),jI 4,.pointer (some ⟨b2,4,none⟩),jI 2,.pointer (some ⟨b2,5,none⟩),jI 4,.pointer (some ⟨b2,6,none⟩),jI 8,.pointer (some ⟨b2,7,none⟩),jI 8,.pointer (some ⟨b2,8,none⟩),jI 8,.pointer (some ⟨b2,9,none⟩),jI 2,.pointer (some ⟨b2,10,none⟩),jI 4,.pointer (some ⟨b2,11,none⟩),jI 4],aD b3 3 #[jI x18],aD b2 89 #[jI x6,jI x10,jI x14,jI (Go.bits .and .i64 x22 4294967295),jI x26,jI x30,jI x34,jI x38,jI x42,jI x46,jI x50,jI x54],aD b1 89 #[jI 0,jI 0,jI 0,jI 0,jI 0,jI 0,jI 0,jI 0,jI 0,jI 0,jI 0,jI 0],InR g st161]) ?_ ?_
     ·clear hk162
      rcases jF h with⟨c163,h⟩ | ⟨c163,h⟩
      ·refine uF Z (wY c163) (T.region Z ?_)
       obtain⟨st164,hx165,h⟩:=wX h
       refine TL.run ae [0] Z Z (TL.c5 Z .u (.fn Tryz.call48 Z) (aX g st58 4 _ hx165) (fun _ hs=>(Src.triv _)) Z ?_)
       cases h
       exact TL.nil (u4 [0,0,0,0,0,0] ⟨Z,Z⟩ (by rfl) (by rfl))
      ·refine uK Z (wZ c163) (T.seq (T.region Z (TL.run ae [0] Z Z (TL.q Z .u (uB 3 Z xc Z Z) Z (TL.run ae [2,3] Z Z (TL.nil (X.seq ?_)))))))
       obtain⟨st169,h,hk170⟩:=wX h
       refine vF (fun e Rs=>e = [(0,jP g),(2,jP b1),(3,jP b2)]∧Rs = [aD b53 128 #[.pointer (some ⟨b2,11,none⟩),jI 4],aD b4 128 #[jP b2,jI 8,.pointer (some ⟨b2,1,none⟩),jI 4,.pointer (some ⟨b2,2,none⟩),jI 4,jP b3,jI 1,.pointer (some ⟨b2,3,none⟩),jI 4,.pointer (some ⟨b2,4,none⟩),jI 2,.pointer (some ⟨b2,5,none⟩),jI 4,.pointer (some ⟨b2,6,none⟩),jI 8,.pointer (some ⟨b2,7,none⟩),jI 8,.pointer (some ⟨b2,8,none⟩),jI 8,.pointer (some ⟨b2,9,none⟩),jI 2,.pointer (some ⟨b2,10,none⟩),jI 4,.pointer (some ⟨b2,11,none⟩),jI 4],aD b3 3 #[jI x18],aD b2 89 #[jI x6,jI x10,jI x14,jI (Go.bits .and .i64 x22 4294967295),jI x26,jI x30,jI x34,jI x38,jI x42,jI x46,jI x50,jI x54],aD b1 89 #[jI 0,jI 0,jI 0,jI 0,jI 0,jI 0,jI 0,jI 0,jI 0,jI 0,jI 0,jI 0],InR g st169]) ?_ ?_
       ·clear hk170
        rcases jF h with⟨c171,h⟩ | ⟨c171,h⟩
        ·refine uF Z (wY c171) (T.region Z ?_)
         obtain⟨st172,hx173,h⟩:=wX h
         refine TL.run ae [0] Z Z (TL.c5 Z .u (.fn Tryz.call48 Z) (aX g st58 10 _ hx173) (fun _ hs=>(Src.triv _)) Z ?_)
         cases h
         exact TL.nil (u4 [0,0,0,0,0,0] ⟨Z,Z⟩ (by rfl) (by rfl))
        ·refine uK Z (wZ c171) ?_
         cases h
         exact T.skip (u4 [0,0,0,0,0,0] ⟨Z,Z⟩ (by rfl) (by rfl))
       ·rintro _ _ ⟨rfl,rfl⟩
        clear h
        have h:=hk170
        clear hk170
        try dsimp only at h
        cases h
        exact u4 [0,0,0,0,0,0] ⟨Z,Z⟩ (by rfl) (by rfl)
     ·rintro _ _ ⟨rfl,rfl⟩
      clear h
      have h:=hk162
      clear hk162
      try dsimp only at h
      cases h
      exact u4 [0,0,0,0,0,0] ⟨Z,Z⟩ (by rfl) (by rfl)
    ·refine uF Z (aA (wZ c149)) (T.region Z ?_)
     obtain⟨st174,hx175,h⟩:=wX h
     refine TL.run ae [0] Z Z (TL.c5 Z .u (.fn Tryz.call48 Z) (aX g st58 6 _ hx175) (fun _ hs=>(Src.triv _)) Z ?_)
     cases h
     exact TL.nil (u4 [0,0,0,0,0,0] ⟨Z,Z⟩ (by rfl) (by rfl))
   ·rintro _ _ ⟨rfl,rfl⟩
    clear h
    have h:=hk148
    clear hk148
    try dsimp only at h
    cases h
    exact u4 [0,0,0,0,0,0] ⟨Z,Z⟩ (by rfl) (by rfl)
  ·refine uF Z (aA (wZ c119)) ?_
   cases h
   exact T.skip (u4 [0,0,0,0,0,0] ⟨Z,Z⟩ (by rfl) (by rfl))
 ·rintro _ _ ⟨rfl,rfl⟩
  clear h
  have h:=hk118
  clear hk118
  try dsimp only at h
  refine uQ (X.seq (T.seq (T.seq (T.region Z ?_))))
  obtain⟨⟨x176,st177⟩,hx178,h⟩:=wX h
  try dsimp only at h
  refine TL.run ae [0] Z Z (TL.c5 Z .u (.fn Tryz.call23 Z) (dT g st117 _ hx178) (fun _ hs=>(Src.triv _)) Z (TL.run ae [2] Z Z ?_))
  rcases jF h with⟨c179,h⟩ | ⟨c179,h⟩
  ·refine TL.nil (X.seq (uK Z (av (wY c179)) (T.skip (X.seq (T.seq (T.region Z (TL.q Z .u (uN (us := [jI x6,jI x10,jI x14,jI (Go.bits .and .i64 x22 4294967295),jI x26,jI x30,jI x34,jI x38,jI x42,jI x46,jI x50,jI x54]) 3 Z yL yg Z Z Z) Z (vx (cs':= #[jI x6,jI x10,jI x14,jI (Go.bits .and .i64 x22 4294967295),jI x26,jI x30,jI x34,jI x38,jI x42,jI x46,jI x50,jI x54]) Z .u Z Z yg Z Z Z Z ?_))))))))
   obtain rfl:=xa h
   exact TL.nil (X.seq (T.ret (uC [5] Tryz.results46 (uT (us:= #[jI x6,jI x10,jI x14,jI (Go.bits .and .i64 x22 4294967295),jI x26,jI x30,jI x34,jI x38,jI x42,jI x46,jI x50,jI x54]) 4 Z yL yg Z Z) ⟨Z,Z,Z⟩ (by rfl) (.inl Z))))
  ·refine TL.nil (X.seq (uF Z (aA (wZ c179)) (T.seq (T.region Z ?_))))
   refine TL.q Z .u (uU (cells:= #[jI 0,jI 0,jI 0,jI 0,jI 0,jI 0,jI 0,jI 0,jI 0,jI 0,jI 0,jI 0]) mJ Z (by kernel_rfl)) Z ?_
   refine vx (cs':= #[jI 0,jI 0,jI 0,jI 0,jI 0,jI 0,jI 0,jI 0,jI 0,jI 0,jI 0,jI 0]) Z .u Z Z yg Z Z Z Z ?_
   obtain rfl:=xa h
   exact TL.nil (X.seq (T.ret (uH (uC [5] Tryz.results46 (uT (us:= #[jI 0,jI 0,jI 0,jI 0,jI 0,jI 0,jI 0,jI 0,jI 0,jI 0,jI 0,jI 0]) 4 Z yL yg Z Z) ⟨Z,Z,Z⟩ (by rfl) (.inl Z)))))
def aZ (a0:List UInt8):Option (Int×Int):=if (a0.length:Int)<61 then some (0,0) else (if 61≤a0.length then ((nE (a0.take 61)).bind fun st3=>(db st3).bind fun (x6,st7)=>(jH st7).bind fun (x10,st11)=>if x10=0 then (if -9223372036854775808≤(x6.wM+12)∧(x6.wM+12)≤9223372036854775807 then (some ((x6.wM+12),0)) else none) else some (0,x10)) else none)
theorem fM (a0:List UInt8) (r:Int×Int) (h:aZ a0=some r):au Tryz.prog 20 #[jS a0] .triv (aw) (fun v A' N=>v= .tuple #[jI r.1,jI r.2]∧A'=aw∧N = []):=by
 refine aF Tryz.func20 Z Tryz.ntmps20 Z ?_
 intro F w hX
 unfold aZ at h
 refine T.seq (T.region Z (TL.run ae [0,1] Z Z (TL.nil (X.seq (T.seq (T.seq (T.region Z (TL.run ae [0] Z Z (TL.q Z .u (vk Z xj) Z (TL.run ae [2] Z Z ?_))))))))))
 rcases jF h with⟨c1,h⟩ | ⟨c1,h⟩
 ·refine TL.nil (X.seq (uF Z (wY c1) (T.seq (T.region Z (TL.run ae [0,1] Z Z ?_)))))
  obtain rfl:=xa h
  exact TL.nil (X.seq (T.ret (uH (uX [0] Tryz.results20 (uD Z) (uD Z) ⟨Z,Z,Z⟩ (by rfl) (.inl Z)))))
 ·refine TL.nil (X.seq (uK Z (wZ c1) (T.skip (X.seq (T.seq (T.region Z ?_))))))
  replace h:=ak h
  obtain⟨c2,h⟩:=h
  refine TL.run ae [0] Z Z ?_
  replace c2:61≤a0.length:=c2
  refine TL.q Z .u (vq (p:=0) (q:=61) (m:=(a0.take 61)) Z xj .none (.some Z Z) (by first | omega | (dsimp only; omega)) (by simp)) Z ?_
  obtain⟨st3,hx4,h⟩:=wX h
  refine u0 Z .u (.fn Tryz.call21 Z) (fv (a0.take 61) _ hx4) (fun _ hs=>(uE _ _)) Z ?_
  rintro _ _ _ ⟨b5,rfl,rfl,rfl⟩
  refine uM [0,0] Z (TL.run ae [3] Z Z (TL.nil (X.seq (T.seq (T.region Z ?_)))))
  obtain⟨⟨x6,st7⟩,hx8,h⟩:=wX h
  try dsimp only at h
  refine TL.run ae [0] Z Z (vf Z .u (.fn Tryz.call46 Z) (fL b5 st3 _ hx8) (fun _ hs=>(Src.triv _)) Z (TL.alloc Z .u Tryz.zeroValue89 Z (fun b9=>(uO (cs':= #[jI x6.wG,jI x6.wM,jI x6.wz,jI x6.wT,jI x6.wQ,jI x6.wE,jI x6.wx,jI x6.wJ,jI x6.ww,jI x6.wA,jI x6.wv,jI x6.wR]) Z .u Z Z yg Z Z Z Z (TL.nil (X.seq (T.seq (T.seq (T.region Z ?_)))))))))
  obtain⟨⟨x10,st11⟩,hx12,h⟩:=wX h
  try dsimp only at h
  refine TL.run ae [0] Z Z (vr Z .u (.fn Tryz.call23 Z) (dT b5 st7 _ hx12) (fun _ hs=>(Src.triv _)) Z (TL.run ae [2] Z Z (TL.nil (X.seq (T.seq (T.region Z (TL.run ae [0,1] Z Z ?_)))))))
  rcases jF h with⟨c13,h⟩ | ⟨c13,h⟩
  ·refine TL.nil (X.seq (uK Z (av (wY c13)) (T.skip (X.seq (T.seq (T.region Z (TL.run ae [0] Z Z (TL.q Z .u (uB 0 Z xc Z Z) Z ?_))))))))
   replace h:=ak h
   obtain⟨c14,h⟩:=h
   refine TL.q Z .u (Ex.add Z Z c14) Z (TL.run ae [3,4] Z Z ?_)
   obtain rfl:=xa h
   exact TL.nil (X.seq (T.ret (uX [2] Tryz.results20 (uD Z) (uD Z) ⟨Z,Z,Z⟩ (by rfl) (.inl Z))))
  ·refine TL.nil (X.seq (uF Z (aA (wZ c13)) (T.seq (T.region Z (TL.run ae [0,1,2] Z Z ?_)))))
   obtain rfl:=xa h
   exact TL.nil (X.seq (T.ret (uH (uX [2] Tryz.results20 (uD Z) (uD Z) ⟨Z,Z,Z⟩ (by rfl) (.inl Z)))))
def cm (st:List UInt8×Int) (a1:Pfx):Option (List UInt8×Int):=(if a1.wT<0 then some true else (if a1.wT>4294967295 then some true else some false)).bind fun y4=>(if y4=true then ((jh st 11).bind fun st14=>some st14) else some st).bind fun st11=>if -9223372036854775808≤(IntKind.i32.wrap (IntKind.u32.wrap a1.wT))∧(IntKind.i32.wrap (IntKind.u32.wrap a1.wT))≤9223372036854775807 then ((eL st11 a1.wG 8).bind fun st19=>(eL st19 a1.wM 4).bind fun st22=>(eL st22 a1.wz 4).bind fun st25=>(eL st25 2 1).bind fun st28=>(eL st28 (IntKind.i32.wrap (IntKind.u32.wrap a1.wT)) 4).bind fun st31=>(eL st31 a1.wQ 2).bind fun st34=>(eL st34 a1.wE 4).bind fun st37=>(eL st37 a1.wx 8).bind fun st40=>(eL st40 a1.wJ 8).bind fun st43=>(eL st43 a1.ww 8).bind fun st46=>(eL st46 a1.wA 2).bind fun st49=>(eL st49 a1.wv 4).bind fun st52=>(eL st52 a1.wR 4).bind fun st55=>some st55) else none
theorem dZ (g:Nat) (st:List UInt8×Int) (a1:Pfx) (r:List UInt8×Int) (h:cm st a1=some r):au Tryz.prog 37 #[jP g,.agg #[jI a1.wG,jI a1.wM,jI a1.wz,jI a1.wT,jI a1.wQ,jI a1.wE,jI a1.wx,jI a1.wJ,jI a1.ww,jI a1.wA,jI a1.wv,jI a1.wR]] .triv (aT g st) (fun v A' N=>v= .tuple #[]∧A'=aT g r∧N = []):=by
 refine aF Tryz.func37 Z Tryz.ntmps37 Z ?_
 intro F w hX
 unfold cm at h
 refine T.seq (T.region Z (TL.box Z .u Z Z (fun b1=>(TL.nil (X.seq (T.seq (T.region Z (TL.alloc Z .u Tryz.zeroValue3 Z (fun b2=>(uO (cs':= #[jI 2]) Z .u Z Z xg Z Z Z Z (TL.nil (X.seq (T.seq (T.seq ?_))))))))))))))
 obtain⟨y4,h,hk5⟩:=wX h
 refine vF (fun e Rs=>e = [(0,jP g),(3,jP b1),(4,jP b2),(14,.bool y4)]∧Rs = [aD b2 3 #[jI 2],aD b1 89 #[jI a1.wG,jI a1.wM,jI a1.wz,jI a1.wT,jI a1.wQ,jI a1.wE,jI a1.wx,jI a1.wJ,jI a1.ww,jI a1.wA,jI a1.wv,jI a1.wR],aT g st]) ?_ ?_
 ·clear hk5
  refine T.region Z (TL.run ae [0] Z Z (TL.q Z .u (uB 1 Z xc Z Z) Z ?_))
  rcases jF h with⟨c6,h⟩ | ⟨c6,h⟩
  ·refine TL.run ae [2,3] Z Z ?_
   iterate 3 refine uG Z (.gn Z Z (wY c6)) Z ?_
   refine TL.q Z .u (uJ Z (wY c6) Z) Z ?_
   cases h
   exact TL.nil (u4 [0,0,0] ⟨Z,Z⟩ (by rfl) (by rfl))
  ·refine TL.run ae [2,3] Z Z (TL.q Z (.g Z Z (wZ c6)) (uI ae Z) Z (TL.q Z (.g Z Z (wZ c6)) (uB 1 Z xc Z Z) Z (TL.q Z (.g Z Z (wZ c6)) (uI ae Z) Z (TL.q Z .u (uL Z (wZ c6) Z) Z ?_))))
   rcases jF h with⟨c7,h⟩ | ⟨c7,h⟩
   ·cases h
    exact TL.nil (vV (d:=14) (v':= .bool true) Z (congrArg Value.bool (wY c7)) (u4 [0,0,0] ⟨Z,Z⟩ (by rfl) (by rfl)))
   ·cases h
    exact TL.nil (vV (d:=14) (v':= .bool false) Z (congrArg Value.bool (wZ c7)) (u4 [0,0,0] ⟨Z,Z⟩ (by rfl) (by rfl)))
 ·rintro _ _ ⟨rfl,rfl⟩
  clear h
  have h:=hk5
  clear hk5
  try dsimp only at h
  refine X.seq ?_
  obtain⟨st11,h,hk12⟩:=wX h
  refine vF (fun e Rs=>e = [(0,jP g),(3,jP b1),(4,jP b2)]∧Rs = [aD b2 3 #[jI 2],aD b1 89 #[jI a1.wG,jI a1.wM,jI a1.wz,jI a1.wT,jI a1.wQ,jI a1.wE,jI a1.wx,jI a1.wJ,jI a1.ww,jI a1.wA,jI a1.wv,jI a1.wR],aT g st11]) ?_ ?_
  ·clear hk12
   rcases jF h with⟨c13,h⟩ | ⟨c13,h⟩
   ·refine uF Z c13 (T.region Z ?_)
    obtain⟨st14,hx15,h⟩:=wX h
    refine TL.run ae [0] Z Z (vZ Z .u (.fn Tryz.call66 Z) (h9 g st 11 _ hx15) (fun _ hs=>(Src.triv _)) Z ?_)
    cases h
    exact TL.nil (u4 [0,0,0] ⟨Z,Z⟩ (by rfl) (by rfl))
   ·replace c13:=xi c13
    refine uK Z c13 ?_
    cases h
    exact T.skip (u4 [0,0,0] ⟨Z,Z⟩ (by rfl) (by rfl))
  ·rintro _ _ ⟨rfl,rfl⟩
   clear h
   have h:=hk12
   clear hk12
   try dsimp only at h
   refine X.seq (T.seq (T.region Z (TL.run ae [0] Z Z (TL.q Z .u (uB 1 Z xc Z Z) Z (TL.q Z .u (wh Z xW xZ) Z (TL.q Z .u (wh Z xZ Tryz.runUnderlying21) Z ?_))))))
   replace h:=ak h
   obtain⟨c16,h⟩:=h
   refine TL.q Z .u (vG Z Tryz.runUnderlying21 xW c16) Z (TL.run ae [5] Z Z (vL (cs':= #[jI a1.wG,jI a1.wM,jI a1.wz,jI (IntKind.i32.wrap (IntKind.u32.wrap a1.wT)),jI a1.wQ,jI a1.wE,jI a1.wx,jI a1.wJ,jI a1.ww,jI a1.wA,jI a1.wv,jI a1.wR]) Z .u Z Z xg Z Z Z Z (TL.nil (X.seq (T.seq (T.region Z (u0 Z .u (.fn Tryz.call69 Z) (dM b1 b2 () Z) (fun _ hs=>uE _ _) Z ?_)))))))
   rintro _ _ _ ⟨b17,rfl,rfl,rfl⟩
   refine uM [0,0,0,0] rfl (TL.q rfl .u (uY rfl xo) rfl (TL.run ae [2] rfl rfl (TL.nil (X.seq (T.block (T.unroll0 (TW.step (T.seq (T.region rfl (TL.run ae [0] rfl rfl (TL.nil (X.seq (T.seq (uF rfl (wY (show 0<13 by omega)) ?_))))))))))))))
   refine T.skip (X.seq (T.seq (T.block (T.seq (T.region Z (TL.q Z .u (vj (k:=0) (r:=0) Z Z Z xo xh (by decide) Z) Z (TL.q Z .u (uN (us := [jP b1,jI 8]) 0 Z xI xh Z Z Z) Z (TL.alloc Z .u Tryz.zeroValue128 Z (fun b18=>(uO (cs':= #[jP b1,jI 8]) Z .u Z Z xh Z Z Z Z ?_))))))))))
   refine TL.nil (X.seq (uZ (.q 0 (.q 1 (.q 2 (.q 3 (.q 4 (.q 5 (.q 6 (.e 7 .nil)))))))) [0,0,0,0] Z aH (NoP.blk (NoP.seq (NoP.seq (NoP.blk aI)))) (by kernel_rfl) ?_))
   refine TD.run ae [0,1] Z Z (TD.q Z .u (uB 0 Z xJ Z Z) Z (TD.run ae [3] Z Z (TD.q Z .u (uB 3 Z xc Z Z) Z (TD.run ae [5] Z Z (TD.q Z .u (uB 0 Z xc Z Z) Z ?_)))))
   obtain⟨st19,hx20,h⟩:=wX h
   refine TD.c4 rfl .u (.fn Tryz.call70 rfl) (bY g st11 a1.wG 8 _ hx20) (fun _ hs=>(Src.triv _)) rfl [0,0,0,0] (rfl) (TD.nil (uQ (X.seq (T.region rfl (TL.q rfl .u (Ex.add rfl rfl (by omega)) rfl (TL.run ae [1] rfl rfl (TL.nil (vy (TW.step (T.seq (T.region rfl (TL.run ae [0] rfl rfl (TL.nil (X.seq (T.seq (uF rfl (wY (show 1<13 by omega)) ?_))))))))))))))))
   refine T.skip (X.seq (T.seq (T.block (T.seq (T.region Z (TL.q Z .u (vj (k:=1) (r:=2) Z Z Z xo xh (by decide) Z) Z (TL.q Z .u (uN (us := [.pointer (some ⟨b1,1,none⟩),jI 4]) 1 Z xI xh Z Z Z) Z (TL.alloc Z .u Tryz.zeroValue128 Z (fun b21=>(uO (cs':= #[.pointer (some ⟨b1,1,none⟩),jI 4]) Z .u Z Z xh Z Z Z Z ?_))))))))))
   refine TL.nil (X.seq (uZ (.q 0 (.q 1 (.q 2 (.q 3 (.q 4 (.q 5 (.q 6 (.e 7 .nil)))))))) [0,0,0,0,0] Z aH (NoP.blk (NoP.seq (NoP.seq (NoP.blk aI)))) (by kernel_rfl) ?_))
   refine TD.run ae [0,1] Z Z (TD.q Z .u (uB 0 Z xJ Z Z) Z (TD.run ae [3] Z Z (TD.q Z .u (uB 4 Z xc Z Z) Z (TD.run ae [5] Z Z (TD.q Z .u (uB 0 Z xc Z Z) Z ?_)))))
   obtain⟨st22,hx23,h⟩:=wX h
   refine vT Z .u (.fn Tryz.call70 Z) (bY g st19 a1.wM 4 _ hx23) (fun _ hs=>(Src.triv _)) Z [0,0,0,0,0] (Z) (TD.nil (uQ (X.seq (T.region Z (TL.q Z .u (Ex.add Z Z (by omega)) Z (TL.run ae [1] Z Z (TL.nil (uW [0,1,1,1,1] Z (vy (TW.step (T.seq (T.region Z (TL.run ae [0] Z Z ?_)))))))))))))
   refine TL.nil (X.seq (T.seq (uF rfl (wY (show 2<13 by omega)) (T.skip (X.seq (T.seq (T.block (T.seq (T.region rfl (TL.q rfl .u (vj (k:=2) (r:=4) rfl rfl rfl xo xh (by decide) rfl) rfl (TL.q rfl .u (uN (us := [.pointer (some ⟨b1,2,none⟩),jI 4]) 1 rfl xI xh rfl rfl rfl) rfl (TL.alloc rfl .u Tryz.zeroValue128 rfl (fun b24=>(uO (cs':= #[.pointer (some ⟨b1,2,none⟩),jI 4]) rfl .u rfl rfl xh rfl rfl rfl rfl ?_))))))))))))))
   refine TL.nil (X.seq (uZ (.q 0 (.q 1 (.q 2 (.q 3 (.q 4 (.q 5 (.q 6 (.e 7 .nil)))))))) [0,0,0,0,0] Z aH (NoP.blk (NoP.seq (NoP.seq (NoP.blk aI)))) (by kernel_rfl) ?_))
   refine TD.run ae [0,1] Z Z (TD.q Z .u (uB 0 Z xJ Z Z) Z (TD.run ae [3] Z Z (TD.q Z .u (uB 4 Z xc Z Z) Z (TD.run ae [5] Z Z (TD.q Z .u (uB 0 Z xc Z Z) Z ?_)))))
   obtain⟨st25,hx26,h⟩:=wX h
   refine vT Z .u (.fn Tryz.call70 Z) (bY g st22 a1.wz 4 _ hx26) (fun _ hs=>(Src.triv _)) Z [0,0,0,0,0] (Z) (TD.nil (uQ (X.seq (T.region Z (TL.q Z .u (Ex.add Z Z (by omega)) Z (TL.run ae [1] Z Z (TL.nil (uW [0,1,1,1,1] Z (vy (TW.step (T.seq (T.region Z (TL.run ae [0] Z Z ?_)))))))))))))
   refine TL.nil (X.seq (T.seq (uF rfl (wY (show 3<13 by omega)) (T.skip (X.seq (T.seq (T.block (T.seq (T.region rfl (TL.q rfl .u (vj (k:=3) (r:=6) rfl rfl rfl xo xh (by decide) rfl) rfl (TL.q rfl .u (uN (us := [jP b2,jI 1]) 1 rfl xI xh rfl rfl rfl) rfl (TL.alloc rfl .u Tryz.zeroValue128 rfl (fun b27=>(uO (cs':= #[jP b2,jI 1]) rfl .u rfl rfl xh rfl rfl rfl rfl ?_))))))))))))))
   refine TL.nil (X.seq (uZ (.q 0 (.q 1 (.q 2 (.q 3 (.q 4 (.q 5 (.q 6 (.e 7 .nil)))))))) [0,0,0,0,0] Z aH (NoP.blk (NoP.seq (NoP.seq (NoP.blk aI)))) (by kernel_rfl) ?_))
   refine TD.run ae [0,1] Z Z (TD.q Z .u (uB 0 Z xJ Z Z) Z (TD.run ae [3] Z Z (TD.q Z .u (uB 3 Z xc Z Z) Z (TD.run ae [5] Z Z (TD.q Z .u (uB 0 Z xc Z Z) Z ?_)))))
   obtain⟨st28,hx29,h⟩:=wX h
   refine vT Z .u (.fn Tryz.call70 Z) (bY g st25 2 1 _ hx29) (fun _ hs=>(Src.triv _)) Z [0,0,0,0,0] (Z) (TD.nil (uQ (X.seq (T.region Z (TL.q Z .u (Ex.add Z Z (by omega)) Z (TL.run ae [1] Z Z (TL.nil (uW [0,1,1,1,1] Z (vy (TW.step (T.seq (T.region Z (TL.run ae [0] Z Z ?_)))))))))))))
   refine TL.nil (X.seq (T.seq (uF rfl (wY (show 4<13 by omega)) (T.skip (X.seq (T.seq (T.block (T.seq (T.region rfl (TL.q rfl .u (vj (k:=4) (r:=8) rfl rfl rfl xo xh (by decide) rfl) rfl (TL.q rfl .u (uN (us := [.pointer (some ⟨b1,3,none⟩),jI 4]) 1 rfl xI xh rfl rfl rfl) rfl (TL.alloc rfl .u Tryz.zeroValue128 rfl (fun b30=>(uO (cs':= #[.pointer (some ⟨b1,3,none⟩),jI 4]) rfl .u rfl rfl xh rfl rfl rfl rfl ?_))))))))))))))
   refine TL.nil (X.seq (uZ (.q 0 (.q 1 (.q 2 (.q 3 (.q 4 (.q 5 (.q 6 (.e 7 .nil)))))))) [0,0,0,0,0] Z aH (NoP.blk (NoP.seq (NoP.seq (NoP.blk aI)))) (by kernel_rfl) ?_))
   refine TD.run ae [0,1] Z Z (TD.q Z .u (uB 0 Z xJ Z Z) Z (TD.run ae [3] Z Z (TD.q Z .u (uB 4 Z xc Z Z) Z (TD.run ae [5] Z Z (TD.q Z .u (uB 0 Z xc Z Z) Z ?_)))))
   obtain⟨st31,hx32,h⟩:=wX h
   refine vT Z .u (.fn Tryz.call70 Z) (bY g st28 (IntKind.i32.wrap (IntKind.u32.wrap a1.wT)) 4 _ hx32) (fun _ hs=>(Src.triv _)) Z [0,0,0,0,0] (Z) (TD.nil (uQ (X.seq (T.region Z (TL.q Z .u (Ex.add Z Z (by omega)) Z (TL.run ae [1] Z Z (TL.nil (uW [0,1,1,1,1] Z (vy (TW.step (T.seq (T.region Z (TL.run ae [0] Z Z ?_)))))))))))))
   refine TL.nil (X.seq (T.seq (uF rfl (wY (show 5<13 by omega)) (T.skip (X.seq (T.seq (T.block (T.seq (T.region rfl (TL.q rfl .u (vj (k:=5) (r:=10) rfl rfl rfl xo xh (by decide) rfl) rfl (TL.q rfl .u (uN (us := [.pointer (some ⟨b1,4,none⟩),jI 2]) 1 rfl xI xh rfl rfl rfl) rfl (TL.alloc rfl .u Tryz.zeroValue128 rfl (fun b33=>(uO (cs':= #[.pointer (some ⟨b1,4,none⟩),jI 2]) rfl .u rfl rfl xh rfl rfl rfl rfl ?_))))))))))))))
   refine TL.nil (X.seq (uZ (.q 0 (.q 1 (.q 2 (.q 3 (.q 4 (.q 5 (.q 6 (.e 7 .nil)))))))) [0,0,0,0,0] Z aH (NoP.blk (NoP.seq (NoP.seq (NoP.blk aI)))) (by kernel_rfl) ?_))
   refine TD.run ae [0,1] Z Z (TD.q Z .u (uB 0 Z xJ Z Z) Z (TD.run ae [3] Z Z (TD.q Z .u (uB 4 Z xc Z Z) Z (TD.run ae [5] Z Z (TD.q Z .u (uB 0 Z xc Z Z) Z ?_)))))
   obtain⟨st34,hx35,h⟩:=wX h
   refine vT Z .u (.fn Tryz.call70 Z) (bY g st31 a1.wQ 2 _ hx35) (fun _ hs=>(Src.triv _)) Z [0,0,0,0,0] (Z) (TD.nil (uQ (X.seq (T.region Z (TL.q Z .u (Ex.add Z Z (by omega)) Z (TL.run ae [1] Z Z (TL.nil (uW [0,1,1,1,1] Z (vy (TW.step (T.seq (T.region Z (TL.run ae [0] Z Z ?_)))))))))))))
   refine TL.nil (X.seq (T.seq (uF rfl (wY (show 6<13 by omega)) (T.skip (X.seq (T.seq (T.block (T.seq (T.region rfl (TL.q rfl .u (vj (k:=6) (r:=12) rfl rfl rfl xo xh (by decide) rfl) rfl (TL.q rfl .u (uN (us := [.pointer (some ⟨b1,5,none⟩),jI 4]) 1 rfl xI xh rfl rfl rfl) rfl (TL.alloc rfl .u Tryz.zeroValue128 rfl (fun b36=>(uO (cs':= #[.pointer (some ⟨b1,5,none⟩),jI 4]) rfl .u rfl rfl xh rfl rfl rfl rfl ?_))))))))))))))
   refine TL.nil (X.seq (uZ (.q 0 (.q 1 (.q 2 (.q 3 (.q 4 (.q 5 (.q 6 (.e 7 .nil)))))))) [0,0,0,0,0] Z aH (NoP.blk (NoP.seq (NoP.seq (NoP.blk aI)))) (by kernel_rfl) ?_))
   refine TD.run ae [0,1] Z Z (TD.q Z .u (uB 0 Z xJ Z Z) Z (TD.run ae [3] Z Z (TD.q Z .u (uB 4 Z xc Z Z) Z (TD.run ae [5] Z Z (TD.q Z .u (uB 0 Z xc Z Z) Z ?_)))))
   obtain⟨st37,hx38,h⟩:=wX h
   refine vT Z .u (.fn Tryz.call70 Z) (bY g st34 a1.wE 4 _ hx38) (fun _ hs=>(Src.triv _)) Z [0,0,0,0,0] (Z) (TD.nil (uQ (X.seq (T.region Z (TL.q Z .u (Ex.add Z Z (by omega)) Z (TL.run ae [1] Z Z (TL.nil (uW [0,1,1,1,1] Z (vy (TW.step (T.seq (T.region Z (TL.run ae [0] Z Z ?_)))))))))))))
   refine TL.nil (X.seq (T.seq (uF rfl (wY (show 7<13 by omega)) (T.skip (X.seq (T.seq (T.block (T.seq (T.region rfl (TL.q rfl .u (vj (k:=7) (r:=14) rfl rfl rfl xo xh (by decide) rfl) rfl (TL.q rfl .u (uN (us := [.pointer (some ⟨b1,6,none⟩),jI 8]) 1 rfl xI xh rfl rfl rfl) rfl (TL.alloc rfl .u Tryz.zeroValue128 rfl (fun b39=>(uO (cs':= #[.pointer (some ⟨b1,6,none⟩),jI 8]) rfl .u rfl rfl xh rfl rfl rfl rfl ?_))))))))))))))
   refine TL.nil (X.seq (uZ (.q 0 (.q 1 (.q 2 (.q 3 (.q 4 (.q 5 (.q 6 (.e 7 .nil)))))))) [0,0,0,0,0] Z aH (NoP.blk (NoP.seq (NoP.seq (NoP.blk aI)))) (by kernel_rfl) ?_))
   refine TD.run ae [0,1] Z Z (TD.q Z .u (uB 0 Z xJ Z Z) Z (TD.run ae [3] Z Z (TD.q Z .u (uB 4 Z xc Z Z) Z (TD.run ae [5] Z Z (TD.q Z .u (uB 0 Z xc Z Z) Z ?_)))))
   obtain⟨st40,hx41,h⟩:=wX h
   refine vT Z .u (.fn Tryz.call70 Z) (bY g st37 a1.wx 8 _ hx41) (fun _ hs=>(Src.triv _)) Z [0,0,0,0,0] (Z) (TD.nil (uQ (X.seq (T.region Z (TL.q Z .u (Ex.add Z Z (by omega)) Z (TL.run ae [1] Z Z (TL.nil (uW [0,1,1,1,1] Z (vy (TW.step (T.seq (T.region Z (TL.run ae [0] Z Z ?_)))))))))))))
   refine TL.nil (X.seq (T.seq (uF rfl (wY (show 8<13 by omega)) (T.skip (X.seq (T.seq (T.block (T.seq (T.region rfl (TL.q rfl .u (vj (k:=8) (r:=16) rfl rfl rfl xo xh (by decide) rfl) rfl (TL.q rfl .u (uN (us := [.pointer (some ⟨b1,7,none⟩),jI 8]) 1 rfl xI xh rfl rfl rfl) rfl (TL.alloc rfl .u Tryz.zeroValue128 rfl (fun b42=>(uO (cs':= #[.pointer (some ⟨b1,7,none⟩),jI 8]) rfl .u rfl rfl xh rfl rfl rfl rfl ?_))))))))))))))
   refine TL.nil (X.seq (uZ (.q 0 (.q 1 (.q 2 (.q 3 (.q 4 (.q 5 (.q 6 (.e 7 .nil)))))))) [0,0,0,0,0] Z aH (NoP.blk (NoP.seq (NoP.seq (NoP.blk aI)))) (by kernel_rfl) ?_))
   refine TD.run ae [0,1] Z Z (TD.q Z .u (uB 0 Z xJ Z Z) Z (TD.run ae [3] Z Z (TD.q Z .u (uB 4 Z xc Z Z) Z (TD.run ae [5] Z Z (TD.q Z .u (uB 0 Z xc Z Z) Z ?_)))))
   obtain⟨st43,hx44,h⟩:=wX h
   refine vT Z .u (.fn Tryz.call70 Z) (bY g st40 a1.wJ 8 _ hx44) (fun _ hs=>(Src.triv _)) Z [0,0,0,0,0] (Z) (TD.nil (uQ (X.seq (T.region Z (TL.q Z .u (Ex.add Z Z (by omega)) Z (TL.run ae [1] Z Z (TL.nil (uW [0,1,1,1,1] Z (vy (TW.step (T.seq (T.region Z (TL.run ae [0] Z Z ?_)))))))))))))
   refine TL.nil (X.seq (T.seq (uF rfl (wY (show 9<13 by omega)) (T.skip (X.seq (T.seq (T.block (T.seq (T.region rfl (TL.q rfl .u (vj (k:=9) (r:=18) rfl rfl rfl xo xh (by decide) rfl) rfl (TL.q rfl .u (uN (us := [.pointer (some ⟨b1,8,none⟩),jI 8]) 1 rfl xI xh rfl rfl rfl) rfl (TL.alloc rfl .u Tryz.zeroValue128 rfl (fun b45=>(uO (cs':= #[.pointer (some ⟨b1,8,none⟩),jI 8]) rfl .u rfl rfl xh rfl rfl rfl rfl ?_))))))))))))))
   refine TL.nil (X.seq (uZ (.q 0 (.q 1 (.q 2 (.q 3 (.q 4 (.q 5 (.q 6 (.e 7 .nil)))))))) [0,0,0,0,0] Z aH (NoP.blk (NoP.seq (NoP.seq (NoP.blk aI)))) (by kernel_rfl) ?_))
   refine TD.run ae [0,1] Z Z (TD.q Z .u (uB 0 Z xJ Z Z) Z (TD.run ae [3] Z Z (TD.q Z .u (uB 4 Z xc Z Z) Z (TD.run ae [5] Z Z (TD.q Z .u (uB 0 Z xc Z Z) Z ?_)))))
   obtain⟨st46,hx47,h⟩:=wX h
   refine vT Z .u (.fn Tryz.call70 Z) (bY g st43 a1.ww 8 _ hx47) (fun _ hs=>(Src.triv _)) Z [0,0,0,0,0] (Z) (TD.nil (uQ (X.seq (T.region Z (TL.q Z .u (Ex.add Z Z (by omega)) Z (TL.run ae [1] Z Z (TL.nil (uW [0,1,1,1,1] Z (vy (TW.step (T.seq (T.region Z (TL.run ae [0] Z Z ?_)))))))))))))
   refine TL.nil (X.seq (T.seq (uF rfl (wY (show 10<13 by omega)) (T.skip (X.seq (T.seq (T.block (T.seq (T.region rfl (TL.q rfl .u (vj (k:=10) (r:=20) rfl rfl rfl xo xh (by decide) rfl) rfl (TL.q rfl .u (uN (us := [.pointer (some ⟨b1,9,none⟩),jI 2]) 1 rfl xI xh rfl rfl rfl) rfl (TL.alloc rfl .u Tryz.zeroValue128 rfl (fun b48=>(uO (cs':= #[.pointer (some ⟨b1,9,none⟩),jI 2]) rfl .u rfl rfl xh rfl rfl rfl rfl ?_))))))))))))))
   refine TL.nil (X.seq (uZ (.q 0 (.q 1 (.q 2 (.q 3 (.q 4 (.q 5 (.q 6 (.e 7 .nil)))))))) [0,0,0,0,0] Z aH (NoP.blk (NoP.seq (NoP.seq (NoP.blk aI)))) (by kernel_rfl) ?_))
   refine TD.run ae [0,1] Z Z (TD.q Z .u (uB 0 Z xJ Z Z) Z (TD.run ae [3] Z Z (TD.q Z .u (uB 4 Z xc Z Z) Z (TD.run ae [5] Z Z (TD.q Z .u (uB 0 Z xc Z Z) Z ?_)))))
   obtain⟨st49,hx50,h⟩:=wX h
   refine vT Z .u (.fn Tryz.call70 Z) (bY g st46 a1.wA 2 _ hx50) (fun _ hs=>(Src.triv _)) Z [0,0,0,0,0] (Z) (TD.nil (uQ (X.seq (T.region Z (TL.q Z .u (Ex.add Z Z (by omega)) Z (TL.run ae [1] Z Z (TL.nil (uW [0,1,1,1,1] Z (vy (TW.step (T.seq (T.region Z (TL.run ae [0] Z Z ?_)))))))))))))
   refine TL.nil (X.seq (T.seq (uF rfl (wY (show 11<13 by omega)) (T.skip (X.seq (T.seq (T.block (T.seq (T.region rfl (TL.q rfl .u (vj (k:=11) (r:=22) rfl rfl rfl xo xh (by decide) rfl) rfl (TL.q rfl .u (uN (us := [.pointer (some ⟨b1,10,none⟩),jI 4]) 1 rfl xI xh rfl rfl rfl) rfl (TL.alloc rfl .u Tryz.zeroValue128 rfl (fun b51=>(uO (cs':= #[.pointer (some ⟨b1,10,none⟩),jI 4]) rfl .u rfl rfl xh rfl rfl rfl rfl ?_))))))))))))))
   refine TL.nil (X.seq (uZ (.q 0 (.q 1 (.q 2 (.q 3 (.q 4 (.q 5 (.q 6 (.e 7 .nil)))))))) [0,0,0,0,0] Z aH (NoP.blk (NoP.seq (NoP.seq (NoP.blk aI)))) (by kernel_rfl) ?_))
   refine TD.run ae [0,1] Z Z (TD.q Z .u (uB 0 Z xJ Z Z) Z (TD.run ae [3] Z Z (TD.q Z .u (uB 4 Z xc Z Z) Z (TD.run ae [5] Z Z (TD.q Z .u (uB 0 Z xc Z Z) Z ?_)))))
   obtain⟨st52,hx53,h⟩:=wX h
   refine vT Z .u (.fn Tryz.call70 Z) (bY g st49 a1.wv 4 _ hx53) (fun _ hs=>(Src.triv _)) Z [0,0,0,0,0] (Z) (TD.nil (uQ (X.seq (T.region Z (TL.q Z .u (Ex.add Z Z (by omega)) Z (TL.run ae [1] Z Z (TL.nil (uW [0,1,1,1,1] Z (vy (TW.step (T.seq (T.region Z (TL.run ae [0] Z Z ?_)))))))))))))
   refine TL.nil (X.seq (T.seq (uF rfl (wY (show 12<13 by omega)) (T.skip (X.seq (T.seq (T.block (T.seq (T.region rfl (TL.q rfl .u (vj (k:=12) (r:=24) rfl rfl rfl xo xh (by decide) rfl) rfl (TL.q rfl .u (uN (us := [.pointer (some ⟨b1,11,none⟩),jI 4]) 1 rfl xI xh rfl rfl rfl) rfl (TL.alloc rfl .u Tryz.zeroValue128 rfl (fun b54=>(uO (cs':= #[.pointer (some ⟨b1,11,none⟩),jI 4]) rfl .u rfl rfl xh rfl rfl rfl rfl ?_))))))))))))))
   refine TL.nil (X.seq (uZ (.q 0 (.q 1 (.q 2 (.q 3 (.q 4 (.q 5 (.q 6 (.e 7 .nil)))))))) [0,0,0,0,0] Z aH (NoP.blk (NoP.seq (NoP.seq (NoP.blk aI)))) (by kernel_rfl) ?_))
   refine TD.run ae [0,1] Z Z (TD.q Z .u (uB 0 Z xJ Z Z) Z (TD.run ae [3] Z Z (TD.q Z .u (uB 4 Z xc Z Z) Z (TD.run ae [5] Z Z (TD.q Z .u (uB 0 Z xc Z Z) Z ?_)))))
   obtain⟨st55,hx56,h⟩:=wX h
   refine vT Z .u (.fn Tryz.call70 Z) (bY g st52 a1.wR 4 _ hx56) (fun _ hs=>(Src.triv _)) Z [0,0,0,0,0] (Z) (TD.nil (uQ (X.seq (T.region Z (TL.q Z .u (Ex.add Z Z (by omega)) Z (TL.run ae [1] Z Z (TL.nil (uW [0,1,1,1,1] Z (vy (TW.step (T.seq (T.region Z (TL.run ae [0] Z Z ?_)))))))))))))
   refine TL.nil (X.seq (T.seq (uK rfl (wZ (show ¬ (13<13) by omega)) ?_)))
   obtain rfl:=xa h
   exact T.exit (uR (uR (vn (v9 [4] Tryz.results37 ⟨Z,Z,Z⟩ (by rfl) (.inr Z)))))
def sK:dU := [(43,0,0),(43,1,1),(43,2,2),(43,3,3),(43,4,4),(43,5,5),(43,6,6),(43,7,7),(43,8,8),(43,9,9),(43,10,10),(43,11,11),(69,0,0),(69,1,1),(89,0,0),(89,1,1),(89,2,2),(89,3,3),(89,4,4),(89,5,5),(89,6,6),(89,7,7),(89,8,8),(89,9,9),(89,10,10),(89,11,11)]
theorem ab:(sK).OK Tryz.prog:=⟨FOK.mk xr rfl xg rfl,FOK.mk xr rfl xg rfl,FOK.mk xr rfl yc rfl,FOK.mk xr rfl yc rfl,FOK.mk xr rfl yc rfl,FOK.mk xr rfl xg rfl,FOK.mk xr rfl xg rfl,FOK.mk xr rfl xg rfl,FOK.mk xr rfl xg rfl,FOK.mk xr rfl xg rfl,FOK.mk xr rfl xg rfl,FOK.mk xr rfl Tryz.sizeOf41 rfl,FOK.mk xz rfl xg rfl,FOK.mk xz rfl xg rfl,FOK.mk xu rfl xg rfl,FOK.mk xu rfl xg rfl,FOK.mk xu rfl xg rfl,FOK.mk xu rfl xg rfl,FOK.mk xu rfl xg rfl,FOK.mk xu rfl xg rfl,FOK.mk xu rfl xg rfl,FOK.mk xu rfl xg rfl,FOK.mk xu rfl xg rfl,FOK.mk xu rfl xg rfl,FOK.mk xu rfl xg rfl,FOK.mk xu rfl xg rfl,trivial⟩
theorem gx:Tryz.prog.follows .mixedOrders=true:=by kernel_rfl
theorem cR:BOK Tryz.prog 43 #[.int .i64 0,.int .i64 0,.bool false,.bool false,.bool false,.int .i64 0,.int .i64 0,.int .i64 0,.int .i64 0,.int .i64 0,.int .i64 0,.slice none 0 0] [(0,1),(1,1),(2,1),(3,1),(4,1),(5,1),(6,1),(7,1),(8,1),(9,1),(10,1),(11,1)]:=BOK.mk Tryz.zeroValue43 xr (by intro w; simp)
theorem nP:BOK Tryz.prog 84 #[.slice none 0 0,.int .i64 0] [(0,1),(1,1)]:=BOK.mk Tryz.zeroValue84 Tryz.runUnderlying84 (by intro w; simp)
theorem jQ:BOK Tryz.prog 89 #[.int .i64 0,.int .i64 0,.int .i64 0,.int .i64 0,.int .i64 0,.int .i64 0,.int .i64 0,.int .i64 0,.int .i64 0,.int .i64 0,.int .i64 0,.int .i64 0] [(0,1),(1,1),(2,1),(3,1),(4,1),(5,1),(6,1),(7,1),(8,1),(9,1),(10,1),(11,1)]:=BOK.mk Tryz.zeroValue89 xu (by intro w; simp)
theorem eG:SOK Tryz.prog 26 9 2 1 #[.string ⟨#[]⟩,.string ⟨#[]⟩]:=SOK.mk ye yb Tryz.zeroValue9 (by decide) (by kernel_rfl)
theorem l9:SOK Tryz.prog 41 69 1 7 #[.int .i64 0,.int .i64 0,.bool false,.string ⟨#[]⟩,.bool false,.string ⟨#[]⟩,.slice none 0 0]:=SOK.mk xn xk Tryz.zeroValue69 (by decide) (by kernel_rfl)
theorem nQ:(Tryz.prog.info? 69).map (fun i=>(i.zero,i.size,i.bytes))=some (some (.agg #[.int .i64 0,.int .i64 0,.bool false,.string ⟨#[]⟩,.bool false,.string ⟨#[]⟩,.slice none 0 0]),7,88):=by kernel_rfl
def dA (a0:Bat):Option (Bool):=if a0.wG≥0 then (if a0.wz≥(-1) then ((iY a0.wz 4).bind fun x6=>if x6=true then (if a0.wE≥0 then ((iY a0.wE 4).bind fun x10=>if x10=true then (if (IntKind.i64.wrap (a0.wG+a0.wE))≥0 then (if a0.wx≥0 then (if a0.wJ≥0 then some true else some false) else some false) else some false) else some false) else some false) else some false) else some false) else some false
theorem ir (a0:Bat) (A1:Option Addr) (c2:Nat) (r:Bool) (h:dA a0=some r):au Tryz.prog 61 #[.agg #[jI a0.wG,jI a0.wz,.bool a0.wH,.bool a0.wN,.bool a0.wF,jI a0.wE,jI a0.wx,jI a0.wJ,jI a0.ww,jI a0.wA,jI a0.wv,.slice A1 a0.ws.length c2]] (RX.of (aq 7 bf) [.slice A1 a0.ws.length c2] a0.ws) (aw) (fun v A' N=>v= .bool r∧A'=aw∧N = []):=by
 refine aF Tryz.func61 Z Tryz.ntmps61 Z ?_
 intro F w hX
 unfold dA at h
 refine T.seq (T.region Z (TL.box Z .u Z Z (fun b3=>(TL.run ab [1] Z Z (TL.nil (X.seq (T.seq (T.region Z (TL.run ab [0] Z Z (TL.q Z .u (uB 0 Z xc Z Z) Z ?_))))))))))
 rcases jF h with⟨c4,h⟩ | ⟨c4,h⟩
 ·refine TL.run ab [2,3] Z Z (TL.q Z (.g Z Z (wY c4)) (uI ab Z) Z (TL.q Z (.g Z Z (wY c4)) (uB 0 Z xc Z Z) Z (TL.q Z (.g Z Z (wY c4)) (uI ab Z) Z (TL.q Z .u (uJ Z (wY c4) Z) Z ?_))))
  rcases jF h with⟨c5,h⟩ | ⟨c5,h⟩
  ·refine TL.run ab [8] Z Z (TL.q Z (.g Z Z (wY c5)) (uI ab Z) Z (TL.q Z (.g Z Z (wY c5)) (uB 0 Z xc Z Z) Z ?_))
   obtain⟨x6,hx7,h⟩:=wX h
   refine uP Z (.g Z Z (wY c5)) (.fn Tryz.call85 Z) (vc (fun w=>ej a0.wz 4 _ hx7 w)) (fun _ _=>uE _ _) Z (TL.q Z .u (uJ Z (wY c5) Z) Z ?_)
   rcases jF h with⟨c8,h⟩ | ⟨c8,h⟩
   ·refine TL.run ab [13] Z Z (TL.q Z (.g Z Z c8) (uI ab Z) Z (TL.q Z (.g Z Z c8) (uB 0 Z xc Z Z) Z (TL.q Z (.g Z Z c8) (uI ab Z) Z (TL.q Z .u (uJ Z c8 Z) Z ?_))))
    rcases jF h with⟨c9,h⟩ | ⟨c9,h⟩
    ·refine TL.run ab [18] Z Z (TL.q Z (.g Z Z (wY c9)) (uI ab Z) Z (TL.q Z (.g Z Z (wY c9)) (uB 0 Z xc Z Z) Z ?_))
     obtain⟨x10,hx11,h⟩:=wX h
     refine uP Z (.g Z Z (wY c9)) (.fn Tryz.call85 Z) (vc (fun w=>ej a0.wE 4 _ hx11 w)) (fun _ _=>uE _ _) Z (TL.q Z .u (uJ Z (wY c9) Z) Z ?_)
     rcases jF h with⟨c12,h⟩ | ⟨c12,h⟩
     ·refine TL.run ab [23] Z Z (TL.q Z (.g Z Z c12) (uI ab Z) Z (TL.q Z (.g Z Z c12) (uB 0 Z xc Z Z) Z (TL.q Z (.g Z Z c12) (uI ab Z) Z (TL.q Z (.g Z Z c12) (uB 0 Z xc Z Z) Z (TL.q Z (.g Z Z c12) (Ex.addw Z Z) Z (TL.q Z (.g Z Z c12) (uI ab Z) Z (TL.q Z .u (uJ Z c12 Z) Z ?_)))))))
      rcases jF h with⟨c13,h⟩ | ⟨c13,h⟩
      ·refine TL.run ab [31] Z Z (TL.q Z (.g Z Z (wY c13)) (uI ab Z) Z (TL.q Z (.g Z Z (wY c13)) (uB 0 Z xc Z Z) Z (TL.q Z (.g Z Z (wY c13)) (uI ab Z) Z (TL.q Z .u (uJ Z (wY c13) Z) Z ?_))))
       rcases jF h with⟨c14,h⟩ | ⟨c14,h⟩
       ·refine TL.run ab [36] Z Z (TL.q Z (.g Z Z (wY c14)) (uI ab Z) Z (TL.q Z (.g Z Z (wY c14)) (uB 0 Z xc Z Z) Z (TL.q Z (.g Z Z (wY c14)) (uI ab Z) Z (TL.q Z .u (uJ Z (wY c14) Z) Z (TL.run ab [41] Z Z ?_)))))
        rcases jF h with⟨c15,h⟩ | ⟨c15,h⟩
        ·obtain rfl:=xa h
         exact TL.nil (X.seq (T.ret (uC [1] yv (uD (v:= .bool true) (congrArg (fun b=>some (Value.bool b)) (wY c15))) ⟨Z,Z,Z⟩ (by rfl) (.inl Z))))
        ·obtain rfl:=xa h
         exact TL.nil (X.seq (T.ret (uC [1] yv (uD (v:= .bool false) (congrArg (fun b=>some (Value.bool b)) (wZ c15))) ⟨Z,Z,Z⟩ (by rfl) (.inl Z))))
       ·refine TL.run ab [36] Z Z ?_
        iterate 3 refine uG Z (.gn Z Z (wZ c14)) Z ?_
        refine TL.q Z .u (uL Z (wZ c14) Z) Z (TL.run ab [41] Z Z ?_)
        obtain rfl:=xa h
        exact TL.nil (X.seq (T.ret (uC [1] yv (uD Z) ⟨Z,Z,Z⟩ (by rfl) (.inl Z))))
      ·refine TL.run ab [31] Z Z ?_
       iterate 3 refine uG Z (.gn Z Z (wZ c13)) Z ?_
       refine TL.q Z .u (uL Z (wZ c13) Z) Z (TL.run ab [36] Z Z ?_)
       iterate 3 refine uG Z (.gn Z Z Z) Z ?_
       refine TL.q Z .u (uL Z Z Z) Z (TL.run ab [41] Z Z ?_)
       obtain rfl:=xa h
       exact TL.nil (X.seq (T.ret (uC [1] yv (uD Z) ⟨Z,Z,Z⟩ (by rfl) (.inl Z))))
     ·replace c12:=xi c12
      refine TL.run ab [23] Z Z ?_
      iterate 6 refine uG Z (.gn Z Z c12) Z ?_
      refine TL.q Z .u (uL Z c12 Z) Z (TL.run ab [31] Z Z ?_)
      iterate 3 refine uG Z (.gn Z Z Z) Z ?_
      refine TL.q Z .u (uL Z Z Z) Z (TL.run ab [36] Z Z ?_)
      iterate 3 refine uG Z (.gn Z Z Z) Z ?_
      refine TL.q Z .u (uL Z Z Z) Z (TL.run ab [41] Z Z ?_)
      obtain rfl:=xa h
      exact TL.nil (X.seq (T.ret (uC [1] yv (uD Z) ⟨Z,Z,Z⟩ (by rfl) (.inl Z))))
    ·refine TL.run ab [18] Z Z ?_
     iterate 3 refine uG Z (.gn Z Z (wZ c9)) Z ?_
     refine TL.q Z .u (uL Z (wZ c9) Z) Z (TL.run ab [23] Z Z ?_)
     iterate 6 refine uG Z (.gn Z Z Z) Z ?_
     refine TL.q Z .u (uL Z Z Z) Z (TL.run ab [31] Z Z ?_)
     iterate 3 refine uG Z (.gn Z Z Z) Z ?_
     refine TL.q Z .u (uL Z Z Z) Z (TL.run ab [36] Z Z ?_)
     iterate 3 refine uG Z (.gn Z Z Z) Z ?_
     refine TL.q Z .u (uL Z Z Z) Z (TL.run ab [41] Z Z ?_)
     obtain rfl:=xa h
     exact TL.nil (X.seq (T.ret (uC [1] yv (uD Z) ⟨Z,Z,Z⟩ (by rfl) (.inl Z))))
   ·replace c8:=xi c8
    refine TL.run ab [13] Z Z ?_
    iterate 3 refine uG Z (.gn Z Z c8) Z ?_
    refine TL.q Z .u (uL Z c8 Z) Z (TL.run ab [18] Z Z ?_)
    iterate 3 refine uG Z (.gn Z Z Z) Z ?_
    refine TL.q Z .u (uL Z Z Z) Z (TL.run ab [23] Z Z ?_)
    iterate 6 refine uG Z (.gn Z Z Z) Z ?_
    refine TL.q Z .u (uL Z Z Z) Z (TL.run ab [31] Z Z ?_)
    iterate 3 refine uG Z (.gn Z Z Z) Z ?_
    refine TL.q Z .u (uL Z Z Z) Z (TL.run ab [36] Z Z ?_)
    iterate 3 refine uG Z (.gn Z Z Z) Z ?_
    refine TL.q Z .u (uL Z Z Z) Z (TL.run ab [41] Z Z ?_)
    obtain rfl:=xa h
    exact TL.nil (X.seq (T.ret (uC [1] yv (uD Z) ⟨Z,Z,Z⟩ (by rfl) (.inl Z))))
  ·refine TL.run ab [8] Z Z ?_
   iterate 3 refine uG Z (.gn Z Z (wZ c5)) Z ?_
   refine TL.q Z .u (uL Z (wZ c5) Z) Z (TL.run ab [13] Z Z ?_)
   iterate 3 refine uG Z (.gn Z Z Z) Z ?_
   refine TL.q Z .u (uL Z Z Z) Z (TL.run ab [18] Z Z ?_)
   iterate 3 refine uG Z (.gn Z Z Z) Z ?_
   refine TL.q Z .u (uL Z Z Z) Z (TL.run ab [23] Z Z ?_)
   iterate 6 refine uG Z (.gn Z Z Z) Z ?_
   refine TL.q Z .u (uL Z Z Z) Z (TL.run ab [31] Z Z ?_)
   iterate 3 refine uG Z (.gn Z Z Z) Z ?_
   refine TL.q Z .u (uL Z Z Z) Z (TL.run ab [36] Z Z ?_)
   iterate 3 refine uG Z (.gn Z Z Z) Z ?_
   refine TL.q Z .u (uL Z Z Z) Z (TL.run ab [41] Z Z ?_)
   obtain rfl:=xa h
   exact TL.nil (X.seq (T.ret (uC [1] yv (uD Z) ⟨Z,Z,Z⟩ (by rfl) (.inl Z))))
 ·refine TL.run ab [2,3] Z Z ?_
  iterate 3 refine uG Z (.gn Z Z (wZ c4)) Z ?_
  refine TL.q Z .u (uL Z (wZ c4) Z) Z (TL.run ab [8] Z Z ?_)
  iterate 3 refine uG Z (.gn Z Z Z) Z ?_
  refine TL.q Z .u (uL Z Z Z) Z (TL.run ab [13] Z Z ?_)
  iterate 3 refine uG Z (.gn Z Z Z) Z ?_
  refine TL.q Z .u (uL Z Z Z) Z (TL.run ab [18] Z Z ?_)
  iterate 3 refine uG Z (.gn Z Z Z) Z ?_
  refine TL.q Z .u (uL Z Z Z) Z (TL.run ab [23] Z Z ?_)
  iterate 6 refine uG Z (.gn Z Z Z) Z ?_
  refine TL.q Z .u (uL Z Z Z) Z (TL.run ab [31] Z Z ?_)
  iterate 3 refine uG Z (.gn Z Z Z) Z ?_
  refine TL.q Z .u (uL Z Z Z) Z (TL.run ab [36] Z Z ?_)
  iterate 3 refine uG Z (.gn Z Z Z) Z ?_
  refine TL.q Z .u (uL Z Z Z) Z (TL.run ab [41] Z Z ?_)
  obtain rfl:=xa h
  exact TL.nil (X.seq (T.ret (uC [1] yv (uD Z) ⟨Z,Z,Z⟩ (by rfl) (.inl Z))))
def cD (a0:Bat):Option (Bool):=if a0.ww=(-1) then (if a0.wA=(-1) then (if a0.wv=(-1) then (if a0.wN=true then some false else some true) else some false) else some false) else (if a0.wF=true then (if a0.ww≥0 then (if a0.wA≥0 then ((iY a0.wA 2).bind fun x11=>if x11=true then (if a0.wv≥(-1) then ((iY a0.wv 4).bind fun x15=>if x15=true then (if a0.wv=(-1) then some true else some false) else some false) else some false) else some false) else some false) else some false) else (if a0.ww≥0 then (if a0.wA≥0 then ((iY a0.wA 2).bind fun x21=>if x21=true then (if a0.wv≥0 then ((iY a0.wv 4).bind fun x25=>if x25=true then some true else some false) else some false) else some false) else some false) else some false))
theorem eN (a0:Bat) (A1:Option Addr) (c2:Nat) (r:Bool) (h:cD a0=some r):au Tryz.prog 62 #[.agg #[jI a0.wG,jI a0.wz,.bool a0.wH,.bool a0.wN,.bool a0.wF,jI a0.wE,jI a0.wx,jI a0.wJ,jI a0.ww,jI a0.wA,jI a0.wv,.slice A1 a0.ws.length c2]] (RX.of (aq 7 bf) [.slice A1 a0.ws.length c2] a0.ws) (aw) (fun v A' N=>v= .bool r∧A'=aw∧N = []):=by
 refine aF Tryz.func62 Z Tryz.ntmps62 Z ?_
 intro F w hX
 unfold cD at h
 refine T.seq (T.region Z (TL.box Z .u Z Z (fun b3=>(TL.run ab [1] Z Z (TL.nil (X.seq (T.seq (T.seq (T.region Z (TL.run ab [0] Z Z (TL.q Z .u (uB 0 Z xc Z Z) Z (TL.run ab [2] Z Z ?_))))))))))))
 rcases jF h with⟨c4,h⟩ | ⟨c4,h⟩
 ·refine TL.nil (X.seq (uF Z (wY c4) (T.seq (T.region Z (TL.run ab [0] Z Z (TL.q Z .u (uB 0 Z xc Z Z) Z ?_))))))
  rcases jF h with⟨c5,h⟩ | ⟨c5,h⟩
  ·refine TL.run ab [2,3] Z Z (TL.q Z (.g Z Z (wY c5)) (uI ab Z) Z (TL.q Z (.g Z Z (wY c5)) (uB 0 Z xc Z Z) Z (TL.q Z (.g Z Z (wY c5)) (uI ab Z) Z (TL.q Z .u (uJ Z (wY c5) Z) Z ?_))))
   rcases jF h with⟨c6,h⟩ | ⟨c6,h⟩
   ·refine TL.run ab [8] Z Z (TL.q Z (.g Z Z (wY c6)) (uI ab Z) Z (TL.q Z (.g Z Z (wY c6)) (uB 0 Z xE Z Z) Z (TL.q Z (.g Z Z (wY c6)) (uI ab Z) Z (TL.q Z .u (uJ Z (wY c6) Z) Z (TL.run ab [13] Z Z ?_)))))
    rcases jF h with⟨c7,h⟩ | ⟨c7,h⟩
    ·obtain rfl:=xa h
     exact TL.nil (X.seq (T.ret (uH (uC [1] xS (uD (v:= .bool false) (congrArg (fun b=>some (Value.bool b)) (av c7))) ⟨Z,Z,Z⟩ (by rfl) (.inl Z)))))
    ·replace c7:=xi c7
     obtain rfl:=xa h
     exact TL.nil (X.seq (T.ret (uH (uC [1] xS (uD (v:= .bool true) (congrArg (fun b=>some (Value.bool b)) (aA c7))) ⟨Z,Z,Z⟩ (by rfl) (.inl Z)))))
   ·refine TL.run ab [8] Z Z ?_
    iterate 3 refine uG Z (.gn Z Z (wZ c6)) Z ?_
    refine TL.q Z .u (uL Z (wZ c6) Z) Z (TL.run ab [13] Z Z ?_)
    obtain rfl:=xa h
    exact TL.nil (X.seq (T.ret (uH (uC [1] xS (uD Z) ⟨Z,Z,Z⟩ (by rfl) (.inl Z)))))
  ·refine TL.run ab [2,3] Z Z ?_
   iterate 3 refine uG Z (.gn Z Z (wZ c5)) Z ?_
   refine TL.q Z .u (uL Z (wZ c5) Z) Z (TL.run ab [8] Z Z ?_)
   iterate 3 refine uG Z (.gn Z Z Z) Z ?_
   refine TL.q Z .u (uL Z Z Z) Z (TL.run ab [13] Z Z ?_)
   obtain rfl:=xa h
   exact TL.nil (X.seq (T.ret (uH (uC [1] xS (uD Z) ⟨Z,Z,Z⟩ (by rfl) (.inl Z)))))
 ·refine TL.nil (X.seq (uK Z (wZ c4) (T.skip (X.seq (T.seq (T.region Z (TL.run ab [0] Z Z (TL.nil (X.seq (T.seq (T.seq (T.region Z (TL.run ab [0] Z Z (TL.q Z .u (uB 0 Z xE Z Z) Z ?_))))))))))))))
  rcases jF h with⟨c8,h⟩ | ⟨c8,h⟩
  ·refine TL.nil (X.seq (uF Z c8 (T.region Z (TL.run ab [0] Z Z (TL.nil (X.seq (T.seq (T.region Z (TL.run ab [0] Z Z (TL.q Z .u (uB 0 Z xc Z Z) Z ?_))))))))))
   rcases jF h with⟨c9,h⟩ | ⟨c9,h⟩
   ·refine TL.run ab [2,3] Z Z (TL.q Z (.g Z Z (wY c9)) (uI ab Z) Z (TL.q Z (.g Z Z (wY c9)) (uB 0 Z xc Z Z) Z (TL.q Z (.g Z Z (wY c9)) (uI ab Z) Z (TL.q Z .u (uJ Z (wY c9) Z) Z ?_))))
    rcases jF h with⟨c10,h⟩ | ⟨c10,h⟩
    ·refine TL.run ab [8] Z Z (TL.q Z (.g Z Z (wY c10)) (uI ab Z) Z (TL.q Z (.g Z Z (wY c10)) (uB 0 Z xc Z Z) Z ?_))
     obtain⟨x11,hx12,h⟩:=wX h
     refine uP Z (.g Z Z (wY c10)) (.fn Tryz.call85 Z) (vc (fun w=>ej a0.wA 2 _ hx12 w)) (fun _ _=>uE _ _) Z (TL.q Z .u (uJ Z (wY c10) Z) Z ?_)
     rcases jF h with⟨c13,h⟩ | ⟨c13,h⟩
     ·refine TL.run ab [13] Z Z (TL.q Z (.g Z Z c13) (uI ab Z) Z (TL.q Z (.g Z Z c13) (uB 0 Z xc Z Z) Z ?_))
      iterate 2 refine TL.q Z (.g Z Z c13) (uI ab Z) Z ?_
      refine TL.q Z .u (uJ Z c13 Z) Z ?_
      rcases jF h with⟨c14,h⟩ | ⟨c14,h⟩
      ·refine TL.run ab [19] Z Z (TL.q Z (.g Z Z (wY c14)) (uI ab Z) Z (TL.q Z (.g Z Z (wY c14)) (uB 0 Z xc Z Z) Z ?_))
       obtain⟨x15,hx16,h⟩:=wX h
       refine uP Z (.g Z Z (wY c14)) (.fn Tryz.call85 Z) (vc (fun w=>ej a0.wv 4 _ hx16 w)) (fun _ _=>uE _ _) Z (TL.q Z .u (uJ Z (wY c14) Z) Z ?_)
       rcases jF h with⟨c17,h⟩ | ⟨c17,h⟩
       ·refine TL.run ab [24] Z Z (TL.q Z (.g Z Z c17) (uI ab Z) Z (TL.q Z (.g Z Z c17) (uB 0 Z xE Z Z) Z ?_))
        iterate 2 refine TL.q Z (.g Z Z c17) (uI ab Z) Z ?_
        refine TL.q Z (.g Z Z (av c8)) (uI ab Z) Z (TL.q Z (.g Z Z (av c8)) (uB 0 Z xc Z Z) Z (TL.q Z (.g Z Z (av c8)) (uI ab Z) Z (TL.q Z (.g Z Z c17) (uL Z (av c8) Z) Z (TL.q Z .u (uJ Z c17 Z) Z (TL.run ab [34] Z Z ?_)))))
        rcases jF h with⟨c18,h⟩ | ⟨c18,h⟩
        ·obtain rfl:=xa h
         exact TL.nil (X.seq (T.ret (uC [1] xS (uD (v:= .bool true) (congrArg (fun b=>some (Value.bool b)) (wY c18))) ⟨Z,Z,Z⟩ (by rfl) (.inl Z))))
        ·obtain rfl:=xa h
         exact TL.nil (X.seq (T.ret (uC [1] xS (uD (v:= .bool false) (congrArg (fun b=>some (Value.bool b)) (wZ c18))) ⟨Z,Z,Z⟩ (by rfl) (.inl Z))))
       ·replace c17:=xi c17
        refine TL.run ab [24] Z Z ?_
        iterate 4 refine uG Z (.gn Z Z c17) Z ?_
        iterate 3 refine uG Z (.gu Z Z) Z ?_
        refine uG Z (.gn Z Z c17) Z (TL.q Z .u (uL Z c17 Z) Z (TL.run ab [34] Z Z ?_))
        obtain rfl:=xa h
        exact TL.nil (X.seq (T.ret (uC [1] xS (uD Z) ⟨Z,Z,Z⟩ (by rfl) (.inl Z))))
      ·refine TL.run ab [19] Z Z ?_
       iterate 3 refine uG Z (.gn Z Z (wZ c14)) Z ?_
       refine TL.q Z .u (uL Z (wZ c14) Z) Z (TL.run ab [24] Z Z ?_)
       iterate 4 refine uG Z (.gn Z Z Z) Z ?_
       iterate 3 refine uG Z (.gu Z Z) Z ?_
       refine uG Z (.gn Z Z Z) Z (TL.q Z .u (uL Z Z Z) Z (TL.run ab [34] Z Z ?_))
       obtain rfl:=xa h
       exact TL.nil (X.seq (T.ret (uC [1] xS (uD Z) ⟨Z,Z,Z⟩ (by rfl) (.inl Z))))
     ·replace c13:=xi c13
      refine TL.run ab [13] Z Z ?_
      iterate 4 refine uG Z (.gn Z Z c13) Z ?_
      refine TL.q Z .u (uL Z c13 Z) Z (TL.run ab [19] Z Z ?_)
      iterate 3 refine uG Z (.gn Z Z Z) Z ?_
      refine TL.q Z .u (uL Z Z Z) Z (TL.run ab [24] Z Z ?_)
      iterate 4 refine uG Z (.gn Z Z Z) Z ?_
      iterate 3 refine uG Z (.gu Z Z) Z ?_
      refine uG Z (.gn Z Z Z) Z (TL.q Z .u (uL Z Z Z) Z (TL.run ab [34] Z Z ?_))
      obtain rfl:=xa h
      exact TL.nil (X.seq (T.ret (uC [1] xS (uD Z) ⟨Z,Z,Z⟩ (by rfl) (.inl Z))))
    ·refine TL.run ab [8] Z Z ?_
     iterate 3 refine uG Z (.gn Z Z (wZ c10)) Z ?_
     refine TL.q Z .u (uL Z (wZ c10) Z) Z (TL.run ab [13] Z Z ?_)
     iterate 4 refine uG Z (.gn Z Z Z) Z ?_
     refine TL.q Z .u (uL Z Z Z) Z (TL.run ab [19] Z Z ?_)
     iterate 3 refine uG Z (.gn Z Z Z) Z ?_
     refine TL.q Z .u (uL Z Z Z) Z (TL.run ab [24] Z Z ?_)
     iterate 4 refine uG Z (.gn Z Z Z) Z ?_
     iterate 3 refine uG Z (.gu Z Z) Z ?_
     refine uG Z (.gn Z Z Z) Z (TL.q Z .u (uL Z Z Z) Z (TL.run ab [34] Z Z ?_))
     obtain rfl:=xa h
     exact TL.nil (X.seq (T.ret (uC [1] xS (uD Z) ⟨Z,Z,Z⟩ (by rfl) (.inl Z))))
   ·refine TL.run ab [2,3] Z Z ?_
    iterate 3 refine uG Z (.gn Z Z (wZ c9)) Z ?_
    refine TL.q Z .u (uL Z (wZ c9) Z) Z (TL.run ab [8] Z Z ?_)
    iterate 3 refine uG Z (.gn Z Z Z) Z ?_
    refine TL.q Z .u (uL Z Z Z) Z (TL.run ab [13] Z Z ?_)
    iterate 4 refine uG Z (.gn Z Z Z) Z ?_
    refine TL.q Z .u (uL Z Z Z) Z (TL.run ab [19] Z Z ?_)
    iterate 3 refine uG Z (.gn Z Z Z) Z ?_
    refine TL.q Z .u (uL Z Z Z) Z (TL.run ab [24] Z Z ?_)
    iterate 4 refine uG Z (.gn Z Z Z) Z ?_
    iterate 3 refine uG Z (.gu Z Z) Z ?_
    refine uG Z (.gn Z Z Z) Z (TL.q Z .u (uL Z Z Z) Z (TL.run ab [34] Z Z ?_))
    obtain rfl:=xa h
    exact TL.nil (X.seq (T.ret (uC [1] xS (uD Z) ⟨Z,Z,Z⟩ (by rfl) (.inl Z))))
  ·replace c8:=xi c8
   refine TL.nil (X.seq (uK Z c8 (T.skip (X.seq (T.seq (T.region Z (TL.run ab [0] Z Z (TL.q Z .u (uB 0 Z xc Z Z) Z ?_))))))))
   rcases jF h with⟨c19,h⟩ | ⟨c19,h⟩
   ·refine TL.run ab [2,3] Z Z (TL.q Z (.g Z Z (wY c19)) (uI ab Z) Z (TL.q Z (.g Z Z (wY c19)) (uB 0 Z xc Z Z) Z (TL.q Z (.g Z Z (wY c19)) (uI ab Z) Z (TL.q Z .u (uJ Z (wY c19) Z) Z ?_))))
    rcases jF h with⟨c20,h⟩ | ⟨c20,h⟩
    ·refine TL.run ab [8] Z Z (TL.q Z (.g Z Z (wY c20)) (uI ab Z) Z (TL.q Z (.g Z Z (wY c20)) (uB 0 Z xc Z Z) Z ?_))
     obtain⟨x21,hx22,h⟩:=wX h
     refine uP Z (.g Z Z (wY c20)) (.fn Tryz.call85 Z) (vc (fun w=>ej a0.wA 2 _ hx22 w)) (fun _ _=>uE _ _) Z (TL.q Z .u (uJ Z (wY c20) Z) Z ?_)
     rcases jF h with⟨c23,h⟩ | ⟨c23,h⟩
     ·refine TL.run ab [13] Z Z (TL.q Z (.g Z Z c23) (uI ab Z) Z (TL.q Z (.g Z Z c23) (uB 0 Z xc Z Z) Z ?_))
      iterate 2 refine TL.q Z (.g Z Z c23) (uI ab Z) Z ?_
      refine TL.q Z .u (uJ Z c23 Z) Z ?_
      rcases jF h with⟨c24,h⟩ | ⟨c24,h⟩
      ·refine TL.run ab [19] Z Z (TL.q Z (.g Z Z (wY c24)) (uI ab Z) Z (TL.q Z (.g Z Z (wY c24)) (uB 0 Z xc Z Z) Z ?_))
       obtain⟨x25,hx26,h⟩:=wX h
       refine uP Z (.g Z Z (wY c24)) (.fn Tryz.call85 Z) (vc (fun w=>ej a0.wv 4 _ hx26 w)) (fun _ _=>uE _ _) Z (TL.q Z .u (uJ Z (wY c24) Z) Z ?_)
       rcases jF h with⟨c27,h⟩ | ⟨c27,h⟩
       ·refine TL.run ab [24] Z Z (TL.q Z (.g Z Z c27) (uI ab Z) Z (TL.q Z (.g Z Z c27) (uB 0 Z xE Z Z) Z ?_))
        iterate 2 refine TL.q Z (.g Z Z c27) (uI ab Z) Z ?_
        iterate 3 refine uG Z (.gn Z Z (aA c8)) Z ?_
        refine TL.q Z (.g Z Z c27) (uJ Z (aA c8) Z) Z (TL.q Z .u (uJ Z c27 Z) Z (TL.run ab [34] Z Z ?_))
        obtain rfl:=xa h
        exact TL.nil (X.seq (T.ret (uC [1] xS (uD Z) ⟨Z,Z,Z⟩ (by rfl) (.inl Z))))
       ·replace c27:=xi c27
        refine TL.run ab [24] Z Z ?_
        iterate 4 refine uG Z (.gn Z Z c27) Z ?_
        iterate 3 refine uG Z (.gu Z Z) Z ?_
        refine uG Z (.gn Z Z c27) Z (TL.q Z .u (uL Z c27 Z) Z (TL.run ab [34] Z Z ?_))
        obtain rfl:=xa h
        exact TL.nil (X.seq (T.ret (uC [1] xS (uD Z) ⟨Z,Z,Z⟩ (by rfl) (.inl Z))))
      ·refine TL.run ab [19] Z Z ?_
       iterate 3 refine uG Z (.gn Z Z (wZ c24)) Z ?_
       refine TL.q Z .u (uL Z (wZ c24) Z) Z (TL.run ab [24] Z Z ?_)
       iterate 4 refine uG Z (.gn Z Z Z) Z ?_
       iterate 3 refine uG Z (.gu Z Z) Z ?_
       refine uG Z (.gn Z Z Z) Z (TL.q Z .u (uL Z Z Z) Z (TL.run ab [34] Z Z ?_))
       obtain rfl:=xa h
       exact TL.nil (X.seq (T.ret (uC [1] xS (uD Z) ⟨Z,Z,Z⟩ (by rfl) (.inl Z))))
     ·replace c23:=xi c23
      refine TL.run ab [13] Z Z ?_
      iterate 4 refine uG Z (.gn Z Z c23) Z ?_
      refine TL.q Z .u (uL Z c23 Z) Z (TL.run ab [19] Z Z ?_)
      iterate 3 refine uG Z (.gn Z Z Z) Z ?_
      refine TL.q Z .u (uL Z Z Z) Z (TL.run ab [24] Z Z ?_)
      iterate 4 refine uG Z (.gn Z Z Z) Z ?_
      iterate 3 refine uG Z (.gu Z Z) Z ?_
      refine uG Z (.gn Z Z Z) Z (TL.q Z .u (uL Z Z Z) Z (TL.run ab [34] Z Z ?_))
      obtain rfl:=xa h
      exact TL.nil (X.seq (T.ret (uC [1] xS (uD Z) ⟨Z,Z,Z⟩ (by rfl) (.inl Z))))
    ·refine TL.run ab [8] Z Z ?_
     iterate 3 refine uG Z (.gn Z Z (wZ c20)) Z ?_
     refine TL.q Z .u (uL Z (wZ c20) Z) Z (TL.run ab [13] Z Z ?_)
     iterate 4 refine uG Z (.gn Z Z Z) Z ?_
     refine TL.q Z .u (uL Z Z Z) Z (TL.run ab [19] Z Z ?_)
     iterate 3 refine uG Z (.gn Z Z Z) Z ?_
     refine TL.q Z .u (uL Z Z Z) Z (TL.run ab [24] Z Z ?_)
     iterate 4 refine uG Z (.gn Z Z Z) Z ?_
     iterate 3 refine uG Z (.gu Z Z) Z ?_
     refine uG Z (.gn Z Z Z) Z (TL.q Z .u (uL Z Z Z) Z (TL.run ab [34] Z Z ?_))
     obtain rfl:=xa h
     exact TL.nil (X.seq (T.ret (uC [1] xS (uD Z) ⟨Z,Z,Z⟩ (by rfl) (.inl Z))))
   ·refine TL.run ab [2,3] Z Z ?_
    iterate 3 refine uG Z (.gn Z Z (wZ c19)) Z ?_
    refine TL.q Z .u (uL Z (wZ c19) Z) Z (TL.run ab [8] Z Z ?_)
    iterate 3 refine uG Z (.gn Z Z Z) Z ?_
    refine TL.q Z .u (uL Z Z Z) Z (TL.run ab [13] Z Z ?_)
    iterate 4 refine uG Z (.gn Z Z Z) Z ?_
    refine TL.q Z .u (uL Z Z Z) Z (TL.run ab [19] Z Z ?_)
    iterate 3 refine uG Z (.gn Z Z Z) Z ?_
    refine TL.q Z .u (uL Z Z Z) Z (TL.run ab [24] Z Z ?_)
    iterate 4 refine uG Z (.gn Z Z Z) Z ?_
    iterate 3 refine uG Z (.gu Z Z) Z ?_
    refine uG Z (.gn Z Z Z) Z (TL.q Z .u (uL Z Z Z) Z (TL.run ab [34] Z Z ?_))
    obtain rfl:=xa h
    exact TL.nil (X.seq (T.ret (uC [1] xS (uD Z) ⟨Z,Z,Z⟩ (by rfl) (.inl Z))))
def aM (a0:Bat):List Rec→Int→Int→Int→Option (Lp Int (Int×Int×Int))
 | [],y4,y5,y6=>some (Lp.go (y4,y5,y6))
 | x12::xs,y4,y5,y6=>if x12.wD≤y5 then some (Lp.ret 13) else (if x12.wD>a0.wE then some (Lp.ret 13) else (if (IntKind.i64.wrap (a0.wx+x12.wK))<0 then some (Lp.ret 11) else (if x12.wK>0 then (if (IntKind.i64.wrap (a0.wx+x12.wK))<x12.wK then some (Lp.ret 11) else (if y6<(IntKind.i64.wrap (a0.wx+x12.wK)) then (aM a0 xs y4 x12.wD (IntKind.i64.wrap (a0.wx+x12.wK))) else (aM a0 xs y4 x12.wD y6))) else (if y6<(IntKind.i64.wrap (a0.wx+x12.wK)) then (aM a0 xs y4 x12.wD (IntKind.i64.wrap (a0.wx+x12.wK))) else (aM a0 xs y4 x12.wD y6)))))
def bz (a0:Bat):Option (Int):=(aM a0 a0.ws 0 (-1) a0.wx).bind fun e=>match e with | .ret r=>some r | .go (y27,y28,y29)=>(if a0.wH=true then some 0 else (if y29=a0.wJ then some 0 else some 11))
theorem e8 (a0:Bat) (A1:Option Addr) (c2:Nat) (r:Int) (h:bz a0=some r):au Tryz.prog 65 #[.agg #[jI a0.wG,jI a0.wz,.bool a0.wH,.bool a0.wN,.bool a0.wF,jI a0.wE,jI a0.wx,jI a0.wJ,jI a0.ww,jI a0.wA,jI a0.wv,.slice A1 a0.ws.length c2]] (RX.of (aq 7 bf) [.slice A1 a0.ws.length c2] a0.ws) (aw) (fun v A' N=>v=jI r∧A'=aw∧N = []):=by
 refine aF Tryz.func65 Z Tryz.ntmps65 Z ?_
 intro F w hX
 unfold bz at h
 refine T.seq (T.region Z (TL.box Z .u Z Z (fun b3=>(TL.run ab [1] Z Z ?_))))
 refine TL.nil (X.seq (T.seq (uZ (.q 0 (.q 1 (.q 2 (.q 3 .nil)))) [0,0] Z gx (NoP.seq aI) (by kernel_rfl) ?_)))
 refine TD.run ab [0] Z Z (TD.q Z .u (uB 0 Z xc Z Z) Z (TD.run ab [2,3] Z Z (TD.nil (X.seq (T.seq (T.seq (T.region Z (TL.run ab [0] Z Z (TL.q Z .u (uB 0 Z xL Z Z) Z (TL.q Z .u (uY Z xn) Z (TL.run ab [3] Z Z ?_)))))))))))
 refine TL.nil (X.seq (T.block ?_))
 obtain⟨E8,hE9,hO10⟩:=wX h
 have hk14len:=vz hX
 refine vo (fun m e Rs=> ∃ (y4:Int) (y5:Int) (y6:Int) (k7:Nat),k7+m=a0.ws.length∧e = [(1,jP b3),(2,jI y4),(3,jI y5),(4,jI y6),(11,.slice A1 a0.ws.length c2),(12,jI (a0.ws.length:Int)),(13,jI (k7:Int))]∧Rs = [aD b3 43 #[jI a0.wG,jI a0.wz,.bool a0.wH,.bool a0.wN,.bool a0.wF,jI a0.wE,jI a0.wx,jI a0.wJ,jI a0.ww,jI a0.wA,jI a0.wv,.slice A1 a0.ws.length c2],aw]∧aM a0 (a0.ws.drop k7) y4 y5 y6=some E8) (a0.ws.length) [0,0] ⟨0,(-1),a0.wx,0,by simp,Z,Z,by rw[List.drop_zero]; exact hE9⟩ (by rfl) (by rfl) ?_
 rintro m11 _ _ ⟨y4,y5,y6,k7,hk14,rfl,rfl,hl13⟩
 clear hE9 h
 cases m11 with
 | zero =>
  have h:=hl13
  clear hl13
  rw[List.drop_of_length_le (by omega),aM] at h
  have hk14ge: ¬ ((k7:Int)<(a0.ws.length:Int)):=by omega
  refine T.seq (T.region Z (TL.run ab [0] Z Z (TL.nil (X.seq (T.seq (uK Z (wZ hk14ge) ?_))))))
  obtain rfl:=xa h
  replace h:=hO10
  clear hO10
  try dsimp only at h
  refine T.exit (uR (uR (vn (X.seq (T.seq (T.seq (T.region Z (TL.run ab [0] Z Z (TL.q Z .u (uB 0 Z xE Z Z) Z ?_)))))))))
  rcases jF h with⟨c33,h⟩ | ⟨c33,h⟩
  ·refine TL.run ab [2,3] Z Z ?_
   iterate 4 refine uG Z (.gn Z Z (av c33)) Z ?_
   refine TL.q Z .u (uL Z (av c33) Z) Z (TL.nil (X.seq (uK Z Z (T.skip (X.seq (T.seq (T.region Z (TL.run ab [0] Z Z ?_))))))))
   obtain rfl:=xa h
   exact TL.nil (X.seq (T.ret (uC [1] yE (uD Z) ⟨Z,Z,Z⟩ (by rfl) (.inl Z))))
  ·replace c33:=xi c33
   refine TL.run ab [2,3] Z Z ?_
   iterate 2 refine TL.q Z (.g Z Z (aA c33)) (uI ab Z) Z ?_
   refine TL.q Z (.g Z Z (aA c33)) (uB 0 Z xc Z Z) Z (TL.q Z (.g Z Z (aA c33)) (uI ab Z) Z (TL.q Z .u (uJ Z (aA c33) Z) Z ?_))
   rcases jF h with⟨c34,h⟩ | ⟨c34,h⟩
   ·refine TL.nil (X.seq (uK Z (av (wY c34)) (T.skip (X.seq (T.seq (T.region Z (TL.run ab [0] Z Z ?_)))))))
    obtain rfl:=xa h
    exact TL.nil (X.seq (T.ret (uC [1] yE (uD Z) ⟨Z,Z,Z⟩ (by rfl) (.inl Z))))
   ·refine TL.nil (X.seq (uF Z (aA (wZ c34)) (T.seq (T.region Z (TL.run ab [0] Z Z ?_)))))
    obtain rfl:=xa h
    exact TL.nil (X.seq (T.ret (uH (uC [1] yE (uD Z) ⟨Z,Z,Z⟩ (by rfl) (.inl Z)))))
 | succ m11 =>
  have h:=hl13
  clear hl13
  obtain⟨x12,hxx12⟩: ∃ x,a0.ws[k7]? = some x:=⟨_,List.getElem?_eq_getElem (by omega)⟩
  rw[cK hxx12,aM] at h
  have hk14lt:(k7:Int)<(a0.ws.length:Int):=by omega
  refine T.seq (T.region Z (TL.run ab [0] Z Z (TL.nil (X.seq (T.seq (uF Z (wY hk14lt) ?_))))))
  obtain⟨gz15,oz15,rfl,z15cs,z15cl,z15cc,z15nf,z15r⟩:=vh (by decide) hX hxx12
  obtain⟨z15S,z15r,z15rr⟩:=z15r
  obtain⟨A16,c17,rfl,z15s0⟩:=z15r
  have hX18:(RX.of (aq 3 aP) [.slice A16 x12.wy.length c17] x12.wy).reads w F:=⟨z15S,z15s0,z15rr⟩
  refine T.skip (X.seq (T.seq (T.block (T.seq (T.region Z ?_)))))
  refine TL.q Z .u (uV (k:=k7) Z Z Z xn xk (xd hxx12).1) Z ?_
  refine TL.q Z .u (vA (us := [jI x12.wK,jI x12.wD,.bool x12.wC.null,jS x12.wC.data,.bool x12.wt.null,jS x12.wt.data,.slice A16 x12.wy.length c17]) 0 Z xF xk z15nf z15cc Z Z Z) Z (TL.alloc Z .u Tryz.zeroValue69 Z (fun b19=>(uO (cs':= #[jI x12.wK,jI x12.wD,.bool x12.wC.null,jS x12.wC.data,.bool x12.wt.null,jS x12.wt.data,.slice A16 x12.wy.length c17]) Z .u Z Z xk Z Z Z Z (TL.nil (X.seq (T.seq (T.seq (T.region Z (TL.run ab [0] Z Z (TL.q Z .u (uB 0 Z xc Z Z) Z ?_))))))))))
  rcases jF h with⟨c20,h⟩ | ⟨c20,h⟩
  ·refine TL.run ab [2,3,4] Z Z ?_
   iterate 5 refine uG Z (.gn Z Z (wY c20)) Z ?_
   refine TL.q Z .u (uJ Z (wY c20) Z) Z (TL.nil (X.seq (uF Z Z (T.seq (T.region Z (TL.run ab [0] Z Z ?_))))))
   obtain rfl:=xa h
   replace h:=hO10
   clear hO10
   try dsimp only at h
   obtain rfl:=xa h
   exact TL.nil (X.seq (T.ret (uH (uS (uH (uH (uS (uH (uC [2] yE (uD Z) ⟨Z,Z,Z⟩ (by rfl) (.inl Z))))))))))
  ·refine TL.run ab [2,3,4] Z Z (TL.q Z (.g Z Z (wZ c20)) (uI ab Z) Z (TL.q Z (.g Z Z (wZ c20)) (uB 0 Z xc Z Z) Z (TL.q Z (.g Z Z (wZ c20)) (uI ab Z) Z (TL.q Z (.g Z Z (wZ c20)) (uB 1 Z xc Z Z) Z (TL.q Z (.g Z Z (wZ c20)) (uI ab Z) Z (TL.q Z .u (uL Z (wZ c20) Z) Z ?_))))))
   rcases jF h with⟨c21,h⟩ | ⟨c21,h⟩
   ·refine TL.nil (X.seq (uF Z (wY c21) (T.seq (T.region Z (TL.run ab [0] Z Z ?_)))))
    obtain rfl:=xa h
    replace h:=hO10
    clear hO10
    try dsimp only at h
    obtain rfl:=xa h
    exact TL.nil (X.seq (T.ret (uH (uS (uH (uH (uS (uH (uC [2] yE (uD Z) ⟨Z,Z,Z⟩ (by rfl) (.inl Z))))))))))
   ·refine TL.nil (X.seq (uK Z (wZ c21) (T.skip (X.seq (T.seq (T.region Z (TL.run ab [0] Z Z (TL.q Z .u (uB 0 Z xc Z Z) Z (TL.run ab [2] Z Z (TL.nil (X.seq (T.seq (T.region Z (TL.run ab [0] Z Z ?_))))))))))))))
    refine TL.q Z .u (uB 1 Z xc Z Z) Z (TL.run ab [2] Z Z (TL.q Z .u (uB 0 Z xc Z Z) Z (TL.q Z .u (Ex.addw Z Z) Z (TL.run ab [5] Z Z (TL.nil (X.seq (T.seq (T.seq (T.region Z ?_)))))))))
    rcases jF h with⟨c22,h⟩ | ⟨c22,h⟩
    ·refine TL.run ab [0,1,2] Z Z ?_
     iterate 4 refine uG Z (.gn Z Z (wY c22)) Z ?_
     iterate 4 refine uG Z (.gu Z Z) Z ?_
     refine uG Z (.gn Z Z (wY c22)) Z (TL.q Z .u (uJ Z (wY c22) Z) Z (TL.nil (X.seq (uF Z Z (T.seq (T.region Z (TL.run ab [0] Z Z ?_)))))))
     obtain rfl:=xa h
     replace h:=hO10
     clear hO10
     try dsimp only at h
     obtain rfl:=xa h
     exact TL.nil (X.seq (T.ret (uH (uS (uH (uH (uS (uH (uC [2] yE (uD Z) ⟨Z,Z,Z⟩ (by rfl) (.inl Z))))))))))
    ·refine TL.run ab [0,1,2] Z Z (TL.q Z (.g Z Z (wZ c22)) (uI ab Z) Z (TL.q Z (.g Z Z (wZ c22)) (uB 0 Z xc Z Z) Z ?_))
     iterate 2 refine TL.q Z (.g Z Z (wZ c22)) (uI ab Z) Z ?_
     rcases jF h with⟨c23,h⟩ | ⟨c23,h⟩
     ·refine TL.q Z (.g Z Z (wY c23)) (uI ab Z) Z (TL.q Z (.g Z Z (wY c23)) (uI ab Z) Z (TL.q Z (.g Z Z (wY c23)) (uB 0 Z xc Z Z) Z (TL.q Z (.g Z Z (wY c23)) (uI ab Z) Z (TL.q Z (.g Z Z (wZ c22)) (uJ Z (wY c23) Z) Z (TL.q Z .u (uL Z (wZ c22) Z) Z ?_)))))
      rcases jF h with⟨c24,h⟩ | ⟨c24,h⟩
      ·refine TL.nil (X.seq (uF Z (wY c24) (T.seq (T.region Z (TL.run ab [0] Z Z ?_)))))
       obtain rfl:=xa h
       replace h:=hO10
       clear hO10
       try dsimp only at h
       obtain rfl:=xa h
       exact TL.nil (X.seq (T.ret (uH (uS (uH (uH (uS (uH (uC [2] yE (uD Z) ⟨Z,Z,Z⟩ (by rfl) (.inl Z))))))))))
      ·refine TL.nil (X.seq (uK Z (wZ c24) (T.skip (X.seq (T.region Z ?_)))))
       rcases jF h with⟨c25,h⟩ | ⟨c25,h⟩
       ·exact TL.run ab [0,1] Z Z (TL.q Z .u (Ex.maxy Z Z c25) Z (TL.run ab [3] Z Z (TL.nil (uQ (X.seq (T.region Z (TL.q Z .u (Ex.add Z Z (by omega)) Z (TL.run ab [1] Z Z (TL.nil (X.back (m':=m11) [1,1] (by omega) ⟨y4,x12.wD,(IntKind.i64.wrap (a0.wx+x12.wK)),k7+1,by omega,Z,Z,h⟩ (by rfl) (by rfl)))))))))))
       ·exact TL.run ab [0,1] Z Z (TL.q Z .u (Ex.maxx Z Z c25) Z (TL.run ab [3] Z Z (TL.nil (uQ (X.seq (T.region Z (TL.q Z .u (Ex.add Z Z (by omega)) Z (TL.run ab [1] Z Z (TL.nil (X.back (m':=m11) [1,1] (by omega) ⟨y4,x12.wD,y6,k7+1,by omega,Z,Z,h⟩ (by rfl) (by rfl)))))))))))
     ·refine uG Z (.gn Z Z (wZ c23)) Z ?_
      iterate 3 refine uG Z (.gn Z Z (wZ c23)) Z ?_
      refine TL.q Z (.g Z Z (wZ c22)) (uL Z (wZ c23) Z) Z (TL.q Z .u (uL Z (wZ c22) Z) Z (TL.nil (X.seq (uK Z Z (T.skip (X.seq (T.region Z ?_)))))))
      rcases jF h with⟨c26,h⟩ | ⟨c26,h⟩
      ·exact TL.run ab [0,1] Z Z (TL.q Z .u (Ex.maxy Z Z c26) Z (TL.run ab [3] Z Z (TL.nil (uQ (X.seq (T.region Z (TL.q Z .u (Ex.add Z Z (by omega)) Z (TL.run ab [1] Z Z (TL.nil (X.back (m':=m11) [1,1] (by omega) ⟨y4,x12.wD,(IntKind.i64.wrap (a0.wx+x12.wK)),k7+1,by omega,Z,Z,h⟩ (by rfl) (by rfl)))))))))))
      ·exact TL.run ab [0,1] Z Z (TL.q Z .u (Ex.maxx Z Z c26) Z (TL.run ab [3] Z Z (TL.nil (uQ (X.seq (T.region Z (TL.q Z .u (Ex.add Z Z (by omega)) Z (TL.run ab [1] Z Z (TL.nil (X.back (m':=m11) [1,1] (by omega) ⟨y4,x12.wD,y6,k7+1,by omega,Z,Z,h⟩ (by rfl) (by rfl)))))))))))
def bZ:List Rec→Int→Option (Lp Int Int)
 | [],y13=>some (Lp.go y13)
 | x19::xs,y13=>(cG x19).bind fun x27=>if x27=0 then (bZ xs y13) else some (Lp.ret x27)
def cc:List Rec→Int→Option (Lp Int Int)
 | [],y61=>some (Lp.go y61)
 | x67::xs,y61=>(cG x67).bind fun x75=>if x75=0 then (cc xs y61) else some (Lp.ret x75)
def bJ (a0:Bat):Option (Int):=(dA a0).bind fun x4=>if x4=true then (if a0.wF=true then (if a0.wN=true then ((cD a0).bind fun x9=>if x9=true then (if (a0.ws.length:Int)=1 then ((bZ a0.ws 0).bind fun e=>match e with | .ret r=>some r | .go y30=>((a0.ws[0]?).bind fun x32=>(bw x32).bind fun (x38,x39,x40)=>if x40=0 then ((bz a0).bind fun x43=>some x43) else some x40)) else some 10) else some 11) else some 8) else ((cD a0).bind fun x58=>if x58=true then ((cc a0.ws 0).bind fun e=>match e with | .ret r=>some r | .go y78=>((bz a0).bind fun x80=>some x80)) else some 11)) else some 11
theorem fN (a0:Bat) (A1:Option Addr) (c2:Nat) (r:Int) (h:bJ a0=some r):au Tryz.prog 33 #[.agg #[jI a0.wG,jI a0.wz,.bool a0.wH,.bool a0.wN,.bool a0.wF,jI a0.wE,jI a0.wx,jI a0.wJ,jI a0.ww,jI a0.wA,jI a0.wv,.slice A1 a0.ws.length c2]] (RX.of (aq 7 bf) [.slice A1 a0.ws.length c2] a0.ws) (aw) (fun v A' N=>v=jI r∧A'=aw∧N = []):=by
 refine aF Tryz.func33 Z Tryz.ntmps33 Z ?_
 intro F w hX
 unfold bJ at h
 refine T.seq (T.region Z (TL.box Z .u Z Z (fun b3=>(TL.run ab [1] Z Z (TL.nil (X.seq (T.seq (T.block (T.seq (T.region Z (TL.q Z .u (uN (us := [jI a0.wG,jI a0.wz,.bool a0.wH,.bool a0.wN,.bool a0.wF,jI a0.wE,jI a0.wx,jI a0.wJ,jI a0.ww,jI a0.wA,jI a0.wv,.slice A1 a0.ws.length c2]) 0 Z xA xl Z Z Z) Z ?_)))))))))))
 obtain⟨x4,hx5,h⟩:=wX h
 refine uP Z .u (.fn Tryz.call61 Z) (ir a0 _ _ _ hx5) (fun _ hs=>(vb hs hX)) Z (TL.run ab [2,3] Z Z ?_)
 rcases jF h with⟨c6,h⟩ | ⟨c6,h⟩
 ·refine TL.nil (X.seq (uK Z (av c6) (T.seq (T.region Z (TL.run ab [0] Z Z (TL.q Z .u (uB 0 Z xE Z Z) Z ?_))))))
  rcases jF h with⟨c7,h⟩ | ⟨c7,h⟩
  ·refine TL.run ab [2] Z Z (TL.q Z (.g Z Z c7) (uI ab Z) Z (TL.q Z (.g Z Z c7) (uB 0 Z xE Z Z) Z (TL.q Z (.g Z Z c7) (uI ab Z) Z (TL.q Z .u (uJ Z c7 Z) Z (TL.run ab [7] Z Z ?_)))))
   rcases jF h with⟨c8,h⟩ | ⟨c8,h⟩
   ·refine TL.nil (X.seq (uK Z (av c8) (T.seq (T.region Z (TL.q Z .u (uN (us := [jI a0.wG,jI a0.wz,.bool a0.wH,.bool a0.wN,.bool a0.wF,jI a0.wE,jI a0.wx,jI a0.wJ,jI a0.ww,jI a0.wA,jI a0.wv,.slice A1 a0.ws.length c2]) 0 Z xA xl Z Z Z) Z ?_)))))
    obtain⟨x9,hx10,h⟩:=wX h
    refine uP Z .u (.fn Tryz.call62 Z) (eN a0 _ _ _ hx10) (fun _ hs=>(vb hs hX)) Z (TL.run ab [2,3] Z Z ?_)
    rcases jF h with⟨c11,h⟩ | ⟨c11,h⟩
    ·refine TL.nil (X.seq (uK Z (av c11) (T.seq (T.region Z (TL.run ab [0] Z Z (TL.q Z .u (uB 0 Z xE Z Z) Z (TL.run ab [2] Z Z (TL.q Z (.g Z Z c7) (uI ab Z) Z (TL.q Z (.g Z Z c7) (uB 0 Z xL Z Z) Z ?_)))))))))
     refine TL.q Z (.g Z Z c7) (uY Z xn) Z (TL.q Z (.g Z Z c7) (uI ab Z) Z (TL.q Z .u (uJ Z c7 Z) Z (TL.run ab [8] Z Z ?_)))
     rcases jF h with⟨c12,h⟩ | ⟨c12,h⟩
     ·refine TL.nil (X.seq (uK Z (av (wY c12)) (T.skip (uQ (X.seq (T.seq (T.seq (T.region Z (TL.run ab [0] Z Z (TL.q Z .u (uB 0 Z xL Z Z) Z (TL.q Z .u (uY Z xn) Z (TL.run ab [3] Z Z (TL.nil (X.seq (T.block ?_)))))))))))))))
      obtain⟨E15,hE16,hO17⟩:=wX h
      have hk21len:=vz hX
      refine vo (fun m e Rs=> ∃ (y13:Int) (k14:Nat),k14+m=a0.ws.length∧e = [(1,jP b3),(2,jI y13),(35,.slice A1 a0.ws.length c2),(36,jI (a0.ws.length:Int)),(37,jI (k14:Int))]∧Rs = [aD b3 43 #[jI a0.wG,jI a0.wz,.bool a0.wH,.bool a0.wN,.bool a0.wF,jI a0.wE,jI a0.wx,jI a0.wJ,jI a0.ww,jI a0.wA,jI a0.wv,.slice A1 a0.ws.length c2],aw]∧bZ (a0.ws.drop k14) y13=some E15) (a0.ws.length) [0,0] ⟨0,0,by simp,Z,Z,by rw[List.drop_zero]; exact hE16⟩ (by rfl) (by rfl) ?_
      rintro m18 _ _ ⟨y13,k14,hk21,rfl,rfl,hl20⟩
      clear hE16 h
      cases m18 with
      | zero =>
       have h:=hl20
       clear hl20
       rw[List.drop_of_length_le (by omega),bZ] at h
       have hk21ge: ¬ ((k14:Int)<(a0.ws.length:Int)):=by omega
       refine T.seq (T.region Z (TL.run ab [0] Z Z (TL.nil (X.seq (T.seq (uK Z (wZ hk21ge) ?_))))))
       obtain rfl:=xa h
       replace h:=hO17
       clear hO17
       try dsimp only at h
       refine T.exit (uR (uR (vn (X.seq (T.seq (T.seq (T.region Z (TL.run ab [0] Z Z (TL.q Z .u (uB 0 Z xE Z Z) Z (TL.nil (X.seq (uF Z c7 (T.seq (T.region Z (TL.run ab [0] Z Z (TL.q Z .u (uB 0 Z xL Z Z) Z ?_))))))))))))))))
       obtain⟨x45,hx46,h⟩:=wX h
       obtain⟨gz47,oz47,rfl,z47cs,z47cl,z47cc,z47nf,z47r⟩:=vh (by decide) hX hx46
       obtain⟨z47S,z47r,z47rr⟩:=z47r
       obtain⟨A48,c49,rfl,z47s0⟩:=z47r
       have hX50:(RX.of (aq 3 aP) [.slice A48 x45.wy.length c49] x45.wy).reads w F:=⟨z47S,z47s0,z47rr⟩
       refine TL.q Z .u (uV (k:=0) Z Z Z xn xk (xd hx46).1) Z ?_
       refine TL.q Z .u (vA (us := [jI x45.wK,jI x45.wD,.bool x45.wC.null,jS x45.wC.data,.bool x45.wt.null,jS x45.wt.data,.slice A48 x45.wy.length c49]) 0 Z xF xk z47nf z47cc Z Z Z) Z ?_
       obtain⟨⟨x51,x52,x53⟩,hx54,h⟩:=wX h
       try dsimp only at h
       refine uP Z .u (.fn Tryz.call64 Z) (iR x45 _ _ _ hx54) (fun _ hs=>(vb hs hX50)) Z (TL.run ab [5,6,7,8,9,10,11] Z Z (TL.nil (X.seq (T.seq (T.region Z (TL.run ab [0,1] Z Z ?_))))))
       rcases jF h with⟨c55,h⟩ | ⟨c55,h⟩
       ·refine TL.nil (X.seq (uK Z (av (wY c55)) (T.skip (X.seq (T.seq (T.region Z (TL.q Z .u (uN (us := [jI a0.wG,jI a0.wz,.bool a0.wH,.bool a0.wN,.bool a0.wF,jI a0.wE,jI a0.wx,jI a0.wJ,jI a0.ww,jI a0.wA,jI a0.wv,.slice (some ⟨gz47,oz47,none⟩) a0.ws.length c2]) 0 Z xA xl Z Z Z) Z ?_)))))))
        obtain⟨x56,hx57,h⟩:=wX h
        refine uP Z .u (.fn Tryz.call65 Z) (e8 a0 _ _ _ hx57) (fun _ hs=>(vb hs hX)) Z (TL.run ab [2] Z Z ?_)
        obtain rfl:=xa h
        exact TL.nil (X.seq (T.ret (uC [1] yp (uD Z) ⟨Z,Z,Z⟩ (by rfl) (.inl Z))))
       ·refine TL.nil (X.seq (uF Z (aA (wZ c55)) (T.seq (T.region Z (TL.run ab [0,1] Z Z ?_)))))
        obtain rfl:=xa h
        exact TL.nil (X.seq (T.ret (uH (uC [1] yp (uD Z) ⟨Z,Z,Z⟩ (by rfl) (.inl Z)))))
      | succ m18 =>
       have h:=hl20
       clear hl20
       obtain⟨x19,hxx19⟩: ∃ x,a0.ws[k14]? = some x:=⟨_,List.getElem?_eq_getElem (by omega)⟩
       rw[cK hxx19,bZ] at h
       have hk21lt:(k14:Int)<(a0.ws.length:Int):=by omega
       refine T.seq (T.region Z (TL.run ab [0] Z Z (TL.nil (X.seq (T.seq (uF Z (wY hk21lt) ?_))))))
       obtain⟨gz22,oz22,rfl,z22cs,z22cl,z22cc,z22nf,z22r⟩:=vh (by decide) hX hxx19
       obtain⟨z22S,z22r,z22rr⟩:=z22r
       obtain⟨A23,c24,rfl,z22s0⟩:=z22r
       have hX25:(RX.of (aq 3 aP) [.slice A23 x19.wy.length c24] x19.wy).reads w F:=⟨z22S,z22s0,z22rr⟩
       refine T.skip (X.seq (T.seq (T.block (T.seq (T.region Z ?_)))))
       refine TL.q Z .u (uV (k:=k14) Z Z Z xn xk (xd hxx19).1) Z ?_
       refine TL.q Z .u (vA (us := [jI x19.wK,jI x19.wD,.bool x19.wC.null,jS x19.wC.data,.bool x19.wt.null,jS x19.wt.data,.slice A23 x19.wy.length c24]) 0 Z xF xk z22nf z22cc Z Z Z) Z (TL.alloc Z .u Tryz.zeroValue69 Z (fun b26=>(uO (cs':= #[jI x19.wK,jI x19.wD,.bool x19.wC.null,jS x19.wC.data,.bool x19.wt.null,jS x19.wt.data,.slice A23 x19.wy.length c24]) Z .u Z Z xk Z Z Z Z (TL.nil (X.seq (T.seq (T.region Z (TL.q Z .u (uN (us := [jI x19.wK,jI x19.wD,.bool x19.wC.null,jS x19.wC.data,.bool x19.wt.null,jS x19.wt.data,.slice A23 x19.wy.length c24]) 0 Z xF xk Z Z Z) Z ?_))))))))
       obtain⟨x27,hx28,h⟩:=wX h
       refine uP Z .u (.fn Tryz.call63 Z) (dY x19 _ _ _ hx28) (fun _ hs=>(vb hs hX25)) Z (TL.run ab [2] Z Z (TL.nil (X.seq (T.seq (T.region Z (TL.run ab [0,1] Z Z ?_))))))
       rcases jF h with⟨c29,h⟩ | ⟨c29,h⟩
       ·exact TL.nil (X.seq (uK Z (av (wY c29)) (T.skip (uQ (X.seq (T.region Z (TL.q Z .u (Ex.add Z Z (by omega)) Z (TL.run ab [1] Z Z (TL.nil (X.back (m':=m18) [1,1] (by omega) ⟨y13,k14+1,by omega,Z,Z,h⟩ (by rfl) (by rfl)))))))))))
       ·refine TL.nil (X.seq (uF Z (aA (wZ c29)) (T.seq (T.region Z (TL.run ab [0,1] Z Z ?_)))))
        obtain rfl:=xa h
        replace h:=hO17
        clear hO17
        try dsimp only at h
        obtain rfl:=xa h
        exact TL.nil (X.seq (T.ret (uS (uH (uH (uS (uH (uC [2] yp (uD Z) ⟨Z,Z,Z⟩ (by rfl) (.inl Z)))))))))
     ·refine TL.nil (X.seq (uF Z (aA (wZ c12)) (T.seq (T.region Z (TL.run ab [0] Z Z ?_)))))
      obtain rfl:=xa h
      exact TL.nil (X.seq (T.ret (uS (uH (uC [1] yp (uD Z) ⟨Z,Z,Z⟩ (by rfl) (.inl Z))))))
    ·replace c11:=xi c11
     refine TL.nil (X.seq (uF Z (aA c11) (T.seq (T.region Z (TL.run ab [0] Z Z ?_)))))
     obtain rfl:=xa h
     exact TL.nil (X.seq (T.ret (uS (uH (uC [1] yp (uD Z) ⟨Z,Z,Z⟩ (by rfl) (.inl Z))))))
   ·replace c8:=xi c8
    refine TL.nil (X.seq (uF Z (aA c8) (T.seq (T.region Z (TL.run ab [0] Z Z ?_)))))
    obtain rfl:=xa h
    exact TL.nil (X.seq (T.ret (uS (uH (uC [1] yp (uD Z) ⟨Z,Z,Z⟩ (by rfl) (.inl Z))))))
  ·replace c7:=xi c7
   refine TL.run ab [2] Z Z ?_
   iterate 3 refine uG Z (.gn Z Z c7) Z ?_
   refine TL.q Z .u (uL Z c7 Z) Z (TL.run ab [7] Z Z (TL.nil (X.seq (uK Z Z (T.seq (T.region Z (TL.q Z .u (uN (us := [jI a0.wG,jI a0.wz,.bool a0.wH,.bool a0.wN,.bool a0.wF,jI a0.wE,jI a0.wx,jI a0.wJ,jI a0.ww,jI a0.wA,jI a0.wv,.slice A1 a0.ws.length c2]) 0 Z xA xl Z Z Z) Z ?_)))))))
   obtain⟨x58,hx59,h⟩:=wX h
   refine uP Z .u (.fn Tryz.call62 Z) (eN a0 _ _ _ hx59) (fun _ hs=>(vb hs hX)) Z (TL.run ab [2,3] Z Z ?_)
   rcases jF h with⟨c60,h⟩ | ⟨c60,h⟩
   ·refine TL.nil (X.seq (uK Z (av c60) (T.seq (T.region Z (TL.run ab [0] Z Z (TL.q Z .u (uB 0 Z xE Z Z) Z (TL.run ab [2] Z Z ?_)))))))
    iterate 4 refine uG Z (.gn Z Z c7) Z ?_
    refine TL.q Z .u (uL Z c7 Z) Z (TL.run ab [8] Z Z (TL.nil (X.seq (uK Z Z (T.skip (uQ (X.seq (T.seq (T.seq (T.region Z (TL.run ab [0] Z Z (TL.q Z .u (uB 0 Z xL Z Z) Z (TL.q Z .u (uY Z xn) Z ?_)))))))))))))
    refine TL.run ab [3] Z Z (TL.nil (X.seq (T.block ?_)))
    obtain⟨E63,hE64,hO65⟩:=wX h
    have hk69len:=vz hX
    refine vo (fun m e Rs=> ∃ (y61:Int) (k62:Nat),k62+m=a0.ws.length∧e = [(1,jP b3),(2,jI y61),(35,.slice A1 a0.ws.length c2),(36,jI (a0.ws.length:Int)),(37,jI (k62:Int))]∧Rs = [aD b3 43 #[jI a0.wG,jI a0.wz,.bool a0.wH,.bool a0.wN,.bool a0.wF,jI a0.wE,jI a0.wx,jI a0.wJ,jI a0.ww,jI a0.wA,jI a0.wv,.slice A1 a0.ws.length c2],aw]∧cc (a0.ws.drop k62) y61=some E63) (a0.ws.length) [0,0] ⟨0,0,by simp,Z,Z,by rw[List.drop_zero]; exact hE64⟩ (by rfl) (by rfl) ?_
    rintro m66 _ _ ⟨y61,k62,hk69,rfl,rfl,hl68⟩
    clear hE64 h
    cases m66 with
    | zero =>
     have h:=hl68
     clear hl68
     rw[List.drop_of_length_le (by omega),cc] at h
     have hk69ge: ¬ ((k62:Int)<(a0.ws.length:Int)):=by omega
     refine T.seq (T.region Z (TL.run ab [0] Z Z (TL.nil (X.seq (T.seq (uK Z (wZ hk69ge) ?_))))))
     obtain rfl:=xa h
     replace h:=hO65
     clear hO65
     try dsimp only at h
     refine T.exit (uR (uR (vn (X.seq (T.seq (T.seq (T.region Z (TL.run ab [0] Z Z (TL.q Z .u (uB 0 Z xE Z Z) Z (TL.nil (X.seq (uK Z c7 (T.skip (X.seq (T.seq (T.region Z (TL.q Z .u (uN (us := [jI a0.wG,jI a0.wz,.bool a0.wH,.bool a0.wN,.bool a0.wF,jI a0.wE,jI a0.wx,jI a0.wJ,jI a0.ww,jI a0.wA,jI a0.wv,.slice A1 a0.ws.length c2]) 0 Z xA xl Z Z Z) Z ?_)))))))))))))))))
     obtain⟨x82,hx83,h⟩:=wX h
     refine uP Z .u (.fn Tryz.call65 Z) (e8 a0 _ _ _ hx83) (fun _ hs=>(vb hs hX)) Z (TL.run ab [2] Z Z ?_)
     obtain rfl:=xa h
     exact TL.nil (X.seq (T.ret (uC [1] yp (uD Z) ⟨Z,Z,Z⟩ (by rfl) (.inl Z))))
    | succ m66 =>
     have h:=hl68
     clear hl68
     obtain⟨x67,hxx67⟩: ∃ x,a0.ws[k62]? = some x:=⟨_,List.getElem?_eq_getElem (by omega)⟩
     rw[cK hxx67,cc] at h
     have hk69lt:(k62:Int)<(a0.ws.length:Int):=by omega
     refine T.seq (T.region Z (TL.run ab [0] Z Z (TL.nil (X.seq (T.seq (uF Z (wY hk69lt) ?_))))))
     obtain⟨gz70,oz70,rfl,z70cs,z70cl,z70cc,z70nf,z70r⟩:=vh (by decide) hX hxx67
     obtain⟨z70S,z70r,z70rr⟩:=z70r
     obtain⟨A71,c72,rfl,z70s0⟩:=z70r
     have hX73:(RX.of (aq 3 aP) [.slice A71 x67.wy.length c72] x67.wy).reads w F:=⟨z70S,z70s0,z70rr⟩
     refine T.skip (X.seq (T.seq (T.block (T.seq (T.region Z ?_)))))
     refine TL.q Z .u (uV (k:=k62) Z Z Z xn xk (xd hxx67).1) Z ?_
     refine TL.q Z .u (vA (us := [jI x67.wK,jI x67.wD,.bool x67.wC.null,jS x67.wC.data,.bool x67.wt.null,jS x67.wt.data,.slice A71 x67.wy.length c72]) 0 Z xF xk z70nf z70cc Z Z Z) Z (TL.alloc Z .u Tryz.zeroValue69 Z (fun b74=>(uO (cs':= #[jI x67.wK,jI x67.wD,.bool x67.wC.null,jS x67.wC.data,.bool x67.wt.null,jS x67.wt.data,.slice A71 x67.wy.length c72]) Z .u Z Z xk Z Z Z Z (TL.nil (X.seq (T.seq (T.region Z (TL.q Z .u (uN (us := [jI x67.wK,jI x67.wD,.bool x67.wC.null,jS x67.wC.data,.bool x67.wt.null,jS x67.wt.data,.slice A71 x67.wy.length c72]) 0 Z xF xk Z Z Z) Z ?_))))))))
     obtain⟨x75,hx76,h⟩:=wX h
     refine uP Z .u (.fn Tryz.call63 Z) (dY x67 _ _ _ hx76) (fun _ hs=>(vb hs hX73)) Z (TL.run ab [2] Z Z (TL.nil (X.seq (T.seq (T.region Z (TL.run ab [0,1] Z Z ?_))))))
     rcases jF h with⟨c77,h⟩ | ⟨c77,h⟩
     ·exact TL.nil (X.seq (uK Z (av (wY c77)) (T.skip (uQ (X.seq (T.region Z (TL.q Z .u (Ex.add Z Z (by omega)) Z (TL.run ab [1] Z Z (TL.nil (X.back (m':=m66) [1,1] (by omega) ⟨y61,k62+1,by omega,Z,Z,h⟩ (by rfl) (by rfl)))))))))))
     ·refine TL.nil (X.seq (uF Z (aA (wZ c77)) (T.seq (T.region Z (TL.run ab [0,1] Z Z ?_)))))
      obtain rfl:=xa h
      replace h:=hO65
      clear hO65
      try dsimp only at h
      obtain rfl:=xa h
      exact TL.nil (X.seq (T.ret (uS (uH (uH (uS (uH (uC [2] yp (uD Z) ⟨Z,Z,Z⟩ (by rfl) (.inl Z)))))))))
   ·replace c60:=xi c60
    refine TL.nil (X.seq (uF Z (aA c60) (T.seq (T.region Z (TL.run ab [0] Z Z ?_)))))
    obtain rfl:=xa h
    exact TL.nil (X.seq (T.ret (uS (uH (uC [1] yp (uD Z) ⟨Z,Z,Z⟩ (by rfl) (.inl Z))))))
 ·replace c6:=xi c6
  refine TL.nil (X.seq (uF Z (aA c6) (T.seq (T.region Z (TL.run ab [0] Z Z ?_)))))
  obtain rfl:=xa h
  exact TL.nil (X.seq (T.ret (uS (uH (uC [1] yp (uD Z) ⟨Z,Z,Z⟩ (by rfl) (.inl Z))))))
def bA (a0:Pfx):Nat→Int→Nat→List Rec→I→Option (Lp (Bat×Int) (Int×Nat×List Rec×I))
 | 0,_,_,_,_=>none
 | m23+1,y14,k15,y16,st19=>if (k15:Int)<a0.wR then ((mW st19).bind fun (x28,st29)=>if x28=0 then (some (Lp.ret ((⟨0,0,false,false,false,0,0,0,0,0,0,[]⟩:Bat),10))) else ((dD st29).bind fun (x32,st35)=>(jH st35).bind fun (x38,st39)=>if x38=0 then (if (y16.length+1)*88≤140737488355328 then (if -9223372036854775808≤((k15:Int)+1)∧((k15:Int)+1)≤9223372036854775807 then (bA a0 m23 y14 (k15+1) (y16 ++ [x32]) st39) else none) else none) else (some (Lp.ret ((⟨0,0,false,false,false,0,0,0,0,0,0,[]⟩:Bat),x38))))) else (some (Lp.go (y14,k15,y16,st19)))
def dV (a0:Pfx) (a1:List UInt8):Option (Bat×Int):=(nN a0.wQ).bind fun x3=>if x3=0 then ((qg a0.wQ).bind fun (x7,x8,x9)=>(nE a1).bind fun st11=>(bA a0 ((a0.wR).toNat+1) 0 0 [] st11).bind fun e=>match e with | .ret r=>some r | .go (y53,k54,y55,st58)=>((mW st58).bind fun (x59,st60)=>if x59>0 then (some ((⟨0,0,false,false,false,0,0,0,0,0,0,[]⟩:Bat),10)) else ((bJ (⟨a0.wG,a0.wz,x7,x8,x9,a0.wE,a0.wx,a0.wJ,a0.ww,a0.wA,a0.wv,y55⟩:Bat)).bind fun x63=>some ((⟨a0.wG,a0.wz,x7,x8,x9,a0.wE,a0.wx,a0.wJ,a0.ww,a0.wA,a0.wv,y55⟩:Bat),x63)))) else (some ((⟨0,0,false,false,false,0,0,0,0,0,0,[]⟩:Bat),x3))
theorem jR (a0:Pfx) (a1:List UInt8) (r:Bat×Int) (h:dV a0 a1=some r):au Tryz.prog 49 #[.agg #[jI a0.wG,jI a0.wM,jI a0.wz,jI a0.wT,jI a0.wQ,jI a0.wE,jI a0.wx,jI a0.wJ,jI a0.ww,jI a0.wA,jI a0.wv,jI a0.wR],jS a1] .triv (aw) (fun v A' N=> ∃ (A65:Option Addr) (c66:Nat),v= .tuple #[.agg #[jI r.1.wG,jI r.1.wz,.bool r.1.wH,.bool r.1.wN,.bool r.1.wF,jI r.1.wE,jI r.1.wx,jI r.1.wJ,jI r.1.ww,jI r.1.wA,jI r.1.wv,.slice A65 r.1.ws.length c66],jI r.2]∧A'=aw∧N = [RdR (aq 7 bf) [.slice A65 r.1.ws.length c66] r.1.ws]):=by
 refine aF Tryz.func49 Z Tryz.ntmps49 Z ?_
 intro F w hX
 unfold dV at h
 refine T.seq (T.region Z (TL.box Z .u Z Z (fun b1=>(TL.alloc Z .u Tryz.zeroValue43 Z (fun b2=>(TL.run ab [2] Z Z (TL.nil (X.seq (T.seq (T.seq (T.region Z (TL.run ab [0] Z Z (TL.q Z .u (uB 1 Z xc Z Z) Z ?_)))))))))))))
 obtain⟨x3,hx4,h⟩:=wX h
 refine uP Z .u (.fn Tryz.call78 Z) (vc (fun w=>nO a0.wQ _ hx4 w)) (fun _ _=>uE _ _) Z (TL.run ab [3] Z Z (TL.nil (X.seq (T.seq (T.region Z (TL.run ab [0,1] Z Z ?_))))))
 rcases jF h with⟨c5,h⟩ | ⟨c5,h⟩
 ·refine TL.nil (X.seq (uK Z (av (wY c5)) (T.skip (X.seq (T.seq (T.region Z (TL.run ab [0] Z Z (TL.q Z .u (uB 1 Z xc Z Z) Z (TL.run ab [2] Z Z (TL.q Z .u (uB 1 Z xc Z Z) Z (TL.run ab [4] Z Z ?_)))))))))))
  refine TL.q Z .u (uB 1 Z xc Z Z) Z (TL.run ab [6] Z Z (TL.q Z .u (uB 1 Z xc Z Z) Z (TL.run ab [8] Z Z (TL.q Z .u (uB 1 Z xc Z Z) Z (TL.run ab [10] Z Z (TL.q Z .u (uB 1 Z xc Z Z) Z (TL.run ab [12] Z Z ?_)))))))
  refine TL.q Z .u (uB 1 Z xc Z Z) Z (TL.run ab [14] Z Z (TL.q Z .u (uB 1 Z xc Z Z) Z ?_))
  refine TL.q Z .u (uU (cells:= #[jI a0.wG,jI a0.wz,.bool false,.bool false,.bool false,jI a0.wE,jI a0.wx,jI a0.wJ,jI a0.ww,jI a0.wA,jI a0.wv,.slice none 0 0]) cR Z (by kernel_rfl)) Z ?_
  refine TL.alloc Z .u Tryz.zeroValue43 Z (fun b6=>(uO (cs':= #[jI a0.wG,jI a0.wz,.bool false,.bool false,.bool false,jI a0.wE,jI a0.wx,jI a0.wJ,jI a0.ww,jI a0.wA,jI a0.wv,.slice none 0 0]) Z .u Z Z xl Z Z Z Z (TL.nil (X.seq (T.seq (T.region Z (TL.run ab [0] Z Z (TL.q Z .u (uB 2 Z xc Z Z) Z ?_))))))))
  obtain⟨⟨x7,x8,x9⟩,hx10,h⟩:=wX h
  try dsimp only at h
  refine uP Z .u (.fn Tryz.call79 Z) (vc (fun w=>o9 a0.wQ _ hx10 w)) (fun _ _=>uE _ _) Z (TL.run ab [3,4,5,6,7] Z Z (uO (cs':= #[jI a0.wG,jI a0.wz,.bool x7,.bool false,.bool false,jI a0.wE,jI a0.wx,jI a0.wJ,jI a0.ww,jI a0.wA,jI a0.wv,.slice none 0 0]) Z .u Z Z yc Z Z Z Z (TL.run ab [9] Z Z (uO (cs':= #[jI a0.wG,jI a0.wz,.bool x7,.bool x8,.bool false,jI a0.wE,jI a0.wx,jI a0.wJ,jI a0.ww,jI a0.wA,jI a0.wv,.slice none 0 0]) Z .u Z Z yc Z Z Z Z (TL.run ab [11] Z Z (uO (cs':= #[jI a0.wG,jI a0.wz,.bool x7,.bool x8,.bool x9,jI a0.wE,jI a0.wx,jI a0.wJ,jI a0.ww,jI a0.wA,jI a0.wv,.slice none 0 0]) Z .u Z Z yc Z Z Z Z (TL.nil (X.seq (T.seq (T.region Z ?_))))))))))
  obtain⟨st11,hx12,h⟩:=wX h
  refine TL.run ab [0] Z Z (u0 Z .u (.fn Tryz.call21 Z) (fv a1 _ hx12) (fun _ hs=>(uE _ _)) Z ?_)
  rintro _ _ _ ⟨b13,rfl,rfl,rfl⟩
  refine uM [0,0,0,0,0] Z (TL.run ab [2] Z Z (TL.nil (X.seq (T.seq (T.seq (T.region Z (TL.run ab [0] Z Z (TL.q Z .u (uB 3 Z xc Z Z) Z (TL.run ab [2] Z Z (TL.nil (X.seq (T.block (vO 69 7 bf ?_)))))))))))))
  obtain⟨E20,hE21,hO22⟩:=wX h
  refine vo (fun m e Rs=> ∃ (y14:Int) (k15:Nat) (y16:List Rec) (A17:Option Addr) (c18:Nat) (st19:I),e = [(4,jP b2),(5,jI y14),(7,jP b6),(8,jP b13),(48,jI a0.wR),(49,jI (k15:Int))]∧Rs = [aE 69 7 bf (.slice A17 y16.length c18) y16,InR b13 st19,aD b6 43 #[jI a0.wG,jI a0.wz,.bool x7,.bool x8,.bool x9,jI a0.wE,jI a0.wx,jI a0.wJ,jI a0.ww,jI a0.wA,jI a0.wv,.slice A17 y16.length c18],aD b2 43 #[jI 0,jI 0,.bool false,.bool false,.bool false,jI 0,jI 0,jI 0,jI 0,jI 0,jI 0,.slice none 0 0],aD b1 89 #[jI a0.wG,jI a0.wM,jI a0.wz,jI a0.wT,jI a0.wQ,jI a0.wE,jI a0.wx,jI a0.wJ,jI a0.ww,jI a0.wA,jI a0.wv,jI a0.wR],aw]∧bA a0 m y14 k15 y16 st19=some E20) ((a0.wR).toNat+1) [0,0,0,0,0,0] ⟨0,0,[],none,0,st11,Z,Z,by exact hE21⟩ (by rfl) (by rfl) ?_
  rintro m23 _ _ ⟨y14,k15,y16,A17,c18,st19,rfl,rfl,hl25⟩
  clear hE21 h
  cases m23 with
  | zero =>
   rw[bA] at hl25
   cases hl25
  | succ m23 =>
   have h:=hl25
   clear hl25
   rw[bA] at h
   refine T.seq (T.region Z (TL.run ab [0] Z Z ?_))
   rcases jF h with⟨c27,h⟩ | ⟨c27,h⟩
   ·refine TL.nil (X.seq (T.seq (uF Z (wY c27) (T.skip (X.seq (T.seq (T.block (T.seq (T.seq (T.region Z ?_))))))))))
    obtain⟨⟨x28,st29⟩,hx30,h⟩:=wX h
    try dsimp only at h
    refine TL.run ab [0] Z Z (vr Z .u (.fn Tryz.call80 Z) (ji b13 st19 _ hx30) (fun _ hs=>(Src.triv _)) Z (TL.run ab [2] Z Z ?_))
    rcases jF h with⟨c31,h⟩ | ⟨c31,h⟩
    ·refine TL.nil (X.seq (uF Z (wY c31) (T.seq (T.region Z ?_))))
     refine TL.q Z .u (uU (cells:= #[jI 0,jI 0,.bool false,.bool false,.bool false,jI 0,jI 0,jI 0,jI 0,jI 0,jI 0,.slice none 0 0]) cR Z (by kernel_rfl)) Z ?_
     refine vg (cs':= #[jI 0,jI 0,.bool false,.bool false,.bool false,jI 0,jI 0,jI 0,jI 0,jI 0,jI 0,.slice none 0 0]) Z .u Z Z xl Z Z Z Z (TL.run ab [2] Z Z ?_)
     obtain rfl:=xa h
     replace h:=hO22
     clear hO22
     try dsimp only at h
     obtain rfl:=xa h
     exact TL.nil (X.seq (T.ret (uH (uS (uH (uH (uS (uH (vd 7 bf (uX [6,0] yW (uT (us:= #[jI 0,jI 0,.bool false,.bool false,.bool false,jI 0,jI 0,jI 0,jI 0,jI 0,jI 0,.slice none 0 0]) 4 Z xA xl Z Z) (uD Z) ⟨_,_,Z,Z,Z⟩ (by rfl) (.inl Z)))))))))))
    ·refine TL.nil (X.seq (uK Z (wZ c31) (T.skip (X.seq (T.seq (T.region Z ?_))))))
     obtain⟨⟨x32,st35⟩,hx36,h⟩:=wX h
     try dsimp only at h
     refine TL.run ab [0] Z Z (TL.cg1 Z .u (.fn Tryz.call81 Z) (jp b13 st29 _ hx36) (fun _ hs=>(Src.triv _)) Z ?_)
     rintro _ _ _ ⟨A33,c34,rfl,rfl,rfl⟩
     refine uM [0,0,0,0,0,0,0] Z (TL.alloc Z .u Tryz.zeroValue69 Z (fun b37=>(uO (cs':= #[jI x32.wK,jI x32.wD,.bool x32.wC.null,jS x32.wC.data,.bool x32.wt.null,jS x32.wt.data,.slice A33 x32.wy.length c34]) Z .u Z Z xk Z Z Z Z (TL.nil (X.seq (T.seq (T.seq (T.region Z ?_))))))))
     obtain⟨⟨x38,st39⟩,hx40,h⟩:=wX h
     try dsimp only at h
     refine TL.run ab [0] Z Z (TL.c3 Z .u (.fn Tryz.call23 Z) (dT b13 st35 _ hx40) (fun _ hs=>(Src.triv _)) Z (TL.run ab [2] Z Z (TL.nil (X.seq (T.seq (T.region Z (TL.run ab [0,1] Z Z ?_)))))))
     rcases jF h with⟨c41,h⟩ | ⟨c41,h⟩
     ·refine TL.nil (X.seq (uK Z (av (wY c41)) (T.skip (X.seq (T.region Z (TL.run ab [0] Z Z (TL.q Z .u (uB 4 Z xL Z Z) Z (TL.q Z .u (uN (us := [jI x32.wK,jI x32.wD,.bool x32.wC.null,jS x32.wC.data,.bool x32.wt.null,jS x32.wt.data,.slice A33 x32.wy.length c34]) 0 Z xF xk Z Z Z) Z ?_))))))))
      refine vD (cells:= #[jI x32.wK,jI x32.wD,.bool x32.wC.null,jS x32.wC.data,.bool x32.wt.null,jS x32.wt.data,.slice A33 x32.wy.length c34]) Z .u l9 Z (by kernel_rfl) Z (fun b42=> ?_)
      replace h:=ak h
      obtain⟨c43,h⟩:=h
      refine TL.app2 2 1 Z .u (us := [jI x32.wK,jI x32.wD,.bool x32.wC.null,jS x32.wC.data,.bool x32.wt.null,jS x32.wt.data,.slice A33 x32.wy.length c34]) (u:=x32) (l:=y16) (E:=bf) Tryz.underlying41 nQ Z (by decide) Z Z Z Z Z Z Z (fun w G hG=>⟨_,_,Z,hG.1⟩) (by have hq:=c43; omega) (by have hq:=c43; omega) Z (fun A44 c45=> ?_)
      refine uM [0,0,0,0,0,0,0] Z (TL.run ab [5] Z Z (vg (cs':= #[jI a0.wG,jI a0.wz,.bool x7,.bool x8,.bool x9,jI a0.wE,jI a0.wx,jI a0.wJ,jI a0.ww,jI a0.wA,jI a0.wv,.slice A44 (y16 ++ [x32]).length c45]) Z .u Z Z Tryz.sizeOf41 Z Z Z Z ?_))
      replace h:=ak h
      obtain⟨c46,h⟩:=h
      exact TL.nil (uQ (X.seq (T.region Z (TL.q Z .u (Ex.add Z Z c46) Z (TL.run ab [1] Z Z (TL.nil (X.back (m':=m23) [0,1,1,1,1,1] (by omega) ⟨y14,k15+1,(y16 ++ [x32]),A44,c45,st39,Z,Z,h⟩ (by rfl) (by rfl))))))))
     ·refine TL.nil (X.seq (uF Z (aA (wZ c41)) (T.seq (T.region Z ?_))))
      refine TL.q Z .u (uU (cells:= #[jI 0,jI 0,.bool false,.bool false,.bool false,jI 0,jI 0,jI 0,jI 0,jI 0,jI 0,.slice none 0 0]) cR Z (by kernel_rfl)) Z ?_
      refine TL.run ab [1] Z Z (TL.st5 (cs':= #[jI 0,jI 0,.bool false,.bool false,.bool false,jI 0,jI 0,jI 0,jI 0,jI 0,jI 0,.slice none 0 0]) Z .u Z Z xl Z Z Z Z (TL.run ab [3] Z Z ?_))
      obtain rfl:=xa h
      replace h:=hO22
      clear hO22
      try dsimp only at h
      obtain rfl:=xa h
      exact TL.nil (X.seq (T.ret (uH (uS (uH (uH (uS (uH (vd 7 bf (uX [8,0] yW (uT (us:= #[jI 0,jI 0,.bool false,.bool false,.bool false,jI 0,jI 0,jI 0,jI 0,jI 0,jI 0,.slice none 0 0]) 6 Z xA xl Z Z) (uD Z) ⟨_,_,Z,Z,Z⟩ (by rfl) (.inl Z)))))))))))
   ·refine TL.nil (X.seq (T.seq (uK Z (wZ c27) ?_)))
    obtain rfl:=xa h
    replace h:=hO22
    clear hO22
    try dsimp only at h
    refine T.exit (uR (uR (vn (X.seq (T.seq (T.seq (T.region Z ?_)))))))
    obtain⟨⟨x47,st48⟩,hx49,h⟩:=wX h
    try dsimp only at h
    refine TL.run ab [0] Z Z (vr Z .u (.fn Tryz.call80 Z) (ji b13 st19 _ hx49) (fun _ hs=>(Src.triv _)) Z (TL.run ab [2] Z Z ?_))
    rcases jF h with⟨c50,h⟩ | ⟨c50,h⟩
    ·refine TL.nil (X.seq (uF Z (wY c50) (T.seq (T.region Z ?_))))
     refine TL.q Z .u (uU (cells:= #[jI 0,jI 0,.bool false,.bool false,.bool false,jI 0,jI 0,jI 0,jI 0,jI 0,jI 0,.slice none 0 0]) cR Z (by kernel_rfl)) Z ?_
     refine vg (cs':= #[jI 0,jI 0,.bool false,.bool false,.bool false,jI 0,jI 0,jI 0,jI 0,jI 0,jI 0,.slice none 0 0]) Z .u Z Z xl Z Z Z Z (TL.run ab [2] Z Z ?_)
     obtain rfl:=xa h
     exact TL.nil (X.seq (T.ret (uH (vd 7 bf (uX [6,0] yW (uT (us:= #[jI 0,jI 0,.bool false,.bool false,.bool false,jI 0,jI 0,jI 0,jI 0,jI 0,jI 0,.slice none 0 0]) 4 Z xA xl Z Z) (uD Z) ⟨_,_,Z,Z,Z⟩ (by rfl) (.inl Z))))))
    ·refine TL.nil (X.seq (uK Z (wZ c50) ?_))
     refine T.skip (X.seq (T.seq (uZ (.q 0 (.q 1 (.e 2 (.e 3 (.q 4 .nil))))) [0,0,0,1,1] Z gx (NoP.seq aI) (by kernel_rfl) ?_)))
     iterate 2 refine TD.q Z .u (uN (us := [jI a0.wG,jI a0.wz,.bool x7,.bool x8,.bool x9,jI a0.wE,jI a0.wx,jI a0.wJ,jI a0.ww,jI a0.wA,jI a0.wv,.slice A17 y16.length c18]) 2 Z xA xl Z Z Z) Z ?_
     obtain⟨x51,hx52,h⟩:=wX h
     refine v6 Z .u (.fn Tryz.call33 Z) (fN (⟨a0.wG,a0.wz,x7,x8,x9,a0.wE,a0.wx,a0.wJ,a0.ww,a0.wA,a0.wv,y16⟩:Bat) _ _ _ hx52) (fun _ hs=>(vu 0 hs Z (fun w G h=>aN (by decide) w G h))) Z [0,0,0,1,1] (Z) (vE (cs':= #[jI a0.wG,jI a0.wz,.bool x7,.bool x8,.bool x9,jI a0.wE,jI a0.wx,jI a0.wJ,jI a0.ww,jI a0.wA,jI a0.wv,.slice A17 y16.length c18]) Z .u Z Z xl Z Z Z Z [0,0,0,1,1] (Z) (TD.run ab [4] Z Z ?_))
     obtain rfl:=xa h
     exact TD.nil (X.seq (T.ret (vt (by decide) 0 Z (uW [0,0,0,0,0,0] Z (uX [5,0] yW (uT (us:= #[jI a0.wG,jI a0.wz,.bool x7,.bool x8,.bool x9,jI a0.wE,jI a0.wx,jI a0.wJ,jI a0.ww,jI a0.wA,jI a0.wv,.slice A17 y16.length c18]) 3 Z xA xl Z Z) (uD Z) ⟨_,_,Z,Z,Z⟩ (by rfl) (.inl Z))))))
 ·refine TL.nil (X.seq (uF Z (aA (wZ c5)) (T.seq (T.region Z ?_))))
  refine TL.q Z .u (uU (cells:= #[jI 0,jI 0,.bool false,.bool false,.bool false,jI 0,jI 0,jI 0,jI 0,jI 0,jI 0,.slice none 0 0]) cR Z (by kernel_rfl)) Z ?_
  refine TL.run ab [1] Z Z (uO (cs':= #[jI 0,jI 0,.bool false,.bool false,.bool false,jI 0,jI 0,jI 0,jI 0,jI 0,jI 0,.slice none 0 0]) Z .u Z Z xl Z Z Z Z (TL.run ab [3] Z Z ?_))
  obtain rfl:=xa h
  exact TL.nil (X.seq (T.ret (uH (vd 7 bf (uX [3,0] yW (uT (us:= #[jI 0,jI 0,.bool false,.bool false,.bool false,jI 0,jI 0,jI 0,jI 0,jI 0,jI 0,.slice none 0 0]) 1 Z xA xl Z Z) (uD Z) ⟨_,_,Z,Z,Z⟩ (by rfl) (.inl Z))))))
def dW (st:I)  : Option (Bat×I):=(db st).bind fun (x3,st4)=>if -9223372036854775808≤(x3.wM - 49)∧(x3.wM - 49)≤9223372036854775807 then ((qL st4 (x3.wM - 49)).bind fun (x8,st9)=>(jH st9).bind fun (x11,st12)=>if x11=0 then ((cm ([],0) x3).bind fun st15=>(ib st15).bind fun (x17,x18,st19)=>(fx).bind fun st21=>if 21≤x17.length then ((dh st21 [(x17.drop 21),x8]).bind fun (x26,st27)=>if -9223372036854775808≤x26∧x26≤9223372036854775807 then (if x26=x3.wT then ((dV x3 x8).bind fun (x31,x34)=>if x34=0 then some (x31,st12) else ((bi st12 x34).bind fun st38=>some ((⟨0,0,false,false,false,0,0,0,0,0,0,[]⟩:Bat),st38))) else ((bi st12 5).bind fun st40=>some ((⟨0,0,false,false,false,0,0,0,0,0,0,[]⟩:Bat),st40))) else none) else none) else (some ((⟨0,0,false,false,false,0,0,0,0,0,0,[]⟩:Bat),st12))) else none
theorem jT (g:Nat) (st:I)  (r:Bat×I) (h:dW st  = some r):au Tryz.prog 22 #[jP g] .triv (InR g st) (fun v A' N=> ∃ (A42:Option Addr) (c43:Nat),v= .agg #[jI r.1.wG,jI r.1.wz,.bool r.1.wH,.bool r.1.wN,.bool r.1.wF,jI r.1.wE,jI r.1.wx,jI r.1.wJ,jI r.1.ww,jI r.1.wA,jI r.1.wv,.slice A42 r.1.ws.length c43]∧A'=InR g r.2∧N = [RdR (aq 7 bf) [.slice A42 r.1.ws.length c43] r.1.ws]):=by
 refine aF Tryz.func22 Z Tryz.ntmps22 Z ?_
 intro F w hX
 unfold dW at h
 refine T.seq (T.region Z (TL.alloc Z .u Tryz.zeroValue43 Z (fun b1=>(TL.nil (X.seq (T.seq (T.region Z (wj Z .u Tryz.zeroValue84 Z (fun b2=>(TL.nil (X.seq (T.seq (T.region Z ?_)))))))))))))
 obtain⟨⟨x3,st4⟩,hx5,h⟩:=wX h
 try dsimp only at h
 refine TL.run ab [0] Z Z (vZ Z .u (.fn Tryz.call46 Z) (fL g st _ hx5) (fun _ hs=>(Src.triv _)) Z (TL.alloc Z .u Tryz.zeroValue89 Z (fun b6=>(uO (cs':= #[jI x3.wG,jI x3.wM,jI x3.wz,jI x3.wT,jI x3.wQ,jI x3.wE,jI x3.wx,jI x3.wJ,jI x3.ww,jI x3.wA,jI x3.wv,jI x3.wR]) Z .u Z Z yg Z Z Z Z (TL.nil (X.seq (T.seq (T.region Z (TL.run ab [0,1] Z Z (TL.q Z .u (uB 0 Z xc Z Z) Z ?_))))))))))
 replace h:=ak h
 obtain⟨c7,h⟩:=h
 refine TL.q Z .u (Ex.sub Z Z c7) Z ?_
 obtain⟨⟨x8,st9⟩,hx10,h⟩:=wX h
 try dsimp only at h
 refine TL.c3 Z .u (.fn Tryz.call47 Z) (p9 g st4 (x3.wM - 49) _ hx10) (fun _ hs=>(Src.triv _)) Z (TL.run ab [5] Z Z (TL.nil (X.seq (T.seq (T.seq (T.region Z ?_))))))
 obtain⟨⟨x11,st12⟩,hx13,h⟩:=wX h
 try dsimp only at h
 refine TL.run ab [0] Z Z (TL.c3 Z .u (.fn Tryz.call23 Z) (dT g st9 _ hx13) (fun _ hs=>(Src.triv _)) Z (TL.run ab [2] Z Z ?_))
 rcases jF h with⟨c14,h⟩ | ⟨c14,h⟩
 ·refine TL.nil (X.seq (uK Z (av (wY c14)) (T.skip (X.seq (T.seq (T.region Z (TL.q Z .u (uN (us := [jI x3.wG,jI x3.wM,jI x3.wz,jI x3.wT,jI x3.wQ,jI x3.wE,jI x3.wx,jI x3.wJ,jI x3.ww,jI x3.wA,jI x3.wv,jI x3.wR]) 0 Z yL yg Z Z Z) Z ?_)))))))
  obtain⟨st15,hx16,h⟩:=wX h
  refine vr Z .u (.fn Tryz.call37 Z) (dZ b2 ([],0) x3 _ hx16) (fun _ hs=>(Src.triv _)) Z ?_
  obtain⟨⟨x17,x18,st19⟩,hx20,h⟩:=wX h
  try dsimp only at h
  refine TL.nil (X.seq (T.seq (T.region Z (vr Z .u (.fn Tryz.call35 Z) (eU b2 st15 _ hx20) (fun _ hs=>(Src.triv _)) Z (TL.run ab [1,2,3,4,5] Z Z ?_)))))
  obtain⟨st21,hx22,h⟩:=wX h
  replace h:=ak h
  obtain⟨c24,h⟩:=h
  obtain⟨⟨x26,st27⟩,hx28,h⟩:=wX h
  try dsimp only at h
  replace h:=ak h
  obtain⟨c29,h⟩:=h
  refine TL.nil (X.seq (T.seq (T.seq ?_)))
  refine T.join (fun e Rs=> ∃ (b23:Nat) (b25:Nat),e = [(0,jP g),(2,jP b1),(3,jP b2),(4,jP b6),(5,jS x8),(10,jP g),(11,.agg #[jI x3.wG,jI x3.wM,jI x3.wz,jI x3.wT,jI x3.wQ,jI x3.wE,jI x3.wx,jI x3.wJ,jI x3.ww,jI x3.wA,jI x3.wv,jI x3.wR]),(12,jP g),(13,.pointer (some ⟨b6,1,none⟩)),(14,jI x3.wM),(15,jI (x3.wM - 49)),(16,jS x8),(17,jP g),(18,jI x11),(19,.bool (!(decide (x11=0)))),(21,.agg #[jI x3.wG,jI x3.wM,jI x3.wz,jI x3.wT,jI x3.wQ,jI x3.wE,jI x3.wx,jI x3.wJ,jI x3.ww,jI x3.wA,jI x3.wv,jI x3.wR]),(23,.tuple #[jS x17,jI x18]),(24,.tuple #[jS x17,jI x18]),(25,jS x17),(26,jI x18),(36,.bool (!(decide (x26=x3.wT))))]∧Rs = [aE 9 1 gq (.slice (some ⟨b25,0,none⟩) 2 2) [(x17.drop 21),x8],fU 131 b23 st27,aD b6 89 #[jI x3.wG,jI x3.wM,jI x3.wz,jI x3.wT,jI x3.wQ,jI x3.wE,jI x3.wx,jI x3.wJ,jI x3.ww,jI x3.wA,jI x3.wv,jI x3.wR],aT b2 st19,aD b1 43 #[jI 0,jI 0,.bool false,.bool false,.bool false,jI 0,jI 0,jI 0,jI 0,jI 0,jI 0,.slice none 0 0],InR g st12]) ?_ ?_
  ·refine uZ (.q 1 (.q 2 (.q 3 (.q 7 (.q 8 (.br 0 (.e 4 (.e 5 (.q 6 (.q 9 .nil)))) (.e 4 (.e 0 (.e 5 (.q 6 (.q 9 .nil))))))))))) [0,0,0,0] Z gx oX (by kernel_rfl) ?_
   refine TD.run ab [1] Z Z ?_
   refine TD.q Z .u (vq (p:=21) (q:=x17.length) (m:=(x17.drop 21)) Z xj (.some Z Z) .none (by first | omega | (dsimp only; omega)) (eb _ _)) Z ?_
   refine TD.run ab [3,7] Z Z (TD.q Z .u (uB 0 Z xc Z Z) Z ?_)
   refine TD.br ?_ ?_
   ·refine TD.cge Z .u (.fn Tryz.call38 Z) (eF _ hx22) (fun _ hs=>(uE _ _)) Z [1,1,1,1] ?_ ?_
    ·rintro _ _ _ ⟨b23,rfl,rfl,rfl⟩
     rfl
    rintro _ _ _ ⟨b23,rfl,rfl,rfl⟩
    exact vi [0,0,0,0,0] Z (TD.lit (cells:= #[.string (aB (x17.drop 21)),jS x8]) Z .u eG Z (by rfl) Z [2,2,2,2] (fun _=>Z) (fun b25=>(TD.rowOf (us := [.string (aB (x17.drop 21)),jS x8]) (xs := [(x17.drop 21),x8]) (E:=gq) (z:=1) Z (Nat.le_of_ble_eq_true Z) (fun _=>⟨Z,Z,⟨Z,Z,Z⟩⟩) (TD.c1 Z .u (.fn Tryz.call39 Z) (dc b23 st21 [(x17.drop 21),x8] _ _ _ hx28) (fun _ hs=>(Src.res 0 Z (fun w G h=>aN (by decide) w G h))) Z [2,2,2,2] (Z) (TD.q Z .u (vG Z xZ xW c29) Z (TD.run ab [9] Z Z (TD.nil (vU [0,0,0,0,0,0] ⟨b23,b25,Z,Z⟩ (by rfl) (by rfl)))))))))
   ·refine TD.lit (cells:= #[.string (aB (x17.drop 21)),jS x8]) Z .u eG Z (by rfl) Z [1,1,1,1] (fun _=>Z) (fun b25=>(TD.rowOf (us := [.string (aB (x17.drop 21)),jS x8]) (xs := [(x17.drop 21),x8]) (E:=gq) (z:=1) Z (Nat.le_of_ble_eq_true Z) (fun _=>⟨Z,Z,⟨Z,Z,Z⟩⟩) ?_))
    refine TD.cge Z .u (.fn Tryz.call38 Z) (eF _ hx22) (fun _ hs=>(uE _ _)) Z [2,2,2,2] ?_ ?_
    ·rintro _ _ _ ⟨b23,rfl,rfl,rfl⟩
     rfl
    rintro _ _ _ ⟨b23,rfl,rfl,rfl⟩
    exact vi [0,0,0,0,0,0] Z (TD.c0 Z .u (.fn Tryz.call39 Z) (dc b23 st21 [(x17.drop 21),x8] _ _ _ hx28) (fun _ hs=>(Src.res 0 Z (fun w G h=>aN (by decide) w G h))) Z [2,2,2,2] (Z) (TD.q Z .u (vG Z xZ xW c29) Z (TD.run ab [9] Z Z (TD.nil (vU [1,0,0,0,0,0] ⟨b23,b25,Z,Z⟩ (by rfl) (by rfl))))))
  ·rintro _ _ ⟨b23,b25,rfl,rfl⟩
   rcases jF h with⟨c30,h⟩ | ⟨c30,h⟩
   ·refine X.seq (uK Z (av (wY c30)) (T.skip (X.seq (T.seq (T.region Z (TL.q Z .u (uN (us := [jI x3.wG,jI x3.wM,jI x3.wz,jI x3.wT,jI x3.wQ,jI x3.wE,jI x3.wx,jI x3.wJ,jI x3.ww,jI x3.wA,jI x3.wv,jI x3.wR]) 2 Z yL yg Z Z Z) Z ?_))))))
    obtain⟨⟨x31,x34⟩,hx35,h⟩:=wX h
    try dsimp only at h
    refine TL.run ab [1] Z Z (u0 Z .u (.fn Tryz.call49 Z) (jR x3 x8 _ hx35) (fun _ hs=>(uE _ _)) Z ?_)
    rintro _ _ _ ⟨A32,c33,rfl,rfl,rfl⟩
    refine uM [0,0,0,0,0,0,0] Z (TL.run ab [3,4,5] Z Z (TL.alloc Z .u Tryz.zeroValue43 Z (fun b36=>(uO (cs':= #[jI x31.wG,jI x31.wz,.bool x31.wH,.bool x31.wN,.bool x31.wF,jI x31.wE,jI x31.wx,jI x31.wJ,jI x31.ww,jI x31.wA,jI x31.wv,.slice A32 x31.ws.length c33]) Z .u Z Z xl Z Z Z Z (TL.run ab [8] Z Z (TL.nil (X.seq (T.seq (T.seq (T.region Z (TL.run ab [0,1] Z Z ?_)))))))))))
    rcases jF h with⟨c37,h⟩ | ⟨c37,h⟩
    ·refine TL.nil (X.seq (uK Z (av (wY c37)) (T.skip (X.seq (T.seq (T.region Z (TL.q Z .u (uN (us := [jI x31.wG,jI x31.wz,.bool x31.wH,.bool x31.wN,.bool x31.wF,jI x31.wE,jI x31.wx,jI x31.wJ,jI x31.ww,jI x31.wA,jI x31.wv,.slice A32 x31.ws.length c33]) 0 Z xA xl Z Z Z) Z (TL.st6 (cs':= #[jI x31.wG,jI x31.wz,.bool x31.wH,.bool x31.wN,.bool x31.wF,jI x31.wE,jI x31.wx,jI x31.wJ,jI x31.ww,jI x31.wA,jI x31.wv,.slice A32 x31.ws.length c33]) Z .u Z Z xl Z Z Z Z ?_))))))))
     obtain rfl:=xa h
     exact TL.nil (X.seq (T.ret (uC [7,1] zd (uT (us:= #[jI x31.wG,jI x31.wz,.bool x31.wH,.bool x31.wN,.bool x31.wF,jI x31.wE,jI x31.wx,jI x31.wJ,jI x31.ww,jI x31.wA,jI x31.wv,.slice A32 x31.ws.length c33]) 6 Z xA xl Z Z) ⟨_,_,Z,Z,Z⟩ (by rfl) (.inl Z))))
    ·refine TL.nil (X.seq (uF Z (aA (wZ c37)) (T.seq (T.region Z ?_))))
     obtain⟨st38,hx39,h⟩:=wX h
     refine TL.run ab [0,1] Z Z (TL.c7 Z .u (.fn Tryz.call48 Z) (aX g st12 x34 _ hx39) (fun _ hs=>(Src.triv _)) Z (TL.nil (X.seq (T.seq (T.region Z ?_)))))
     refine TL.q Z .u (uU (cells:= #[jI 0,jI 0,.bool false,.bool false,.bool false,jI 0,jI 0,jI 0,jI 0,jI 0,jI 0,.slice none 0 0]) cR Z (by kernel_rfl)) Z ?_
     refine TL.st6 (cs':= #[jI 0,jI 0,.bool false,.bool false,.bool false,jI 0,jI 0,jI 0,jI 0,jI 0,jI 0,.slice none 0 0]) Z .u Z Z xl Z Z Z Z ?_
     obtain rfl:=xa h
     exact TL.nil (X.seq (T.ret (uH (vd 7 bf (uC [8,0] zd (uT (us:= #[jI 0,jI 0,.bool false,.bool false,.bool false,jI 0,jI 0,jI 0,jI 0,jI 0,jI 0,.slice none 0 0]) 7 Z xA xl Z Z) ⟨_,_,Z,Z,Z⟩ (by rfl) (.inl Z))))))
   ·refine X.seq (uF Z (aA (wZ c30)) (T.seq (T.region Z ?_)))
    obtain⟨st40,hx41,h⟩:=wX h
    refine TL.run ab [0] Z Z (TL.c5 Z .u (.fn Tryz.call48 Z) (aX g st12 5 _ hx41) (fun _ hs=>(Src.triv _)) Z (TL.nil (X.seq (T.seq (T.region Z ?_)))))
    refine TL.q Z .u (uU (cells:= #[jI 0,jI 0,.bool false,.bool false,.bool false,jI 0,jI 0,jI 0,jI 0,jI 0,jI 0,.slice none 0 0]) cR Z (by kernel_rfl)) Z ?_
    refine vx (cs':= #[jI 0,jI 0,.bool false,.bool false,.bool false,jI 0,jI 0,jI 0,jI 0,jI 0,jI 0,.slice none 0 0]) Z .u Z Z xl Z Z Z Z ?_
    obtain rfl:=xa h
    exact TL.nil (X.seq (T.ret (uH (vd 7 bf (uC [6,0] zd (uT (us:= #[jI 0,jI 0,.bool false,.bool false,.bool false,jI 0,jI 0,jI 0,jI 0,jI 0,jI 0,.slice none 0 0]) 5 Z xA xl Z Z) ⟨_,_,Z,Z,Z⟩ (by rfl) (.inl Z))))))
 ·refine TL.nil (X.seq (uF Z (aA (wZ c14)) (T.seq (T.region Z ?_))))
  refine TL.q Z .u (uU (cells:= #[jI 0,jI 0,.bool false,.bool false,.bool false,jI 0,jI 0,jI 0,jI 0,jI 0,jI 0,.slice none 0 0]) cR Z (by kernel_rfl)) Z ?_
  refine vB (cs':= #[jI 0,jI 0,.bool false,.bool false,.bool false,jI 0,jI 0,jI 0,jI 0,jI 0,jI 0,.slice none 0 0]) Z .u Z Z xl Z Z Z Z ?_
  obtain rfl:=xa h
  exact TL.nil (X.seq (T.ret (uH (vd 7 bf (uC [4,0] zd (uT (us:= #[jI 0,jI 0,.bool false,.bool false,.bool false,jI 0,jI 0,jI 0,jI 0,jI 0,jI 0,.slice none 0 0]) 3 Z xA xl Z Z) ⟨_,_,Z,Z,Z⟩ (by rfl) (.inl Z))))))
def cT:List Rec→(List UInt8×Int)→Option (List UInt8×Int)
 | [],st9=>some st9
 | x14::xs,st9=>(fG st9 x14).bind fun st22=>cT xs st22
def fO (a0:Bat):Option (List UInt8×Int):=(bJ a0).bind fun x4=>if x4=0 then ((cT a0.ws ([],0)).bind fun st25=>(ib st25).bind fun (x26,x27,st28)=>if -9223372036854775808≤(49+(x26.length:Int))∧(49+(x26.length:Int))≤9223372036854775807 then ((gAOf a0).bind fun x31=>(cm ([],0) (⟨a0.wG,(49+(x26.length:Int)),a0.wz,0,x31,a0.wE,a0.wx,a0.wJ,a0.ww,a0.wA,a0.wv,(a0.ws.length:Int)⟩:Pfx)).bind fun st35=>(ib st35).bind fun (x37,x38,st39)=>(if x27=0 then (if x38=0 then some false else some true) else some true).bind fun y42=>if y42=true then some ([],11) else ((fx).bind fun st47=>if 21≤x37.length then ((dh st47 [(x37.drop 21),x26]).bind fun (x52,st53)=>if -9223372036854775808≤x52∧x52≤9223372036854775807 then ((cm ([],0) (⟨a0.wG,(49+(x26.length:Int)),a0.wz,x52,x31,a0.wE,a0.wx,a0.wJ,a0.ww,a0.wA,a0.wv,(a0.ws.length:Int)⟩:Pfx)).bind fun st56=>(sw st56 x26).bind fun st58=>(ib st58).bind fun (x60,x61,st62)=>some (x60,x61)) else none) else none)) else none) else some ([],x4)
theorem iS (a0:Bat) (A1:Option Addr) (c2:Nat) (r:List UInt8×Int) (h:fO a0=some r):au Tryz.prog 16 #[.agg #[jI a0.wG,jI a0.wz,.bool a0.wH,.bool a0.wN,.bool a0.wF,jI a0.wE,jI a0.wx,jI a0.wJ,jI a0.ww,jI a0.wA,jI a0.wv,.slice A1 a0.ws.length c2]] (RX.of (aq 7 bf) [.slice A1 a0.ws.length c2] a0.ws) (aw) (fun v A' N=>v= .tuple #[jS r.1,jI r.2]∧A'=aw∧N = []):=by
 refine aF Tryz.func16 Z Tryz.ntmps16 Z ?_
 intro F w hX
 unfold fO at h
 refine T.seq (T.region Z (TL.box Z .u Z Z (fun b3=>(TL.run ab [1,2] Z Z (TL.nil (X.seq (T.seq (T.seq (T.region Z (TL.q Z .u (uN (us := [jI a0.wG,jI a0.wz,.bool a0.wH,.bool a0.wN,.bool a0.wF,jI a0.wE,jI a0.wx,jI a0.wJ,jI a0.ww,jI a0.wA,jI a0.wv,.slice A1 a0.ws.length c2]) 0 Z xA xl Z Z Z) Z ?_))))))))))
 obtain⟨x4,hx5,h⟩:=wX h
 refine uP Z .u (.fn Tryz.call33 Z) (fN a0 _ _ _ hx5) (fun _ hs=>(vb hs hX)) Z (TL.run ab [2] Z Z (TL.nil (X.seq (T.seq (T.region Z (TL.run ab [0,1] Z Z ?_))))))
 rcases jF h with⟨c6,h⟩ | ⟨c6,h⟩
 ·refine TL.nil (X.seq (uK Z (av (wY c6)) (T.skip (X.seq (T.seq (T.region Z (wj Z .u Tryz.zeroValue84 Z (fun b7=>(TL.nil (X.seq (T.seq (T.seq (T.region Z (TL.run ab [0] Z Z (TL.q Z .u (uB 1 Z xL Z Z) Z (TL.q Z .u (uY Z xn) Z ?_))))))))))))))))
  refine TL.run ab [3] Z Z (TL.nil (X.seq (T.block ?_)))
  obtain⟨E10,hE11,hO12⟩:=wX h
  have hk16len:=vz hX
  refine vo (fun m e Rs=> ∃ (k8:Nat) (st9:List UInt8×Int),k8+m=a0.ws.length∧e = [(1,jP b3),(2,.string ⟨#[]⟩),(3,jI 0),(5,jP b7),(20,.slice A1 a0.ws.length c2),(21,jI (a0.ws.length:Int)),(22,jI (k8:Int))]∧Rs = [aT b7 st9,aD b3 43 #[jI a0.wG,jI a0.wz,.bool a0.wH,.bool a0.wN,.bool a0.wF,jI a0.wE,jI a0.wx,jI a0.wJ,jI a0.ww,jI a0.wA,jI a0.wv,.slice A1 a0.ws.length c2],aw]∧cT (a0.ws.drop k8) st9=some E10) (a0.ws.length) [0,0,0] ⟨0,([],0),by simp,Z,Z,by rw[List.drop_zero]; exact hE11⟩ (by rfl) (by rfl) ?_
  rintro m13 _ _ ⟨k8,st9,hk16,rfl,rfl,hl15⟩
  clear hE11 h
  cases m13 with
  | zero =>
   have h:=hl15
   clear hl15
   rw[List.drop_of_length_le (by omega),cT] at h
   have hk16ge: ¬ ((k8:Int)<(a0.ws.length:Int)):=by omega
   refine T.seq (T.region Z (TL.run ab [0] Z Z (TL.nil (X.seq (T.seq (uK Z (wZ hk16ge) ?_))))))
   obtain rfl:=xa h
   replace h:=hO12
   clear hO12
   try dsimp only at h
   obtain⟨⟨x64,x65,st66⟩,hx67,h⟩:=wX h
   try dsimp only at h
   refine T.exit (uR (uR (vn (X.seq (T.seq (T.region Z (vf Z .u (.fn Tryz.call35 Z) (eU b7 st9 _ hx67) (fun _ hs=>(Src.triv _)) Z (TL.run ab [1,2,3,4,5] Z Z ?_))))))))
   replace h:=ak h
   obtain⟨c68,h⟩:=h
   obtain⟨x69,hx70,h⟩:=wX h
   refine TL.nil (X.seq (T.seq ?_))
   refine T.join (fun e Rs=> ∃ (b71:Nat),e = [(1,jP b3),(2,.string ⟨#[]⟩),(3,jI 0),(5,jP b7),(8,jS x64),(9,jI x65),(10,jP b71),(20,.slice A1 a0.ws.length c2),(21,jI (a0.ws.length:Int)),(22,jI (k8:Int)),(23,.bool (decide ((k8:Int)<(a0.ws.length:Int)))),(29,.tuple #[jS x64,jI x65]),(30,.tuple #[jS x64,jI x65]),(31,jS x64),(32,jI x65)]∧Rs = [aD b71 89 #[jI a0.wG,jI (49+(x64.length:Int)),jI a0.wz,jI 0,jI x69,jI a0.wE,jI a0.wx,jI a0.wJ,jI a0.ww,jI a0.wA,jI a0.wv,jI (a0.ws.length:Int)],aT b7 st66,aD b3 43 #[jI a0.wG,jI a0.wz,.bool a0.wH,.bool a0.wN,.bool a0.wF,jI a0.wE,jI a0.wx,jI a0.wJ,jI a0.ww,jI a0.wA,jI a0.wv,.slice A1 a0.ws.length c2],aw]) ?_ ?_
   ·refine uZ (.q 0 (.q 1 (.q 2 (.q 3 (.q 4 (.q 5 (.q 6 (.q 7 (.q 9 (.q 10 (.q 11 (.q 12 (.q 13 (.q 14 (.q 15 (.q 16 (.q 17 (.q 18 (.q 19 (.q 20 (.q 21 (.q 22 (.q 23 (.br 8 (.q 24 (.e 25 (.e 26 .nil))) (.e 25 (.e 8 (.q 24 (.e 26 .nil)))))))))))))))))))))))))))) [0,0,0] Z gx oX (by kernel_rfl) ?_
    refine TD.run ab [0] Z Z (TD.q Z .u (uB 1 Z xc Z Z) Z (TD.run ab [2] Z Z (TD.q Z .u (vk Z xj) Z (TD.q Z .u (Ex.add Z Z c68) Z (TD.run ab [5] Z Z (TD.q Z .u (uB 1 Z xc Z Z) Z (TD.q Z .u (uN (us := [jI a0.wG,jI a0.wz,.bool a0.wH,.bool a0.wN,.bool a0.wF,jI a0.wE,jI a0.wx,jI a0.wJ,jI a0.ww,jI a0.wA,jI a0.wv,.slice A1 a0.ws.length c2]) 1 Z xA xl Z Z Z) Z ?_)))))))
    refine TD.run ab [9] Z Z (TD.q Z .u (uB 1 Z xc Z Z) Z (TD.run ab [11] Z Z (TD.q Z .u (uB 1 Z xc Z Z) Z (TD.run ab [13] Z Z (TD.q Z .u (uB 1 Z xc Z Z) Z (TD.run ab [15] Z Z (TD.q Z .u (uB 1 Z xc Z Z) Z ?_)))))))
    refine TD.run ab [17] Z Z (TD.q Z .u (uB 1 Z xc Z Z) Z (TD.run ab [19] Z Z (TD.q Z .u (uB 1 Z xc Z Z) Z (TD.run ab [21] Z Z (TD.q Z .u (uB 1 Z xL Z Z) Z (TD.q Z .u (uY Z xn) Z ?_))))))
    refine TD.br ?_ ?_
    ·refine v6 Z .u (.fn Tryz.call36 Z) (m4 a0 _ _ _ hx70) (fun _ hs=>(vb hs hX)) Z [0,0,0] (Z) ?_
     refine TD.q Z .u (uU (cells:= #[jI a0.wG,jI (49+(x64.length:Int)),jI a0.wz,jI 0,jI x69,jI a0.wE,jI a0.wx,jI a0.wJ,jI a0.ww,jI a0.wA,jI a0.wv,jI (a0.ws.length:Int)]) jQ Z (by kernel_rfl)) Z ?_
     exact TD.alloc Z .u Tryz.zeroValue89 Z [1,1,1] (fun _=>Z) (fun b71=>(TD.st0 (cs':= #[jI a0.wG,jI (49+(x64.length:Int)),jI a0.wz,jI 0,jI x69,jI a0.wE,jI a0.wx,jI a0.wJ,jI a0.ww,jI a0.wA,jI a0.wv,jI (a0.ws.length:Int)]) Z .u Z Z yg Z Z Z Z [1,1,1] (Z) (TD.nil (vU [0,0,0,0] ⟨b71,Z,Z⟩ (by rfl) (by rfl)))))
    ·refine TD.alloc Z .u Tryz.zeroValue89 Z [1,1,1] (fun _=>Z) (fun b71=>(v6 Z .u (.fn Tryz.call36 Z) (m4 a0 _ _ _ hx70) (fun _ hs=>(vb hs hX)) Z [1,1,1] (Z) ?_))
     refine TD.q Z .u (uU (cells:= #[jI a0.wG,jI (49+(x64.length:Int)),jI a0.wz,jI 0,jI x69,jI a0.wE,jI a0.wx,jI a0.wJ,jI a0.ww,jI a0.wA,jI a0.wv,jI (a0.ws.length:Int)]) jQ Z (by kernel_rfl)) Z ?_
     exact TD.st0 (cs':= #[jI a0.wG,jI (49+(x64.length:Int)),jI a0.wz,jI 0,jI x69,jI a0.wE,jI a0.wx,jI a0.wJ,jI a0.ww,jI a0.wA,jI a0.wv,jI (a0.ws.length:Int)]) Z .u Z Z yg Z Z Z Z [1,1,1] (Z) (TD.nil (vU [0,0,0,0] ⟨b71,Z,Z⟩ (by rfl) (by rfl)))
   ·rintro _ _ ⟨b71,rfl,rfl⟩
    refine X.seq (T.seq (T.region Z (wj Z .u Tryz.zeroValue84 Z (fun b72=>(TL.nil (X.seq (T.seq (T.region Z (TL.q Z .u (uN (us := [jI a0.wG,jI (49+(x64.length:Int)),jI a0.wz,jI 0,jI x69,jI a0.wE,jI a0.wx,jI a0.wJ,jI a0.ww,jI a0.wA,jI a0.wv,jI (a0.ws.length:Int)]) 1 Z yL yg Z Z Z) Z ?_)))))))))
    obtain⟨st73,hx74,h⟩:=wX h
    refine vf Z .u (.fn Tryz.call37 Z) (dZ b72 ([],0) (⟨a0.wG,(49+(x64.length:Int)),a0.wz,0,x69,a0.wE,a0.wx,a0.wJ,a0.ww,a0.wA,a0.wv,(a0.ws.length:Int)⟩:Pfx) _ hx74) (fun _ hs=>(Src.triv _)) Z ?_
    obtain⟨⟨x75,x76,st77⟩,hx78,h⟩:=wX h
    try dsimp only at h
    refine TL.nil (X.seq (T.seq (T.region Z (vf Z .u (.fn Tryz.call35 Z) (eU b72 st73 _ hx78) (fun _ hs=>(Src.triv _)) Z (TL.run ab [1,2,3,4,5] Z Z (TL.nil (X.seq (T.seq (T.seq ?_)))))))))
    obtain⟨y80,h,hk81⟩:=wX h
    refine vF (fun e Rs=>e = [(2,.string ⟨#[]⟩),(3,jI 0),(8,jS x64),(10,jP b71),(11,jP b72),(12,jS x75),(69,.bool y80)]∧Rs = [aT b72 st77,aD b71 89 #[jI a0.wG,jI (49+(x64.length:Int)),jI a0.wz,jI 0,jI x69,jI a0.wE,jI a0.wx,jI a0.wJ,jI a0.ww,jI a0.wA,jI a0.wv,jI (a0.ws.length:Int)],aT b7 st66,aD b3 43 #[jI a0.wG,jI a0.wz,.bool a0.wH,.bool a0.wN,.bool a0.wF,jI a0.wE,jI a0.wx,jI a0.wJ,jI a0.ww,jI a0.wA,jI a0.wv,.slice A1 a0.ws.length c2],aw]) ?_ ?_
    ·clear hk81
     refine T.region Z ?_
     rcases jF h with⟨c82,h⟩ | ⟨c82,h⟩
     ·refine TL.run ab [0,1,2] Z Z ?_
      iterate 2 refine TL.q Z (.g Z Z (av (wY c82))) (uI ab Z) Z ?_
      refine TL.q Z .u (uL Z (av (wY c82)) Z) Z ?_
      rcases jF h with⟨c83,h⟩ | ⟨c83,h⟩
      ·cases h
       exact TL.nil (vV (d:=69) (v':= .bool false) Z (congrArg Value.bool (av (wY c83))) (u4 [0,0,0,0,0] ⟨Z,Z⟩ (by rfl) (by rfl)))
      ·cases h
       exact TL.nil (vV (d:=69) (v':= .bool true) Z (congrArg Value.bool (aA (wZ c83))) (u4 [0,0,0,0,0] ⟨Z,Z⟩ (by rfl) (by rfl)))
     ·refine TL.run ab [0,1,2] Z Z ?_
      iterate 2 refine uG Z (.gn Z Z (aA (wZ c82))) Z ?_
      refine TL.q Z .u (uJ Z (aA (wZ c82)) Z) Z ?_
      cases h
      exact TL.nil (u4 [0,0,0,0,0] ⟨Z,Z⟩ (by rfl) (by rfl))
    ·rintro _ _ ⟨rfl,rfl⟩
     clear h
     have h:=hk81
     clear hk81
     try dsimp only at h
     rcases jF h with⟨c84,h⟩ | ⟨c84,h⟩
     ·refine X.seq (uF Z c84 (T.seq (T.region Z (TL.run ab [0,1] Z Z ?_))))
      obtain rfl:=xa h
      exact TL.nil (X.seq (T.ret (uH (uX [4] Tryz.results16 (uD Z) (uD Z) ⟨Z,Z,Z⟩ (by rfl) (.inl Z)))))
     ·replace c84:=xi c84
      refine X.seq (uK Z c84 ?_)
      obtain⟨st85,hx86,h⟩:=wX h
      replace h:=ak h
      obtain⟨c88,h⟩:=h
      obtain⟨⟨x90,st91⟩,hx92,h⟩:=wX h
      try dsimp only at h
      replace h:=ak h
      obtain⟨c93,h⟩:=h
      refine T.skip (X.seq (T.seq ?_))
      refine T.join (fun e Rs=> ∃ (b87:Nat) (b89:Nat),e = [(2,.string ⟨#[]⟩),(3,jI 0),(8,jS x64),(10,jP b71),(11,jP b72),(69,.bool y80)]∧Rs = [aE 9 1 gq (.slice (some ⟨b89,0,none⟩) 2 2) [(x75.drop 21),x64],fU 131 b87 st91,aT b72 st77,aD b71 89 #[jI a0.wG,jI (49+(x64.length:Int)),jI a0.wz,jI x90,jI x69,jI a0.wE,jI a0.wx,jI a0.wJ,jI a0.ww,jI a0.wA,jI a0.wv,jI (a0.ws.length:Int)],aT b7 st66,aD b3 43 #[jI a0.wG,jI a0.wz,.bool a0.wH,.bool a0.wN,.bool a0.wF,jI a0.wE,jI a0.wx,jI a0.wJ,jI a0.ww,jI a0.wA,jI a0.wv,.slice A1 a0.ws.length c2],aw]) ?_ ?_
      ·refine uZ (.q 1 (.q 2 (.q 3 (.br 0 (.e 4 (.e 5 (.q 6 (.q 7 (.e 8 .nil))))) (.e 4 (.e 0 (.e 5 (.q 6 (.q 7 (.e 8 .nil)))))))))) [0,1,1,1] Z gx oX (by kernel_rfl) ?_
       refine TD.run ab [1] Z Z ?_
       refine TD.q Z .u (vq (p:=21) (q:=x75.length) (m:=(x75.drop 21)) Z xj (.some Z Z) .none (by first | omega | (dsimp only; omega)) (eb _ _)) Z ?_
       refine TD.run ab [3] Z Z ?_
       refine TD.br ?_ ?_
       ·refine TD.cge Z .u (.fn Tryz.call38 Z) (eF _ hx86) (fun _ hs=>(uE _ _)) Z [1,2,2,2] ?_ ?_
        ·rintro _ _ _ ⟨b87,rfl,rfl,rfl⟩
         rfl
        rintro _ _ _ ⟨b87,rfl,rfl,rfl⟩
        exact vi [0,0,0,0,0,0] Z (TD.lit (cells:= #[.string (aB (x75.drop 21)),jS x64]) Z .u eG Z (by rfl) Z [2,3,3,3] (fun _=>Z) (fun b89=>(TD.rowOf (us := [.string (aB (x75.drop 21)),jS x64]) (xs := [(x75.drop 21),x64]) (E:=gq) (z:=1) Z (Nat.le_of_ble_eq_true Z) (fun _=>⟨Z,Z,⟨Z,Z,Z⟩⟩) (TD.c1 Z .u (.fn Tryz.call39 Z) (dc b87 st85 [(x75.drop 21),x64] _ _ _ hx92) (fun _ hs=>(Src.res 0 Z (fun w G h=>aN (by decide) w G h))) Z [2,3,3,3] (Z) (TD.q Z .u (vG Z xZ xW c93) Z (TD.run ab [7] Z Z (vE (cs':= #[jI a0.wG,jI (49+(x64.length:Int)),jI a0.wz,jI x90,jI x69,jI a0.wE,jI a0.wx,jI a0.wJ,jI a0.ww,jI a0.wA,jI a0.wv,jI (a0.ws.length:Int)]) Z .u Z Z xg Z Z Z Z [2,3,3,3] (Z) (TD.nil (vU [0,0,0,0,0,0,0] ⟨b87,b89,Z,Z⟩ (by rfl) (by rfl))))))))))
       ·refine TD.lit (cells:= #[.string (aB (x75.drop 21)),jS x64]) Z .u eG Z (by rfl) Z [1,2,2,2] (fun _=>Z) (fun b89=>(TD.rowOf (us := [.string (aB (x75.drop 21)),jS x64]) (xs := [(x75.drop 21),x64]) (E:=gq) (z:=1) Z (Nat.le_of_ble_eq_true Z) (fun _=>⟨Z,Z,⟨Z,Z,Z⟩⟩) ?_))
        refine TD.cge Z .u (.fn Tryz.call38 Z) (eF _ hx86) (fun _ hs=>(uE _ _)) Z [2,3,3,3] ?_ ?_
        ·rintro _ _ _ ⟨b87,rfl,rfl,rfl⟩
         rfl
        rintro _ _ _ ⟨b87,rfl,rfl,rfl⟩
        exact vi [0,0,0,0,0,0,0] Z (TD.c0 Z .u (.fn Tryz.call39 Z) (dc b87 st85 [(x75.drop 21),x64] _ _ _ hx92) (fun _ hs=>(Src.res 0 Z (fun w G h=>aN (by decide) w G h))) Z [2,3,3,3] (Z) (TD.q Z .u (vG Z xZ xW c93) Z (TD.run ab [7] Z Z (vE (cs':= #[jI a0.wG,jI (49+(x64.length:Int)),jI a0.wz,jI x90,jI x69,jI a0.wE,jI a0.wx,jI a0.wJ,jI a0.ww,jI a0.wA,jI a0.wv,jI (a0.ws.length:Int)]) Z .u Z Z xg Z Z Z Z [2,3,3,3] (Z) (TD.nil (vU [1,0,0,0,0,0,0] ⟨b87,b89,Z,Z⟩ (by rfl) (by rfl)))))))
      ·rintro _ _ ⟨b87,b89,rfl,rfl⟩
       refine X.seq (T.seq (T.region Z ?_))
       refine TL.q Z .u (uU (cells:= #[.slice none 0 0,jI 0]) nP Z (by kernel_rfl)) Z ?_
       refine TL.outZ 2 Z .u Z Z Tryz.sizeOf84 Z (uM [0,0,0,0,0,0,0] Z (TL.nil (X.seq (T.seq (T.region Z (TL.q Z .u (uN (us := [jI a0.wG,jI (49+(x64.length:Int)),jI a0.wz,jI x90,jI x69,jI a0.wE,jI a0.wx,jI a0.wJ,jI a0.ww,jI a0.wA,jI a0.wv,jI (a0.ws.length:Int)]) 3 Z yL yg Z Z Z) Z ?_))))))
       obtain⟨st94,hx95,h⟩:=wX h
       refine vZ Z .u (.fn Tryz.call37 Z) (dZ b72 ([],0) (⟨a0.wG,(49+(x64.length:Int)),a0.wz,x90,x69,a0.wE,a0.wx,a0.wJ,a0.ww,a0.wA,a0.wv,(a0.ws.length:Int)⟩:Pfx) _ hx95) (fun _ hs=>(Src.triv _)) Z (TL.nil (X.seq (T.seq (T.region Z ?_))))
       obtain⟨st96,hx97,h⟩:=wX h
       refine TL.run ab [0] Z Z (vZ Z .u (.fn Tryz.call40 Z) (p7 b72 st94 x64 _ hx97) (fun _ hs=>(Src.triv _)) Z ?_)
       obtain⟨⟨x98,x99,st100⟩,hx101,h⟩:=wX h
       try dsimp only at h
       refine TL.nil (X.seq (T.seq (T.region Z (vZ Z .u (.fn Tryz.call35 Z) (eU b72 st96 _ hx101) (fun _ hs=>(Src.triv _)) Z (TL.run ab [1,2,3,4] Z Z ?_)))))
       obtain rfl:=xa h
       exact TL.nil (X.seq (T.ret (uX [6] Tryz.results16 (uD Z) (uD Z) ⟨Z,Z,Z⟩ (by rfl) (.inl Z))))
  | succ m13 =>
   have h:=hl15
   clear hl15
   obtain⟨x14,hxx14⟩: ∃ x,a0.ws[k8]? = some x:=⟨_,List.getElem?_eq_getElem (by omega)⟩
   rw[cK hxx14,cT] at h
   have hk16lt:(k8:Int)<(a0.ws.length:Int):=by omega
   refine T.seq (T.region Z (TL.run ab [0] Z Z (TL.nil (X.seq (T.seq (uF Z (wY hk16lt) ?_))))))
   obtain⟨gz17,oz17,rfl,z17cs,z17cl,z17cc,z17nf,z17r⟩:=vh (by decide) hX hxx14
   obtain⟨z17S,z17r,z17rr⟩:=z17r
   obtain⟨A18,c19,rfl,z17s0⟩:=z17r
   have hX20:(RX.of (aq 3 aP) [.slice A18 x14.wy.length c19] x14.wy).reads w F:=⟨z17S,z17s0,z17rr⟩
   refine T.skip (X.seq (T.seq (T.block (T.seq (T.region Z ?_)))))
   refine TL.q Z .u (uV (k:=k8) Z Z Z xn xk (xd hxx14).1) Z ?_
   refine TL.q Z .u (vA (us := [jI x14.wK,jI x14.wD,.bool x14.wC.null,jS x14.wC.data,.bool x14.wt.null,jS x14.wt.data,.slice A18 x14.wy.length c19]) 0 Z xF xk z17nf z17cc Z Z Z) Z (TL.alloc Z .u Tryz.zeroValue69 Z (fun b21=>(uO (cs':= #[jI x14.wK,jI x14.wD,.bool x14.wC.null,jS x14.wC.data,.bool x14.wt.null,jS x14.wt.data,.slice A18 x14.wy.length c19]) Z .u Z Z xk Z Z Z Z (TL.nil (X.seq (T.region Z (TL.q Z .u (uN (us := [jI x14.wK,jI x14.wD,.bool x14.wC.null,jS x14.wC.data,.bool x14.wt.null,jS x14.wt.data,.slice A18 x14.wy.length c19]) 0 Z xF xk Z Z Z) Z ?_)))))))
   obtain⟨st22,hx23,h⟩:=wX h
   exact vr Z .u (.fn Tryz.call34 Z) (iQ b7 st9 x14 _ _ _ hx23) (fun _ hs=>(Src.old hs hX20)) Z (TL.nil (uQ (X.seq (T.region Z (TL.q Z .u (Ex.add Z Z (by omega)) Z (TL.run ab [1] Z Z (TL.nil (X.back (m':=m13) [1,1,1] (by omega) ⟨k8+1,st22,by omega,Z,Z,h⟩ (by rfl) (by rfl)))))))))
 ·refine TL.nil (X.seq (uF Z (aA (wZ c6)) (T.seq (T.region Z (TL.run ab [0,1,2] Z Z ?_)))))
  obtain rfl:=xa h
  exact TL.nil (X.seq (T.ret (uH (uX [1] Tryz.results16 (uD Z) (uD Z) ⟨Z,Z,Z⟩ (by rfl) (.inl Z)))))
end Go.Proofs.YtahjmpipllajcaaGreat.Sl
