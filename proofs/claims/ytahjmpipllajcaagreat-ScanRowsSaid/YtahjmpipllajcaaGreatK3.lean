/- scanRows_holds: part 3. -/
import Derived.Test.YtahjmpipllajcaaGreatK2
set_option maxRecDepth 100000
set_option maxHeartbeats 4000000
set_option linter.defProp false
namespace Go.Proofs.YtahjmpipllajcaaGreat.Sl
open Go.RowKit
set_option linter.unusedVariables false
set_option linter.unusedSimpArgs false
def xV := @Tryz.sizeOf128
def xZ := @Tryz.runUnderlying41
def yb := @Tryz.sizeOf43
def yf := @Tryz.runUnderlying124
def yg := @Tryz.runUnderlying43
def yi := @Tryz.runUnderlying89
def yq := @Tryz.isAgg41
def yr := @Tryz.isAgg43
def yu := @Tryz.isAgg128
def yv := @Tryz.isAgg126
def yC := @Tryz.results62
def yO := @Tryz.sizeOf89
def yV := @Tryz.results33
def za := @Tryz.results61
def zi := @Tryz.results65
def zn := @Tryz.isAgg89
def zA := @Tryz.results49
def zD := @Tryz.runUnderlying128
def zH := @Tryz.results22
def sR:dY := [(89,0,0),(89,1,1),(89,2,2),(89,3,3),(89,4,4),(89,5,5),(89,6,6),(89,7,7),(89,8,8),(89,9,9),(89,10,10),(89,11,11),(128,0,0),(128,1,1)]
theorem ac:(sR).OK Tryz.prog:=⟨FOK.mk yi rfl xU rfl,FOK.mk yi rfl xU rfl,FOK.mk yi rfl xU rfl,FOK.mk yi rfl xU rfl,FOK.mk yi rfl xU rfl,FOK.mk yi rfl xU rfl,FOK.mk yi rfl xU rfl,FOK.mk yi rfl xU rfl,FOK.mk yi rfl xU rfl,FOK.mk yi rfl xU rfl,FOK.mk yi rfl xU rfl,FOK.mk yi rfl xU rfl,FOK.mk zD rfl Tryz.sizeOf126 rfl,FOK.mk zD rfl xU rfl,trivial⟩
theorem aL:Tryz.prog.follows .mixedOrders=true:=by kernel_rfl
theorem nc:BOK Tryz.prog 89 #[.int .i64 0,.int .i64 0,.int .i64 0,.int .i64 0,.int .i64 0,.int .i64 0,.int .i64 0,.int .i64 0,.int .i64 0,.int .i64 0,.int .i64 0,.int .i64 0] [(0,1),(1,1),(2,1),(3,1),(4,1),(5,1),(6,1),(7,1),(8,1),(9,1),(10,1),(11,1)]:=BOK.mk Tryz.zeroValue89 yi (by intro w; simp)
theorem aW:BOK Tryz.prog 128 #[.pointer none,.int .i64 0] [(0,1),(1,1)]:=BOK.mk Tryz.zeroValue128 zD (by intro w; simp)
theorem kc:SOK Tryz.prog 124 128 13 2 #[.pointer none,.int .i64 0,.pointer none,.int .i64 0,.pointer none,.int .i64 0,.pointer none,.int .i64 0,.pointer none,.int .i64 0,.pointer none,.int .i64 0,.pointer none,.int .i64 0,.pointer none,.int .i64 0,.pointer none,.int .i64 0,.pointer none,.int .i64 0,.pointer none,.int .i64 0,.pointer none,.int .i64 0,.pointer none,.int .i64 0]:=SOK.mk yf xV Tryz.zeroValue128 (by decide) (by kernel_rfl)
def eS (p0:Nat) (p1:Nat):Option (Unit):=some ()
theorem dR (p0:Nat) (p1:Nat) (r:Unit) (h:eS p0 p1=some r):ar Tryz.prog 69 #[jP p0,jP p1] .triv (av) (fun v A' N=> ∃ q:Nat,v= .slice (some ⟨q,0,none⟩) 13 13∧A'=av∧N = [aA q 128 #[jP p0,jI 8,.pointer (some ⟨p0,1,none⟩),jI 4,.pointer (some ⟨p0,2,none⟩),jI 4,jP p1,jI 1,.pointer (some ⟨p0,3,none⟩),jI 4,.pointer (some ⟨p0,4,none⟩),jI 2,.pointer (some ⟨p0,5,none⟩),jI 4,.pointer (some ⟨p0,6,none⟩),jI 8,.pointer (some ⟨p0,7,none⟩),jI 8,.pointer (some ⟨p0,8,none⟩),jI 8,.pointer (some ⟨p0,9,none⟩),jI 2,.pointer (some ⟨p0,10,none⟩),jI 4,.pointer (some ⟨p0,11,none⟩),jI 4]]):=by
 refine aJ Tryz.func69 Z Tryz.ntmps69 Z ?_
 intro F w hX
 unfold eS at h
 refine T.seq (T.region Z (TL.run ac [0] Z Z ?_))
 refine TL.nil (X.seq (T.seq (vQ (.q 0 (.q 1 (.q 2 (.q 3 (.q 4 (.q 5 (.q 6 (.q 7 (.q 8 (.q 9 (.q 10 (.q 11 (.q 12 (.q 13 (.q 14 (.q 15 (.q 16 (.q 17 (.q 18 (.q 19 (.q 20 (.q 21 (.q 22 (.q 23 (.q 24 (.q 25 (.q 26 (.q 27 (.q 28 (.q 29 (.q 30 (.q 31 (.q 32 (.q 33 (.q 34 (.q 35 (.q 36 (.q 37 (.q 38 (.q 39 (.q 40 (.q 41 (.q 42 (.q 43 (.q 44 (.q 45 (.q 46 (.q 47 (.q 48 (.q 49 (.e 50 (.q 51 .nil)))))))))))))))))))))))))))))))))))))))))))))))))))) [0] Z aL (NoP.seq aO) (by kernel_rfl) ?_)))
 refine TD.run ac [0,1,2] Z Z ?_
 refine TD.q Z .u (vT (cells:= #[jP p0,jI 8]) aW Z (by kernel_rfl)) Z ?_
 refine TD.run ac [4,5,6] Z Z ?_
 refine TD.q Z .u (vT (cells:= #[.pointer (some ⟨p0,1,none⟩),jI 4]) aW Z (by kernel_rfl)) Z ?_
 refine TD.run ac [8,9,10] Z Z ?_
 refine TD.q Z .u (vT (cells:= #[.pointer (some ⟨p0,2,none⟩),jI 4]) aW Z (by kernel_rfl)) Z ?_
 refine TD.run ac [12] Z Z ?_
 refine TD.q Z .u (vT (cells:= #[jP p1,jI 1]) aW Z (by kernel_rfl)) Z ?_
 refine TD.run ac [14,15,16] Z Z ?_
 refine TD.q Z .u (vT (cells:= #[.pointer (some ⟨p0,3,none⟩),jI 4]) aW Z (by kernel_rfl)) Z ?_
 refine TD.run ac [18,19,20] Z Z ?_
 refine TD.q Z .u (vT (cells:= #[.pointer (some ⟨p0,4,none⟩),jI 2]) aW Z (by kernel_rfl)) Z ?_
 refine TD.run ac [22,23,24] Z Z ?_
 refine TD.q Z .u (vT (cells:= #[.pointer (some ⟨p0,5,none⟩),jI 4]) aW Z (by kernel_rfl)) Z ?_
 refine TD.run ac [26,27,28] Z Z ?_
 refine TD.q Z .u (vT (cells:= #[.pointer (some ⟨p0,6,none⟩),jI 8]) aW Z (by kernel_rfl)) Z ?_
 refine TD.run ac [30,31,32] Z Z ?_
 refine TD.q Z .u (vT (cells:= #[.pointer (some ⟨p0,7,none⟩),jI 8]) aW Z (by kernel_rfl)) Z ?_
 refine TD.run ac [34,35,36] Z Z ?_
 refine TD.q Z .u (vT (cells:= #[.pointer (some ⟨p0,8,none⟩),jI 8]) aW Z (by kernel_rfl)) Z ?_
 refine TD.run ac [38,39,40] Z Z ?_
 refine TD.q Z .u (vT (cells:= #[.pointer (some ⟨p0,9,none⟩),jI 2]) aW Z (by kernel_rfl)) Z ?_
 refine TD.run ac [42,43,44] Z Z ?_
 refine TD.q Z .u (vT (cells:= #[.pointer (some ⟨p0,10,none⟩),jI 4]) aW Z (by kernel_rfl)) Z ?_
 refine TD.run ac [46,47,48] Z Z ?_
 refine TD.q Z .u (vT (cells:= #[.pointer (some ⟨p0,11,none⟩),jI 4]) aW Z (by kernel_rfl)) Z ?_
 refine xb (cells:= #[jP p0,jI 8,.pointer (some ⟨p0,1,none⟩),jI 4,.pointer (some ⟨p0,2,none⟩),jI 4,jP p1,jI 1,.pointer (some ⟨p0,3,none⟩),jI 4,.pointer (some ⟨p0,4,none⟩),jI 2,.pointer (some ⟨p0,5,none⟩),jI 4,.pointer (some ⟨p0,6,none⟩),jI 8,.pointer (some ⟨p0,7,none⟩),jI 8,.pointer (some ⟨p0,8,none⟩),jI 8,.pointer (some ⟨p0,9,none⟩),jI 2,.pointer (some ⟨p0,10,none⟩),jI 4,.pointer (some ⟨p0,11,none⟩),jI 4]) Z .u kc Z (by kernel_rfl) Z [1] (fun _=>Z) (fun b1=> ?_)
 refine TD.run ac [51] Z Z ?_
 obtain rfl:=xO h
 exact TD.nil (X.seq (T.ret (vu [1,0] Tryz.results69 (vt Z) ⟨_,Z,Z,Z⟩ (by rfl) (.inl Z))))
def di (st:I)  : Option (Pfx×I):=(eQ st 8).bind fun (x6,st7)=>(eQ st7 4).bind fun (x10,st11)=>(eQ st11 4).bind fun (x14,st15)=>(eQ st15 1).bind fun (x18,st19)=>(eQ st19 4).bind fun (x22,st23)=>(eQ st23 2).bind fun (x26,st27)=>(eQ st27 4).bind fun (x30,st31)=>(eQ st31 8).bind fun (x34,st35)=>(eQ st35 8).bind fun (x38,st39)=>(eQ st39 8).bind fun (x42,st43)=>(eQ st43 2).bind fun (x46,st47)=>(eQ st47 4).bind fun (x50,st51)=>(eQ st51 4).bind fun (x54,st55)=>(jZ st55).bind fun (x57,st58)=>(if x57=0 then ((if x18=2 then ((if x10<49 then ((bl st58 4).bind fun st164=>some st164) else ((if x54<0 then ((bl st58 10).bind fun st172=>some st172) else some st58).bind fun st169=>some st169)).bind fun st161=>some st161) else ((bl st58 6).bind fun st174=>some st174)).bind fun st147=>some st147) else some st58).bind fun st117=>(jZ st117).bind fun (x176,st177)=>if x176=0 then (some ((⟨x6,x10,x14,(Go.bits .and .i64 x22 4294967295),x26,x30,x34,x38,x42,x46,x50,x54⟩:Pfx),st177)) else (some ((⟨0,0,0,0,0,0,0,0,0,0,0,0⟩:Pfx),st177))
theorem fO (g:Nat) (st:I)  (r:Pfx×I) (h:di st  = some r):ar Tryz.prog 46 #[jP g] .triv (InR g st) (fun v A' N=>v= .agg #[jI r.1.xy,jI r.1.xD,jI r.1.xt,jI r.1.xG,jI r.1.xH,jI r.1.xw,jI r.1.xr,jI r.1.xB,jI r.1.xq,jI r.1.xv,jI r.1.xo,jI r.1.xF]∧A'=InR g r.2∧N = []):=by
 refine aJ Tryz.func46 Z Tryz.ntmps46 Z ?_
 intro F w hX
 unfold di at h
 refine T.seq (T.region Z (TL.alloc Z .u Tryz.zeroValue89 Z (fun b1=>(TL.nil (X.seq (T.seq (T.region Z (TL.alloc Z .u Tryz.zeroValue89 Z (fun b2=>(TL.nil (X.seq (T.seq (T.region Z (TL.alloc Z .u Tryz.zeroValue3 Z (fun b3=>(vG (cs':= #[jI 0]) Z .u Z Z xU Z Z Z Z (TL.nil (X.seq (T.seq (T.seq (T.region Z ?_)))))))))))))))))))))
 refine wy Z .u (.fn Tryz.call69 Z) (dR b2 b3 () Z) (fun _ hs=>vy _ _) Z ?_
 rintro _ _ _ ⟨b4,rfl,rfl,rfl⟩
 refine vR [0,0,0,0,0] rfl (TL.q rfl .u (vH rfl yf) rfl (TL.run ac [2] rfl rfl (TL.nil (X.seq (T.block (T.unroll0 (TW.step (T.seq (T.region rfl (TL.run ac [0] rfl rfl (TL.nil (X.seq (T.seq (vw rfl (xM (show 0<13 by omega)) ?_))))))))))))))
 refine T.skip (X.seq (T.seq (T.block (T.seq (T.region Z (TL.q Z .u (vZ (k:=0) (r:=0) Z Z Z yf xV (by decide) Z) Z (TL.q Z .u (vE (us := [jP b2,jI 8]) 0 Z yu xV Z Z Z) Z (TL.alloc Z .u Tryz.zeroValue128 Z (fun b5=>(vG (cs':= #[jP b2,jI 8]) Z .u Z Z xV Z Z Z Z ?_))))))))))
 refine TL.nil (X.seq (vQ (.q 0 (.q 1 (.q 2 (.q 3 (.q 4 (.e 5 (.q 6 (.e 7 .nil)))))))) [0,0,0,1] Z aL (NoP.blk (NoP.seq (NoP.seq (NoP.blk (NoP.seq aO))))) (by kernel_rfl) ?_))
 refine TD.run ac [0] Z Z (TD.q Z .u (vr 0 Z yv Z Z) Z (TD.run ac [2,3] Z Z (TD.q Z .u (vr 0 Z xQ Z Z) Z ?_)))
 obtain⟨⟨x6,st7⟩,hx8,h⟩:=xL h
 try dsimp only at h
 refine wK Z .u (.fn Tryz.call77 Z) (bJ g st 8 _ hx8) (fun _ hs=>(Src.triv _)) Z [0,0,0,1] (Z) (TD.run ac [6] Z Z (wx (cs':= #[jI x6,jI 0,jI 0,jI 0,jI 0,jI 0,jI 0,jI 0,jI 0,jI 0,jI 0,jI 0]) Z .u Z Z xU Z Z Z Z [0,0,0,1] (Z) (TD.nil (vF (X.seq (T.region Z (TL.q Z .u (Ex.add Z Z (by omega)) Z (TL.run ac [1] Z Z (TL.nil (wl (TW.step (T.seq (T.region Z (TL.run ac [0] Z Z ?_))))))))))))))
 refine TL.nil (X.seq (T.seq (vw rfl (xM (show 1<13 by omega)) (T.skip (X.seq (T.seq (T.block (T.seq (T.region rfl (TL.q rfl .u (vZ (k:=1) (r:=2) rfl rfl rfl yf xV (by decide) rfl) rfl (TL.q rfl .u (vE (us := [.pointer (some ⟨b2,1,none⟩),jI 4]) 1 rfl yu xV rfl rfl rfl) rfl (TL.alloc rfl .u Tryz.zeroValue128 rfl (fun b9=>(vG (cs':= #[.pointer (some ⟨b2,1,none⟩),jI 4]) rfl .u rfl rfl xV rfl rfl rfl rfl ?_))))))))))))))
 refine TL.nil (X.seq (vQ (.q 0 (.q 1 (.q 2 (.q 3 (.q 4 (.e 5 (.q 6 (.e 7 .nil)))))))) [0,0,0,0,1] Z aL (NoP.blk (NoP.seq (NoP.seq (NoP.blk (NoP.seq aO))))) (by kernel_rfl) ?_))
 refine TD.run ac [0] Z Z (TD.q Z .u (vr 0 Z yv Z Z) Z (TD.run ac [2,3] Z Z (TD.q Z .u (vr 0 Z xQ Z Z) Z ?_)))
 obtain⟨⟨x10,st11⟩,hx12,h⟩:=xL h
 try dsimp only at h
 refine wO Z .u (.fn Tryz.call77 Z) (bJ g st7 4 _ hx12) (fun _ hs=>(Src.triv _)) Z [0,0,0,0,1] (Z) (TD.run ac [6] Z Z (wH (cs':= #[jI x6,jI x10,jI 0,jI 0,jI 0,jI 0,jI 0,jI 0,jI 0,jI 0,jI 0,jI 0]) Z .u Z Z xU Z Z Z Z [0,0,0,0,1] (Z) (TD.nil (vF (X.seq (T.region Z (TL.q Z .u (Ex.add Z Z (by omega)) Z (TL.run ac [1] Z Z (TL.nil (vU [0,1,1,1,1,1] Z ?_))))))))))
 refine wl (TW.step (T.seq (T.region rfl (TL.run ac [0] rfl rfl (TL.nil (X.seq (T.seq (vw rfl (xM (show 2<13 by omega)) (T.skip (X.seq (T.seq (T.block (T.seq (T.region rfl (TL.q rfl .u (vZ (k:=2) (r:=4) rfl rfl rfl yf xV (by decide) rfl) rfl (TL.q rfl .u (vE (us := [.pointer (some ⟨b2,2,none⟩),jI 4]) 1 rfl yu xV rfl rfl rfl) rfl (TL.alloc rfl .u Tryz.zeroValue128 rfl (fun b13=> ?_))))))))))))))))))
 refine vG (cs':= #[.pointer (some ⟨b2,2,none⟩),jI 4]) Z .u Z Z xV Z Z Z Z ?_
 refine TL.nil (X.seq (vQ (.q 0 (.q 1 (.q 2 (.q 3 (.q 4 (.e 5 (.q 6 (.e 7 .nil)))))))) [0,0,0,0,1] Z aL (NoP.blk (NoP.seq (NoP.seq (NoP.blk (NoP.seq aO))))) (by kernel_rfl) ?_))
 refine TD.run ac [0] Z Z (TD.q Z .u (vr 0 Z yv Z Z) Z (TD.run ac [2,3] Z Z (TD.q Z .u (vr 0 Z xQ Z Z) Z ?_)))
 obtain⟨⟨x14,st15⟩,hx16,h⟩:=xL h
 try dsimp only at h
 refine wO Z .u (.fn Tryz.call77 Z) (bJ g st11 4 _ hx16) (fun _ hs=>(Src.triv _)) Z [0,0,0,0,1] (Z) (TD.run ac [6] Z Z (wH (cs':= #[jI x6,jI x10,jI x14,jI 0,jI 0,jI 0,jI 0,jI 0,jI 0,jI 0,jI 0,jI 0]) Z .u Z Z xU Z Z Z Z [0,0,0,0,1] (Z) (TD.nil (vF (X.seq (T.region Z (TL.q Z .u (Ex.add Z Z (by omega)) Z (TL.run ac [1] Z Z (TL.nil (vU [0,1,1,1,1,1] Z ?_))))))))))
 refine wl (TW.step (T.seq (T.region rfl (TL.run ac [0] rfl rfl (TL.nil (X.seq (T.seq (vw rfl (xM (show 3<13 by omega)) (T.skip (X.seq (T.seq (T.block (T.seq (T.region rfl (TL.q rfl .u (vZ (k:=3) (r:=6) rfl rfl rfl yf xV (by decide) rfl) rfl (TL.q rfl .u (vE (us := [jP b3,jI 1]) 1 rfl yu xV rfl rfl rfl) rfl (TL.alloc rfl .u Tryz.zeroValue128 rfl (fun b17=> ?_))))))))))))))))))
 refine vG (cs':= #[jP b3,jI 1]) Z .u Z Z xV Z Z Z Z ?_
 refine TL.nil (X.seq (vQ (.q 0 (.q 1 (.q 2 (.q 3 (.q 4 (.e 5 (.q 6 (.e 7 .nil)))))))) [0,0,0,1,1] Z aL (NoP.blk (NoP.seq (NoP.seq (NoP.blk (NoP.seq aO))))) (by kernel_rfl) ?_))
 refine TD.run ac [0] Z Z (TD.q Z .u (vr 0 Z yv Z Z) Z (TD.run ac [2,3] Z Z (TD.q Z .u (vr 0 Z xQ Z Z) Z ?_)))
 obtain⟨⟨x18,st19⟩,hx20,h⟩:=xL h
 try dsimp only at h
 refine wO Z .u (.fn Tryz.call77 Z) (bJ g st15 1 _ hx20) (fun _ hs=>(Src.triv _)) Z [0,0,0,1,1] (Z) (TD.run ac [6] Z Z (wx (cs':= #[jI x18]) Z .u Z Z xU Z Z Z Z [0,0,0,1,1] (Z) (TD.nil (vF (X.seq (T.region Z (TL.q Z .u (Ex.add Z Z (by omega)) Z (TL.run ac [1] Z Z (TL.nil (vU [0,1,1,1,1,1] Z ?_))))))))))
 refine wl (TW.step (T.seq (T.region rfl (TL.run ac [0] rfl rfl (TL.nil (X.seq (T.seq (vw rfl (xM (show 4<13 by omega)) (T.skip (X.seq (T.seq (T.block (T.seq (T.region rfl (TL.q rfl .u (vZ (k:=4) (r:=8) rfl rfl rfl yf xV (by decide) rfl) rfl (TL.q rfl .u (vE (us := [.pointer (some ⟨b2,3,none⟩),jI 4]) 1 rfl yu xV rfl rfl rfl) rfl (TL.alloc rfl .u Tryz.zeroValue128 rfl (fun b21=> ?_))))))))))))))))))
 refine vG (cs':= #[.pointer (some ⟨b2,3,none⟩),jI 4]) Z .u Z Z xV Z Z Z Z ?_
 refine TL.nil (X.seq (vQ (.q 0 (.q 1 (.q 2 (.q 3 (.q 4 (.e 5 (.q 6 (.e 7 .nil)))))))) [0,0,0,0,1] Z aL (NoP.blk (NoP.seq (NoP.seq (NoP.blk (NoP.seq aO))))) (by kernel_rfl) ?_))
 refine TD.run ac [0] Z Z (TD.q Z .u (vr 0 Z yv Z Z) Z (TD.run ac [2,3] Z Z (TD.q Z .u (vr 0 Z xQ Z Z) Z ?_)))
 obtain⟨⟨x22,st23⟩,hx24,h⟩:=xL h
 try dsimp only at h
 refine wO Z .u (.fn Tryz.call77 Z) (bJ g st19 4 _ hx24) (fun _ hs=>(Src.triv _)) Z [0,0,0,0,1] (Z) (TD.run ac [6] Z Z (wH (cs':= #[jI x6,jI x10,jI x14,jI x22,jI 0,jI 0,jI 0,jI 0,jI 0,jI 0,jI 0,jI 0]) Z .u Z Z xU Z Z Z Z [0,0,0,0,1] (Z) (TD.nil (vF (X.seq (T.region Z (TL.q Z .u (Ex.add Z Z (by omega)) Z (TL.run ac [1] Z Z (TL.nil (vU [0,1,1,1,1,1] Z ?_))))))))))
 refine wl (TW.step (T.seq (T.region rfl (TL.run ac [0] rfl rfl (TL.nil (X.seq (T.seq (vw rfl (xM (show 5<13 by omega)) (T.skip (X.seq (T.seq (T.block (T.seq (T.region rfl (TL.q rfl .u (vZ (k:=5) (r:=10) rfl rfl rfl yf xV (by decide) rfl) rfl (TL.q rfl .u (vE (us := [.pointer (some ⟨b2,4,none⟩),jI 2]) 1 rfl yu xV rfl rfl rfl) rfl (TL.alloc rfl .u Tryz.zeroValue128 rfl (fun b25=> ?_))))))))))))))))))
 refine vG (cs':= #[.pointer (some ⟨b2,4,none⟩),jI 2]) Z .u Z Z xV Z Z Z Z ?_
 refine TL.nil (X.seq (vQ (.q 0 (.q 1 (.q 2 (.q 3 (.q 4 (.e 5 (.q 6 (.e 7 .nil)))))))) [0,0,0,0,1] Z aL (NoP.blk (NoP.seq (NoP.seq (NoP.blk (NoP.seq aO))))) (by kernel_rfl) ?_))
 refine TD.run ac [0] Z Z (TD.q Z .u (vr 0 Z yv Z Z) Z (TD.run ac [2,3] Z Z (TD.q Z .u (vr 0 Z xQ Z Z) Z ?_)))
 obtain⟨⟨x26,st27⟩,hx28,h⟩:=xL h
 try dsimp only at h
 refine wO Z .u (.fn Tryz.call77 Z) (bJ g st23 2 _ hx28) (fun _ hs=>(Src.triv _)) Z [0,0,0,0,1] (Z) (TD.run ac [6] Z Z (wH (cs':= #[jI x6,jI x10,jI x14,jI x22,jI x26,jI 0,jI 0,jI 0,jI 0,jI 0,jI 0,jI 0]) Z .u Z Z xU Z Z Z Z [0,0,0,0,1] (Z) (TD.nil (vF (X.seq (T.region Z (TL.q Z .u (Ex.add Z Z (by omega)) Z (TL.run ac [1] Z Z (TL.nil (vU [0,1,1,1,1,1] Z ?_))))))))))
 refine wl (TW.step (T.seq (T.region rfl (TL.run ac [0] rfl rfl (TL.nil (X.seq (T.seq (vw rfl (xM (show 6<13 by omega)) (T.skip (X.seq (T.seq (T.block (T.seq (T.region rfl (TL.q rfl .u (vZ (k:=6) (r:=12) rfl rfl rfl yf xV (by decide) rfl) rfl (TL.q rfl .u (vE (us := [.pointer (some ⟨b2,5,none⟩),jI 4]) 1 rfl yu xV rfl rfl rfl) rfl (TL.alloc rfl .u Tryz.zeroValue128 rfl (fun b29=> ?_))))))))))))))))))
 refine vG (cs':= #[.pointer (some ⟨b2,5,none⟩),jI 4]) Z .u Z Z xV Z Z Z Z ?_
 refine TL.nil (X.seq (vQ (.q 0 (.q 1 (.q 2 (.q 3 (.q 4 (.e 5 (.q 6 (.e 7 .nil)))))))) [0,0,0,0,1] Z aL (NoP.blk (NoP.seq (NoP.seq (NoP.blk (NoP.seq aO))))) (by kernel_rfl) ?_))
 refine TD.run ac [0] Z Z (TD.q Z .u (vr 0 Z yv Z Z) Z (TD.run ac [2,3] Z Z (TD.q Z .u (vr 0 Z xQ Z Z) Z ?_)))
 obtain⟨⟨x30,st31⟩,hx32,h⟩:=xL h
 try dsimp only at h
 refine wO Z .u (.fn Tryz.call77 Z) (bJ g st27 4 _ hx32) (fun _ hs=>(Src.triv _)) Z [0,0,0,0,1] (Z) (TD.run ac [6] Z Z (wH (cs':= #[jI x6,jI x10,jI x14,jI x22,jI x26,jI x30,jI 0,jI 0,jI 0,jI 0,jI 0,jI 0]) Z .u Z Z xU Z Z Z Z [0,0,0,0,1] (Z) (TD.nil (vF (X.seq (T.region Z (TL.q Z .u (Ex.add Z Z (by omega)) Z (TL.run ac [1] Z Z (TL.nil (vU [0,1,1,1,1,1] Z ?_))))))))))
 refine wl (TW.step (T.seq (T.region rfl (TL.run ac [0] rfl rfl (TL.nil (X.seq (T.seq (vw rfl (xM (show 7<13 by omega)) (T.skip (X.seq (T.seq (T.block (T.seq (T.region rfl (TL.q rfl .u (vZ (k:=7) (r:=14) rfl rfl rfl yf xV (by decide) rfl) rfl (TL.q rfl .u (vE (us := [.pointer (some ⟨b2,6,none⟩),jI 8]) 1 rfl yu xV rfl rfl rfl) rfl (TL.alloc rfl .u Tryz.zeroValue128 rfl (fun b33=> ?_))))))))))))))))))
 refine vG (cs':= #[.pointer (some ⟨b2,6,none⟩),jI 8]) Z .u Z Z xV Z Z Z Z ?_
 refine TL.nil (X.seq (vQ (.q 0 (.q 1 (.q 2 (.q 3 (.q 4 (.e 5 (.q 6 (.e 7 .nil)))))))) [0,0,0,0,1] Z aL (NoP.blk (NoP.seq (NoP.seq (NoP.blk (NoP.seq aO))))) (by kernel_rfl) ?_))
 refine TD.run ac [0] Z Z (TD.q Z .u (vr 0 Z yv Z Z) Z (TD.run ac [2,3] Z Z (TD.q Z .u (vr 0 Z xQ Z Z) Z ?_)))
 obtain⟨⟨x34,st35⟩,hx36,h⟩:=xL h
 try dsimp only at h
 refine wO Z .u (.fn Tryz.call77 Z) (bJ g st31 8 _ hx36) (fun _ hs=>(Src.triv _)) Z [0,0,0,0,1] (Z) (TD.run ac [6] Z Z (wH (cs':= #[jI x6,jI x10,jI x14,jI x22,jI x26,jI x30,jI x34,jI 0,jI 0,jI 0,jI 0,jI 0]) Z .u Z Z xU Z Z Z Z [0,0,0,0,1] (Z) (TD.nil (vF (X.seq (T.region Z (TL.q Z .u (Ex.add Z Z (by omega)) Z (TL.run ac [1] Z Z (TL.nil (vU [0,1,1,1,1,1] Z ?_))))))))))
 refine wl (TW.step (T.seq (T.region rfl (TL.run ac [0] rfl rfl (TL.nil (X.seq (T.seq (vw rfl (xM (show 8<13 by omega)) (T.skip (X.seq (T.seq (T.block (T.seq (T.region rfl (TL.q rfl .u (vZ (k:=8) (r:=16) rfl rfl rfl yf xV (by decide) rfl) rfl (TL.q rfl .u (vE (us := [.pointer (some ⟨b2,7,none⟩),jI 8]) 1 rfl yu xV rfl rfl rfl) rfl (TL.alloc rfl .u Tryz.zeroValue128 rfl (fun b37=> ?_))))))))))))))))))
 refine vG (cs':= #[.pointer (some ⟨b2,7,none⟩),jI 8]) Z .u Z Z xV Z Z Z Z ?_
 refine TL.nil (X.seq (vQ (.q 0 (.q 1 (.q 2 (.q 3 (.q 4 (.e 5 (.q 6 (.e 7 .nil)))))))) [0,0,0,0,1] Z aL (NoP.blk (NoP.seq (NoP.seq (NoP.blk (NoP.seq aO))))) (by kernel_rfl) ?_))
 refine TD.run ac [0] Z Z (TD.q Z .u (vr 0 Z yv Z Z) Z (TD.run ac [2,3] Z Z (TD.q Z .u (vr 0 Z xQ Z Z) Z ?_)))
 obtain⟨⟨x38,st39⟩,hx40,h⟩:=xL h
 try dsimp only at h
 refine wO Z .u (.fn Tryz.call77 Z) (bJ g st35 8 _ hx40) (fun _ hs=>(Src.triv _)) Z [0,0,0,0,1] (Z) (TD.run ac [6] Z Z (wH (cs':= #[jI x6,jI x10,jI x14,jI x22,jI x26,jI x30,jI x34,jI x38,jI 0,jI 0,jI 0,jI 0]) Z .u Z Z xU Z Z Z Z [0,0,0,0,1] (Z) (TD.nil (vF (X.seq (T.region Z (TL.q Z .u (Ex.add Z Z (by omega)) Z (TL.run ac [1] Z Z (TL.nil (vU [0,1,1,1,1,1] Z ?_))))))))))
 refine wl (TW.step (T.seq (T.region rfl (TL.run ac [0] rfl rfl (TL.nil (X.seq (T.seq (vw rfl (xM (show 9<13 by omega)) (T.skip (X.seq (T.seq (T.block (T.seq (T.region rfl (TL.q rfl .u (vZ (k:=9) (r:=18) rfl rfl rfl yf xV (by decide) rfl) rfl (TL.q rfl .u (vE (us := [.pointer (some ⟨b2,8,none⟩),jI 8]) 1 rfl yu xV rfl rfl rfl) rfl (TL.alloc rfl .u Tryz.zeroValue128 rfl (fun b41=> ?_))))))))))))))))))
 refine vG (cs':= #[.pointer (some ⟨b2,8,none⟩),jI 8]) Z .u Z Z xV Z Z Z Z ?_
 refine TL.nil (X.seq (vQ (.q 0 (.q 1 (.q 2 (.q 3 (.q 4 (.e 5 (.q 6 (.e 7 .nil)))))))) [0,0,0,0,1] Z aL (NoP.blk (NoP.seq (NoP.seq (NoP.blk (NoP.seq aO))))) (by kernel_rfl) ?_))
 refine TD.run ac [0] Z Z (TD.q Z .u (vr 0 Z yv Z Z) Z (TD.run ac [2,3] Z Z (TD.q Z .u (vr 0 Z xQ Z Z) Z ?_)))
 obtain⟨⟨x42,st43⟩,hx44,h⟩:=xL h
 try dsimp only at h
 refine wO Z .u (.fn Tryz.call77 Z) (bJ g st39 8 _ hx44) (fun _ hs=>(Src.triv _)) Z [0,0,0,0,1] (Z) (TD.run ac [6] Z Z (wH (cs':= #[jI x6,jI x10,jI x14,jI x22,jI x26,jI x30,jI x34,jI x38,jI x42,jI 0,jI 0,jI 0]) Z .u Z Z xU Z Z Z Z [0,0,0,0,1] (Z) (TD.nil (vF (X.seq (T.region Z (TL.q Z .u (Ex.add Z Z (by omega)) Z (TL.run ac [1] Z Z (TL.nil (vU [0,1,1,1,1,1] Z ?_))))))))))
 refine wl (TW.step (T.seq (T.region rfl (TL.run ac [0] rfl rfl (TL.nil (X.seq (T.seq (vw rfl (xM (show 10<13 by omega)) (T.skip (X.seq (T.seq (T.block (T.seq (T.region rfl (TL.q rfl .u (vZ (k:=10) (r:=20) rfl rfl rfl yf xV (by decide) rfl) rfl (TL.q rfl .u (vE (us := [.pointer (some ⟨b2,9,none⟩),jI 2]) 1 rfl yu xV rfl rfl rfl) rfl (TL.alloc rfl .u Tryz.zeroValue128 rfl (fun b45=> ?_))))))))))))))))))
 refine vG (cs':= #[.pointer (some ⟨b2,9,none⟩),jI 2]) Z .u Z Z xV Z Z Z Z ?_
 refine TL.nil (X.seq (vQ (.q 0 (.q 1 (.q 2 (.q 3 (.q 4 (.e 5 (.q 6 (.e 7 .nil)))))))) [0,0,0,0,1] Z aL (NoP.blk (NoP.seq (NoP.seq (NoP.blk (NoP.seq aO))))) (by kernel_rfl) ?_))
 refine TD.run ac [0] Z Z (TD.q Z .u (vr 0 Z yv Z Z) Z (TD.run ac [2,3] Z Z (TD.q Z .u (vr 0 Z xQ Z Z) Z ?_)))
 obtain⟨⟨x46,st47⟩,hx48,h⟩:=xL h
 try dsimp only at h
 refine wO Z .u (.fn Tryz.call77 Z) (bJ g st43 2 _ hx48) (fun _ hs=>(Src.triv _)) Z [0,0,0,0,1] (Z) (TD.run ac [6] Z Z (wH (cs':= #[jI x6,jI x10,jI x14,jI x22,jI x26,jI x30,jI x34,jI x38,jI x42,jI x46,jI 0,jI 0]) Z .u Z Z xU Z Z Z Z [0,0,0,0,1] (Z) (TD.nil (vF (X.seq (T.region Z (TL.q Z .u (Ex.add Z Z (by omega)) Z (TL.run ac [1] Z Z (TL.nil (vU [0,1,1,1,1,1] Z ?_))))))))))
 refine wl (TW.step (T.seq (T.region rfl (TL.run ac [0] rfl rfl (TL.nil (X.seq (T.seq (vw rfl (xM (show 11<13 by omega)) (T.skip (X.seq (T.seq (T.block (T.seq (T.region rfl (TL.q rfl .u (vZ (k:=11) (r:=22) rfl rfl rfl yf xV (by decide) rfl) rfl (TL.q rfl .u (vE (us := [.pointer (some ⟨b2,10,none⟩),jI 4]) 1 rfl yu xV rfl rfl rfl) rfl (TL.alloc rfl .u Tryz.zeroValue128 rfl (fun b49=> ?_))))))))))))))))))
 refine vG (cs':= #[.pointer (some ⟨b2,10,none⟩),jI 4]) Z .u Z Z xV Z Z Z Z ?_
 refine TL.nil (X.seq (vQ (.q 0 (.q 1 (.q 2 (.q 3 (.q 4 (.e 5 (.q 6 (.e 7 .nil)))))))) [0,0,0,0,1] Z aL (NoP.blk (NoP.seq (NoP.seq (NoP.blk (NoP.seq aO))))) (by kernel_rfl) ?_))
 refine TD.run ac [0] Z Z (TD.q Z .u (vr 0 Z yv Z Z) Z (TD.run ac [2,3] Z Z (TD.q Z .u (vr 0 Z xQ Z Z) Z ?_)))
 obtain⟨⟨x50,st51⟩,hx52,h⟩:=xL h
 try dsimp only at h
 refine wO Z .u (.fn Tryz.call77 Z) (bJ g st47 4 _ hx52) (fun _ hs=>(Src.triv _)) Z [0,0,0,0,1] (Z) (TD.run ac [6] Z Z (wH (cs':= #[jI x6,jI x10,jI x14,jI x22,jI x26,jI x30,jI x34,jI x38,jI x42,jI x46,jI x50,jI 0]) Z .u Z Z xU Z Z Z Z [0,0,0,0,1] (Z) (TD.nil (vF (X.seq (T.region Z (TL.q Z .u (Ex.add Z Z (by omega)) Z (TL.run ac [1] Z Z (TL.nil (vU [0,1,1,1,1,1] Z ?_))))))))))
 refine wl (TW.step (T.seq (T.region rfl (TL.run ac [0] rfl rfl (TL.nil (X.seq (T.seq (vw rfl (xM (show 12<13 by omega)) (T.skip (X.seq (T.seq (T.block (T.seq (T.region rfl (TL.q rfl .u (vZ (k:=12) (r:=24) rfl rfl rfl yf xV (by decide) rfl) rfl (TL.q rfl .u (vE (us := [.pointer (some ⟨b2,11,none⟩),jI 4]) 1 rfl yu xV rfl rfl rfl) rfl (TL.alloc rfl .u Tryz.zeroValue128 rfl (fun b53=> ?_))))))))))))))))))
 refine vG (cs':= #[.pointer (some ⟨b2,11,none⟩),jI 4]) Z .u Z Z xV Z Z Z Z ?_
 refine TL.nil (X.seq (vQ (.q 0 (.q 1 (.q 2 (.q 3 (.q 4 (.e 5 (.q 6 (.e 7 .nil)))))))) [0,0,0,0,1] Z aL (NoP.blk (NoP.seq (NoP.seq (NoP.blk (NoP.seq aO))))) (by kernel_rfl) ?_))
 refine TD.run ac [0] Z Z (TD.q Z .u (vr 0 Z yv Z Z) Z (TD.run ac [2,3] Z Z (TD.q Z .u (vr 0 Z xQ Z Z) Z ?_)))
 obtain⟨⟨x54,st55⟩,hx56,h⟩:=xL h
 try dsimp only at h
 refine wO Z .u (.fn Tryz.call77 Z) (bJ g st51 4 _ hx56) (fun _ hs=>(Src.triv _)) Z [0,0,0,0,1] (Z) (TD.run ac [6] Z Z (wH (cs':= #[jI x6,jI x10,jI x14,jI x22,jI x26,jI x30,jI x34,jI x38,jI x42,jI x46,jI x50,jI x54]) Z .u Z Z xU Z Z Z Z [0,0,0,0,1] (Z) (TD.nil (vF (X.seq (T.region Z (TL.q Z .u (Ex.add Z Z (by omega)) Z (TL.run ac [1] Z Z (TL.nil (vU [0,1,1,1,1,1] Z ?_))))))))))
 refine wl (TW.step (T.seq (T.region rfl (TL.run ac [0] rfl rfl (TL.nil (X.seq (T.seq (vC rfl (xN (show ¬ (13<13) by omega)) (T.exit (vD (vD (v6 (X.seq (T.seq (T.region rfl (TL.run ac [0] rfl rfl (TL.q rfl .u (vr 3 rfl xQ rfl rfl) rfl (TL.q rfl .u (Ex.bitw rfl rfl rfl) rfl ?_))))))))))))))))))
 refine TL.run ac [3] Z Z (ww (cs':= #[jI x6,jI x10,jI x14,jI (Go.bits .and .i64 x22 4294967295),jI x26,jI x30,jI x34,jI x38,jI x42,jI x46,jI x50,jI x54]) Z .u Z Z xU Z Z Z Z (TL.nil (X.seq (T.seq (T.block (T.seq (T.region Z ?_)))))))
 obtain⟨⟨x57,st58⟩,hx59,h⟩:=xL h
 try dsimp only at h
 refine TL.run ac [0] Z Z (TL.c5 Z .u (.fn Tryz.call23 Z) (dX g st55 _ hx59) (fun _ hs=>(Src.triv _)) Z (TL.run ac [2,3] Z Z (TL.nil (X.seq ?_))))
 obtain⟨st117,h,hk118⟩:=xL h
 refine wn (fun e Rs=>e = [(0,jP g),(2,jP b1),(3,jP b2)]∧Rs = [aA b53 128 #[.pointer (some ⟨b2,11,none⟩),jI 4],aA b4 128 #[jP b2,jI 8,.pointer (some ⟨b2,1,none⟩),jI 4,.pointer (some ⟨b2,2,none⟩),jI 4,jP b3,jI 1,.pointer (some ⟨b2,3,none⟩),jI 4,.pointer (some ⟨b2,4,none⟩),jI 2,.pointer (some ⟨b2,5,none⟩),jI 4,.pointer (some ⟨b2,6,none⟩),jI 8,.pointer (some ⟨b2,7,none⟩),jI 8,.pointer (some ⟨b2,8,none⟩),jI 8,.pointer (some ⟨b2,9,none⟩),jI 2,.pointer (some ⟨b2,10,none⟩),jI 4,.pointer (some ⟨b2,11,none⟩),jI 4],aA b3 3 #[jI x18],aA b2 89 #[jI x6,jI x10,jI x14,jI (Go.bits .and .i64 x22 4294967295),jI x26,jI x30,jI x34,jI x38,jI x42,jI x46,jI x50,jI x54],aA b1 89 #[jI 0,jI 0,jI 0,jI 0,jI 0,jI 0,jI 0,jI 0,jI 0,jI 0,jI 0,jI 0],InR g st117]) ?_ ?_
 ·clear hk118
  rcases jF h with⟨c119,h⟩ | ⟨c119,h⟩
  ·refine vC Z (aw (xM c119)) (T.seq (T.region Z (TL.q Z .u (vr 2 Z xQ Z Z) Z (TL.run ac [1,2] Z Z (TL.nil (X.seq ?_))))))
   obtain⟨st147,h,hk148⟩:=xL h
   refine wn (fun e Rs=>e = [(0,jP g),(2,jP b1),(3,jP b2)]∧Rs = [aA b53 128 #[.pointer (some ⟨b2,11,none⟩),jI 4],aA b4 128 #[jP b2,jI 8,.pointer (some ⟨b2,1,none⟩),jI 4,.pointer (some ⟨b2,2,none⟩),jI 4,jP b3,jI 1,.pointer (some ⟨b2,3,none⟩),jI 4,.pointer (some ⟨b2,4,none⟩),jI 2,.pointer (some ⟨b2,5,none⟩),jI 4,.pointer (some ⟨b2,6,none⟩),jI 8,.pointer (some ⟨b2,7,none⟩),jI 8,.pointer (some ⟨b2,8,none⟩),jI 8,.pointer (some ⟨b2,9,none⟩),jI 2,.pointer (some ⟨b2,10,none⟩),jI 4,.pointer (some ⟨b2,11,none⟩),jI 4],aA b3 3 #[jI x18],aA b2 89 #[jI x6,jI x10,jI x14,jI (Go.bits .and .i64 x22 4294967295),jI x26,jI x30,jI x34,jI x38,jI x42,jI x46,jI x50,jI x54],aA b1 89 #[jI 0,jI 0,jI 0,jI 0,jI 0,jI 0,jI 0,jI 0,jI 0,jI 0,jI 0,jI 0],InR g st147]) ?_ ?_
   ·clear hk148
    rcases jF h with⟨c149,h⟩ | ⟨c149,h⟩
    ·refine vC Z (aw (xM c149)) (T.seq (T.region Z (TL.run ac [0] Z Z (TL.q Z .u (vr 3 Z xQ Z Z) Z (TL.run ac [2,3] Z Z (TL.nil (X.seq ?_)))))))
     obtain⟨st161,h,hk162⟩:=xL h
     refine wn (fun e Rs=>e = [(0,jP g),(2,jP b1),(3,jP b2)]∧Rs = [aA b53 128 #[.pointer (some ⟨b2,11,none⟩),jI 4],aA b4 128 #[jP b2,jI 8,.pointer (some ⟨b2,1,none⟩),jI 4,.pointer (some ⟨b2,2,none⟩),jI 4,jP b3,jI 1,.pointer (some ⟨b2,3,none⟩),jI 4,.pointer (some ⟨b2,4,none⟩),jI 2,.pointer (some ⟨b2,5,none⟩),jI 4,.pointer (some ⟨b2,6,none⟩),jI 8,.pointer (some ⟨b2,7,none⟩),jI 8,.pointer (some ⟨b2,8,none⟩),jI 8,.pointer (some ⟨b2,9,none⟩),jI 2,.pointer (some ⟨b2,10,none⟩),jI 4,.pointer (some ⟨b2,11,none⟩),jI 4],aA b3 3 #[jI x18],aA b2 89 #[jI x6,jI x10,jI x14,jI (Go.bits .and .i64 x22 4294967295),jI x26,jI x30,jI x34,jI x38,jI x42,jI x46,jI x50,jI x54],aA b1 89 #[jI 0,jI 0,jI 0,jI 0,jI 0,jI 0,jI 0,jI 0,jI 0,jI 0,jI 0,jI 0],InR g st161]) ?_ ?_
     ·clear hk162
      rcases jF h with⟨c163,h⟩ | ⟨c163,h⟩
      ·refine vw Z (xM c163) (T.region Z ?_)
       obtain⟨st164,hx165,h⟩:=xL h
       refine TL.run ac [0] Z Z (TL.c5 Z .u (.fn Tryz.call48 Z) (aZ g st58 4 _ hx165) (fun _ hs=>(Src.triv _)) Z ?_)
       cases h
       exact TL.nil (vN [0,0,0,0,0,0] ⟨Z,Z⟩ (by rfl) (by rfl))
      ·refine vC Z (xN c163) (T.seq (T.region Z (TL.run ac [0] Z Z (TL.q Z .u (vr 3 Z xQ Z Z) Z (TL.run ac [2,3] Z Z (TL.nil (X.seq ?_)))))))
       obtain⟨st169,h,hk170⟩:=xL h
       refine wn (fun e Rs=>e = [(0,jP g),(2,jP b1),(3,jP b2)]∧Rs = [aA b53 128 #[.pointer (some ⟨b2,11,none⟩),jI 4],aA b4 128 #[jP b2,jI 8,.pointer (some ⟨b2,1,none⟩),jI 4,.pointer (some ⟨b2,2,none⟩),jI 4,jP b3,jI 1,.pointer (some ⟨b2,3,none⟩),jI 4,.pointer (some ⟨b2,4,none⟩),jI 2,.pointer (some ⟨b2,5,none⟩),jI 4,.pointer (some ⟨b2,6,none⟩),jI 8,.pointer (some ⟨b2,7,none⟩),jI 8,.pointer (some ⟨b2,8,none⟩),jI 8,.pointer (some ⟨b2,9,none⟩),jI 2,.pointer (some ⟨b2,10,none⟩),jI 4,.pointer (some ⟨b2,11,none⟩),jI 4],aA b3 3 #[jI x18],aA b2 89 #[jI x6,jI x10,jI x14,jI (Go.bits .and .i64 x22 4294967295),jI x26,jI x30,jI x34,jI x38,jI x42,jI x46,jI x50,jI x54],aA b1 89 #[jI 0,jI 0,jI 0,jI 0,jI 0,jI 0,jI 0,jI 0,jI 0,jI 0,jI 0,jI 0],InR g st169]) ?_ ?_
       ·clear hk170
        rcases jF h with⟨c171,h⟩ | ⟨c171,h⟩
        ·refine vw Z (xM c171) (T.region Z ?_)
         obtain⟨st172,hx173,h⟩:=xL h
         refine TL.run ac [0] Z Z (TL.c5 Z .u (.fn Tryz.call48 Z) (aZ g st58 10 _ hx173) (fun _ hs=>(Src.triv _)) Z ?_)
         cases h
         exact TL.nil (vN [0,0,0,0,0,0] ⟨Z,Z⟩ (by rfl) (by rfl))
        ·refine vC Z (xN c171) ?_
         cases h
         exact T.skip (vN [0,0,0,0,0,0] ⟨Z,Z⟩ (by rfl) (by rfl))
       ·rintro _ _ ⟨rfl,rfl⟩
        clear h
        have h:=hk170
        clear hk170
        try dsimp only at h
        cases h
        exact vN [0,0,0,0,0,0] ⟨Z,Z⟩ (by rfl) (by rfl)
     ·rintro _ _ ⟨rfl,rfl⟩
      clear h
      have h:=hk162
      clear hk162
      try dsimp only at h
      cases h
      exact vN [0,0,0,0,0,0] ⟨Z,Z⟩ (by rfl) (by rfl)
    ·refine vw Z (aH (xN c149)) (T.region Z ?_)
     obtain⟨st174,hx175,h⟩:=xL h
     refine TL.run ac [0] Z Z (TL.c5 Z .u (.fn Tryz.call48 Z) (aZ g st58 6 _ hx175) (fun _ hs=>(Src.triv _)) Z ?_)
     cases h
     exact TL.nil (vN [0,0,0,0,0,0] ⟨Z,Z⟩ (by rfl) (by rfl))
   ·rintro _ _ ⟨rfl,rfl⟩
    clear h
    have h:=hk148
    clear hk148
    try dsimp only at h
    cases h
    exact vN [0,0,0,0,0,0] ⟨Z,Z⟩ (by rfl) (by rfl)
  ·refine vw Z (aH (xN c119)) ?_
   cases h
   exact T.skip (vN [0,0,0,0,0,0] ⟨Z,Z⟩ (by rfl) (by rfl))
 ·rintro _ _ ⟨rfl,rfl⟩
  clear h
  have h:=hk118
  clear hk118
  try dsimp only at h
  refine vF (X.seq (T.seq (T.seq (T.region Z ?_))))
  obtain⟨⟨x176,st177⟩,hx178,h⟩:=xL h
  try dsimp only at h
  refine TL.run ac [0] Z Z (TL.c5 Z .u (.fn Tryz.call23 Z) (dX g st117 _ hx178) (fun _ hs=>(Src.triv _)) Z (TL.run ac [2] Z Z ?_))
  rcases jF h with⟨c179,h⟩ | ⟨c179,h⟩
  ·refine TL.nil (X.seq (vC Z (aw (xM c179)) (T.skip (X.seq (T.seq (T.region Z (TL.q Z .u (vE (us := [jI x6,jI x10,jI x14,jI (Go.bits .and .i64 x22 4294967295),jI x26,jI x30,jI x34,jI x38,jI x42,jI x46,jI x50,jI x54]) 3 Z zn yO Z Z Z) Z (TL.st4 (cs':= #[jI x6,jI x10,jI x14,jI (Go.bits .and .i64 x22 4294967295),jI x26,jI x30,jI x34,jI x38,jI x42,jI x46,jI x50,jI x54]) Z .u Z Z yO Z Z Z Z ?_))))))))
   obtain rfl:=xO h
   exact TL.nil (X.seq (T.ret (vu [5] Tryz.results46 (wg (us:= #[jI x6,jI x10,jI x14,jI (Go.bits .and .i64 x22 4294967295),jI x26,jI x30,jI x34,jI x38,jI x42,jI x46,jI x50,jI x54]) 4 Z zn yO Z Z) ⟨Z,Z,Z⟩ (by rfl) (.inl Z))))
  ·refine TL.nil (X.seq (vw Z (aH (xN c179)) (T.seq (T.region Z ?_))))
   refine TL.q Z .u (vT (cells:= #[jI 0,jI 0,jI 0,jI 0,jI 0,jI 0,jI 0,jI 0,jI 0,jI 0,jI 0,jI 0]) nc Z (by kernel_rfl)) Z ?_
   refine TL.st4 (cs':= #[jI 0,jI 0,jI 0,jI 0,jI 0,jI 0,jI 0,jI 0,jI 0,jI 0,jI 0,jI 0]) Z .u Z Z yO Z Z Z Z ?_
   obtain rfl:=xO h
   exact TL.nil (X.seq (T.ret (vx (vu [5] Tryz.results46 (wg (us:= #[jI 0,jI 0,jI 0,jI 0,jI 0,jI 0,jI 0,jI 0,jI 0,jI 0,jI 0,jI 0]) 4 Z zn yO Z Z) ⟨Z,Z,Z⟩ (by rfl) (.inl Z)))))
def bc (a0:List UInt8):Option (Int×Int):=if (a0.length:Int)<61 then some (0,0) else (if 61≤a0.length then ((oh (a0.take 61)).bind fun st3=>(di st3).bind fun (x6,st7)=>(jZ st7).bind fun (x10,st11)=>if x10=0 then (if -9223372036854775808≤(x6.xD+12)∧(x6.xD+12)≤9223372036854775807 then (some ((x6.xD+12),0)) else none) else some (0,x10)) else none)
theorem fP (a0:List UInt8) (r:Int×Int) (h:bc a0=some r):ar Tryz.prog 20 #[jS a0] .triv (av) (fun v A' N=>v= .tuple #[jI r.1,jI r.2]∧A'=av∧N = []):=by
 refine aJ Tryz.func20 Z Tryz.ntmps20 Z ?_
 intro F w hX
 unfold bc at h
 refine T.seq (T.region Z (TL.run ac [0,1] Z Z (TL.nil (X.seq (T.seq (T.seq (T.region Z (TL.run ac [0] Z Z (TL.q Z .u (v5 Z xY) Z (TL.run ac [2] Z Z ?_))))))))))
 rcases jF h with⟨c1,h⟩ | ⟨c1,h⟩
 ·refine TL.nil (X.seq (vw Z (xM c1) (T.seq (T.region Z (TL.run ac [0,1] Z Z ?_)))))
  obtain rfl:=xO h
  exact TL.nil (X.seq (T.ret (vx (vO [0] Tryz.results20 (vt Z) (vt Z) ⟨Z,Z,Z⟩ (by rfl) (.inl Z)))))
 ·refine TL.nil (X.seq (vC Z (xN c1) (T.skip (X.seq (T.seq (T.region Z ?_))))))
  replace h:=ak h
  obtain⟨c2,h⟩:=h
  refine TL.run ac [0] Z Z ?_
  replace c2:61≤a0.length:=c2
  refine TL.q Z .u (wC (p:=0) (q:=61) (m:=(a0.take 61)) Z xY .none (.some Z Z) (by first | omega | (dsimp only; omega)) (by simp)) Z ?_
  obtain⟨st3,hx4,h⟩:=xL h
  refine wy Z .u (.fn Tryz.call21 Z) (fE (a0.take 61) _ hx4) (fun _ hs=>(vy _ _)) Z ?_
  rintro _ _ _ ⟨b5,rfl,rfl,rfl⟩
  refine vR [0,0] Z (TL.run ac [3] Z Z (TL.nil (X.seq (T.seq (T.region Z ?_)))))
  obtain⟨⟨x6,st7⟩,hx8,h⟩:=xL h
  try dsimp only at h
  refine TL.run ac [0] Z Z (vX Z .u (.fn Tryz.call46 Z) (fO b5 st3 _ hx8) (fun _ hs=>(Src.triv _)) Z (TL.alloc Z .u Tryz.zeroValue89 Z (fun b9=>(vG (cs':= #[jI x6.xy,jI x6.xD,jI x6.xt,jI x6.xG,jI x6.xH,jI x6.xw,jI x6.xr,jI x6.xB,jI x6.xq,jI x6.xv,jI x6.xo,jI x6.xF]) Z .u Z Z yO Z Z Z Z (TL.nil (X.seq (T.seq (T.seq (T.region Z ?_)))))))))
  obtain⟨⟨x10,st11⟩,hx12,h⟩:=xL h
  try dsimp only at h
  refine TL.run ac [0] Z Z (wc Z .u (.fn Tryz.call23 Z) (dX b5 st7 _ hx12) (fun _ hs=>(Src.triv _)) Z (TL.run ac [2] Z Z (TL.nil (X.seq (T.seq (T.region Z (TL.run ac [0,1] Z Z ?_)))))))
  rcases jF h with⟨c13,h⟩ | ⟨c13,h⟩
  ·refine TL.nil (X.seq (vC Z (aw (xM c13)) (T.skip (X.seq (T.seq (T.region Z (TL.run ac [0] Z Z (TL.q Z .u (vr 0 Z xQ Z Z) Z ?_))))))))
   replace h:=ak h
   obtain⟨c14,h⟩:=h
   refine TL.q Z .u (Ex.add Z Z c14) Z (TL.run ac [3,4] Z Z ?_)
   obtain rfl:=xO h
   exact TL.nil (X.seq (T.ret (vO [2] Tryz.results20 (vt Z) (vt Z) ⟨Z,Z,Z⟩ (by rfl) (.inl Z))))
  ·refine TL.nil (X.seq (vw Z (aH (xN c13)) (T.seq (T.region Z (TL.run ac [0,1,2] Z Z ?_)))))
   obtain rfl:=xO h
   exact TL.nil (X.seq (T.ret (vx (vO [2] Tryz.results20 (vt Z) (vt Z) ⟨Z,Z,Z⟩ (by rfl) (.inl Z)))))
def ci (st:List UInt8×Int) (a1:Pfx):Option (List UInt8×Int):=(if a1.xG<0 then some true else (if a1.xG>4294967295 then some true else some false)).bind fun y4=>(if y4=true then ((jv st 11).bind fun st14=>some st14) else some st).bind fun st11=>if -9223372036854775808≤(IntKind.i32.wrap (IntKind.u32.wrap a1.xG))∧(IntKind.i32.wrap (IntKind.u32.wrap a1.xG))≤9223372036854775807 then ((eR st11 a1.xy 8).bind fun st19=>(eR st19 a1.xD 4).bind fun st22=>(eR st22 a1.xt 4).bind fun st25=>(eR st25 2 1).bind fun st28=>(eR st28 (IntKind.i32.wrap (IntKind.u32.wrap a1.xG)) 4).bind fun st31=>(eR st31 a1.xH 2).bind fun st34=>(eR st34 a1.xw 4).bind fun st37=>(eR st37 a1.xr 8).bind fun st40=>(eR st40 a1.xB 8).bind fun st43=>(eR st43 a1.xq 8).bind fun st46=>(eR st46 a1.xv 2).bind fun st49=>(eR st49 a1.xo 4).bind fun st52=>(eR st52 a1.xF 4).bind fun st55=>some st55) else none
theorem eb (g:Nat) (st:List UInt8×Int) (a1:Pfx) (r:List UInt8×Int) (h:ci st a1=some r):ar Tryz.prog 37 #[jP g,.agg #[jI a1.xy,jI a1.xD,jI a1.xt,jI a1.xG,jI a1.xH,jI a1.xw,jI a1.xr,jI a1.xB,jI a1.xq,jI a1.xv,jI a1.xo,jI a1.xF]] .triv (aU g st) (fun v A' N=>v= .tuple #[]∧A'=aU g r∧N = []):=by
 refine aJ Tryz.func37 Z Tryz.ntmps37 Z ?_
 intro F w hX
 unfold ci at h
 refine T.seq (T.region Z (TL.box Z .u Z Z (fun b1=>(TL.nil (X.seq (T.seq (T.region Z (TL.alloc Z .u Tryz.zeroValue3 Z (fun b2=>(vG (cs':= #[jI 2]) Z .u Z Z xU Z Z Z Z (TL.nil (X.seq (T.seq (T.seq ?_))))))))))))))
 obtain⟨y4,h,hk5⟩:=xL h
 refine wn (fun e Rs=>e = [(0,jP g),(3,jP b1),(4,jP b2),(14,.bool y4)]∧Rs = [aA b2 3 #[jI 2],aA b1 89 #[jI a1.xy,jI a1.xD,jI a1.xt,jI a1.xG,jI a1.xH,jI a1.xw,jI a1.xr,jI a1.xB,jI a1.xq,jI a1.xv,jI a1.xo,jI a1.xF],aU g st]) ?_ ?_
 ·clear hk5
  refine T.region Z (TL.run ac [0] Z Z (TL.q Z .u (vr 1 Z xQ Z Z) Z ?_))
  rcases jF h with⟨c6,h⟩ | ⟨c6,h⟩
  ·refine TL.run ac [2,3] Z Z ?_
   iterate 3 refine vv Z (.gn Z Z (xM c6)) Z ?_
   refine TL.q Z .u (vz Z (xM c6) Z) Z ?_
   cases h
   exact TL.nil (vN [0,0,0] ⟨Z,Z⟩ (by rfl) (by rfl))
  ·refine TL.run ac [2,3] Z Z (TL.q Z (.g Z Z (xN c6)) (vA ac Z) Z (TL.q Z (.g Z Z (xN c6)) (vr 1 Z xQ Z Z) Z (TL.q Z (.g Z Z (xN c6)) (vA ac Z) Z (TL.q Z .u (vB Z (xN c6) Z) Z ?_))))
   rcases jF h with⟨c7,h⟩ | ⟨c7,h⟩
   ·cases h
    exact TL.nil (wE (d:=14) (v':= .bool true) Z (congrArg Value.bool (xM c7)) (vN [0,0,0] ⟨Z,Z⟩ (by rfl) (by rfl)))
   ·cases h
    exact TL.nil (wE (d:=14) (v':= .bool false) Z (congrArg Value.bool (xN c7)) (vN [0,0,0] ⟨Z,Z⟩ (by rfl) (by rfl)))
 ·rintro _ _ ⟨rfl,rfl⟩
  clear h
  have h:=hk5
  clear hk5
  try dsimp only at h
  refine X.seq ?_
  obtain⟨st11,h,hk12⟩:=xL h
  refine wn (fun e Rs=>e = [(0,jP g),(3,jP b1),(4,jP b2)]∧Rs = [aA b2 3 #[jI 2],aA b1 89 #[jI a1.xy,jI a1.xD,jI a1.xt,jI a1.xG,jI a1.xH,jI a1.xw,jI a1.xr,jI a1.xB,jI a1.xq,jI a1.xv,jI a1.xo,jI a1.xF],aU g st11]) ?_ ?_
  ·clear hk12
   rcases jF h with⟨c13,h⟩ | ⟨c13,h⟩
   ·refine vw Z c13 (T.region Z ?_)
    obtain⟨st14,hx15,h⟩:=xL h
    refine TL.run ac [0] Z Z (wN Z .u (.fn Tryz.call66 Z) (ip g st 11 _ hx15) (fun _ hs=>(Src.triv _)) Z ?_)
    cases h
    exact TL.nil (vN [0,0,0] ⟨Z,Z⟩ (by rfl) (by rfl))
   ·replace c13:=xW c13
    refine vC Z c13 ?_
    cases h
    exact T.skip (vN [0,0,0] ⟨Z,Z⟩ (by rfl) (by rfl))
  ·rintro _ _ ⟨rfl,rfl⟩
   clear h
   have h:=hk12
   clear hk12
   try dsimp only at h
   refine X.seq (T.seq (T.region Z (TL.run ac [0] Z Z (TL.q Z .u (vr 1 Z xQ Z Z) Z (TL.q Z .u (xc Z yF yK) Z (TL.q Z .u (xc Z yK Tryz.runUnderlying21) Z ?_))))))
   replace h:=ak h
   obtain⟨c16,h⟩:=h
   refine TL.q Z .u (wq Z Tryz.runUnderlying21 yF c16) Z (TL.run ac [5] Z Z (xf (cs':= #[jI a1.xy,jI a1.xD,jI a1.xt,jI (IntKind.i32.wrap (IntKind.u32.wrap a1.xG)),jI a1.xH,jI a1.xw,jI a1.xr,jI a1.xB,jI a1.xq,jI a1.xv,jI a1.xo,jI a1.xF]) Z .u Z Z xU Z Z Z Z (TL.nil (X.seq (T.seq (T.region Z (wy Z .u (.fn Tryz.call69 Z) (dR b1 b2 () Z) (fun _ hs=>vy _ _) Z ?_)))))))
   rintro _ _ _ ⟨b17,rfl,rfl,rfl⟩
   refine vR [0,0,0,0] rfl (TL.q rfl .u (vH rfl yf) rfl (TL.run ac [2] rfl rfl (TL.nil (X.seq (T.block (T.unroll0 (TW.step (T.seq (T.region rfl (TL.run ac [0] rfl rfl (TL.nil (X.seq (T.seq (vw rfl (xM (show 0<13 by omega)) ?_))))))))))))))
   refine T.skip (X.seq (T.seq (T.block (T.seq (T.region Z (TL.q Z .u (vZ (k:=0) (r:=0) Z Z Z yf xV (by decide) Z) Z (TL.q Z .u (vE (us := [jP b1,jI 8]) 0 Z yu xV Z Z Z) Z (TL.alloc Z .u Tryz.zeroValue128 Z (fun b18=>(vG (cs':= #[jP b1,jI 8]) Z .u Z Z xV Z Z Z Z ?_))))))))))
   refine TL.nil (X.seq (vQ (.q 0 (.q 1 (.q 2 (.q 3 (.q 4 (.q 5 (.q 6 (.e 7 .nil)))))))) [0,0,0,0] Z aL (NoP.blk (NoP.seq (NoP.seq (NoP.blk aO)))) (by kernel_rfl) ?_))
   refine TD.run ac [0,1] Z Z (TD.q Z .u (vr 0 Z yv Z Z) Z (TD.run ac [3] Z Z (TD.q Z .u (vr 3 Z xQ Z Z) Z (TD.run ac [5] Z Z (TD.q Z .u (vr 0 Z xQ Z Z) Z ?_)))))
   obtain⟨st19,hx20,h⟩:=xL h
   refine TD.c4 rfl .u (.fn Tryz.call70 rfl) (bY g st11 a1.xy 8 _ hx20) (fun _ hs=>(Src.triv _)) rfl [0,0,0,0] (rfl) (TD.nil (vF (X.seq (T.region rfl (TL.q rfl .u (Ex.add rfl rfl (by omega)) rfl (TL.run ac [1] rfl rfl (TL.nil (wl (TW.step (T.seq (T.region rfl (TL.run ac [0] rfl rfl (TL.nil (X.seq (T.seq (vw rfl (xM (show 1<13 by omega)) ?_))))))))))))))))
   refine T.skip (X.seq (T.seq (T.block (T.seq (T.region Z (TL.q Z .u (vZ (k:=1) (r:=2) Z Z Z yf xV (by decide) Z) Z (TL.q Z .u (vE (us := [.pointer (some ⟨b1,1,none⟩),jI 4]) 1 Z yu xV Z Z Z) Z (TL.alloc Z .u Tryz.zeroValue128 Z (fun b21=>(vG (cs':= #[.pointer (some ⟨b1,1,none⟩),jI 4]) Z .u Z Z xV Z Z Z Z ?_))))))))))
   refine TL.nil (X.seq (vQ (.q 0 (.q 1 (.q 2 (.q 3 (.q 4 (.q 5 (.q 6 (.e 7 .nil)))))))) [0,0,0,0,0] Z aL (NoP.blk (NoP.seq (NoP.seq (NoP.blk aO)))) (by kernel_rfl) ?_))
   refine TD.run ac [0,1] Z Z (TD.q Z .u (vr 0 Z yv Z Z) Z (TD.run ac [3] Z Z (TD.q Z .u (vr 4 Z xQ Z Z) Z (TD.run ac [5] Z Z (TD.q Z .u (vr 0 Z xQ Z Z) Z ?_)))))
   obtain⟨st22,hx23,h⟩:=xL h
   refine wK Z .u (.fn Tryz.call70 Z) (bY g st19 a1.xD 4 _ hx23) (fun _ hs=>(Src.triv _)) Z [0,0,0,0,0] (Z) (TD.nil (vF (X.seq (T.region Z (TL.q Z .u (Ex.add Z Z (by omega)) Z (TL.run ac [1] Z Z (TL.nil (vU [0,1,1,1,1] Z (wl (TW.step (T.seq (T.region Z (TL.run ac [0] Z Z ?_)))))))))))))
   refine TL.nil (X.seq (T.seq (vw rfl (xM (show 2<13 by omega)) (T.skip (X.seq (T.seq (T.block (T.seq (T.region rfl (TL.q rfl .u (vZ (k:=2) (r:=4) rfl rfl rfl yf xV (by decide) rfl) rfl (TL.q rfl .u (vE (us := [.pointer (some ⟨b1,2,none⟩),jI 4]) 1 rfl yu xV rfl rfl rfl) rfl (TL.alloc rfl .u Tryz.zeroValue128 rfl (fun b24=>(vG (cs':= #[.pointer (some ⟨b1,2,none⟩),jI 4]) rfl .u rfl rfl xV rfl rfl rfl rfl ?_))))))))))))))
   refine TL.nil (X.seq (vQ (.q 0 (.q 1 (.q 2 (.q 3 (.q 4 (.q 5 (.q 6 (.e 7 .nil)))))))) [0,0,0,0,0] Z aL (NoP.blk (NoP.seq (NoP.seq (NoP.blk aO)))) (by kernel_rfl) ?_))
   refine TD.run ac [0,1] Z Z (TD.q Z .u (vr 0 Z yv Z Z) Z (TD.run ac [3] Z Z (TD.q Z .u (vr 4 Z xQ Z Z) Z (TD.run ac [5] Z Z (TD.q Z .u (vr 0 Z xQ Z Z) Z ?_)))))
   obtain⟨st25,hx26,h⟩:=xL h
   refine wK Z .u (.fn Tryz.call70 Z) (bY g st22 a1.xt 4 _ hx26) (fun _ hs=>(Src.triv _)) Z [0,0,0,0,0] (Z) (TD.nil (vF (X.seq (T.region Z (TL.q Z .u (Ex.add Z Z (by omega)) Z (TL.run ac [1] Z Z (TL.nil (vU [0,1,1,1,1] Z (wl (TW.step (T.seq (T.region Z (TL.run ac [0] Z Z ?_)))))))))))))
   refine TL.nil (X.seq (T.seq (vw rfl (xM (show 3<13 by omega)) (T.skip (X.seq (T.seq (T.block (T.seq (T.region rfl (TL.q rfl .u (vZ (k:=3) (r:=6) rfl rfl rfl yf xV (by decide) rfl) rfl (TL.q rfl .u (vE (us := [jP b2,jI 1]) 1 rfl yu xV rfl rfl rfl) rfl (TL.alloc rfl .u Tryz.zeroValue128 rfl (fun b27=>(vG (cs':= #[jP b2,jI 1]) rfl .u rfl rfl xV rfl rfl rfl rfl ?_))))))))))))))
   refine TL.nil (X.seq (vQ (.q 0 (.q 1 (.q 2 (.q 3 (.q 4 (.q 5 (.q 6 (.e 7 .nil)))))))) [0,0,0,0,0] Z aL (NoP.blk (NoP.seq (NoP.seq (NoP.blk aO)))) (by kernel_rfl) ?_))
   refine TD.run ac [0,1] Z Z (TD.q Z .u (vr 0 Z yv Z Z) Z (TD.run ac [3] Z Z (TD.q Z .u (vr 3 Z xQ Z Z) Z (TD.run ac [5] Z Z (TD.q Z .u (vr 0 Z xQ Z Z) Z ?_)))))
   obtain⟨st28,hx29,h⟩:=xL h
   refine wK Z .u (.fn Tryz.call70 Z) (bY g st25 2 1 _ hx29) (fun _ hs=>(Src.triv _)) Z [0,0,0,0,0] (Z) (TD.nil (vF (X.seq (T.region Z (TL.q Z .u (Ex.add Z Z (by omega)) Z (TL.run ac [1] Z Z (TL.nil (vU [0,1,1,1,1] Z (wl (TW.step (T.seq (T.region Z (TL.run ac [0] Z Z ?_)))))))))))))
   refine TL.nil (X.seq (T.seq (vw rfl (xM (show 4<13 by omega)) (T.skip (X.seq (T.seq (T.block (T.seq (T.region rfl (TL.q rfl .u (vZ (k:=4) (r:=8) rfl rfl rfl yf xV (by decide) rfl) rfl (TL.q rfl .u (vE (us := [.pointer (some ⟨b1,3,none⟩),jI 4]) 1 rfl yu xV rfl rfl rfl) rfl (TL.alloc rfl .u Tryz.zeroValue128 rfl (fun b30=>(vG (cs':= #[.pointer (some ⟨b1,3,none⟩),jI 4]) rfl .u rfl rfl xV rfl rfl rfl rfl ?_))))))))))))))
   refine TL.nil (X.seq (vQ (.q 0 (.q 1 (.q 2 (.q 3 (.q 4 (.q 5 (.q 6 (.e 7 .nil)))))))) [0,0,0,0,0] Z aL (NoP.blk (NoP.seq (NoP.seq (NoP.blk aO)))) (by kernel_rfl) ?_))
   refine TD.run ac [0,1] Z Z (TD.q Z .u (vr 0 Z yv Z Z) Z (TD.run ac [3] Z Z (TD.q Z .u (vr 4 Z xQ Z Z) Z (TD.run ac [5] Z Z (TD.q Z .u (vr 0 Z xQ Z Z) Z ?_)))))
   obtain⟨st31,hx32,h⟩:=xL h
   refine wK Z .u (.fn Tryz.call70 Z) (bY g st28 (IntKind.i32.wrap (IntKind.u32.wrap a1.xG)) 4 _ hx32) (fun _ hs=>(Src.triv _)) Z [0,0,0,0,0] (Z) (TD.nil (vF (X.seq (T.region Z (TL.q Z .u (Ex.add Z Z (by omega)) Z (TL.run ac [1] Z Z (TL.nil (vU [0,1,1,1,1] Z (wl (TW.step (T.seq (T.region Z (TL.run ac [0] Z Z ?_)))))))))))))
   refine TL.nil (X.seq (T.seq (vw rfl (xM (show 5<13 by omega)) (T.skip (X.seq (T.seq (T.block (T.seq (T.region rfl (TL.q rfl .u (vZ (k:=5) (r:=10) rfl rfl rfl yf xV (by decide) rfl) rfl (TL.q rfl .u (vE (us := [.pointer (some ⟨b1,4,none⟩),jI 2]) 1 rfl yu xV rfl rfl rfl) rfl (TL.alloc rfl .u Tryz.zeroValue128 rfl (fun b33=>(vG (cs':= #[.pointer (some ⟨b1,4,none⟩),jI 2]) rfl .u rfl rfl xV rfl rfl rfl rfl ?_))))))))))))))
   refine TL.nil (X.seq (vQ (.q 0 (.q 1 (.q 2 (.q 3 (.q 4 (.q 5 (.q 6 (.e 7 .nil)))))))) [0,0,0,0,0] Z aL (NoP.blk (NoP.seq (NoP.seq (NoP.blk aO)))) (by kernel_rfl) ?_))
   refine TD.run ac [0,1] Z Z (TD.q Z .u (vr 0 Z yv Z Z) Z (TD.run ac [3] Z Z (TD.q Z .u (vr 4 Z xQ Z Z) Z (TD.run ac [5] Z Z (TD.q Z .u (vr 0 Z xQ Z Z) Z ?_)))))
   obtain⟨st34,hx35,h⟩:=xL h
   refine wK Z .u (.fn Tryz.call70 Z) (bY g st31 a1.xH 2 _ hx35) (fun _ hs=>(Src.triv _)) Z [0,0,0,0,0] (Z) (TD.nil (vF (X.seq (T.region Z (TL.q Z .u (Ex.add Z Z (by omega)) Z (TL.run ac [1] Z Z (TL.nil (vU [0,1,1,1,1] Z (wl (TW.step (T.seq (T.region Z (TL.run ac [0] Z Z ?_)))))))))))))
   refine TL.nil (X.seq (T.seq (vw rfl (xM (show 6<13 by omega)) (T.skip (X.seq (T.seq (T.block (T.seq (T.region rfl (TL.q rfl .u (vZ (k:=6) (r:=12) rfl rfl rfl yf xV (by decide) rfl) rfl (TL.q rfl .u (vE (us := [.pointer (some ⟨b1,5,none⟩),jI 4]) 1 rfl yu xV rfl rfl rfl) rfl (TL.alloc rfl .u Tryz.zeroValue128 rfl (fun b36=>(vG (cs':= #[.pointer (some ⟨b1,5,none⟩),jI 4]) rfl .u rfl rfl xV rfl rfl rfl rfl ?_))))))))))))))
   refine TL.nil (X.seq (vQ (.q 0 (.q 1 (.q 2 (.q 3 (.q 4 (.q 5 (.q 6 (.e 7 .nil)))))))) [0,0,0,0,0] Z aL (NoP.blk (NoP.seq (NoP.seq (NoP.blk aO)))) (by kernel_rfl) ?_))
   refine TD.run ac [0,1] Z Z (TD.q Z .u (vr 0 Z yv Z Z) Z (TD.run ac [3] Z Z (TD.q Z .u (vr 4 Z xQ Z Z) Z (TD.run ac [5] Z Z (TD.q Z .u (vr 0 Z xQ Z Z) Z ?_)))))
   obtain⟨st37,hx38,h⟩:=xL h
   refine wK Z .u (.fn Tryz.call70 Z) (bY g st34 a1.xw 4 _ hx38) (fun _ hs=>(Src.triv _)) Z [0,0,0,0,0] (Z) (TD.nil (vF (X.seq (T.region Z (TL.q Z .u (Ex.add Z Z (by omega)) Z (TL.run ac [1] Z Z (TL.nil (vU [0,1,1,1,1] Z (wl (TW.step (T.seq (T.region Z (TL.run ac [0] Z Z ?_)))))))))))))
   refine TL.nil (X.seq (T.seq (vw rfl (xM (show 7<13 by omega)) (T.skip (X.seq (T.seq (T.block (T.seq (T.region rfl (TL.q rfl .u (vZ (k:=7) (r:=14) rfl rfl rfl yf xV (by decide) rfl) rfl (TL.q rfl .u (vE (us := [.pointer (some ⟨b1,6,none⟩),jI 8]) 1 rfl yu xV rfl rfl rfl) rfl (TL.alloc rfl .u Tryz.zeroValue128 rfl (fun b39=>(vG (cs':= #[.pointer (some ⟨b1,6,none⟩),jI 8]) rfl .u rfl rfl xV rfl rfl rfl rfl ?_))))))))))))))
   refine TL.nil (X.seq (vQ (.q 0 (.q 1 (.q 2 (.q 3 (.q 4 (.q 5 (.q 6 (.e 7 .nil)))))))) [0,0,0,0,0] Z aL (NoP.blk (NoP.seq (NoP.seq (NoP.blk aO)))) (by kernel_rfl) ?_))
   refine TD.run ac [0,1] Z Z (TD.q Z .u (vr 0 Z yv Z Z) Z (TD.run ac [3] Z Z (TD.q Z .u (vr 4 Z xQ Z Z) Z (TD.run ac [5] Z Z (TD.q Z .u (vr 0 Z xQ Z Z) Z ?_)))))
   obtain⟨st40,hx41,h⟩:=xL h
   refine wK Z .u (.fn Tryz.call70 Z) (bY g st37 a1.xr 8 _ hx41) (fun _ hs=>(Src.triv _)) Z [0,0,0,0,0] (Z) (TD.nil (vF (X.seq (T.region Z (TL.q Z .u (Ex.add Z Z (by omega)) Z (TL.run ac [1] Z Z (TL.nil (vU [0,1,1,1,1] Z (wl (TW.step (T.seq (T.region Z (TL.run ac [0] Z Z ?_)))))))))))))
   refine TL.nil (X.seq (T.seq (vw rfl (xM (show 8<13 by omega)) (T.skip (X.seq (T.seq (T.block (T.seq (T.region rfl (TL.q rfl .u (vZ (k:=8) (r:=16) rfl rfl rfl yf xV (by decide) rfl) rfl (TL.q rfl .u (vE (us := [.pointer (some ⟨b1,7,none⟩),jI 8]) 1 rfl yu xV rfl rfl rfl) rfl (TL.alloc rfl .u Tryz.zeroValue128 rfl (fun b42=>(vG (cs':= #[.pointer (some ⟨b1,7,none⟩),jI 8]) rfl .u rfl rfl xV rfl rfl rfl rfl ?_))))))))))))))
   refine TL.nil (X.seq (vQ (.q 0 (.q 1 (.q 2 (.q 3 (.q 4 (.q 5 (.q 6 (.e 7 .nil)))))))) [0,0,0,0,0] Z aL (NoP.blk (NoP.seq (NoP.seq (NoP.blk aO)))) (by kernel_rfl) ?_))
   refine TD.run ac [0,1] Z Z (TD.q Z .u (vr 0 Z yv Z Z) Z (TD.run ac [3] Z Z (TD.q Z .u (vr 4 Z xQ Z Z) Z (TD.run ac [5] Z Z (TD.q Z .u (vr 0 Z xQ Z Z) Z ?_)))))
   obtain⟨st43,hx44,h⟩:=xL h
   refine wK Z .u (.fn Tryz.call70 Z) (bY g st40 a1.xB 8 _ hx44) (fun _ hs=>(Src.triv _)) Z [0,0,0,0,0] (Z) (TD.nil (vF (X.seq (T.region Z (TL.q Z .u (Ex.add Z Z (by omega)) Z (TL.run ac [1] Z Z (TL.nil (vU [0,1,1,1,1] Z (wl (TW.step (T.seq (T.region Z (TL.run ac [0] Z Z ?_)))))))))))))
   refine TL.nil (X.seq (T.seq (vw rfl (xM (show 9<13 by omega)) (T.skip (X.seq (T.seq (T.block (T.seq (T.region rfl (TL.q rfl .u (vZ (k:=9) (r:=18) rfl rfl rfl yf xV (by decide) rfl) rfl (TL.q rfl .u (vE (us := [.pointer (some ⟨b1,8,none⟩),jI 8]) 1 rfl yu xV rfl rfl rfl) rfl (TL.alloc rfl .u Tryz.zeroValue128 rfl (fun b45=>(vG (cs':= #[.pointer (some ⟨b1,8,none⟩),jI 8]) rfl .u rfl rfl xV rfl rfl rfl rfl ?_))))))))))))))
   refine TL.nil (X.seq (vQ (.q 0 (.q 1 (.q 2 (.q 3 (.q 4 (.q 5 (.q 6 (.e 7 .nil)))))))) [0,0,0,0,0] Z aL (NoP.blk (NoP.seq (NoP.seq (NoP.blk aO)))) (by kernel_rfl) ?_))
   refine TD.run ac [0,1] Z Z (TD.q Z .u (vr 0 Z yv Z Z) Z (TD.run ac [3] Z Z (TD.q Z .u (vr 4 Z xQ Z Z) Z (TD.run ac [5] Z Z (TD.q Z .u (vr 0 Z xQ Z Z) Z ?_)))))
   obtain⟨st46,hx47,h⟩:=xL h
   refine wK Z .u (.fn Tryz.call70 Z) (bY g st43 a1.xq 8 _ hx47) (fun _ hs=>(Src.triv _)) Z [0,0,0,0,0] (Z) (TD.nil (vF (X.seq (T.region Z (TL.q Z .u (Ex.add Z Z (by omega)) Z (TL.run ac [1] Z Z (TL.nil (vU [0,1,1,1,1] Z (wl (TW.step (T.seq (T.region Z (TL.run ac [0] Z Z ?_)))))))))))))
   refine TL.nil (X.seq (T.seq (vw rfl (xM (show 10<13 by omega)) (T.skip (X.seq (T.seq (T.block (T.seq (T.region rfl (TL.q rfl .u (vZ (k:=10) (r:=20) rfl rfl rfl yf xV (by decide) rfl) rfl (TL.q rfl .u (vE (us := [.pointer (some ⟨b1,9,none⟩),jI 2]) 1 rfl yu xV rfl rfl rfl) rfl (TL.alloc rfl .u Tryz.zeroValue128 rfl (fun b48=>(vG (cs':= #[.pointer (some ⟨b1,9,none⟩),jI 2]) rfl .u rfl rfl xV rfl rfl rfl rfl ?_))))))))))))))
   refine TL.nil (X.seq (vQ (.q 0 (.q 1 (.q 2 (.q 3 (.q 4 (.q 5 (.q 6 (.e 7 .nil)))))))) [0,0,0,0,0] Z aL (NoP.blk (NoP.seq (NoP.seq (NoP.blk aO)))) (by kernel_rfl) ?_))
   refine TD.run ac [0,1] Z Z (TD.q Z .u (vr 0 Z yv Z Z) Z (TD.run ac [3] Z Z (TD.q Z .u (vr 4 Z xQ Z Z) Z (TD.run ac [5] Z Z (TD.q Z .u (vr 0 Z xQ Z Z) Z ?_)))))
   obtain⟨st49,hx50,h⟩:=xL h
   refine wK Z .u (.fn Tryz.call70 Z) (bY g st46 a1.xv 2 _ hx50) (fun _ hs=>(Src.triv _)) Z [0,0,0,0,0] (Z) (TD.nil (vF (X.seq (T.region Z (TL.q Z .u (Ex.add Z Z (by omega)) Z (TL.run ac [1] Z Z (TL.nil (vU [0,1,1,1,1] Z (wl (TW.step (T.seq (T.region Z (TL.run ac [0] Z Z ?_)))))))))))))
   refine TL.nil (X.seq (T.seq (vw rfl (xM (show 11<13 by omega)) (T.skip (X.seq (T.seq (T.block (T.seq (T.region rfl (TL.q rfl .u (vZ (k:=11) (r:=22) rfl rfl rfl yf xV (by decide) rfl) rfl (TL.q rfl .u (vE (us := [.pointer (some ⟨b1,10,none⟩),jI 4]) 1 rfl yu xV rfl rfl rfl) rfl (TL.alloc rfl .u Tryz.zeroValue128 rfl (fun b51=>(vG (cs':= #[.pointer (some ⟨b1,10,none⟩),jI 4]) rfl .u rfl rfl xV rfl rfl rfl rfl ?_))))))))))))))
   refine TL.nil (X.seq (vQ (.q 0 (.q 1 (.q 2 (.q 3 (.q 4 (.q 5 (.q 6 (.e 7 .nil)))))))) [0,0,0,0,0] Z aL (NoP.blk (NoP.seq (NoP.seq (NoP.blk aO)))) (by kernel_rfl) ?_))
   refine TD.run ac [0,1] Z Z (TD.q Z .u (vr 0 Z yv Z Z) Z (TD.run ac [3] Z Z (TD.q Z .u (vr 4 Z xQ Z Z) Z (TD.run ac [5] Z Z (TD.q Z .u (vr 0 Z xQ Z Z) Z ?_)))))
   obtain⟨st52,hx53,h⟩:=xL h
   refine wK Z .u (.fn Tryz.call70 Z) (bY g st49 a1.xo 4 _ hx53) (fun _ hs=>(Src.triv _)) Z [0,0,0,0,0] (Z) (TD.nil (vF (X.seq (T.region Z (TL.q Z .u (Ex.add Z Z (by omega)) Z (TL.run ac [1] Z Z (TL.nil (vU [0,1,1,1,1] Z (wl (TW.step (T.seq (T.region Z (TL.run ac [0] Z Z ?_)))))))))))))
   refine TL.nil (X.seq (T.seq (vw rfl (xM (show 12<13 by omega)) (T.skip (X.seq (T.seq (T.block (T.seq (T.region rfl (TL.q rfl .u (vZ (k:=12) (r:=24) rfl rfl rfl yf xV (by decide) rfl) rfl (TL.q rfl .u (vE (us := [.pointer (some ⟨b1,11,none⟩),jI 4]) 1 rfl yu xV rfl rfl rfl) rfl (TL.alloc rfl .u Tryz.zeroValue128 rfl (fun b54=>(vG (cs':= #[.pointer (some ⟨b1,11,none⟩),jI 4]) rfl .u rfl rfl xV rfl rfl rfl rfl ?_))))))))))))))
   refine TL.nil (X.seq (vQ (.q 0 (.q 1 (.q 2 (.q 3 (.q 4 (.q 5 (.q 6 (.e 7 .nil)))))))) [0,0,0,0,0] Z aL (NoP.blk (NoP.seq (NoP.seq (NoP.blk aO)))) (by kernel_rfl) ?_))
   refine TD.run ac [0,1] Z Z (TD.q Z .u (vr 0 Z yv Z Z) Z (TD.run ac [3] Z Z (TD.q Z .u (vr 4 Z xQ Z Z) Z (TD.run ac [5] Z Z (TD.q Z .u (vr 0 Z xQ Z Z) Z ?_)))))
   obtain⟨st55,hx56,h⟩:=xL h
   refine wK Z .u (.fn Tryz.call70 Z) (bY g st52 a1.xF 4 _ hx56) (fun _ hs=>(Src.triv _)) Z [0,0,0,0,0] (Z) (TD.nil (vF (X.seq (T.region Z (TL.q Z .u (Ex.add Z Z (by omega)) Z (TL.run ac [1] Z Z (TL.nil (vU [0,1,1,1,1] Z (wl (TW.step (T.seq (T.region Z (TL.run ac [0] Z Z ?_)))))))))))))
   refine TL.nil (X.seq (T.seq (vC rfl (xN (show ¬ (13<13) by omega)) ?_)))
   obtain rfl:=xO h
   exact T.exit (vD (vD (v6 (wV [4] Tryz.results37 ⟨Z,Z,Z⟩ (by rfl) (.inr Z)))))
def tI:dY := [(43,0,0),(43,1,1),(43,2,2),(43,3,3),(43,4,4),(43,5,5),(43,6,6),(43,7,7),(43,8,8),(43,9,9),(43,10,10),(43,11,11),(69,0,0),(69,1,1),(89,0,0),(89,1,1),(89,2,2),(89,3,3),(89,4,4),(89,5,5),(89,6,6),(89,7,7),(89,8,8),(89,9,9),(89,10,10),(89,11,11)]
theorem ab:(tI).OK Tryz.prog:=⟨FOK.mk yg rfl xU rfl,FOK.mk yg rfl xU rfl,FOK.mk yg rfl yN rfl,FOK.mk yg rfl yN rfl,FOK.mk yg rfl yN rfl,FOK.mk yg rfl xU rfl,FOK.mk yg rfl xU rfl,FOK.mk yg rfl xU rfl,FOK.mk yg rfl xU rfl,FOK.mk yg rfl xU rfl,FOK.mk yg rfl xU rfl,FOK.mk yg rfl Tryz.sizeOf41 rfl,FOK.mk yh rfl xU rfl,FOK.mk yh rfl xU rfl,FOK.mk yi rfl xU rfl,FOK.mk yi rfl xU rfl,FOK.mk yi rfl xU rfl,FOK.mk yi rfl xU rfl,FOK.mk yi rfl xU rfl,FOK.mk yi rfl xU rfl,FOK.mk yi rfl xU rfl,FOK.mk yi rfl xU rfl,FOK.mk yi rfl xU rfl,FOK.mk yi rfl xU rfl,FOK.mk yi rfl xU rfl,FOK.mk yi rfl xU rfl,trivial⟩
theorem gF:Tryz.prog.follows .mixedOrders=true:=by kernel_rfl
theorem cX:BOK Tryz.prog 43 #[.int .i64 0,.int .i64 0,.bool false,.bool false,.bool false,.int .i64 0,.int .i64 0,.int .i64 0,.int .i64 0,.int .i64 0,.int .i64 0,.slice none 0 0] [(0,1),(1,1),(2,1),(3,1),(4,1),(5,1),(6,1),(7,1),(8,1),(9,1),(10,1),(11,1)]:=BOK.mk Tryz.zeroValue43 yg (by intro w; simp)
theorem oF:BOK Tryz.prog 84 #[.slice none 0 0,.int .i64 0] [(0,1),(1,1)]:=BOK.mk Tryz.zeroValue84 Tryz.runUnderlying84 (by intro w; simp)
theorem ke:BOK Tryz.prog 89 #[.int .i64 0,.int .i64 0,.int .i64 0,.int .i64 0,.int .i64 0,.int .i64 0,.int .i64 0,.int .i64 0,.int .i64 0,.int .i64 0,.int .i64 0,.int .i64 0] [(0,1),(1,1),(2,1),(3,1),(4,1),(5,1),(6,1),(7,1),(8,1),(9,1),(10,1),(11,1)]:=BOK.mk Tryz.zeroValue89 yi (by intro w; simp)
theorem eJ:SOK Tryz.prog 26 9 2 1 #[.string ⟨#[]⟩,.string ⟨#[]⟩]:=SOK.mk yU yL Tryz.zeroValue9 (by decide) (by kernel_rfl)
theorem mu:SOK Tryz.prog 41 69 1 7 #[.int .i64 0,.int .i64 0,.bool false,.string ⟨#[]⟩,.bool false,.string ⟨#[]⟩,.slice none 0 0]:=SOK.mk xZ xX Tryz.zeroValue69 (by decide) (by kernel_rfl)
theorem oG:(Tryz.prog.info? 69).map (fun i=>(i.zero,i.size,i.bytes))=some (some (.agg #[.int .i64 0,.int .i64 0,.bool false,.string ⟨#[]⟩,.bool false,.string ⟨#[]⟩,.slice none 0 0]),7,88):=by kernel_rfl
def dF (a0:Bat):Option (Bool):=if a0.xy≥0 then (if a0.xt≥(-1) then ((jf a0.xt 4).bind fun x6=>if x6=true then (if a0.xw≥0 then ((jf a0.xw 4).bind fun x10=>if x10=true then (if (IntKind.i64.wrap (a0.xy+a0.xw))≥0 then (if a0.xr≥0 then (if a0.xB≥0 then some true else some false) else some false) else some false) else some false) else some false) else some false) else some false) else some false
theorem iB (a0:Bat) (A1:Option Addr) (c2:Nat) (r:Bool) (h:dF a0=some r):ar Tryz.prog 61 #[.agg #[jI a0.xy,jI a0.xt,.bool a0.xA,.bool a0.xE,.bool a0.xz,jI a0.xw,jI a0.xr,jI a0.xB,jI a0.xq,jI a0.xv,jI a0.xo,.slice A1 a0.xm.length c2]] (RX.of (aq 7 bj) [.slice A1 a0.xm.length c2] a0.xm) (av) (fun v A' N=>v= .bool r∧A'=av∧N = []):=by
 refine aJ Tryz.func61 Z Tryz.ntmps61 Z ?_
 intro F w hX
 unfold dF at h
 refine T.seq (T.region Z (TL.box Z .u Z Z (fun b3=>(TL.run ab [1] Z Z (TL.nil (X.seq (T.seq (T.region Z (TL.run ab [0] Z Z (TL.q Z .u (vr 0 Z xQ Z Z) Z ?_))))))))))
 rcases jF h with⟨c4,h⟩ | ⟨c4,h⟩
 ·refine TL.run ab [2,3] Z Z (TL.q Z (.g Z Z (xM c4)) (vA ab Z) Z (TL.q Z (.g Z Z (xM c4)) (vr 0 Z xQ Z Z) Z (TL.q Z (.g Z Z (xM c4)) (vA ab Z) Z (TL.q Z .u (vz Z (xM c4) Z) Z ?_))))
  rcases jF h with⟨c5,h⟩ | ⟨c5,h⟩
  ·refine TL.run ab [8] Z Z (TL.q Z (.g Z Z (xM c5)) (vA ab Z) Z (TL.q Z (.g Z Z (xM c5)) (vr 0 Z xQ Z Z) Z ?_))
   obtain⟨x6,hx7,h⟩:=xL h
   refine vL Z (.g Z Z (xM c5)) (.fn Tryz.call85 Z) (wa (fun w=>en a0.xt 4 _ hx7 w)) (fun _ _=>vy _ _) Z (TL.q Z .u (vz Z (xM c5) Z) Z ?_)
   rcases jF h with⟨c8,h⟩ | ⟨c8,h⟩
   ·refine TL.run ab [13] Z Z (TL.q Z (.g Z Z c8) (vA ab Z) Z (TL.q Z (.g Z Z c8) (vr 0 Z xQ Z Z) Z (TL.q Z (.g Z Z c8) (vA ab Z) Z (TL.q Z .u (vz Z c8 Z) Z ?_))))
    rcases jF h with⟨c9,h⟩ | ⟨c9,h⟩
    ·refine TL.run ab [18] Z Z (TL.q Z (.g Z Z (xM c9)) (vA ab Z) Z (TL.q Z (.g Z Z (xM c9)) (vr 0 Z xQ Z Z) Z ?_))
     obtain⟨x10,hx11,h⟩:=xL h
     refine vL Z (.g Z Z (xM c9)) (.fn Tryz.call85 Z) (wa (fun w=>en a0.xw 4 _ hx11 w)) (fun _ _=>vy _ _) Z (TL.q Z .u (vz Z (xM c9) Z) Z ?_)
     rcases jF h with⟨c12,h⟩ | ⟨c12,h⟩
     ·refine TL.run ab [23] Z Z (TL.q Z (.g Z Z c12) (vA ab Z) Z (TL.q Z (.g Z Z c12) (vr 0 Z xQ Z Z) Z (TL.q Z (.g Z Z c12) (vA ab Z) Z (TL.q Z (.g Z Z c12) (vr 0 Z xQ Z Z) Z (TL.q Z (.g Z Z c12) (Ex.addw Z Z) Z (TL.q Z (.g Z Z c12) (vA ab Z) Z (TL.q Z .u (vz Z c12 Z) Z ?_)))))))
      rcases jF h with⟨c13,h⟩ | ⟨c13,h⟩
      ·refine TL.run ab [31] Z Z (TL.q Z (.g Z Z (xM c13)) (vA ab Z) Z (TL.q Z (.g Z Z (xM c13)) (vr 0 Z xQ Z Z) Z (TL.q Z (.g Z Z (xM c13)) (vA ab Z) Z (TL.q Z .u (vz Z (xM c13) Z) Z ?_))))
       rcases jF h with⟨c14,h⟩ | ⟨c14,h⟩
       ·refine TL.run ab [36] Z Z (TL.q Z (.g Z Z (xM c14)) (vA ab Z) Z (TL.q Z (.g Z Z (xM c14)) (vr 0 Z xQ Z Z) Z (TL.q Z (.g Z Z (xM c14)) (vA ab Z) Z (TL.q Z .u (vz Z (xM c14) Z) Z (TL.run ab [41] Z Z ?_)))))
        rcases jF h with⟨c15,h⟩ | ⟨c15,h⟩
        ·obtain rfl:=xO h
         exact TL.nil (X.seq (T.ret (vu [1] za (vt (v:= .bool true) (congrArg (fun b=>some (Value.bool b)) (xM c15))) ⟨Z,Z,Z⟩ (by rfl) (.inl Z))))
        ·obtain rfl:=xO h
         exact TL.nil (X.seq (T.ret (vu [1] za (vt (v:= .bool false) (congrArg (fun b=>some (Value.bool b)) (xN c15))) ⟨Z,Z,Z⟩ (by rfl) (.inl Z))))
       ·refine TL.run ab [36] Z Z ?_
        iterate 3 refine vv Z (.gn Z Z (xN c14)) Z ?_
        refine TL.q Z .u (vB Z (xN c14) Z) Z (TL.run ab [41] Z Z ?_)
        obtain rfl:=xO h
        exact TL.nil (X.seq (T.ret (vu [1] za (vt Z) ⟨Z,Z,Z⟩ (by rfl) (.inl Z))))
      ·refine TL.run ab [31] Z Z ?_
       iterate 3 refine vv Z (.gn Z Z (xN c13)) Z ?_
       refine TL.q Z .u (vB Z (xN c13) Z) Z (TL.run ab [36] Z Z ?_)
       iterate 3 refine vv Z (.gn Z Z Z) Z ?_
       refine TL.q Z .u (vB Z Z Z) Z (TL.run ab [41] Z Z ?_)
       obtain rfl:=xO h
       exact TL.nil (X.seq (T.ret (vu [1] za (vt Z) ⟨Z,Z,Z⟩ (by rfl) (.inl Z))))
     ·replace c12:=xW c12
      refine TL.run ab [23] Z Z ?_
      iterate 6 refine vv Z (.gn Z Z c12) Z ?_
      refine TL.q Z .u (vB Z c12 Z) Z (TL.run ab [31] Z Z ?_)
      iterate 3 refine vv Z (.gn Z Z Z) Z ?_
      refine TL.q Z .u (vB Z Z Z) Z (TL.run ab [36] Z Z ?_)
      iterate 3 refine vv Z (.gn Z Z Z) Z ?_
      refine TL.q Z .u (vB Z Z Z) Z (TL.run ab [41] Z Z ?_)
      obtain rfl:=xO h
      exact TL.nil (X.seq (T.ret (vu [1] za (vt Z) ⟨Z,Z,Z⟩ (by rfl) (.inl Z))))
    ·refine TL.run ab [18] Z Z ?_
     iterate 3 refine vv Z (.gn Z Z (xN c9)) Z ?_
     refine TL.q Z .u (vB Z (xN c9) Z) Z (TL.run ab [23] Z Z ?_)
     iterate 6 refine vv Z (.gn Z Z Z) Z ?_
     refine TL.q Z .u (vB Z Z Z) Z (TL.run ab [31] Z Z ?_)
     iterate 3 refine vv Z (.gn Z Z Z) Z ?_
     refine TL.q Z .u (vB Z Z Z) Z (TL.run ab [36] Z Z ?_)
     iterate 3 refine vv Z (.gn Z Z Z) Z ?_
     refine TL.q Z .u (vB Z Z Z) Z (TL.run ab [41] Z Z ?_)
     obtain rfl:=xO h
     exact TL.nil (X.seq (T.ret (vu [1] za (vt Z) ⟨Z,Z,Z⟩ (by rfl) (.inl Z))))
   ·replace c8:=xW c8
    refine TL.run ab [13] Z Z ?_
    iterate 3 refine vv Z (.gn Z Z c8) Z ?_
    refine TL.q Z .u (vB Z c8 Z) Z (TL.run ab [18] Z Z ?_)
    iterate 3 refine vv Z (.gn Z Z Z) Z ?_
    refine TL.q Z .u (vB Z Z Z) Z (TL.run ab [23] Z Z ?_)
    iterate 6 refine vv Z (.gn Z Z Z) Z ?_
    refine TL.q Z .u (vB Z Z Z) Z (TL.run ab [31] Z Z ?_)
    iterate 3 refine vv Z (.gn Z Z Z) Z ?_
    refine TL.q Z .u (vB Z Z Z) Z (TL.run ab [36] Z Z ?_)
    iterate 3 refine vv Z (.gn Z Z Z) Z ?_
    refine TL.q Z .u (vB Z Z Z) Z (TL.run ab [41] Z Z ?_)
    obtain rfl:=xO h
    exact TL.nil (X.seq (T.ret (vu [1] za (vt Z) ⟨Z,Z,Z⟩ (by rfl) (.inl Z))))
  ·refine TL.run ab [8] Z Z ?_
   iterate 3 refine vv Z (.gn Z Z (xN c5)) Z ?_
   refine TL.q Z .u (vB Z (xN c5) Z) Z (TL.run ab [13] Z Z ?_)
   iterate 3 refine vv Z (.gn Z Z Z) Z ?_
   refine TL.q Z .u (vB Z Z Z) Z (TL.run ab [18] Z Z ?_)
   iterate 3 refine vv Z (.gn Z Z Z) Z ?_
   refine TL.q Z .u (vB Z Z Z) Z (TL.run ab [23] Z Z ?_)
   iterate 6 refine vv Z (.gn Z Z Z) Z ?_
   refine TL.q Z .u (vB Z Z Z) Z (TL.run ab [31] Z Z ?_)
   iterate 3 refine vv Z (.gn Z Z Z) Z ?_
   refine TL.q Z .u (vB Z Z Z) Z (TL.run ab [36] Z Z ?_)
   iterate 3 refine vv Z (.gn Z Z Z) Z ?_
   refine TL.q Z .u (vB Z Z Z) Z (TL.run ab [41] Z Z ?_)
   obtain rfl:=xO h
   exact TL.nil (X.seq (T.ret (vu [1] za (vt Z) ⟨Z,Z,Z⟩ (by rfl) (.inl Z))))
 ·refine TL.run ab [2,3] Z Z ?_
  iterate 3 refine vv Z (.gn Z Z (xN c4)) Z ?_
  refine TL.q Z .u (vB Z (xN c4) Z) Z (TL.run ab [8] Z Z ?_)
  iterate 3 refine vv Z (.gn Z Z Z) Z ?_
  refine TL.q Z .u (vB Z Z Z) Z (TL.run ab [13] Z Z ?_)
  iterate 3 refine vv Z (.gn Z Z Z) Z ?_
  refine TL.q Z .u (vB Z Z Z) Z (TL.run ab [18] Z Z ?_)
  iterate 3 refine vv Z (.gn Z Z Z) Z ?_
  refine TL.q Z .u (vB Z Z Z) Z (TL.run ab [23] Z Z ?_)
  iterate 6 refine vv Z (.gn Z Z Z) Z ?_
  refine TL.q Z .u (vB Z Z Z) Z (TL.run ab [31] Z Z ?_)
  iterate 3 refine vv Z (.gn Z Z Z) Z ?_
  refine TL.q Z .u (vB Z Z Z) Z (TL.run ab [36] Z Z ?_)
  iterate 3 refine vv Z (.gn Z Z Z) Z ?_
  refine TL.q Z .u (vB Z Z Z) Z (TL.run ab [41] Z Z ?_)
  obtain rfl:=xO h
  exact TL.nil (X.seq (T.ret (vu [1] za (vt Z) ⟨Z,Z,Z⟩ (by rfl) (.inl Z))))
def cF (a0:Bat):Option (Bool):=if a0.xq=(-1) then (if a0.xv=(-1) then (if a0.xo=(-1) then (if a0.xE=true then some false else some true) else some false) else some false) else (if a0.xz=true then (if a0.xq≥0 then (if a0.xv≥0 then ((jf a0.xv 2).bind fun x11=>if x11=true then (if a0.xo≥(-1) then ((jf a0.xo 4).bind fun x15=>if x15=true then (if a0.xo=(-1) then some true else some false) else some false) else some false) else some false) else some false) else some false) else (if a0.xq≥0 then (if a0.xv≥0 then ((jf a0.xv 2).bind fun x21=>if x21=true then (if a0.xo≥0 then ((jf a0.xo 4).bind fun x25=>if x25=true then some true else some false) else some false) else some false) else some false) else some false))
theorem eT (a0:Bat) (A1:Option Addr) (c2:Nat) (r:Bool) (h:cF a0=some r):ar Tryz.prog 62 #[.agg #[jI a0.xy,jI a0.xt,.bool a0.xA,.bool a0.xE,.bool a0.xz,jI a0.xw,jI a0.xr,jI a0.xB,jI a0.xq,jI a0.xv,jI a0.xo,.slice A1 a0.xm.length c2]] (RX.of (aq 7 bj) [.slice A1 a0.xm.length c2] a0.xm) (av) (fun v A' N=>v= .bool r∧A'=av∧N = []):=by
 refine aJ Tryz.func62 Z Tryz.ntmps62 Z ?_
 intro F w hX
 unfold cF at h
 refine T.seq (T.region Z (TL.box Z .u Z Z (fun b3=>(TL.run ab [1] Z Z (TL.nil (X.seq (T.seq (T.seq (T.region Z (TL.run ab [0] Z Z (TL.q Z .u (vr 0 Z xQ Z Z) Z (TL.run ab [2] Z Z ?_))))))))))))
 rcases jF h with⟨c4,h⟩ | ⟨c4,h⟩
 ·refine TL.nil (X.seq (vw Z (xM c4) (T.seq (T.region Z (TL.run ab [0] Z Z (TL.q Z .u (vr 0 Z xQ Z Z) Z ?_))))))
  rcases jF h with⟨c5,h⟩ | ⟨c5,h⟩
  ·refine TL.run ab [2,3] Z Z (TL.q Z (.g Z Z (xM c5)) (vA ab Z) Z (TL.q Z (.g Z Z (xM c5)) (vr 0 Z xQ Z Z) Z (TL.q Z (.g Z Z (xM c5)) (vA ab Z) Z (TL.q Z .u (vz Z (xM c5) Z) Z ?_))))
   rcases jF h with⟨c6,h⟩ | ⟨c6,h⟩
   ·refine TL.run ab [8] Z Z (TL.q Z (.g Z Z (xM c6)) (vA ab Z) Z (TL.q Z (.g Z Z (xM c6)) (vr 0 Z yo Z Z) Z (TL.q Z (.g Z Z (xM c6)) (vA ab Z) Z (TL.q Z .u (vz Z (xM c6) Z) Z (TL.run ab [13] Z Z ?_)))))
    rcases jF h with⟨c7,h⟩ | ⟨c7,h⟩
    ·obtain rfl:=xO h
     exact TL.nil (X.seq (T.ret (vx (vu [1] yC (vt (v:= .bool false) (congrArg (fun b=>some (Value.bool b)) (aw c7))) ⟨Z,Z,Z⟩ (by rfl) (.inl Z)))))
    ·replace c7:=xW c7
     obtain rfl:=xO h
     exact TL.nil (X.seq (T.ret (vx (vu [1] yC (vt (v:= .bool true) (congrArg (fun b=>some (Value.bool b)) (aH c7))) ⟨Z,Z,Z⟩ (by rfl) (.inl Z)))))
   ·refine TL.run ab [8] Z Z ?_
    iterate 3 refine vv Z (.gn Z Z (xN c6)) Z ?_
    refine TL.q Z .u (vB Z (xN c6) Z) Z (TL.run ab [13] Z Z ?_)
    obtain rfl:=xO h
    exact TL.nil (X.seq (T.ret (vx (vu [1] yC (vt Z) ⟨Z,Z,Z⟩ (by rfl) (.inl Z)))))
  ·refine TL.run ab [2,3] Z Z ?_
   iterate 3 refine vv Z (.gn Z Z (xN c5)) Z ?_
   refine TL.q Z .u (vB Z (xN c5) Z) Z (TL.run ab [8] Z Z ?_)
   iterate 3 refine vv Z (.gn Z Z Z) Z ?_
   refine TL.q Z .u (vB Z Z Z) Z (TL.run ab [13] Z Z ?_)
   obtain rfl:=xO h
   exact TL.nil (X.seq (T.ret (vx (vu [1] yC (vt Z) ⟨Z,Z,Z⟩ (by rfl) (.inl Z)))))
 ·refine TL.nil (X.seq (vC Z (xN c4) (T.skip (X.seq (T.seq (T.region Z (TL.run ab [0] Z Z (TL.nil (X.seq (T.seq (T.seq (T.region Z (TL.run ab [0] Z Z (TL.q Z .u (vr 0 Z yo Z Z) Z ?_))))))))))))))
  rcases jF h with⟨c8,h⟩ | ⟨c8,h⟩
  ·refine TL.nil (X.seq (vw Z c8 (T.region Z (TL.run ab [0] Z Z (TL.nil (X.seq (T.seq (T.region Z (TL.run ab [0] Z Z (TL.q Z .u (vr 0 Z xQ Z Z) Z ?_))))))))))
   rcases jF h with⟨c9,h⟩ | ⟨c9,h⟩
   ·refine TL.run ab [2,3] Z Z (TL.q Z (.g Z Z (xM c9)) (vA ab Z) Z (TL.q Z (.g Z Z (xM c9)) (vr 0 Z xQ Z Z) Z (TL.q Z (.g Z Z (xM c9)) (vA ab Z) Z (TL.q Z .u (vz Z (xM c9) Z) Z ?_))))
    rcases jF h with⟨c10,h⟩ | ⟨c10,h⟩
    ·refine TL.run ab [8] Z Z (TL.q Z (.g Z Z (xM c10)) (vA ab Z) Z (TL.q Z (.g Z Z (xM c10)) (vr 0 Z xQ Z Z) Z ?_))
     obtain⟨x11,hx12,h⟩:=xL h
     refine vL Z (.g Z Z (xM c10)) (.fn Tryz.call85 Z) (wa (fun w=>en a0.xv 2 _ hx12 w)) (fun _ _=>vy _ _) Z (TL.q Z .u (vz Z (xM c10) Z) Z ?_)
     rcases jF h with⟨c13,h⟩ | ⟨c13,h⟩
     ·refine TL.run ab [13] Z Z (TL.q Z (.g Z Z c13) (vA ab Z) Z (TL.q Z (.g Z Z c13) (vr 0 Z xQ Z Z) Z ?_))
      iterate 2 refine TL.q Z (.g Z Z c13) (vA ab Z) Z ?_
      refine TL.q Z .u (vz Z c13 Z) Z ?_
      rcases jF h with⟨c14,h⟩ | ⟨c14,h⟩
      ·refine TL.run ab [19] Z Z (TL.q Z (.g Z Z (xM c14)) (vA ab Z) Z (TL.q Z (.g Z Z (xM c14)) (vr 0 Z xQ Z Z) Z ?_))
       obtain⟨x15,hx16,h⟩:=xL h
       refine vL Z (.g Z Z (xM c14)) (.fn Tryz.call85 Z) (wa (fun w=>en a0.xo 4 _ hx16 w)) (fun _ _=>vy _ _) Z (TL.q Z .u (vz Z (xM c14) Z) Z ?_)
       rcases jF h with⟨c17,h⟩ | ⟨c17,h⟩
       ·refine TL.run ab [24] Z Z (TL.q Z (.g Z Z c17) (vA ab Z) Z (TL.q Z (.g Z Z c17) (vr 0 Z yo Z Z) Z ?_))
        iterate 2 refine TL.q Z (.g Z Z c17) (vA ab Z) Z ?_
        refine TL.q Z (.g Z Z (aw c8)) (vA ab Z) Z (TL.q Z (.g Z Z (aw c8)) (vr 0 Z xQ Z Z) Z (TL.q Z (.g Z Z (aw c8)) (vA ab Z) Z (TL.q Z (.g Z Z c17) (vB Z (aw c8) Z) Z (TL.q Z .u (vz Z c17 Z) Z (TL.run ab [34] Z Z ?_)))))
        rcases jF h with⟨c18,h⟩ | ⟨c18,h⟩
        ·obtain rfl:=xO h
         exact TL.nil (X.seq (T.ret (vu [1] yC (vt (v:= .bool true) (congrArg (fun b=>some (Value.bool b)) (xM c18))) ⟨Z,Z,Z⟩ (by rfl) (.inl Z))))
        ·obtain rfl:=xO h
         exact TL.nil (X.seq (T.ret (vu [1] yC (vt (v:= .bool false) (congrArg (fun b=>some (Value.bool b)) (xN c18))) ⟨Z,Z,Z⟩ (by rfl) (.inl Z))))
       ·replace c17:=xW c17
        refine TL.run ab [24] Z Z ?_
        iterate 4 refine vv Z (.gn Z Z c17) Z ?_
        iterate 3 refine vv Z (.gu Z Z) Z ?_
        refine vv Z (.gn Z Z c17) Z (TL.q Z .u (vB Z c17 Z) Z (TL.run ab [34] Z Z ?_))
        obtain rfl:=xO h
        exact TL.nil (X.seq (T.ret (vu [1] yC (vt Z) ⟨Z,Z,Z⟩ (by rfl) (.inl Z))))
      ·refine TL.run ab [19] Z Z ?_
       iterate 3 refine vv Z (.gn Z Z (xN c14)) Z ?_
       refine TL.q Z .u (vB Z (xN c14) Z) Z (TL.run ab [24] Z Z ?_)
       iterate 4 refine vv Z (.gn Z Z Z) Z ?_
       iterate 3 refine vv Z (.gu Z Z) Z ?_
       refine vv Z (.gn Z Z Z) Z (TL.q Z .u (vB Z Z Z) Z (TL.run ab [34] Z Z ?_))
       obtain rfl:=xO h
       exact TL.nil (X.seq (T.ret (vu [1] yC (vt Z) ⟨Z,Z,Z⟩ (by rfl) (.inl Z))))
     ·replace c13:=xW c13
      refine TL.run ab [13] Z Z ?_
      iterate 4 refine vv Z (.gn Z Z c13) Z ?_
      refine TL.q Z .u (vB Z c13 Z) Z (TL.run ab [19] Z Z ?_)
      iterate 3 refine vv Z (.gn Z Z Z) Z ?_
      refine TL.q Z .u (vB Z Z Z) Z (TL.run ab [24] Z Z ?_)
      iterate 4 refine vv Z (.gn Z Z Z) Z ?_
      iterate 3 refine vv Z (.gu Z Z) Z ?_
      refine vv Z (.gn Z Z Z) Z (TL.q Z .u (vB Z Z Z) Z (TL.run ab [34] Z Z ?_))
      obtain rfl:=xO h
      exact TL.nil (X.seq (T.ret (vu [1] yC (vt Z) ⟨Z,Z,Z⟩ (by rfl) (.inl Z))))
    ·refine TL.run ab [8] Z Z ?_
     iterate 3 refine vv Z (.gn Z Z (xN c10)) Z ?_
     refine TL.q Z .u (vB Z (xN c10) Z) Z (TL.run ab [13] Z Z ?_)
     iterate 4 refine vv Z (.gn Z Z Z) Z ?_
     refine TL.q Z .u (vB Z Z Z) Z (TL.run ab [19] Z Z ?_)
     iterate 3 refine vv Z (.gn Z Z Z) Z ?_
     refine TL.q Z .u (vB Z Z Z) Z (TL.run ab [24] Z Z ?_)
     iterate 4 refine vv Z (.gn Z Z Z) Z ?_
     iterate 3 refine vv Z (.gu Z Z) Z ?_
     refine vv Z (.gn Z Z Z) Z (TL.q Z .u (vB Z Z Z) Z (TL.run ab [34] Z Z ?_))
     obtain rfl:=xO h
     exact TL.nil (X.seq (T.ret (vu [1] yC (vt Z) ⟨Z,Z,Z⟩ (by rfl) (.inl Z))))
   ·refine TL.run ab [2,3] Z Z ?_
    iterate 3 refine vv Z (.gn Z Z (xN c9)) Z ?_
    refine TL.q Z .u (vB Z (xN c9) Z) Z (TL.run ab [8] Z Z ?_)
    iterate 3 refine vv Z (.gn Z Z Z) Z ?_
    refine TL.q Z .u (vB Z Z Z) Z (TL.run ab [13] Z Z ?_)
    iterate 4 refine vv Z (.gn Z Z Z) Z ?_
    refine TL.q Z .u (vB Z Z Z) Z (TL.run ab [19] Z Z ?_)
    iterate 3 refine vv Z (.gn Z Z Z) Z ?_
    refine TL.q Z .u (vB Z Z Z) Z (TL.run ab [24] Z Z ?_)
    iterate 4 refine vv Z (.gn Z Z Z) Z ?_
    iterate 3 refine vv Z (.gu Z Z) Z ?_
    refine vv Z (.gn Z Z Z) Z (TL.q Z .u (vB Z Z Z) Z (TL.run ab [34] Z Z ?_))
    obtain rfl:=xO h
    exact TL.nil (X.seq (T.ret (vu [1] yC (vt Z) ⟨Z,Z,Z⟩ (by rfl) (.inl Z))))
  ·replace c8:=xW c8
   refine TL.nil (X.seq (vC Z c8 (T.skip (X.seq (T.seq (T.region Z (TL.run ab [0] Z Z (TL.q Z .u (vr 0 Z xQ Z Z) Z ?_))))))))
   rcases jF h with⟨c19,h⟩ | ⟨c19,h⟩
   ·refine TL.run ab [2,3] Z Z (TL.q Z (.g Z Z (xM c19)) (vA ab Z) Z (TL.q Z (.g Z Z (xM c19)) (vr 0 Z xQ Z Z) Z (TL.q Z (.g Z Z (xM c19)) (vA ab Z) Z (TL.q Z .u (vz Z (xM c19) Z) Z ?_))))
    rcases jF h with⟨c20,h⟩ | ⟨c20,h⟩
    ·refine TL.run ab [8] Z Z (TL.q Z (.g Z Z (xM c20)) (vA ab Z) Z (TL.q Z (.g Z Z (xM c20)) (vr 0 Z xQ Z Z) Z ?_))
     obtain⟨x21,hx22,h⟩:=xL h
     refine vL Z (.g Z Z (xM c20)) (.fn Tryz.call85 Z) (wa (fun w=>en a0.xv 2 _ hx22 w)) (fun _ _=>vy _ _) Z (TL.q Z .u (vz Z (xM c20) Z) Z ?_)
     rcases jF h with⟨c23,h⟩ | ⟨c23,h⟩
     ·refine TL.run ab [13] Z Z (TL.q Z (.g Z Z c23) (vA ab Z) Z (TL.q Z (.g Z Z c23) (vr 0 Z xQ Z Z) Z ?_))
      iterate 2 refine TL.q Z (.g Z Z c23) (vA ab Z) Z ?_
      refine TL.q Z .u (vz Z c23 Z) Z ?_
      rcases jF h with⟨c24,h⟩ | ⟨c24,h⟩
      ·refine TL.run ab [19] Z Z (TL.q Z (.g Z Z (xM c24)) (vA ab Z) Z (TL.q Z (.g Z Z (xM c24)) (vr 0 Z xQ Z Z) Z ?_))
       obtain⟨x25,hx26,h⟩:=xL h
       refine vL Z (.g Z Z (xM c24)) (.fn Tryz.call85 Z) (wa (fun w=>en a0.xo 4 _ hx26 w)) (fun _ _=>vy _ _) Z (TL.q Z .u (vz Z (xM c24) Z) Z ?_)
       rcases jF h with⟨c27,h⟩ | ⟨c27,h⟩
       ·refine TL.run ab [24] Z Z (TL.q Z (.g Z Z c27) (vA ab Z) Z (TL.q Z (.g Z Z c27) (vr 0 Z yo Z Z) Z ?_))
        iterate 2 refine TL.q Z (.g Z Z c27) (vA ab Z) Z ?_
        iterate 3 refine vv Z (.gn Z Z (aH c8)) Z ?_
        refine TL.q Z (.g Z Z c27) (vz Z (aH c8) Z) Z (TL.q Z .u (vz Z c27 Z) Z (TL.run ab [34] Z Z ?_))
        obtain rfl:=xO h
        exact TL.nil (X.seq (T.ret (vu [1] yC (vt Z) ⟨Z,Z,Z⟩ (by rfl) (.inl Z))))
       ·replace c27:=xW c27
        refine TL.run ab [24] Z Z ?_
        iterate 4 refine vv Z (.gn Z Z c27) Z ?_
        iterate 3 refine vv Z (.gu Z Z) Z ?_
        refine vv Z (.gn Z Z c27) Z (TL.q Z .u (vB Z c27 Z) Z (TL.run ab [34] Z Z ?_))
        obtain rfl:=xO h
        exact TL.nil (X.seq (T.ret (vu [1] yC (vt Z) ⟨Z,Z,Z⟩ (by rfl) (.inl Z))))
      ·refine TL.run ab [19] Z Z ?_
       iterate 3 refine vv Z (.gn Z Z (xN c24)) Z ?_
       refine TL.q Z .u (vB Z (xN c24) Z) Z (TL.run ab [24] Z Z ?_)
       iterate 4 refine vv Z (.gn Z Z Z) Z ?_
       iterate 3 refine vv Z (.gu Z Z) Z ?_
       refine vv Z (.gn Z Z Z) Z (TL.q Z .u (vB Z Z Z) Z (TL.run ab [34] Z Z ?_))
       obtain rfl:=xO h
       exact TL.nil (X.seq (T.ret (vu [1] yC (vt Z) ⟨Z,Z,Z⟩ (by rfl) (.inl Z))))
     ·replace c23:=xW c23
      refine TL.run ab [13] Z Z ?_
      iterate 4 refine vv Z (.gn Z Z c23) Z ?_
      refine TL.q Z .u (vB Z c23 Z) Z (TL.run ab [19] Z Z ?_)
      iterate 3 refine vv Z (.gn Z Z Z) Z ?_
      refine TL.q Z .u (vB Z Z Z) Z (TL.run ab [24] Z Z ?_)
      iterate 4 refine vv Z (.gn Z Z Z) Z ?_
      iterate 3 refine vv Z (.gu Z Z) Z ?_
      refine vv Z (.gn Z Z Z) Z (TL.q Z .u (vB Z Z Z) Z (TL.run ab [34] Z Z ?_))
      obtain rfl:=xO h
      exact TL.nil (X.seq (T.ret (vu [1] yC (vt Z) ⟨Z,Z,Z⟩ (by rfl) (.inl Z))))
    ·refine TL.run ab [8] Z Z ?_
     iterate 3 refine vv Z (.gn Z Z (xN c20)) Z ?_
     refine TL.q Z .u (vB Z (xN c20) Z) Z (TL.run ab [13] Z Z ?_)
     iterate 4 refine vv Z (.gn Z Z Z) Z ?_
     refine TL.q Z .u (vB Z Z Z) Z (TL.run ab [19] Z Z ?_)
     iterate 3 refine vv Z (.gn Z Z Z) Z ?_
     refine TL.q Z .u (vB Z Z Z) Z (TL.run ab [24] Z Z ?_)
     iterate 4 refine vv Z (.gn Z Z Z) Z ?_
     iterate 3 refine vv Z (.gu Z Z) Z ?_
     refine vv Z (.gn Z Z Z) Z (TL.q Z .u (vB Z Z Z) Z (TL.run ab [34] Z Z ?_))
     obtain rfl:=xO h
     exact TL.nil (X.seq (T.ret (vu [1] yC (vt Z) ⟨Z,Z,Z⟩ (by rfl) (.inl Z))))
   ·refine TL.run ab [2,3] Z Z ?_
    iterate 3 refine vv Z (.gn Z Z (xN c19)) Z ?_
    refine TL.q Z .u (vB Z (xN c19) Z) Z (TL.run ab [8] Z Z ?_)
    iterate 3 refine vv Z (.gn Z Z Z) Z ?_
    refine TL.q Z .u (vB Z Z Z) Z (TL.run ab [13] Z Z ?_)
    iterate 4 refine vv Z (.gn Z Z Z) Z ?_
    refine TL.q Z .u (vB Z Z Z) Z (TL.run ab [19] Z Z ?_)
    iterate 3 refine vv Z (.gn Z Z Z) Z ?_
    refine TL.q Z .u (vB Z Z Z) Z (TL.run ab [24] Z Z ?_)
    iterate 4 refine vv Z (.gn Z Z Z) Z ?_
    iterate 3 refine vv Z (.gu Z Z) Z ?_
    refine vv Z (.gn Z Z Z) Z (TL.q Z .u (vB Z Z Z) Z (TL.run ab [34] Z Z ?_))
    obtain rfl:=xO h
    exact TL.nil (X.seq (T.ret (vu [1] yC (vt Z) ⟨Z,Z,Z⟩ (by rfl) (.inl Z))))
def aQ (a0:Bat):List Rec→Int→Int→Int→Option (Lp Int (Int×Int×Int))
 | [],y4,y5,y6=>some (Lp.go (y4,y5,y6))
 | x12::xs,y4,y5,y6=>if x12.xx≤y5 then some (Lp.ret 13) else (if x12.xx>a0.xw then some (Lp.ret 13) else (if (IntKind.i64.wrap (a0.xr+x12.xC))<0 then some (Lp.ret 11) else (if x12.xC>0 then (if (IntKind.i64.wrap (a0.xr+x12.xC))<x12.xC then some (Lp.ret 11) else (if y6<(IntKind.i64.wrap (a0.xr+x12.xC)) then (aQ a0 xs y4 x12.xx (IntKind.i64.wrap (a0.xr+x12.xC))) else (aQ a0 xs y4 x12.xx y6))) else (if y6<(IntKind.i64.wrap (a0.xr+x12.xC)) then (aQ a0 xs y4 x12.xx (IntKind.i64.wrap (a0.xr+x12.xC))) else (aQ a0 xs y4 x12.xx y6)))))
def bE (a0:Bat):Option (Int):=(aQ a0 a0.xm 0 (-1) a0.xr).bind fun e=>match e with | .ret r=>some r | .go (y27,y28,y29)=>(if a0.xA=true then some 0 else (if y29=a0.xB then some 0 else some 11))
theorem fh (a0:Bat) (A1:Option Addr) (c2:Nat) (r:Int) (h:bE a0=some r):ar Tryz.prog 65 #[.agg #[jI a0.xy,jI a0.xt,.bool a0.xA,.bool a0.xE,.bool a0.xz,jI a0.xw,jI a0.xr,jI a0.xB,jI a0.xq,jI a0.xv,jI a0.xo,.slice A1 a0.xm.length c2]] (RX.of (aq 7 bj) [.slice A1 a0.xm.length c2] a0.xm) (av) (fun v A' N=>v=jI r∧A'=av∧N = []):=by
 refine aJ Tryz.func65 Z Tryz.ntmps65 Z ?_
 intro F w hX
 unfold bE at h
 refine T.seq (T.region Z (TL.box Z .u Z Z (fun b3=>(TL.run ab [1] Z Z ?_))))
 refine TL.nil (X.seq (T.seq (vQ (.q 0 (.q 1 (.q 2 (.q 3 .nil)))) [0,0] Z gF (NoP.seq aO) (by kernel_rfl) ?_)))
 refine TD.run ab [0] Z Z (TD.q Z .u (vr 0 Z xQ Z Z) Z (TD.run ab [2,3] Z Z (TD.nil (X.seq (T.seq (T.seq (T.region Z (TL.run ab [0] Z Z (TL.q Z .u (vr 0 Z yq Z Z) Z (TL.q Z .u (vH Z xZ) Z (TL.run ab [3] Z Z ?_)))))))))))
 refine TL.nil (X.seq (T.block ?_))
 obtain⟨E8,hE9,hO10⟩:=xL h
 have hk14len:=wd hX
 refine v9 (fun m e Rs=> ∃ (y4:Int) (y5:Int) (y6:Int) (k7:Nat),k7+m=a0.xm.length∧e = [(1,jP b3),(2,jI y4),(3,jI y5),(4,jI y6),(11,.slice A1 a0.xm.length c2),(12,jI (a0.xm.length:Int)),(13,jI (k7:Int))]∧Rs = [aA b3 43 #[jI a0.xy,jI a0.xt,.bool a0.xA,.bool a0.xE,.bool a0.xz,jI a0.xw,jI a0.xr,jI a0.xB,jI a0.xq,jI a0.xv,jI a0.xo,.slice A1 a0.xm.length c2],av]∧aQ a0 (a0.xm.drop k7) y4 y5 y6=some E8) (a0.xm.length) [0,0] ⟨0,(-1),a0.xr,0,by simp,Z,Z,by rw[List.drop_zero]; exact hE9⟩ (by rfl) (by rfl) ?_
 rintro m11 _ _ ⟨y4,y5,y6,k7,hk14,rfl,rfl,hl13⟩
 clear hE9 h
 cases m11 with
 | zero =>
  have h:=hl13
  clear hl13
  rw[List.drop_of_length_le (by omega),aQ] at h
  have hk14ge: ¬ ((k7:Int)<(a0.xm.length:Int)):=by omega
  refine T.seq (T.region Z (TL.run ab [0] Z Z (TL.nil (X.seq (T.seq (vC Z (xN hk14ge) ?_))))))
  obtain rfl:=xO h
  replace h:=hO10
  clear hO10
  try dsimp only at h
  refine T.exit (vD (vD (v6 (X.seq (T.seq (T.seq (T.region Z (TL.run ab [0] Z Z (TL.q Z .u (vr 0 Z yo Z Z) Z ?_)))))))))
  rcases jF h with⟨c33,h⟩ | ⟨c33,h⟩
  ·refine TL.run ab [2,3] Z Z ?_
   iterate 4 refine vv Z (.gn Z Z (aw c33)) Z ?_
   refine TL.q Z .u (vB Z (aw c33) Z) Z (TL.nil (X.seq (vC Z Z (T.skip (X.seq (T.seq (T.region Z (TL.run ab [0] Z Z ?_))))))))
   obtain rfl:=xO h
   exact TL.nil (X.seq (T.ret (vu [1] zi (vt Z) ⟨Z,Z,Z⟩ (by rfl) (.inl Z))))
  ·replace c33:=xW c33
   refine TL.run ab [2,3] Z Z ?_
   iterate 2 refine TL.q Z (.g Z Z (aH c33)) (vA ab Z) Z ?_
   refine TL.q Z (.g Z Z (aH c33)) (vr 0 Z xQ Z Z) Z (TL.q Z (.g Z Z (aH c33)) (vA ab Z) Z (TL.q Z .u (vz Z (aH c33) Z) Z ?_))
   rcases jF h with⟨c34,h⟩ | ⟨c34,h⟩
   ·refine TL.nil (X.seq (vC Z (aw (xM c34)) (T.skip (X.seq (T.seq (T.region Z (TL.run ab [0] Z Z ?_)))))))
    obtain rfl:=xO h
    exact TL.nil (X.seq (T.ret (vu [1] zi (vt Z) ⟨Z,Z,Z⟩ (by rfl) (.inl Z))))
   ·refine TL.nil (X.seq (vw Z (aH (xN c34)) (T.seq (T.region Z (TL.run ab [0] Z Z ?_)))))
    obtain rfl:=xO h
    exact TL.nil (X.seq (T.ret (vx (vu [1] zi (vt Z) ⟨Z,Z,Z⟩ (by rfl) (.inl Z)))))
 | succ m11 =>
  have h:=hl13
  clear hl13
  obtain⟨x12,hxx12⟩: ∃ x,a0.xm[k7]? = some x:=⟨_,List.getElem?_eq_getElem (by omega)⟩
  rw[cm hxx12,aQ] at h
  have hk14lt:(k7:Int)<(a0.xm.length:Int):=by omega
  refine T.seq (T.region Z (TL.run ab [0] Z Z (TL.nil (X.seq (T.seq (vw Z (xM hk14lt) ?_))))))
  obtain⟨gz15,oz15,rfl,z15cs,z15cl,z15cc,z15nf,z15r⟩:=vV (by decide) hX hxx12
  obtain⟨z15S,z15r,z15rr⟩:=z15r
  obtain⟨A16,c17,rfl,z15s0⟩:=z15r
  have hX18:(RX.of (aq 3 bg) [.slice A16 x12.xp.length c17] x12.xp).reads w F:=⟨z15S,z15s0,z15rr⟩
  refine T.skip (X.seq (T.seq (T.block (T.seq (T.region Z ?_)))))
  refine TL.q Z .u (vM (k:=k7) Z Z Z xZ xX (xS hxx12).1) Z ?_
  refine TL.q Z .u (wj (us := [jI x12.xC,jI x12.xx,.bool x12.xu.null,jS x12.xu.data,.bool x12.xn.null,jS x12.xn.data,.slice A16 x12.xp.length c17]) 0 Z yt xX z15nf z15cc Z Z Z) Z (TL.alloc Z .u Tryz.zeroValue69 Z (fun b19=>(vG (cs':= #[jI x12.xC,jI x12.xx,.bool x12.xu.null,jS x12.xu.data,.bool x12.xn.null,jS x12.xn.data,.slice A16 x12.xp.length c17]) Z .u Z Z xX Z Z Z Z (TL.nil (X.seq (T.seq (T.seq (T.region Z (TL.run ab [0] Z Z (TL.q Z .u (vr 0 Z xQ Z Z) Z ?_))))))))))
  rcases jF h with⟨c20,h⟩ | ⟨c20,h⟩
  ·refine TL.run ab [2,3,4] Z Z ?_
   iterate 5 refine vv Z (.gn Z Z (xM c20)) Z ?_
   refine TL.q Z .u (vz Z (xM c20) Z) Z (TL.nil (X.seq (vw Z Z (T.seq (T.region Z (TL.run ab [0] Z Z ?_))))))
   obtain rfl:=xO h
   replace h:=hO10
   clear hO10
   try dsimp only at h
   obtain rfl:=xO h
   exact TL.nil (X.seq (T.ret (vx (vJ (vx (vx (vJ (vx (vu [2] zi (vt Z) ⟨Z,Z,Z⟩ (by rfl) (.inl Z))))))))))
  ·refine TL.run ab [2,3,4] Z Z (TL.q Z (.g Z Z (xN c20)) (vA ab Z) Z (TL.q Z (.g Z Z (xN c20)) (vr 0 Z xQ Z Z) Z (TL.q Z (.g Z Z (xN c20)) (vA ab Z) Z (TL.q Z (.g Z Z (xN c20)) (vr 1 Z xQ Z Z) Z (TL.q Z (.g Z Z (xN c20)) (vA ab Z) Z (TL.q Z .u (vB Z (xN c20) Z) Z ?_))))))
   rcases jF h with⟨c21,h⟩ | ⟨c21,h⟩
   ·refine TL.nil (X.seq (vw Z (xM c21) (T.seq (T.region Z (TL.run ab [0] Z Z ?_)))))
    obtain rfl:=xO h
    replace h:=hO10
    clear hO10
    try dsimp only at h
    obtain rfl:=xO h
    exact TL.nil (X.seq (T.ret (vx (vJ (vx (vx (vJ (vx (vu [2] zi (vt Z) ⟨Z,Z,Z⟩ (by rfl) (.inl Z))))))))))
   ·refine TL.nil (X.seq (vC Z (xN c21) (T.skip (X.seq (T.seq (T.region Z (TL.run ab [0] Z Z (TL.q Z .u (vr 0 Z xQ Z Z) Z (TL.run ab [2] Z Z (TL.nil (X.seq (T.seq (T.region Z (TL.run ab [0] Z Z ?_))))))))))))))
    refine TL.q Z .u (vr 1 Z xQ Z Z) Z (TL.run ab [2] Z Z (TL.q Z .u (vr 0 Z xQ Z Z) Z (TL.q Z .u (Ex.addw Z Z) Z (TL.run ab [5] Z Z (TL.nil (X.seq (T.seq (T.seq (T.region Z ?_)))))))))
    rcases jF h with⟨c22,h⟩ | ⟨c22,h⟩
    ·refine TL.run ab [0,1,2] Z Z ?_
     iterate 4 refine vv Z (.gn Z Z (xM c22)) Z ?_
     iterate 4 refine vv Z (.gu Z Z) Z ?_
     refine vv Z (.gn Z Z (xM c22)) Z (TL.q Z .u (vz Z (xM c22) Z) Z (TL.nil (X.seq (vw Z Z (T.seq (T.region Z (TL.run ab [0] Z Z ?_)))))))
     obtain rfl:=xO h
     replace h:=hO10
     clear hO10
     try dsimp only at h
     obtain rfl:=xO h
     exact TL.nil (X.seq (T.ret (vx (vJ (vx (vx (vJ (vx (vu [2] zi (vt Z) ⟨Z,Z,Z⟩ (by rfl) (.inl Z))))))))))
    ·refine TL.run ab [0,1,2] Z Z (TL.q Z (.g Z Z (xN c22)) (vA ab Z) Z (TL.q Z (.g Z Z (xN c22)) (vr 0 Z xQ Z Z) Z ?_))
     iterate 2 refine TL.q Z (.g Z Z (xN c22)) (vA ab Z) Z ?_
     rcases jF h with⟨c23,h⟩ | ⟨c23,h⟩
     ·refine TL.q Z (.g Z Z (xM c23)) (vA ab Z) Z (TL.q Z (.g Z Z (xM c23)) (vA ab Z) Z (TL.q Z (.g Z Z (xM c23)) (vr 0 Z xQ Z Z) Z (TL.q Z (.g Z Z (xM c23)) (vA ab Z) Z (TL.q Z (.g Z Z (xN c22)) (vz Z (xM c23) Z) Z (TL.q Z .u (vB Z (xN c22) Z) Z ?_)))))
      rcases jF h with⟨c24,h⟩ | ⟨c24,h⟩
      ·refine TL.nil (X.seq (vw Z (xM c24) (T.seq (T.region Z (TL.run ab [0] Z Z ?_)))))
       obtain rfl:=xO h
       replace h:=hO10
       clear hO10
       try dsimp only at h
       obtain rfl:=xO h
       exact TL.nil (X.seq (T.ret (vx (vJ (vx (vx (vJ (vx (vu [2] zi (vt Z) ⟨Z,Z,Z⟩ (by rfl) (.inl Z))))))))))
      ·refine TL.nil (X.seq (vC Z (xN c24) (T.skip (X.seq (T.region Z ?_)))))
       rcases jF h with⟨c25,h⟩ | ⟨c25,h⟩
       ·exact TL.run ab [0,1] Z Z (TL.q Z .u (Ex.maxy Z Z c25) Z (TL.run ab [3] Z Z (TL.nil (vF (X.seq (T.region Z (TL.q Z .u (Ex.add Z Z (by omega)) Z (TL.run ab [1] Z Z (TL.nil (X.back (m':=m11) [1,1] (by omega) ⟨y4,x12.xx,(IntKind.i64.wrap (a0.xr+x12.xC)),k7+1,by omega,Z,Z,h⟩ (by rfl) (by rfl)))))))))))
       ·exact TL.run ab [0,1] Z Z (TL.q Z .u (Ex.maxx Z Z c25) Z (TL.run ab [3] Z Z (TL.nil (vF (X.seq (T.region Z (TL.q Z .u (Ex.add Z Z (by omega)) Z (TL.run ab [1] Z Z (TL.nil (X.back (m':=m11) [1,1] (by omega) ⟨y4,x12.xx,y6,k7+1,by omega,Z,Z,h⟩ (by rfl) (by rfl)))))))))))
     ·refine vv Z (.gn Z Z (xN c23)) Z ?_
      iterate 3 refine vv Z (.gn Z Z (xN c23)) Z ?_
      refine TL.q Z (.g Z Z (xN c22)) (vB Z (xN c23) Z) Z (TL.q Z .u (vB Z (xN c22) Z) Z (TL.nil (X.seq (vC Z Z (T.skip (X.seq (T.region Z ?_)))))))
      rcases jF h with⟨c26,h⟩ | ⟨c26,h⟩
      ·exact TL.run ab [0,1] Z Z (TL.q Z .u (Ex.maxy Z Z c26) Z (TL.run ab [3] Z Z (TL.nil (vF (X.seq (T.region Z (TL.q Z .u (Ex.add Z Z (by omega)) Z (TL.run ab [1] Z Z (TL.nil (X.back (m':=m11) [1,1] (by omega) ⟨y4,x12.xx,(IntKind.i64.wrap (a0.xr+x12.xC)),k7+1,by omega,Z,Z,h⟩ (by rfl) (by rfl)))))))))))
      ·exact TL.run ab [0,1] Z Z (TL.q Z .u (Ex.maxx Z Z c26) Z (TL.run ab [3] Z Z (TL.nil (vF (X.seq (T.region Z (TL.q Z .u (Ex.add Z Z (by omega)) Z (TL.run ab [1] Z Z (TL.nil (X.back (m':=m11) [1,1] (by omega) ⟨y4,x12.xx,y6,k7+1,by omega,Z,Z,h⟩ (by rfl) (by rfl)))))))))))
def bZ:List Rec→Int→Option (Lp Int Int)
 | [],y13=>some (Lp.go y13)
 | x19::xs,y13=>(cJ x19).bind fun x27=>if x27=0 then (bZ xs y13) else some (Lp.ret x27)
def ca:List Rec→Int→Option (Lp Int Int)
 | [],y61=>some (Lp.go y61)
 | x67::xs,y61=>(cJ x67).bind fun x75=>if x75=0 then (ca xs y61) else some (Lp.ret x75)
def bM (a0:Bat):Option (Int):=(dF a0).bind fun x4=>if x4=true then (if a0.xz=true then (if a0.xE=true then ((cF a0).bind fun x9=>if x9=true then (if (a0.xm.length:Int)=1 then ((bZ a0.xm 0).bind fun e=>match e with | .ret r=>some r | .go y30=>((a0.xm[0]?).bind fun x32=>(bC x32).bind fun (x38,x39,x40)=>if x40=0 then ((bE a0).bind fun x43=>some x43) else some x40)) else some 10) else some 11) else some 8) else ((cF a0).bind fun x58=>if x58=true then ((ca a0.xm 0).bind fun e=>match e with | .ret r=>some r | .go y78=>((bE a0).bind fun x80=>some x80)) else some 11)) else some 11
theorem fQ (a0:Bat) (A1:Option Addr) (c2:Nat) (r:Int) (h:bM a0=some r):ar Tryz.prog 33 #[.agg #[jI a0.xy,jI a0.xt,.bool a0.xA,.bool a0.xE,.bool a0.xz,jI a0.xw,jI a0.xr,jI a0.xB,jI a0.xq,jI a0.xv,jI a0.xo,.slice A1 a0.xm.length c2]] (RX.of (aq 7 bj) [.slice A1 a0.xm.length c2] a0.xm) (av) (fun v A' N=>v=jI r∧A'=av∧N = []):=by
 refine aJ Tryz.func33 Z Tryz.ntmps33 Z ?_
 intro F w hX
 unfold bM at h
 refine T.seq (T.region Z (TL.box Z .u Z Z (fun b3=>(TL.run ab [1] Z Z (TL.nil (X.seq (T.seq (T.block (T.seq (T.region Z (TL.q Z .u (vE (us := [jI a0.xy,jI a0.xt,.bool a0.xA,.bool a0.xE,.bool a0.xz,jI a0.xw,jI a0.xr,jI a0.xB,jI a0.xq,jI a0.xv,jI a0.xo,.slice A1 a0.xm.length c2]) 0 Z yr yb Z Z Z) Z ?_)))))))))))
 obtain⟨x4,hx5,h⟩:=xL h
 refine vL Z .u (.fn Tryz.call61 Z) (iB a0 _ _ _ hx5) (fun _ hs=>(vK hs hX)) Z (TL.run ab [2,3] Z Z ?_)
 rcases jF h with⟨c6,h⟩ | ⟨c6,h⟩
 ·refine TL.nil (X.seq (vC Z (aw c6) (T.seq (T.region Z (TL.run ab [0] Z Z (TL.q Z .u (vr 0 Z yo Z Z) Z ?_))))))
  rcases jF h with⟨c7,h⟩ | ⟨c7,h⟩
  ·refine TL.run ab [2] Z Z (TL.q Z (.g Z Z c7) (vA ab Z) Z (TL.q Z (.g Z Z c7) (vr 0 Z yo Z Z) Z (TL.q Z (.g Z Z c7) (vA ab Z) Z (TL.q Z .u (vz Z c7 Z) Z (TL.run ab [7] Z Z ?_)))))
   rcases jF h with⟨c8,h⟩ | ⟨c8,h⟩
   ·refine TL.nil (X.seq (vC Z (aw c8) (T.seq (T.region Z (TL.q Z .u (vE (us := [jI a0.xy,jI a0.xt,.bool a0.xA,.bool a0.xE,.bool a0.xz,jI a0.xw,jI a0.xr,jI a0.xB,jI a0.xq,jI a0.xv,jI a0.xo,.slice A1 a0.xm.length c2]) 0 Z yr yb Z Z Z) Z ?_)))))
    obtain⟨x9,hx10,h⟩:=xL h
    refine vL Z .u (.fn Tryz.call62 Z) (eT a0 _ _ _ hx10) (fun _ hs=>(vK hs hX)) Z (TL.run ab [2,3] Z Z ?_)
    rcases jF h with⟨c11,h⟩ | ⟨c11,h⟩
    ·refine TL.nil (X.seq (vC Z (aw c11) (T.seq (T.region Z (TL.run ab [0] Z Z (TL.q Z .u (vr 0 Z yo Z Z) Z (TL.run ab [2] Z Z (TL.q Z (.g Z Z c7) (vA ab Z) Z (TL.q Z (.g Z Z c7) (vr 0 Z yq Z Z) Z ?_)))))))))
     refine TL.q Z (.g Z Z c7) (vH Z xZ) Z (TL.q Z (.g Z Z c7) (vA ab Z) Z (TL.q Z .u (vz Z c7 Z) Z (TL.run ab [8] Z Z ?_)))
     rcases jF h with⟨c12,h⟩ | ⟨c12,h⟩
     ·refine TL.nil (X.seq (vC Z (aw (xM c12)) (T.skip (vF (X.seq (T.seq (T.seq (T.region Z (TL.run ab [0] Z Z (TL.q Z .u (vr 0 Z yq Z Z) Z (TL.q Z .u (vH Z xZ) Z (TL.run ab [3] Z Z (TL.nil (X.seq (T.block ?_)))))))))))))))
      obtain⟨E15,hE16,hO17⟩:=xL h
      have hk21len:=wd hX
      refine v9 (fun m e Rs=> ∃ (y13:Int) (k14:Nat),k14+m=a0.xm.length∧e = [(1,jP b3),(2,jI y13),(35,.slice A1 a0.xm.length c2),(36,jI (a0.xm.length:Int)),(37,jI (k14:Int))]∧Rs = [aA b3 43 #[jI a0.xy,jI a0.xt,.bool a0.xA,.bool a0.xE,.bool a0.xz,jI a0.xw,jI a0.xr,jI a0.xB,jI a0.xq,jI a0.xv,jI a0.xo,.slice A1 a0.xm.length c2],av]∧bZ (a0.xm.drop k14) y13=some E15) (a0.xm.length) [0,0] ⟨0,0,by simp,Z,Z,by rw[List.drop_zero]; exact hE16⟩ (by rfl) (by rfl) ?_
      rintro m18 _ _ ⟨y13,k14,hk21,rfl,rfl,hl20⟩
      clear hE16 h
      cases m18 with
      | zero =>
       have h:=hl20
       clear hl20
       rw[List.drop_of_length_le (by omega),bZ] at h
       have hk21ge: ¬ ((k14:Int)<(a0.xm.length:Int)):=by omega
       refine T.seq (T.region Z (TL.run ab [0] Z Z (TL.nil (X.seq (T.seq (vC Z (xN hk21ge) ?_))))))
       obtain rfl:=xO h
       replace h:=hO17
       clear hO17
       try dsimp only at h
       refine T.exit (vD (vD (v6 (X.seq (T.seq (T.seq (T.region Z (TL.run ab [0] Z Z (TL.q Z .u (vr 0 Z yo Z Z) Z (TL.nil (X.seq (vw Z c7 (T.seq (T.region Z (TL.run ab [0] Z Z (TL.q Z .u (vr 0 Z yq Z Z) Z ?_))))))))))))))))
       obtain⟨x45,hx46,h⟩:=xL h
       obtain⟨gz47,oz47,rfl,z47cs,z47cl,z47cc,z47nf,z47r⟩:=vV (by decide) hX hx46
       obtain⟨z47S,z47r,z47rr⟩:=z47r
       obtain⟨A48,c49,rfl,z47s0⟩:=z47r
       have hX50:(RX.of (aq 3 bg) [.slice A48 x45.xp.length c49] x45.xp).reads w F:=⟨z47S,z47s0,z47rr⟩
       refine TL.q Z .u (vM (k:=0) Z Z Z xZ xX (xS hx46).1) Z ?_
       refine TL.q Z .u (wj (us := [jI x45.xC,jI x45.xx,.bool x45.xu.null,jS x45.xu.data,.bool x45.xn.null,jS x45.xn.data,.slice A48 x45.xp.length c49]) 0 Z yt xX z47nf z47cc Z Z Z) Z ?_
       obtain⟨⟨x51,x52,x53⟩,hx54,h⟩:=xL h
       try dsimp only at h
       refine vL Z .u (.fn Tryz.call64 Z) (iZ x45 _ _ _ hx54) (fun _ hs=>(vK hs hX50)) Z (TL.run ab [5,6,7,8,9,10,11] Z Z (TL.nil (X.seq (T.seq (T.region Z (TL.run ab [0,1] Z Z ?_))))))
       rcases jF h with⟨c55,h⟩ | ⟨c55,h⟩
       ·refine TL.nil (X.seq (vC Z (aw (xM c55)) (T.skip (X.seq (T.seq (T.region Z (TL.q Z .u (vE (us := [jI a0.xy,jI a0.xt,.bool a0.xA,.bool a0.xE,.bool a0.xz,jI a0.xw,jI a0.xr,jI a0.xB,jI a0.xq,jI a0.xv,jI a0.xo,.slice (some ⟨gz47,oz47,none⟩) a0.xm.length c2]) 0 Z yr yb Z Z Z) Z ?_)))))))
        obtain⟨x56,hx57,h⟩:=xL h
        refine vL Z .u (.fn Tryz.call65 Z) (fh a0 _ _ _ hx57) (fun _ hs=>(vK hs hX)) Z (TL.run ab [2] Z Z ?_)
        obtain rfl:=xO h
        exact TL.nil (X.seq (T.ret (vu [1] yV (vt Z) ⟨Z,Z,Z⟩ (by rfl) (.inl Z))))
       ·refine TL.nil (X.seq (vw Z (aH (xN c55)) (T.seq (T.region Z (TL.run ab [0,1] Z Z ?_)))))
        obtain rfl:=xO h
        exact TL.nil (X.seq (T.ret (vx (vu [1] yV (vt Z) ⟨Z,Z,Z⟩ (by rfl) (.inl Z)))))
      | succ m18 =>
       have h:=hl20
       clear hl20
       obtain⟨x19,hxx19⟩: ∃ x,a0.xm[k14]? = some x:=⟨_,List.getElem?_eq_getElem (by omega)⟩
       rw[cm hxx19,bZ] at h
       have hk21lt:(k14:Int)<(a0.xm.length:Int):=by omega
       refine T.seq (T.region Z (TL.run ab [0] Z Z (TL.nil (X.seq (T.seq (vw Z (xM hk21lt) ?_))))))
       obtain⟨gz22,oz22,rfl,z22cs,z22cl,z22cc,z22nf,z22r⟩:=vV (by decide) hX hxx19
       obtain⟨z22S,z22r,z22rr⟩:=z22r
       obtain⟨A23,c24,rfl,z22s0⟩:=z22r
       have hX25:(RX.of (aq 3 bg) [.slice A23 x19.xp.length c24] x19.xp).reads w F:=⟨z22S,z22s0,z22rr⟩
       refine T.skip (X.seq (T.seq (T.block (T.seq (T.region Z ?_)))))
       refine TL.q Z .u (vM (k:=k14) Z Z Z xZ xX (xS hxx19).1) Z ?_
       refine TL.q Z .u (wj (us := [jI x19.xC,jI x19.xx,.bool x19.xu.null,jS x19.xu.data,.bool x19.xn.null,jS x19.xn.data,.slice A23 x19.xp.length c24]) 0 Z yt xX z22nf z22cc Z Z Z) Z (TL.alloc Z .u Tryz.zeroValue69 Z (fun b26=>(vG (cs':= #[jI x19.xC,jI x19.xx,.bool x19.xu.null,jS x19.xu.data,.bool x19.xn.null,jS x19.xn.data,.slice A23 x19.xp.length c24]) Z .u Z Z xX Z Z Z Z (TL.nil (X.seq (T.seq (T.region Z (TL.q Z .u (vE (us := [jI x19.xC,jI x19.xx,.bool x19.xu.null,jS x19.xu.data,.bool x19.xn.null,jS x19.xn.data,.slice A23 x19.xp.length c24]) 0 Z yt xX Z Z Z) Z ?_))))))))
       obtain⟨x27,hx28,h⟩:=xL h
       refine vL Z .u (.fn Tryz.call63 Z) (d9 x19 _ _ _ hx28) (fun _ hs=>(vK hs hX25)) Z (TL.run ab [2] Z Z (TL.nil (X.seq (T.seq (T.region Z (TL.run ab [0,1] Z Z ?_))))))
       rcases jF h with⟨c29,h⟩ | ⟨c29,h⟩
       ·exact TL.nil (X.seq (vC Z (aw (xM c29)) (T.skip (vF (X.seq (T.region Z (TL.q Z .u (Ex.add Z Z (by omega)) Z (TL.run ab [1] Z Z (TL.nil (X.back (m':=m18) [1,1] (by omega) ⟨y13,k14+1,by omega,Z,Z,h⟩ (by rfl) (by rfl)))))))))))
       ·refine TL.nil (X.seq (vw Z (aH (xN c29)) (T.seq (T.region Z (TL.run ab [0,1] Z Z ?_)))))
        obtain rfl:=xO h
        replace h:=hO17
        clear hO17
        try dsimp only at h
        obtain rfl:=xO h
        exact TL.nil (X.seq (T.ret (vJ (vx (vx (vJ (vx (vu [2] yV (vt Z) ⟨Z,Z,Z⟩ (by rfl) (.inl Z)))))))))
     ·refine TL.nil (X.seq (vw Z (aH (xN c12)) (T.seq (T.region Z (TL.run ab [0] Z Z ?_)))))
      obtain rfl:=xO h
      exact TL.nil (X.seq (T.ret (vJ (vx (vu [1] yV (vt Z) ⟨Z,Z,Z⟩ (by rfl) (.inl Z))))))
    ·replace c11:=xW c11
     refine TL.nil (X.seq (vw Z (aH c11) (T.seq (T.region Z (TL.run ab [0] Z Z ?_)))))
     obtain rfl:=xO h
     exact TL.nil (X.seq (T.ret (vJ (vx (vu [1] yV (vt Z) ⟨Z,Z,Z⟩ (by rfl) (.inl Z))))))
   ·replace c8:=xW c8
    refine TL.nil (X.seq (vw Z (aH c8) (T.seq (T.region Z (TL.run ab [0] Z Z ?_)))))
    obtain rfl:=xO h
    exact TL.nil (X.seq (T.ret (vJ (vx (vu [1] yV (vt Z) ⟨Z,Z,Z⟩ (by rfl) (.inl Z))))))
  ·replace c7:=xW c7
   refine TL.run ab [2] Z Z ?_
   iterate 3 refine vv Z (.gn Z Z c7) Z ?_
   refine TL.q Z .u (vB Z c7 Z) Z (TL.run ab [7] Z Z (TL.nil (X.seq (vC Z Z (T.seq (T.region Z (TL.q Z .u (vE (us := [jI a0.xy,jI a0.xt,.bool a0.xA,.bool a0.xE,.bool a0.xz,jI a0.xw,jI a0.xr,jI a0.xB,jI a0.xq,jI a0.xv,jI a0.xo,.slice A1 a0.xm.length c2]) 0 Z yr yb Z Z Z) Z ?_)))))))
   obtain⟨x58,hx59,h⟩:=xL h
   refine vL Z .u (.fn Tryz.call62 Z) (eT a0 _ _ _ hx59) (fun _ hs=>(vK hs hX)) Z (TL.run ab [2,3] Z Z ?_)
   rcases jF h with⟨c60,h⟩ | ⟨c60,h⟩
   ·refine TL.nil (X.seq (vC Z (aw c60) (T.seq (T.region Z (TL.run ab [0] Z Z (TL.q Z .u (vr 0 Z yo Z Z) Z (TL.run ab [2] Z Z ?_)))))))
    iterate 4 refine vv Z (.gn Z Z c7) Z ?_
    refine TL.q Z .u (vB Z c7 Z) Z (TL.run ab [8] Z Z (TL.nil (X.seq (vC Z Z (T.skip (vF (X.seq (T.seq (T.seq (T.region Z (TL.run ab [0] Z Z (TL.q Z .u (vr 0 Z yq Z Z) Z (TL.q Z .u (vH Z xZ) Z ?_)))))))))))))
    refine TL.run ab [3] Z Z (TL.nil (X.seq (T.block ?_)))
    obtain⟨E63,hE64,hO65⟩:=xL h
    have hk69len:=wd hX
    refine v9 (fun m e Rs=> ∃ (y61:Int) (k62:Nat),k62+m=a0.xm.length∧e = [(1,jP b3),(2,jI y61),(35,.slice A1 a0.xm.length c2),(36,jI (a0.xm.length:Int)),(37,jI (k62:Int))]∧Rs = [aA b3 43 #[jI a0.xy,jI a0.xt,.bool a0.xA,.bool a0.xE,.bool a0.xz,jI a0.xw,jI a0.xr,jI a0.xB,jI a0.xq,jI a0.xv,jI a0.xo,.slice A1 a0.xm.length c2],av]∧ca (a0.xm.drop k62) y61=some E63) (a0.xm.length) [0,0] ⟨0,0,by simp,Z,Z,by rw[List.drop_zero]; exact hE64⟩ (by rfl) (by rfl) ?_
    rintro m66 _ _ ⟨y61,k62,hk69,rfl,rfl,hl68⟩
    clear hE64 h
    cases m66 with
    | zero =>
     have h:=hl68
     clear hl68
     rw[List.drop_of_length_le (by omega),ca] at h
     have hk69ge: ¬ ((k62:Int)<(a0.xm.length:Int)):=by omega
     refine T.seq (T.region Z (TL.run ab [0] Z Z (TL.nil (X.seq (T.seq (vC Z (xN hk69ge) ?_))))))
     obtain rfl:=xO h
     replace h:=hO65
     clear hO65
     try dsimp only at h
     refine T.exit (vD (vD (v6 (X.seq (T.seq (T.seq (T.region Z (TL.run ab [0] Z Z (TL.q Z .u (vr 0 Z yo Z Z) Z (TL.nil (X.seq (vC Z c7 (T.skip (X.seq (T.seq (T.region Z (TL.q Z .u (vE (us := [jI a0.xy,jI a0.xt,.bool a0.xA,.bool a0.xE,.bool a0.xz,jI a0.xw,jI a0.xr,jI a0.xB,jI a0.xq,jI a0.xv,jI a0.xo,.slice A1 a0.xm.length c2]) 0 Z yr yb Z Z Z) Z ?_)))))))))))))))))
     obtain⟨x82,hx83,h⟩:=xL h
     refine vL Z .u (.fn Tryz.call65 Z) (fh a0 _ _ _ hx83) (fun _ hs=>(vK hs hX)) Z (TL.run ab [2] Z Z ?_)
     obtain rfl:=xO h
     exact TL.nil (X.seq (T.ret (vu [1] yV (vt Z) ⟨Z,Z,Z⟩ (by rfl) (.inl Z))))
    | succ m66 =>
     have h:=hl68
     clear hl68
     obtain⟨x67,hxx67⟩: ∃ x,a0.xm[k62]? = some x:=⟨_,List.getElem?_eq_getElem (by omega)⟩
     rw[cm hxx67,ca] at h
     have hk69lt:(k62:Int)<(a0.xm.length:Int):=by omega
     refine T.seq (T.region Z (TL.run ab [0] Z Z (TL.nil (X.seq (T.seq (vw Z (xM hk69lt) ?_))))))
     obtain⟨gz70,oz70,rfl,z70cs,z70cl,z70cc,z70nf,z70r⟩:=vV (by decide) hX hxx67
     obtain⟨z70S,z70r,z70rr⟩:=z70r
     obtain⟨A71,c72,rfl,z70s0⟩:=z70r
     have hX73:(RX.of (aq 3 bg) [.slice A71 x67.xp.length c72] x67.xp).reads w F:=⟨z70S,z70s0,z70rr⟩
     refine T.skip (X.seq (T.seq (T.block (T.seq (T.region Z ?_)))))
     refine TL.q Z .u (vM (k:=k62) Z Z Z xZ xX (xS hxx67).1) Z ?_
     refine TL.q Z .u (wj (us := [jI x67.xC,jI x67.xx,.bool x67.xu.null,jS x67.xu.data,.bool x67.xn.null,jS x67.xn.data,.slice A71 x67.xp.length c72]) 0 Z yt xX z70nf z70cc Z Z Z) Z (TL.alloc Z .u Tryz.zeroValue69 Z (fun b74=>(vG (cs':= #[jI x67.xC,jI x67.xx,.bool x67.xu.null,jS x67.xu.data,.bool x67.xn.null,jS x67.xn.data,.slice A71 x67.xp.length c72]) Z .u Z Z xX Z Z Z Z (TL.nil (X.seq (T.seq (T.region Z (TL.q Z .u (vE (us := [jI x67.xC,jI x67.xx,.bool x67.xu.null,jS x67.xu.data,.bool x67.xn.null,jS x67.xn.data,.slice A71 x67.xp.length c72]) 0 Z yt xX Z Z Z) Z ?_))))))))
     obtain⟨x75,hx76,h⟩:=xL h
     refine vL Z .u (.fn Tryz.call63 Z) (d9 x67 _ _ _ hx76) (fun _ hs=>(vK hs hX73)) Z (TL.run ab [2] Z Z (TL.nil (X.seq (T.seq (T.region Z (TL.run ab [0,1] Z Z ?_))))))
     rcases jF h with⟨c77,h⟩ | ⟨c77,h⟩
     ·exact TL.nil (X.seq (vC Z (aw (xM c77)) (T.skip (vF (X.seq (T.region Z (TL.q Z .u (Ex.add Z Z (by omega)) Z (TL.run ab [1] Z Z (TL.nil (X.back (m':=m66) [1,1] (by omega) ⟨y61,k62+1,by omega,Z,Z,h⟩ (by rfl) (by rfl)))))))))))
     ·refine TL.nil (X.seq (vw Z (aH (xN c77)) (T.seq (T.region Z (TL.run ab [0,1] Z Z ?_)))))
      obtain rfl:=xO h
      replace h:=hO65
      clear hO65
      try dsimp only at h
      obtain rfl:=xO h
      exact TL.nil (X.seq (T.ret (vJ (vx (vx (vJ (vx (vu [2] yV (vt Z) ⟨Z,Z,Z⟩ (by rfl) (.inl Z)))))))))
   ·replace c60:=xW c60
    refine TL.nil (X.seq (vw Z (aH c60) (T.seq (T.region Z (TL.run ab [0] Z Z ?_)))))
    obtain rfl:=xO h
    exact TL.nil (X.seq (T.ret (vJ (vx (vu [1] yV (vt Z) ⟨Z,Z,Z⟩ (by rfl) (.inl Z))))))
 ·replace c6:=xW c6
  refine TL.nil (X.seq (vw Z (aH c6) (T.seq (T.region Z (TL.run ab [0] Z Z ?_)))))
  obtain rfl:=xO h
  exact TL.nil (X.seq (T.ret (vJ (vx (vu [1] yV (vt Z) ⟨Z,Z,Z⟩ (by rfl) (.inl Z))))))
def bF (a0:Pfx):Nat→Int→Nat→List Rec→I→Option (Lp (Bat×Int) (Int×Nat×List Rec×I))
 | 0,_,_,_,_=>none
 | m23+1,y14,k15,y16,st19=>if (k15:Int)<a0.xF then ((nx st19).bind fun (x28,st29)=>if x28=0 then (some (Lp.ret ((⟨0,0,false,false,false,0,0,0,0,0,0,[]⟩:Bat),10))) else ((dI st29).bind fun (x32,st35)=>(jZ st35).bind fun (x38,st39)=>if x38=0 then (if (y16.length+1)*88≤140737488355328 then (if -9223372036854775808≤((k15:Int)+1)∧((k15:Int)+1)≤9223372036854775807 then (bF a0 m23 y14 (k15+1) (y16 ++ [x32]) st39) else none) else none) else (some (Lp.ret ((⟨0,0,false,false,false,0,0,0,0,0,0,[]⟩:Bat),x38))))) else (some (Lp.go (y14,k15,y16,st19)))
def dZ (a0:Pfx) (a1:List UInt8):Option (Bat×Int):=(oD a0.xH).bind fun x3=>if x3=0 then ((qQ a0.xH).bind fun (x7,x8,x9)=>(oh a1).bind fun st11=>(bF a0 ((a0.xF).toNat+1) 0 0 [] st11).bind fun e=>match e with | .ret r=>some r | .go (y53,k54,y55,st58)=>((nx st58).bind fun (x59,st60)=>if x59>0 then (some ((⟨0,0,false,false,false,0,0,0,0,0,0,[]⟩:Bat),10)) else ((bM (⟨a0.xy,a0.xt,x7,x8,x9,a0.xw,a0.xr,a0.xB,a0.xq,a0.xv,a0.xo,y55⟩:Bat)).bind fun x63=>some ((⟨a0.xy,a0.xt,x7,x8,x9,a0.xw,a0.xr,a0.xB,a0.xq,a0.xv,a0.xo,y55⟩:Bat),x63)))) else (some ((⟨0,0,false,false,false,0,0,0,0,0,0,[]⟩:Bat),x3))
theorem kf (a0:Pfx) (a1:List UInt8) (r:Bat×Int) (h:dZ a0 a1=some r):ar Tryz.prog 49 #[.agg #[jI a0.xy,jI a0.xD,jI a0.xt,jI a0.xG,jI a0.xH,jI a0.xw,jI a0.xr,jI a0.xB,jI a0.xq,jI a0.xv,jI a0.xo,jI a0.xF],jS a1] .triv (av) (fun v A' N=> ∃ (A65:Option Addr) (c66:Nat),v= .tuple #[.agg #[jI r.1.xy,jI r.1.xt,.bool r.1.xA,.bool r.1.xE,.bool r.1.xz,jI r.1.xw,jI r.1.xr,jI r.1.xB,jI r.1.xq,jI r.1.xv,jI r.1.xo,.slice A65 r.1.xm.length c66],jI r.2]∧A'=av∧N = [RdR (aq 7 bj) [.slice A65 r.1.xm.length c66] r.1.xm]):=by
 refine aJ Tryz.func49 Z Tryz.ntmps49 Z ?_
 intro F w hX
 unfold dZ at h
 refine T.seq (T.region Z (TL.box Z .u Z Z (fun b1=>(TL.alloc Z .u Tryz.zeroValue43 Z (fun b2=>(TL.run ab [2] Z Z (TL.nil (X.seq (T.seq (T.seq (T.region Z (TL.run ab [0] Z Z (TL.q Z .u (vr 1 Z xQ Z Z) Z ?_)))))))))))))
 obtain⟨x3,hx4,h⟩:=xL h
 refine vL Z .u (.fn Tryz.call78 Z) (wa (fun w=>oE a0.xH _ hx4 w)) (fun _ _=>vy _ _) Z (TL.run ab [3] Z Z (TL.nil (X.seq (T.seq (T.region Z (TL.run ab [0,1] Z Z ?_))))))
 rcases jF h with⟨c5,h⟩ | ⟨c5,h⟩
 ·refine TL.nil (X.seq (vC Z (aw (xM c5)) (T.skip (X.seq (T.seq (T.region Z (TL.run ab [0] Z Z (TL.q Z .u (vr 1 Z xQ Z Z) Z (TL.run ab [2] Z Z (TL.q Z .u (vr 1 Z xQ Z Z) Z (TL.run ab [4] Z Z ?_)))))))))))
  refine TL.q Z .u (vr 1 Z xQ Z Z) Z (TL.run ab [6] Z Z (TL.q Z .u (vr 1 Z xQ Z Z) Z (TL.run ab [8] Z Z (TL.q Z .u (vr 1 Z xQ Z Z) Z (TL.run ab [10] Z Z (TL.q Z .u (vr 1 Z xQ Z Z) Z (TL.run ab [12] Z Z ?_)))))))
  refine TL.q Z .u (vr 1 Z xQ Z Z) Z (TL.run ab [14] Z Z (TL.q Z .u (vr 1 Z xQ Z Z) Z ?_))
  refine TL.q Z .u (vT (cells:= #[jI a0.xy,jI a0.xt,.bool false,.bool false,.bool false,jI a0.xw,jI a0.xr,jI a0.xB,jI a0.xq,jI a0.xv,jI a0.xo,.slice none 0 0]) cX Z (by kernel_rfl)) Z ?_
  refine TL.alloc Z .u Tryz.zeroValue43 Z (fun b6=>(vG (cs':= #[jI a0.xy,jI a0.xt,.bool false,.bool false,.bool false,jI a0.xw,jI a0.xr,jI a0.xB,jI a0.xq,jI a0.xv,jI a0.xo,.slice none 0 0]) Z .u Z Z yb Z Z Z Z (TL.nil (X.seq (T.seq (T.region Z (TL.run ab [0] Z Z (TL.q Z .u (vr 2 Z xQ Z Z) Z ?_))))))))
  obtain⟨⟨x7,x8,x9⟩,hx10,h⟩:=xL h
  try dsimp only at h
  refine vL Z .u (.fn Tryz.call79 Z) (wa (fun w=>pG a0.xH _ hx10 w)) (fun _ _=>vy _ _) Z (TL.run ab [3,4,5,6,7] Z Z (vG (cs':= #[jI a0.xy,jI a0.xt,.bool x7,.bool false,.bool false,jI a0.xw,jI a0.xr,jI a0.xB,jI a0.xq,jI a0.xv,jI a0.xo,.slice none 0 0]) Z .u Z Z yN Z Z Z Z (TL.run ab [9] Z Z (vG (cs':= #[jI a0.xy,jI a0.xt,.bool x7,.bool x8,.bool false,jI a0.xw,jI a0.xr,jI a0.xB,jI a0.xq,jI a0.xv,jI a0.xo,.slice none 0 0]) Z .u Z Z yN Z Z Z Z (TL.run ab [11] Z Z (vG (cs':= #[jI a0.xy,jI a0.xt,.bool x7,.bool x8,.bool x9,jI a0.xw,jI a0.xr,jI a0.xB,jI a0.xq,jI a0.xv,jI a0.xo,.slice none 0 0]) Z .u Z Z yN Z Z Z Z (TL.nil (X.seq (T.seq (T.region Z ?_))))))))))
  obtain⟨st11,hx12,h⟩:=xL h
  refine TL.run ab [0] Z Z (wy Z .u (.fn Tryz.call21 Z) (fE a1 _ hx12) (fun _ hs=>(vy _ _)) Z ?_)
  rintro _ _ _ ⟨b13,rfl,rfl,rfl⟩
  refine vR [0,0,0,0,0] Z (TL.run ab [2] Z Z (TL.nil (X.seq (T.seq (T.seq (T.region Z (TL.run ab [0] Z Z (TL.q Z .u (vr 3 Z xQ Z Z) Z (TL.run ab [2] Z Z (TL.nil (X.seq (T.block (xe 69 7 bj ?_)))))))))))))
  obtain⟨E20,hE21,hO22⟩:=xL h
  refine v9 (fun m e Rs=> ∃ (y14:Int) (k15:Nat) (y16:List Rec) (A17:Option Addr) (c18:Nat) (st19:I),e = [(4,jP b2),(5,jI y14),(7,jP b6),(8,jP b13),(48,jI a0.xF),(49,jI (k15:Int))]∧Rs = [aF 69 7 bj (.slice A17 y16.length c18) y16,InR b13 st19,aA b6 43 #[jI a0.xy,jI a0.xt,.bool x7,.bool x8,.bool x9,jI a0.xw,jI a0.xr,jI a0.xB,jI a0.xq,jI a0.xv,jI a0.xo,.slice A17 y16.length c18],aA b2 43 #[jI 0,jI 0,.bool false,.bool false,.bool false,jI 0,jI 0,jI 0,jI 0,jI 0,jI 0,.slice none 0 0],aA b1 89 #[jI a0.xy,jI a0.xD,jI a0.xt,jI a0.xG,jI a0.xH,jI a0.xw,jI a0.xr,jI a0.xB,jI a0.xq,jI a0.xv,jI a0.xo,jI a0.xF],av]∧bF a0 m y14 k15 y16 st19=some E20) ((a0.xF).toNat+1) [0,0,0,0,0,0] ⟨0,0,[],none,0,st11,Z,Z,by exact hE21⟩ (by rfl) (by rfl) ?_
  rintro m23 _ _ ⟨y14,k15,y16,A17,c18,st19,rfl,rfl,hl25⟩
  clear hE21 h
  cases m23 with
  | zero =>
   rw[bF] at hl25
   cases hl25
  | succ m23 =>
   have h:=hl25
   clear hl25
   rw[bF] at h
   refine T.seq (T.region Z (TL.run ab [0] Z Z ?_))
   rcases jF h with⟨c27,h⟩ | ⟨c27,h⟩
   ·refine TL.nil (X.seq (T.seq (vw Z (xM c27) (T.skip (X.seq (T.seq (T.block (T.seq (T.seq (T.region Z ?_))))))))))
    obtain⟨⟨x28,st29⟩,hx30,h⟩:=xL h
    try dsimp only at h
    refine TL.run ab [0] Z Z (wc Z .u (.fn Tryz.call80 Z) (jw b13 st19 _ hx30) (fun _ hs=>(Src.triv _)) Z (TL.run ab [2] Z Z ?_))
    rcases jF h with⟨c31,h⟩ | ⟨c31,h⟩
    ·refine TL.nil (X.seq (vw Z (xM c31) (T.seq (T.region Z ?_))))
     refine TL.q Z .u (vT (cells:= #[jI 0,jI 0,.bool false,.bool false,.bool false,jI 0,jI 0,jI 0,jI 0,jI 0,jI 0,.slice none 0 0]) cX Z (by kernel_rfl)) Z ?_
     refine ww (cs':= #[jI 0,jI 0,.bool false,.bool false,.bool false,jI 0,jI 0,jI 0,jI 0,jI 0,jI 0,.slice none 0 0]) Z .u Z Z yb Z Z Z Z (TL.run ab [2] Z Z ?_)
     obtain rfl:=xO h
     replace h:=hO22
     clear hO22
     try dsimp only at h
     obtain rfl:=xO h
     exact TL.nil (X.seq (T.ret (vx (vJ (vx (vx (vJ (vx (we 7 bj (vO [6,0] zA (wg (us:= #[jI 0,jI 0,.bool false,.bool false,.bool false,jI 0,jI 0,jI 0,jI 0,jI 0,jI 0,.slice none 0 0]) 4 Z yr yb Z Z) (vt Z) ⟨_,_,Z,Z,Z⟩ (by rfl) (.inl Z)))))))))))
    ·refine TL.nil (X.seq (vC Z (xN c31) (T.skip (X.seq (T.seq (T.region Z ?_))))))
     obtain⟨⟨x32,st35⟩,hx36,h⟩:=xL h
     try dsimp only at h
     refine TL.run ab [0] Z Z (TL.cg1 Z .u (.fn Tryz.call81 Z) (jA b13 st29 _ hx36) (fun _ hs=>(Src.triv _)) Z ?_)
     rintro _ _ _ ⟨A33,c34,rfl,rfl,rfl⟩
     refine vR [0,0,0,0,0,0,0] Z (TL.alloc Z .u Tryz.zeroValue69 Z (fun b37=>(vG (cs':= #[jI x32.xC,jI x32.xx,.bool x32.xu.null,jS x32.xu.data,.bool x32.xn.null,jS x32.xn.data,.slice A33 x32.xp.length c34]) Z .u Z Z xX Z Z Z Z (TL.nil (X.seq (T.seq (T.seq (T.region Z ?_))))))))
     obtain⟨⟨x38,st39⟩,hx40,h⟩:=xL h
     try dsimp only at h
     refine TL.run ab [0] Z Z (TL.c3 Z .u (.fn Tryz.call23 Z) (dX b13 st35 _ hx40) (fun _ hs=>(Src.triv _)) Z (TL.run ab [2] Z Z (TL.nil (X.seq (T.seq (T.region Z (TL.run ab [0,1] Z Z ?_)))))))
     rcases jF h with⟨c41,h⟩ | ⟨c41,h⟩
     ·refine TL.nil (X.seq (vC Z (aw (xM c41)) (T.skip (X.seq (T.region Z (TL.run ab [0] Z Z (TL.q Z .u (vr 4 Z yq Z Z) Z (TL.q Z .u (vE (us := [jI x32.xC,jI x32.xx,.bool x32.xu.null,jS x32.xu.data,.bool x32.xn.null,jS x32.xn.data,.slice A33 x32.xp.length c34]) 0 Z yt xX Z Z Z) Z ?_))))))))
      refine wG (cells:= #[jI x32.xC,jI x32.xx,.bool x32.xu.null,jS x32.xu.data,.bool x32.xn.null,jS x32.xn.data,.slice A33 x32.xp.length c34]) Z .u mu Z (by kernel_rfl) Z (fun b42=> ?_)
      replace h:=ak h
      obtain⟨c43,h⟩:=h
      refine TL.app2 2 1 Z .u (us := [jI x32.xC,jI x32.xx,.bool x32.xu.null,jS x32.xu.data,.bool x32.xn.null,jS x32.xn.data,.slice A33 x32.xp.length c34]) (u:=x32) (l:=y16) (E:=bj) Tryz.underlying41 oG Z (by decide) Z Z Z Z Z Z Z (fun w G hG=>⟨_,_,Z,hG.1⟩) (by have hq:=c43; omega) (by have hq:=c43; omega) Z (fun A44 c45=> ?_)
      refine vR [0,0,0,0,0,0,0] Z (TL.run ab [5] Z Z (ww (cs':= #[jI a0.xy,jI a0.xt,.bool x7,.bool x8,.bool x9,jI a0.xw,jI a0.xr,jI a0.xB,jI a0.xq,jI a0.xv,jI a0.xo,.slice A44 (y16 ++ [x32]).length c45]) Z .u Z Z Tryz.sizeOf41 Z Z Z Z ?_))
      replace h:=ak h
      obtain⟨c46,h⟩:=h
      exact TL.nil (vF (X.seq (T.region Z (TL.q Z .u (Ex.add Z Z c46) Z (TL.run ab [1] Z Z (TL.nil (X.back (m':=m23) [0,1,1,1,1,1] (by omega) ⟨y14,k15+1,(y16 ++ [x32]),A44,c45,st39,Z,Z,h⟩ (by rfl) (by rfl))))))))
     ·refine TL.nil (X.seq (vw Z (aH (xN c41)) (T.seq (T.region Z ?_))))
      refine TL.q Z .u (vT (cells:= #[jI 0,jI 0,.bool false,.bool false,.bool false,jI 0,jI 0,jI 0,jI 0,jI 0,jI 0,.slice none 0 0]) cX Z (by kernel_rfl)) Z ?_
      refine TL.run ab [1] Z Z (TL.st5 (cs':= #[jI 0,jI 0,.bool false,.bool false,.bool false,jI 0,jI 0,jI 0,jI 0,jI 0,jI 0,.slice none 0 0]) Z .u Z Z yb Z Z Z Z (TL.run ab [3] Z Z ?_))
      obtain rfl:=xO h
      replace h:=hO22
      clear hO22
      try dsimp only at h
      obtain rfl:=xO h
      exact TL.nil (X.seq (T.ret (vx (vJ (vx (vx (vJ (vx (we 7 bj (vO [8,0] zA (wg (us:= #[jI 0,jI 0,.bool false,.bool false,.bool false,jI 0,jI 0,jI 0,jI 0,jI 0,jI 0,.slice none 0 0]) 6 Z yr yb Z Z) (vt Z) ⟨_,_,Z,Z,Z⟩ (by rfl) (.inl Z)))))))))))
   ·refine TL.nil (X.seq (T.seq (vC Z (xN c27) ?_)))
    obtain rfl:=xO h
    replace h:=hO22
    clear hO22
    try dsimp only at h
    refine T.exit (vD (vD (v6 (X.seq (T.seq (T.seq (T.region Z ?_)))))))
    obtain⟨⟨x47,st48⟩,hx49,h⟩:=xL h
    try dsimp only at h
    refine TL.run ab [0] Z Z (wc Z .u (.fn Tryz.call80 Z) (jw b13 st19 _ hx49) (fun _ hs=>(Src.triv _)) Z (TL.run ab [2] Z Z ?_))
    rcases jF h with⟨c50,h⟩ | ⟨c50,h⟩
    ·refine TL.nil (X.seq (vw Z (xM c50) (T.seq (T.region Z ?_))))
     refine TL.q Z .u (vT (cells:= #[jI 0,jI 0,.bool false,.bool false,.bool false,jI 0,jI 0,jI 0,jI 0,jI 0,jI 0,.slice none 0 0]) cX Z (by kernel_rfl)) Z ?_
     refine ww (cs':= #[jI 0,jI 0,.bool false,.bool false,.bool false,jI 0,jI 0,jI 0,jI 0,jI 0,jI 0,.slice none 0 0]) Z .u Z Z yb Z Z Z Z (TL.run ab [2] Z Z ?_)
     obtain rfl:=xO h
     exact TL.nil (X.seq (T.ret (vx (we 7 bj (vO [6,0] zA (wg (us:= #[jI 0,jI 0,.bool false,.bool false,.bool false,jI 0,jI 0,jI 0,jI 0,jI 0,jI 0,.slice none 0 0]) 4 Z yr yb Z Z) (vt Z) ⟨_,_,Z,Z,Z⟩ (by rfl) (.inl Z))))))
    ·refine TL.nil (X.seq (vC Z (xN c50) ?_))
     refine T.skip (X.seq (T.seq (vQ (.q 0 (.q 1 (.e 2 (.e 3 (.q 4 .nil))))) [0,0,0,1,1] Z gF (NoP.seq aO) (by kernel_rfl) ?_)))
     iterate 2 refine TD.q Z .u (vE (us := [jI a0.xy,jI a0.xt,.bool x7,.bool x8,.bool x9,jI a0.xw,jI a0.xr,jI a0.xB,jI a0.xq,jI a0.xv,jI a0.xo,.slice A17 y16.length c18]) 2 Z yr yb Z Z Z) Z ?_
     obtain⟨x51,hx52,h⟩:=xL h
     refine vY Z .u (.fn Tryz.call33 Z) (fQ (⟨a0.xy,a0.xt,x7,x8,x9,a0.xw,a0.xr,a0.xB,a0.xq,a0.xv,a0.xo,y16⟩:Bat) _ _ _ hx52) (fun _ hs=>(wF 0 hs Z (fun w G h=>ba (by decide) w G h))) Z [0,0,0,1,1] (Z) (wx (cs':= #[jI a0.xy,jI a0.xt,.bool x7,.bool x8,.bool x9,jI a0.xw,jI a0.xr,jI a0.xB,jI a0.xq,jI a0.xv,jI a0.xo,.slice A17 y16.length c18]) Z .u Z Z yb Z Z Z Z [0,0,0,1,1] (Z) (TD.run ab [4] Z Z ?_))
     obtain rfl:=xO h
     exact TD.nil (X.seq (T.ret (X.shut (by decide) 0 Z (vU [0,0,0,0,0,0] Z (vO [5,0] zA (wg (us:= #[jI a0.xy,jI a0.xt,.bool x7,.bool x8,.bool x9,jI a0.xw,jI a0.xr,jI a0.xB,jI a0.xq,jI a0.xv,jI a0.xo,.slice A17 y16.length c18]) 3 Z yr yb Z Z) (vt Z) ⟨_,_,Z,Z,Z⟩ (by rfl) (.inl Z))))))
 ·refine TL.nil (X.seq (vw Z (aH (xN c5)) (T.seq (T.region Z ?_))))
  refine TL.q Z .u (vT (cells:= #[jI 0,jI 0,.bool false,.bool false,.bool false,jI 0,jI 0,jI 0,jI 0,jI 0,jI 0,.slice none 0 0]) cX Z (by kernel_rfl)) Z ?_
  refine TL.run ab [1] Z Z (vG (cs':= #[jI 0,jI 0,.bool false,.bool false,.bool false,jI 0,jI 0,jI 0,jI 0,jI 0,jI 0,.slice none 0 0]) Z .u Z Z yb Z Z Z Z (TL.run ab [3] Z Z ?_))
  obtain rfl:=xO h
  exact TL.nil (X.seq (T.ret (vx (we 7 bj (vO [3,0] zA (wg (us:= #[jI 0,jI 0,.bool false,.bool false,.bool false,jI 0,jI 0,jI 0,jI 0,jI 0,jI 0,.slice none 0 0]) 1 Z yr yb Z Z) (vt Z) ⟨_,_,Z,Z,Z⟩ (by rfl) (.inl Z))))))
def d7 (st:I)  : Option (Bat×I):=(di st).bind fun (x3,st4)=>if -9223372036854775808≤(x3.xD - 49)∧(x3.xD - 49)≤9223372036854775807 then ((rE st4 (x3.xD - 49)).bind fun (x8,st9)=>(jZ st9).bind fun (x11,st12)=>if x11=0 then ((ci ([],0) x3).bind fun st15=>(iq st15).bind fun (x17,x18,st19)=>(fG).bind fun st21=>if 21≤x17.length then ((dp st21 [(x17.drop 21),x8]).bind fun (x26,st27)=>if -9223372036854775808≤x26∧x26≤9223372036854775807 then (if x26=x3.xG then ((dZ x3 x8).bind fun (x31,x34)=>if x34=0 then some (x31,st12) else ((bl st12 x34).bind fun st38=>some ((⟨0,0,false,false,false,0,0,0,0,0,0,[]⟩:Bat),st38))) else ((bl st12 5).bind fun st40=>some ((⟨0,0,false,false,false,0,0,0,0,0,0,[]⟩:Bat),st40))) else none) else none) else (some ((⟨0,0,false,false,false,0,0,0,0,0,0,[]⟩:Bat),st12))) else none
theorem kg (g:Nat) (st:I)  (r:Bat×I) (h:d7 st  = some r):ar Tryz.prog 22 #[jP g] .triv (InR g st) (fun v A' N=> ∃ (A42:Option Addr) (c43:Nat),v= .agg #[jI r.1.xy,jI r.1.xt,.bool r.1.xA,.bool r.1.xE,.bool r.1.xz,jI r.1.xw,jI r.1.xr,jI r.1.xB,jI r.1.xq,jI r.1.xv,jI r.1.xo,.slice A42 r.1.xm.length c43]∧A'=InR g r.2∧N = [RdR (aq 7 bj) [.slice A42 r.1.xm.length c43] r.1.xm]):=by
 refine aJ Tryz.func22 Z Tryz.ntmps22 Z ?_
 intro F w hX
 unfold d7 at h
 refine T.seq (T.region Z (TL.alloc Z .u Tryz.zeroValue43 Z (fun b1=>(TL.nil (X.seq (T.seq (T.region Z (xh Z .u Tryz.zeroValue84 Z (fun b2=>(TL.nil (X.seq (T.seq (T.region Z ?_)))))))))))))
 obtain⟨⟨x3,st4⟩,hx5,h⟩:=xL h
 try dsimp only at h
 refine TL.run ab [0] Z Z (wN Z .u (.fn Tryz.call46 Z) (fO g st _ hx5) (fun _ hs=>(Src.triv _)) Z (TL.alloc Z .u Tryz.zeroValue89 Z (fun b6=>(vG (cs':= #[jI x3.xy,jI x3.xD,jI x3.xt,jI x3.xG,jI x3.xH,jI x3.xw,jI x3.xr,jI x3.xB,jI x3.xq,jI x3.xv,jI x3.xo,jI x3.xF]) Z .u Z Z yO Z Z Z Z (TL.nil (X.seq (T.seq (T.region Z (TL.run ab [0,1] Z Z (TL.q Z .u (vr 0 Z xQ Z Z) Z ?_))))))))))
 replace h:=ak h
 obtain⟨c7,h⟩:=h
 refine TL.q Z .u (Ex.sub Z Z c7) Z ?_
 obtain⟨⟨x8,st9⟩,hx10,h⟩:=xL h
 try dsimp only at h
 refine TL.c3 Z .u (.fn Tryz.call47 Z) (qJ g st4 (x3.xD - 49) _ hx10) (fun _ hs=>(Src.triv _)) Z (TL.run ab [5] Z Z (TL.nil (X.seq (T.seq (T.seq (T.region Z ?_))))))
 obtain⟨⟨x11,st12⟩,hx13,h⟩:=xL h
 try dsimp only at h
 refine TL.run ab [0] Z Z (TL.c3 Z .u (.fn Tryz.call23 Z) (dX g st9 _ hx13) (fun _ hs=>(Src.triv _)) Z (TL.run ab [2] Z Z ?_))
 rcases jF h with⟨c14,h⟩ | ⟨c14,h⟩
 ·refine TL.nil (X.seq (vC Z (aw (xM c14)) (T.skip (X.seq (T.seq (T.region Z (TL.q Z .u (vE (us := [jI x3.xy,jI x3.xD,jI x3.xt,jI x3.xG,jI x3.xH,jI x3.xw,jI x3.xr,jI x3.xB,jI x3.xq,jI x3.xv,jI x3.xo,jI x3.xF]) 0 Z zn yO Z Z Z) Z ?_)))))))
  obtain⟨st15,hx16,h⟩:=xL h
  refine wc Z .u (.fn Tryz.call37 Z) (eb b2 ([],0) x3 _ hx16) (fun _ hs=>(Src.triv _)) Z ?_
  obtain⟨⟨x17,x18,st19⟩,hx20,h⟩:=xL h
  try dsimp only at h
  refine TL.nil (X.seq (T.seq (T.region Z (wc Z .u (.fn Tryz.call35 Z) (fa b2 st15 _ hx20) (fun _ hs=>(Src.triv _)) Z (TL.run ab [1,2,3,4,5] Z Z ?_)))))
  obtain⟨st21,hx22,h⟩:=xL h
  replace h:=ak h
  obtain⟨c24,h⟩:=h
  obtain⟨⟨x26,st27⟩,hx28,h⟩:=xL h
  try dsimp only at h
  replace h:=ak h
  obtain⟨c29,h⟩:=h
  refine TL.nil (X.seq (T.seq (T.seq ?_)))
  refine T.join (fun e Rs=> ∃ (b23:Nat) (b25:Nat),e = [(0,jP g),(2,jP b1),(3,jP b2),(4,jP b6),(5,jS x8),(10,jP g),(11,.agg #[jI x3.xy,jI x3.xD,jI x3.xt,jI x3.xG,jI x3.xH,jI x3.xw,jI x3.xr,jI x3.xB,jI x3.xq,jI x3.xv,jI x3.xo,jI x3.xF]),(12,jP g),(13,.pointer (some ⟨b6,1,none⟩)),(14,jI x3.xD),(15,jI (x3.xD - 49)),(16,jS x8),(17,jP g),(18,jI x11),(19,.bool (!(decide (x11=0)))),(21,.agg #[jI x3.xy,jI x3.xD,jI x3.xt,jI x3.xG,jI x3.xH,jI x3.xw,jI x3.xr,jI x3.xB,jI x3.xq,jI x3.xv,jI x3.xo,jI x3.xF]),(23,.tuple #[jS x17,jI x18]),(24,.tuple #[jS x17,jI x18]),(25,jS x17),(26,jI x18),(36,.bool (!(decide (x26=x3.xG))))]∧Rs = [aF 9 1 gY (.slice (some ⟨b25,0,none⟩) 2 2) [(x17.drop 21),x8],fZ 131 b23 st27,aA b6 89 #[jI x3.xy,jI x3.xD,jI x3.xt,jI x3.xG,jI x3.xH,jI x3.xw,jI x3.xr,jI x3.xB,jI x3.xq,jI x3.xv,jI x3.xo,jI x3.xF],aU b2 st19,aA b1 43 #[jI 0,jI 0,.bool false,.bool false,.bool false,jI 0,jI 0,jI 0,jI 0,jI 0,jI 0,.slice none 0 0],InR g st12]) ?_ ?_
  ·refine vQ (.q 1 (.q 2 (.q 3 (.q 7 (.q 8 (.br 0 (.e 4 (.e 5 (.q 6 (.q 9 .nil)))) (.e 4 (.e 0 (.e 5 (.q 6 (.q 9 .nil))))))))))) [0,0,0,0] Z gF nB (by kernel_rfl) ?_
   refine TD.run ab [1] Z Z ?_
   refine TD.q Z .u (wC (p:=21) (q:=x17.length) (m:=(x17.drop 21)) Z xY (.some Z Z) .none (by first | omega | (dsimp only; omega)) (lP _ _)) Z ?_
   refine TD.run ab [3,7] Z Z (TD.q Z .u (vr 0 Z xQ Z Z) Z ?_)
   refine TD.br ?_ ?_
   ·refine TD.cge Z .u (.fn Tryz.call38 Z) (eI _ hx22) (fun _ hs=>(vy _ _)) Z [1,1,1,1] ?_ ?_
    ·rintro _ _ _ ⟨b23,rfl,rfl,rfl⟩
     rfl
    rintro _ _ _ ⟨b23,rfl,rfl,rfl⟩
    exact v7 [0,0,0,0,0] Z (xb (cells:= #[.string (aC (x17.drop 21)),jS x8]) Z .u eJ Z (by rfl) Z [2,2,2,2] (fun _=>Z) (fun b25=>(wX (us := [.string (aC (x17.drop 21)),jS x8]) (xs := [(x17.drop 21),x8]) (E:=gY) (z:=1) Z (Nat.le_of_ble_eq_true Z) (fun _=>⟨Z,Z,⟨Z,Z,Z⟩⟩) (TD.c1 Z .u (.fn Tryz.call39 Z) (dk b23 st21 [(x17.drop 21),x8] _ _ _ hx28) (fun _ hs=>(Src.res 0 Z (fun w G h=>ba (by decide) w G h))) Z [2,2,2,2] (Z) (TD.q Z .u (wq Z yK yF c29) Z (TD.run ab [9] Z Z (TD.nil (wo [0,0,0,0,0,0] ⟨b23,b25,Z,Z⟩ (by rfl) (by rfl)))))))))
   ·refine xb (cells:= #[.string (aC (x17.drop 21)),jS x8]) Z .u eJ Z (by rfl) Z [1,1,1,1] (fun _=>Z) (fun b25=>(wX (us := [.string (aC (x17.drop 21)),jS x8]) (xs := [(x17.drop 21),x8]) (E:=gY) (z:=1) Z (Nat.le_of_ble_eq_true Z) (fun _=>⟨Z,Z,⟨Z,Z,Z⟩⟩) ?_))
    refine TD.cge Z .u (.fn Tryz.call38 Z) (eI _ hx22) (fun _ hs=>(vy _ _)) Z [2,2,2,2] ?_ ?_
    ·rintro _ _ _ ⟨b23,rfl,rfl,rfl⟩
     rfl
    rintro _ _ _ ⟨b23,rfl,rfl,rfl⟩
    exact v7 [0,0,0,0,0,0] Z (TD.c0 Z .u (.fn Tryz.call39 Z) (dk b23 st21 [(x17.drop 21),x8] _ _ _ hx28) (fun _ hs=>(Src.res 0 Z (fun w G h=>ba (by decide) w G h))) Z [2,2,2,2] (Z) (TD.q Z .u (wq Z yK yF c29) Z (TD.run ab [9] Z Z (TD.nil (wo [1,0,0,0,0,0] ⟨b23,b25,Z,Z⟩ (by rfl) (by rfl))))))
  ·rintro _ _ ⟨b23,b25,rfl,rfl⟩
   rcases jF h with⟨c30,h⟩ | ⟨c30,h⟩
   ·refine X.seq (vC Z (aw (xM c30)) (T.skip (X.seq (T.seq (T.region Z (TL.q Z .u (vE (us := [jI x3.xy,jI x3.xD,jI x3.xt,jI x3.xG,jI x3.xH,jI x3.xw,jI x3.xr,jI x3.xB,jI x3.xq,jI x3.xv,jI x3.xo,jI x3.xF]) 2 Z zn yO Z Z Z) Z ?_))))))
    obtain⟨⟨x31,x34⟩,hx35,h⟩:=xL h
    try dsimp only at h
    refine TL.run ab [1] Z Z (wy Z .u (.fn Tryz.call49 Z) (kf x3 x8 _ hx35) (fun _ hs=>(vy _ _)) Z ?_)
    rintro _ _ _ ⟨A32,c33,rfl,rfl,rfl⟩
    refine vR [0,0,0,0,0,0,0] Z (TL.run ab [3,4,5] Z Z (TL.alloc Z .u Tryz.zeroValue43 Z (fun b36=>(vG (cs':= #[jI x31.xy,jI x31.xt,.bool x31.xA,.bool x31.xE,.bool x31.xz,jI x31.xw,jI x31.xr,jI x31.xB,jI x31.xq,jI x31.xv,jI x31.xo,.slice A32 x31.xm.length c33]) Z .u Z Z yb Z Z Z Z (TL.run ab [8] Z Z (TL.nil (X.seq (T.seq (T.seq (T.region Z (TL.run ab [0,1] Z Z ?_)))))))))))
    rcases jF h with⟨c37,h⟩ | ⟨c37,h⟩
    ·refine TL.nil (X.seq (vC Z (aw (xM c37)) (T.skip (X.seq (T.seq (T.region Z (TL.q Z .u (vE (us := [jI x31.xy,jI x31.xt,.bool x31.xA,.bool x31.xE,.bool x31.xz,jI x31.xw,jI x31.xr,jI x31.xB,jI x31.xq,jI x31.xv,jI x31.xo,.slice A32 x31.xm.length c33]) 0 Z yr yb Z Z Z) Z (TL.st6 (cs':= #[jI x31.xy,jI x31.xt,.bool x31.xA,.bool x31.xE,.bool x31.xz,jI x31.xw,jI x31.xr,jI x31.xB,jI x31.xq,jI x31.xv,jI x31.xo,.slice A32 x31.xm.length c33]) Z .u Z Z yb Z Z Z Z ?_))))))))
     obtain rfl:=xO h
     exact TL.nil (X.seq (T.ret (vu [7,1] zH (wg (us:= #[jI x31.xy,jI x31.xt,.bool x31.xA,.bool x31.xE,.bool x31.xz,jI x31.xw,jI x31.xr,jI x31.xB,jI x31.xq,jI x31.xv,jI x31.xo,.slice A32 x31.xm.length c33]) 6 Z yr yb Z Z) ⟨_,_,Z,Z,Z⟩ (by rfl) (.inl Z))))
    ·refine TL.nil (X.seq (vw Z (aH (xN c37)) (T.seq (T.region Z ?_))))
     obtain⟨st38,hx39,h⟩:=xL h
     refine TL.run ab [0,1] Z Z (TL.c7 Z .u (.fn Tryz.call48 Z) (aZ g st12 x34 _ hx39) (fun _ hs=>(Src.triv _)) Z (TL.nil (X.seq (T.seq (T.region Z ?_)))))
     refine TL.q Z .u (vT (cells:= #[jI 0,jI 0,.bool false,.bool false,.bool false,jI 0,jI 0,jI 0,jI 0,jI 0,jI 0,.slice none 0 0]) cX Z (by kernel_rfl)) Z ?_
     refine TL.st6 (cs':= #[jI 0,jI 0,.bool false,.bool false,.bool false,jI 0,jI 0,jI 0,jI 0,jI 0,jI 0,.slice none 0 0]) Z .u Z Z yb Z Z Z Z ?_
     obtain rfl:=xO h
     exact TL.nil (X.seq (T.ret (vx (we 7 bj (vu [8,0] zH (wg (us:= #[jI 0,jI 0,.bool false,.bool false,.bool false,jI 0,jI 0,jI 0,jI 0,jI 0,jI 0,.slice none 0 0]) 7 Z yr yb Z Z) ⟨_,_,Z,Z,Z⟩ (by rfl) (.inl Z))))))
   ·refine X.seq (vw Z (aH (xN c30)) (T.seq (T.region Z ?_)))
    obtain⟨st40,hx41,h⟩:=xL h
    refine TL.run ab [0] Z Z (TL.c5 Z .u (.fn Tryz.call48 Z) (aZ g st12 5 _ hx41) (fun _ hs=>(Src.triv _)) Z (TL.nil (X.seq (T.seq (T.region Z ?_)))))
    refine TL.q Z .u (vT (cells:= #[jI 0,jI 0,.bool false,.bool false,.bool false,jI 0,jI 0,jI 0,jI 0,jI 0,jI 0,.slice none 0 0]) cX Z (by kernel_rfl)) Z ?_
    refine TL.st4 (cs':= #[jI 0,jI 0,.bool false,.bool false,.bool false,jI 0,jI 0,jI 0,jI 0,jI 0,jI 0,.slice none 0 0]) Z .u Z Z yb Z Z Z Z ?_
    obtain rfl:=xO h
    exact TL.nil (X.seq (T.ret (vx (we 7 bj (vu [6,0] zH (wg (us:= #[jI 0,jI 0,.bool false,.bool false,.bool false,jI 0,jI 0,jI 0,jI 0,jI 0,jI 0,.slice none 0 0]) 5 Z yr yb Z Z) ⟨_,_,Z,Z,Z⟩ (by rfl) (.inl Z))))))
 ·refine TL.nil (X.seq (vw Z (aH (xN c14)) (T.seq (T.region Z ?_))))
  refine TL.q Z .u (vT (cells:= #[jI 0,jI 0,.bool false,.bool false,.bool false,jI 0,jI 0,jI 0,jI 0,jI 0,jI 0,.slice none 0 0]) cX Z (by kernel_rfl)) Z ?_
  refine TL.st2 (cs':= #[jI 0,jI 0,.bool false,.bool false,.bool false,jI 0,jI 0,jI 0,jI 0,jI 0,jI 0,.slice none 0 0]) Z .u Z Z yb Z Z Z Z ?_
  obtain rfl:=xO h
  exact TL.nil (X.seq (T.ret (vx (we 7 bj (vu [4,0] zH (wg (us:= #[jI 0,jI 0,.bool false,.bool false,.bool false,jI 0,jI 0,jI 0,jI 0,jI 0,jI 0,.slice none 0 0]) 3 Z yr yb Z Z) ⟨_,_,Z,Z,Z⟩ (by rfl) (.inl Z))))))
def cY:List Rec→(List UInt8×Int)→Option (List UInt8×Int)
 | [],st9=>some st9
 | x14::xs,st9=>(fL st9 x14).bind fun st22=>cY xs st22
def fR (a0:Bat):Option (List UInt8×Int):=(bM a0).bind fun x4=>if x4=0 then ((cY a0.xm ([],0)).bind fun st25=>(iq st25).bind fun (x26,x27,st28)=>if -9223372036854775808≤(49+(x26.length:Int))∧(49+(x26.length:Int))≤9223372036854775807 then ((gAOf a0).bind fun x31=>(ci ([],0) (⟨a0.xy,(49+(x26.length:Int)),a0.xt,0,x31,a0.xw,a0.xr,a0.xB,a0.xq,a0.xv,a0.xo,(a0.xm.length:Int)⟩:Pfx)).bind fun st35=>(iq st35).bind fun (x37,x38,st39)=>(if x27=0 then (if x38=0 then some false else some true) else some true).bind fun y42=>if y42=true then some ([],11) else ((fG).bind fun st47=>if 21≤x37.length then ((dp st47 [(x37.drop 21),x26]).bind fun (x52,st53)=>if -9223372036854775808≤x52∧x52≤9223372036854775807 then ((ci ([],0) (⟨a0.xy,(49+(x26.length:Int)),a0.xt,x52,x31,a0.xw,a0.xr,a0.xB,a0.xq,a0.xv,a0.xo,(a0.xm.length:Int)⟩:Pfx)).bind fun st56=>(tt st56 x26).bind fun st58=>(iq st58).bind fun (x60,x61,st62)=>some (x60,x61)) else none) else none)) else none) else some ([],x4)
theorem i3 (a0:Bat) (A1:Option Addr) (c2:Nat) (r:List UInt8×Int) (h:fR a0=some r):ar Tryz.prog 16 #[.agg #[jI a0.xy,jI a0.xt,.bool a0.xA,.bool a0.xE,.bool a0.xz,jI a0.xw,jI a0.xr,jI a0.xB,jI a0.xq,jI a0.xv,jI a0.xo,.slice A1 a0.xm.length c2]] (RX.of (aq 7 bj) [.slice A1 a0.xm.length c2] a0.xm) (av) (fun v A' N=>v= .tuple #[jS r.1,jI r.2]∧A'=av∧N = []):=by
 refine aJ Tryz.func16 Z Tryz.ntmps16 Z ?_
 intro F w hX
 unfold fR at h
 refine T.seq (T.region Z (TL.box Z .u Z Z (fun b3=>(TL.run ab [1,2] Z Z (TL.nil (X.seq (T.seq (T.seq (T.region Z (TL.q Z .u (vE (us := [jI a0.xy,jI a0.xt,.bool a0.xA,.bool a0.xE,.bool a0.xz,jI a0.xw,jI a0.xr,jI a0.xB,jI a0.xq,jI a0.xv,jI a0.xo,.slice A1 a0.xm.length c2]) 0 Z yr yb Z Z Z) Z ?_))))))))))
 obtain⟨x4,hx5,h⟩:=xL h
 refine vL Z .u (.fn Tryz.call33 Z) (fQ a0 _ _ _ hx5) (fun _ hs=>(vK hs hX)) Z (TL.run ab [2] Z Z (TL.nil (X.seq (T.seq (T.region Z (TL.run ab [0,1] Z Z ?_))))))
 rcases jF h with⟨c6,h⟩ | ⟨c6,h⟩
 ·refine TL.nil (X.seq (vC Z (aw (xM c6)) (T.skip (X.seq (T.seq (T.region Z (xh Z .u Tryz.zeroValue84 Z (fun b7=>(TL.nil (X.seq (T.seq (T.seq (T.region Z (TL.run ab [0] Z Z (TL.q Z .u (vr 1 Z yq Z Z) Z (TL.q Z .u (vH Z xZ) Z ?_))))))))))))))))
  refine TL.run ab [3] Z Z (TL.nil (X.seq (T.block ?_)))
  obtain⟨E10,hE11,hO12⟩:=xL h
  have hk16len:=wd hX
  refine v9 (fun m e Rs=> ∃ (k8:Nat) (st9:List UInt8×Int),k8+m=a0.xm.length∧e = [(1,jP b3),(2,.string ⟨#[]⟩),(3,jI 0),(5,jP b7),(20,.slice A1 a0.xm.length c2),(21,jI (a0.xm.length:Int)),(22,jI (k8:Int))]∧Rs = [aU b7 st9,aA b3 43 #[jI a0.xy,jI a0.xt,.bool a0.xA,.bool a0.xE,.bool a0.xz,jI a0.xw,jI a0.xr,jI a0.xB,jI a0.xq,jI a0.xv,jI a0.xo,.slice A1 a0.xm.length c2],av]∧cY (a0.xm.drop k8) st9=some E10) (a0.xm.length) [0,0,0] ⟨0,([],0),by simp,Z,Z,by rw[List.drop_zero]; exact hE11⟩ (by rfl) (by rfl) ?_
  rintro m13 _ _ ⟨k8,st9,hk16,rfl,rfl,hl15⟩
  clear hE11 h
  cases m13 with
  | zero =>
   have h:=hl15
   clear hl15
   rw[List.drop_of_length_le (by omega),cY] at h
   have hk16ge: ¬ ((k8:Int)<(a0.xm.length:Int)):=by omega
   refine T.seq (T.region Z (TL.run ab [0] Z Z (TL.nil (X.seq (T.seq (vC Z (xN hk16ge) ?_))))))
   obtain rfl:=xO h
   replace h:=hO12
   clear hO12
   try dsimp only at h
   obtain⟨⟨x64,x65,st66⟩,hx67,h⟩:=xL h
   try dsimp only at h
   refine T.exit (vD (vD (v6 (X.seq (T.seq (T.region Z (vX Z .u (.fn Tryz.call35 Z) (fa b7 st9 _ hx67) (fun _ hs=>(Src.triv _)) Z (TL.run ab [1,2,3,4,5] Z Z ?_))))))))
   replace h:=ak h
   obtain⟨c68,h⟩:=h
   obtain⟨x69,hx70,h⟩:=xL h
   refine TL.nil (X.seq (T.seq ?_))
   refine T.join (fun e Rs=> ∃ (b71:Nat),e = [(1,jP b3),(2,.string ⟨#[]⟩),(3,jI 0),(5,jP b7),(8,jS x64),(9,jI x65),(10,jP b71),(20,.slice A1 a0.xm.length c2),(21,jI (a0.xm.length:Int)),(22,jI (k8:Int)),(23,.bool (decide ((k8:Int)<(a0.xm.length:Int)))),(29,.tuple #[jS x64,jI x65]),(30,.tuple #[jS x64,jI x65]),(31,jS x64),(32,jI x65)]∧Rs = [aA b71 89 #[jI a0.xy,jI (49+(x64.length:Int)),jI a0.xt,jI 0,jI x69,jI a0.xw,jI a0.xr,jI a0.xB,jI a0.xq,jI a0.xv,jI a0.xo,jI (a0.xm.length:Int)],aU b7 st66,aA b3 43 #[jI a0.xy,jI a0.xt,.bool a0.xA,.bool a0.xE,.bool a0.xz,jI a0.xw,jI a0.xr,jI a0.xB,jI a0.xq,jI a0.xv,jI a0.xo,.slice A1 a0.xm.length c2],av]) ?_ ?_
   ·refine vQ (.q 0 (.q 1 (.q 2 (.q 3 (.q 4 (.q 5 (.q 6 (.q 7 (.q 9 (.q 10 (.q 11 (.q 12 (.q 13 (.q 14 (.q 15 (.q 16 (.q 17 (.q 18 (.q 19 (.q 20 (.q 21 (.q 22 (.q 23 (.br 8 (.q 24 (.e 25 (.e 26 .nil))) (.e 25 (.e 8 (.q 24 (.e 26 .nil)))))))))))))))))))))))))))) [0,0,0] Z gF nB (by kernel_rfl) ?_
    refine TD.run ab [0] Z Z (TD.q Z .u (vr 1 Z xQ Z Z) Z (TD.run ab [2] Z Z (TD.q Z .u (v5 Z xY) Z (TD.q Z .u (Ex.add Z Z c68) Z (TD.run ab [5] Z Z (TD.q Z .u (vr 1 Z xQ Z Z) Z (TD.q Z .u (vE (us := [jI a0.xy,jI a0.xt,.bool a0.xA,.bool a0.xE,.bool a0.xz,jI a0.xw,jI a0.xr,jI a0.xB,jI a0.xq,jI a0.xv,jI a0.xo,.slice A1 a0.xm.length c2]) 1 Z yr yb Z Z Z) Z ?_)))))))
    refine TD.run ab [9] Z Z (TD.q Z .u (vr 1 Z xQ Z Z) Z (TD.run ab [11] Z Z (TD.q Z .u (vr 1 Z xQ Z Z) Z (TD.run ab [13] Z Z (TD.q Z .u (vr 1 Z xQ Z Z) Z (TD.run ab [15] Z Z (TD.q Z .u (vr 1 Z xQ Z Z) Z ?_)))))))
    refine TD.run ab [17] Z Z (TD.q Z .u (vr 1 Z xQ Z Z) Z (TD.run ab [19] Z Z (TD.q Z .u (vr 1 Z xQ Z Z) Z (TD.run ab [21] Z Z (TD.q Z .u (vr 1 Z yq Z Z) Z (TD.q Z .u (vH Z xZ) Z ?_))))))
    refine TD.br ?_ ?_
    ·refine vY Z .u (.fn Tryz.call36 Z) (nH a0 _ _ _ hx70) (fun _ hs=>(vK hs hX)) Z [0,0,0] (Z) ?_
     refine TD.q Z .u (vT (cells:= #[jI a0.xy,jI (49+(x64.length:Int)),jI a0.xt,jI 0,jI x69,jI a0.xw,jI a0.xr,jI a0.xB,jI a0.xq,jI a0.xv,jI a0.xo,jI (a0.xm.length:Int)]) ke Z (by kernel_rfl)) Z ?_
     exact TD.alloc Z .u Tryz.zeroValue89 Z [1,1,1] (fun _=>Z) (fun b71=>(TD.st0 (cs':= #[jI a0.xy,jI (49+(x64.length:Int)),jI a0.xt,jI 0,jI x69,jI a0.xw,jI a0.xr,jI a0.xB,jI a0.xq,jI a0.xv,jI a0.xo,jI (a0.xm.length:Int)]) Z .u Z Z yO Z Z Z Z [1,1,1] (Z) (TD.nil (wo [0,0,0,0] ⟨b71,Z,Z⟩ (by rfl) (by rfl)))))
    ·refine TD.alloc Z .u Tryz.zeroValue89 Z [1,1,1] (fun _=>Z) (fun b71=>(vY Z .u (.fn Tryz.call36 Z) (nH a0 _ _ _ hx70) (fun _ hs=>(vK hs hX)) Z [1,1,1] (Z) ?_))
     refine TD.q Z .u (vT (cells:= #[jI a0.xy,jI (49+(x64.length:Int)),jI a0.xt,jI 0,jI x69,jI a0.xw,jI a0.xr,jI a0.xB,jI a0.xq,jI a0.xv,jI a0.xo,jI (a0.xm.length:Int)]) ke Z (by kernel_rfl)) Z ?_
     exact TD.st0 (cs':= #[jI a0.xy,jI (49+(x64.length:Int)),jI a0.xt,jI 0,jI x69,jI a0.xw,jI a0.xr,jI a0.xB,jI a0.xq,jI a0.xv,jI a0.xo,jI (a0.xm.length:Int)]) Z .u Z Z yO Z Z Z Z [1,1,1] (Z) (TD.nil (wo [0,0,0,0] ⟨b71,Z,Z⟩ (by rfl) (by rfl)))
   ·rintro _ _ ⟨b71,rfl,rfl⟩
    refine X.seq (T.seq (T.region Z (xh Z .u Tryz.zeroValue84 Z (fun b72=>(TL.nil (X.seq (T.seq (T.region Z (TL.q Z .u (vE (us := [jI a0.xy,jI (49+(x64.length:Int)),jI a0.xt,jI 0,jI x69,jI a0.xw,jI a0.xr,jI a0.xB,jI a0.xq,jI a0.xv,jI a0.xo,jI (a0.xm.length:Int)]) 1 Z zn yO Z Z Z) Z ?_)))))))))
    obtain⟨st73,hx74,h⟩:=xL h
    refine vX Z .u (.fn Tryz.call37 Z) (eb b72 ([],0) (⟨a0.xy,(49+(x64.length:Int)),a0.xt,0,x69,a0.xw,a0.xr,a0.xB,a0.xq,a0.xv,a0.xo,(a0.xm.length:Int)⟩:Pfx) _ hx74) (fun _ hs=>(Src.triv _)) Z ?_
    obtain⟨⟨x75,x76,st77⟩,hx78,h⟩:=xL h
    try dsimp only at h
    refine TL.nil (X.seq (T.seq (T.region Z (vX Z .u (.fn Tryz.call35 Z) (fa b72 st73 _ hx78) (fun _ hs=>(Src.triv _)) Z (TL.run ab [1,2,3,4,5] Z Z (TL.nil (X.seq (T.seq (T.seq ?_)))))))))
    obtain⟨y80,h,hk81⟩:=xL h
    refine wn (fun e Rs=>e = [(2,.string ⟨#[]⟩),(3,jI 0),(8,jS x64),(10,jP b71),(11,jP b72),(12,jS x75),(69,.bool y80)]∧Rs = [aU b72 st77,aA b71 89 #[jI a0.xy,jI (49+(x64.length:Int)),jI a0.xt,jI 0,jI x69,jI a0.xw,jI a0.xr,jI a0.xB,jI a0.xq,jI a0.xv,jI a0.xo,jI (a0.xm.length:Int)],aU b7 st66,aA b3 43 #[jI a0.xy,jI a0.xt,.bool a0.xA,.bool a0.xE,.bool a0.xz,jI a0.xw,jI a0.xr,jI a0.xB,jI a0.xq,jI a0.xv,jI a0.xo,.slice A1 a0.xm.length c2],av]) ?_ ?_
    ·clear hk81
     refine T.region Z ?_
     rcases jF h with⟨c82,h⟩ | ⟨c82,h⟩
     ·refine TL.run ab [0,1,2] Z Z ?_
      iterate 2 refine TL.q Z (.g Z Z (aw (xM c82))) (vA ab Z) Z ?_
      refine TL.q Z .u (vB Z (aw (xM c82)) Z) Z ?_
      rcases jF h with⟨c83,h⟩ | ⟨c83,h⟩
      ·cases h
       exact TL.nil (wE (d:=69) (v':= .bool false) Z (congrArg Value.bool (aw (xM c83))) (vN [0,0,0,0,0] ⟨Z,Z⟩ (by rfl) (by rfl)))
      ·cases h
       exact TL.nil (wE (d:=69) (v':= .bool true) Z (congrArg Value.bool (aH (xN c83))) (vN [0,0,0,0,0] ⟨Z,Z⟩ (by rfl) (by rfl)))
     ·refine TL.run ab [0,1,2] Z Z ?_
      iterate 2 refine vv Z (.gn Z Z (aH (xN c82))) Z ?_
      refine TL.q Z .u (vz Z (aH (xN c82)) Z) Z ?_
      cases h
      exact TL.nil (vN [0,0,0,0,0] ⟨Z,Z⟩ (by rfl) (by rfl))
    ·rintro _ _ ⟨rfl,rfl⟩
     clear h
     have h:=hk81
     clear hk81
     try dsimp only at h
     rcases jF h with⟨c84,h⟩ | ⟨c84,h⟩
     ·refine X.seq (vw Z c84 (T.seq (T.region Z (TL.run ab [0,1] Z Z ?_))))
      obtain rfl:=xO h
      exact TL.nil (X.seq (T.ret (vx (vO [4] Tryz.results16 (vt Z) (vt Z) ⟨Z,Z,Z⟩ (by rfl) (.inl Z)))))
     ·replace c84:=xW c84
      refine X.seq (vC Z c84 ?_)
      obtain⟨st85,hx86,h⟩:=xL h
      replace h:=ak h
      obtain⟨c88,h⟩:=h
      obtain⟨⟨x90,st91⟩,hx92,h⟩:=xL h
      try dsimp only at h
      replace h:=ak h
      obtain⟨c93,h⟩:=h
      refine T.skip (X.seq (T.seq ?_))
      refine T.join (fun e Rs=> ∃ (b87:Nat) (b89:Nat),e = [(2,.string ⟨#[]⟩),(3,jI 0),(8,jS x64),(10,jP b71),(11,jP b72),(69,.bool y80)]∧Rs = [aF 9 1 gY (.slice (some ⟨b89,0,none⟩) 2 2) [(x75.drop 21),x64],fZ 131 b87 st91,aU b72 st77,aA b71 89 #[jI a0.xy,jI (49+(x64.length:Int)),jI a0.xt,jI x90,jI x69,jI a0.xw,jI a0.xr,jI a0.xB,jI a0.xq,jI a0.xv,jI a0.xo,jI (a0.xm.length:Int)],aU b7 st66,aA b3 43 #[jI a0.xy,jI a0.xt,.bool a0.xA,.bool a0.xE,.bool a0.xz,jI a0.xw,jI a0.xr,jI a0.xB,jI a0.xq,jI a0.xv,jI a0.xo,.slice A1 a0.xm.length c2],av]) ?_ ?_
      ·refine vQ (.q 1 (.q 2 (.q 3 (.br 0 (.e 4 (.e 5 (.q 6 (.q 7 (.e 8 .nil))))) (.e 4 (.e 0 (.e 5 (.q 6 (.q 7 (.e 8 .nil)))))))))) [0,1,1,1] Z gF nB (by kernel_rfl) ?_
       refine TD.run ab [1] Z Z ?_
       refine TD.q Z .u (wC (p:=21) (q:=x75.length) (m:=(x75.drop 21)) Z xY (.some Z Z) .none (by first | omega | (dsimp only; omega)) (lP _ _)) Z ?_
       refine TD.run ab [3] Z Z ?_
       refine TD.br ?_ ?_
       ·refine TD.cge Z .u (.fn Tryz.call38 Z) (eI _ hx86) (fun _ hs=>(vy _ _)) Z [1,2,2,2] ?_ ?_
        ·rintro _ _ _ ⟨b87,rfl,rfl,rfl⟩
         rfl
        rintro _ _ _ ⟨b87,rfl,rfl,rfl⟩
        exact v7 [0,0,0,0,0,0] Z (xb (cells:= #[.string (aC (x75.drop 21)),jS x64]) Z .u eJ Z (by rfl) Z [2,3,3,3] (fun _=>Z) (fun b89=>(wX (us := [.string (aC (x75.drop 21)),jS x64]) (xs := [(x75.drop 21),x64]) (E:=gY) (z:=1) Z (Nat.le_of_ble_eq_true Z) (fun _=>⟨Z,Z,⟨Z,Z,Z⟩⟩) (TD.c1 Z .u (.fn Tryz.call39 Z) (dk b87 st85 [(x75.drop 21),x64] _ _ _ hx92) (fun _ hs=>(Src.res 0 Z (fun w G h=>ba (by decide) w G h))) Z [2,3,3,3] (Z) (TD.q Z .u (wq Z yK yF c93) Z (TD.run ab [7] Z Z (wx (cs':= #[jI a0.xy,jI (49+(x64.length:Int)),jI a0.xt,jI x90,jI x69,jI a0.xw,jI a0.xr,jI a0.xB,jI a0.xq,jI a0.xv,jI a0.xo,jI (a0.xm.length:Int)]) Z .u Z Z xU Z Z Z Z [2,3,3,3] (Z) (TD.nil (wo [0,0,0,0,0,0,0] ⟨b87,b89,Z,Z⟩ (by rfl) (by rfl))))))))))
       ·refine xb (cells:= #[.string (aC (x75.drop 21)),jS x64]) Z .u eJ Z (by rfl) Z [1,2,2,2] (fun _=>Z) (fun b89=>(wX (us := [.string (aC (x75.drop 21)),jS x64]) (xs := [(x75.drop 21),x64]) (E:=gY) (z:=1) Z (Nat.le_of_ble_eq_true Z) (fun _=>⟨Z,Z,⟨Z,Z,Z⟩⟩) ?_))
        refine TD.cge Z .u (.fn Tryz.call38 Z) (eI _ hx86) (fun _ hs=>(vy _ _)) Z [2,3,3,3] ?_ ?_
        ·rintro _ _ _ ⟨b87,rfl,rfl,rfl⟩
         rfl
        rintro _ _ _ ⟨b87,rfl,rfl,rfl⟩
        exact v7 [0,0,0,0,0,0,0] Z (TD.c0 Z .u (.fn Tryz.call39 Z) (dk b87 st85 [(x75.drop 21),x64] _ _ _ hx92) (fun _ hs=>(Src.res 0 Z (fun w G h=>ba (by decide) w G h))) Z [2,3,3,3] (Z) (TD.q Z .u (wq Z yK yF c93) Z (TD.run ab [7] Z Z (wx (cs':= #[jI a0.xy,jI (49+(x64.length:Int)),jI a0.xt,jI x90,jI x69,jI a0.xw,jI a0.xr,jI a0.xB,jI a0.xq,jI a0.xv,jI a0.xo,jI (a0.xm.length:Int)]) Z .u Z Z xU Z Z Z Z [2,3,3,3] (Z) (TD.nil (wo [1,0,0,0,0,0,0] ⟨b87,b89,Z,Z⟩ (by rfl) (by rfl)))))))
      ·rintro _ _ ⟨b87,b89,rfl,rfl⟩
       refine X.seq (T.seq (T.region Z ?_))
       refine TL.q Z .u (vT (cells:= #[.slice none 0 0,jI 0]) oF Z (by kernel_rfl)) Z ?_
       refine TL.outZ 2 Z .u Z Z Tryz.sizeOf84 Z (vR [0,0,0,0,0,0,0] Z (TL.nil (X.seq (T.seq (T.region Z (TL.q Z .u (vE (us := [jI a0.xy,jI (49+(x64.length:Int)),jI a0.xt,jI x90,jI x69,jI a0.xw,jI a0.xr,jI a0.xB,jI a0.xq,jI a0.xv,jI a0.xo,jI (a0.xm.length:Int)]) 3 Z zn yO Z Z Z) Z ?_))))))
       obtain⟨st94,hx95,h⟩:=xL h
       refine wN Z .u (.fn Tryz.call37 Z) (eb b72 ([],0) (⟨a0.xy,(49+(x64.length:Int)),a0.xt,x90,x69,a0.xw,a0.xr,a0.xB,a0.xq,a0.xv,a0.xo,(a0.xm.length:Int)⟩:Pfx) _ hx95) (fun _ hs=>(Src.triv _)) Z (TL.nil (X.seq (T.seq (T.region Z ?_))))
       obtain⟨st96,hx97,h⟩:=xL h
       refine TL.run ab [0] Z Z (wN Z .u (.fn Tryz.call40 Z) (qH b72 st94 x64 _ hx97) (fun _ hs=>(Src.triv _)) Z ?_)
       obtain⟨⟨x98,x99,st100⟩,hx101,h⟩:=xL h
       try dsimp only at h
       refine TL.nil (X.seq (T.seq (T.region Z (wN Z .u (.fn Tryz.call35 Z) (fa b72 st96 _ hx101) (fun _ hs=>(Src.triv _)) Z (TL.run ab [1,2,3,4] Z Z ?_)))))
       obtain rfl:=xO h
       exact TL.nil (X.seq (T.ret (vO [6] Tryz.results16 (vt Z) (vt Z) ⟨Z,Z,Z⟩ (by rfl) (.inl Z))))
  | succ m13 =>
   have h:=hl15
   clear hl15
   obtain⟨x14,hxx14⟩: ∃ x,a0.xm[k8]? = some x:=⟨_,List.getElem?_eq_getElem (by omega)⟩
   rw[cm hxx14,cY] at h
   have hk16lt:(k8:Int)<(a0.xm.length:Int):=by omega
   refine T.seq (T.region Z (TL.run ab [0] Z Z (TL.nil (X.seq (T.seq (vw Z (xM hk16lt) ?_))))))
   obtain⟨gz17,oz17,rfl,z17cs,z17cl,z17cc,z17nf,z17r⟩:=vV (by decide) hX hxx14
   obtain⟨z17S,z17r,z17rr⟩:=z17r
   obtain⟨A18,c19,rfl,z17s0⟩:=z17r
   have hX20:(RX.of (aq 3 bg) [.slice A18 x14.xp.length c19] x14.xp).reads w F:=⟨z17S,z17s0,z17rr⟩
   refine T.skip (X.seq (T.seq (T.block (T.seq (T.region Z ?_)))))
   refine TL.q Z .u (vM (k:=k8) Z Z Z xZ xX (xS hxx14).1) Z ?_
   refine TL.q Z .u (wj (us := [jI x14.xC,jI x14.xx,.bool x14.xu.null,jS x14.xu.data,.bool x14.xn.null,jS x14.xn.data,.slice A18 x14.xp.length c19]) 0 Z yt xX z17nf z17cc Z Z Z) Z (TL.alloc Z .u Tryz.zeroValue69 Z (fun b21=>(vG (cs':= #[jI x14.xC,jI x14.xx,.bool x14.xu.null,jS x14.xu.data,.bool x14.xn.null,jS x14.xn.data,.slice A18 x14.xp.length c19]) Z .u Z Z xX Z Z Z Z (TL.nil (X.seq (T.region Z (TL.q Z .u (vE (us := [jI x14.xC,jI x14.xx,.bool x14.xu.null,jS x14.xu.data,.bool x14.xn.null,jS x14.xn.data,.slice A18 x14.xp.length c19]) 0 Z yt xX Z Z Z) Z ?_)))))))
   obtain⟨st22,hx23,h⟩:=xL h
   exact wc Z .u (.fn Tryz.call34 Z) (iY b7 st9 x14 _ _ _ hx23) (fun _ hs=>(Src.old hs hX20)) Z (TL.nil (vF (X.seq (T.region Z (TL.q Z .u (Ex.add Z Z (by omega)) Z (TL.run ab [1] Z Z (TL.nil (X.back (m':=m13) [1,1,1] (by omega) ⟨k8+1,st22,by omega,Z,Z,h⟩ (by rfl) (by rfl)))))))))
 ·refine TL.nil (X.seq (vw Z (aH (xN c6)) (T.seq (T.region Z (TL.run ab [0,1,2] Z Z ?_)))))
  obtain rfl:=xO h
  exact TL.nil (X.seq (T.ret (vx (vO [1] Tryz.results16 (vt Z) (vt Z) ⟨Z,Z,Z⟩ (by rfl) (.inl Z)))))
end Go.Proofs.YtahjmpipllajcaaGreat.Sl
