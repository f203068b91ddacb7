/- produceWrites_holds: part 3. -/
import Derived.Test.YtcoppaggpbfcmaaGreatK2
set_option maxRecDepth 100000
set_option maxHeartbeats 4000000
set_option linter.defProp false
namespace Go.Proofs.YtcoppaggpbfcmaaGreat.Sl
open Go.RowKit
set_option linter.unusedVariables false
set_option linter.unusedSimpArgs false
def Dg := @Tryz.sizeOf203
def Dq := @Tryz.runUnderlying199
def Du := @Tryz.runUnderlying160
def DN := @Tryz.isAgg203
def DO := @Tryz.isAgg201
def Ei := @Tryz.sizeOf160
def EM := @Tryz.isAgg160
def Fl := @Tryz.runUnderlying203
def xS:fh := [(160,0,0),(160,1,1),(160,2,2),(160,3,3),(160,4,4),(160,5,5),(160,6,6),(160,7,7),(160,8,8),(160,9,9),(160,10,10),(160,11,11),(203,0,0),(203,1,1)]
theorem aj:(xS).OK Tryz.prog:=⟨FOK.mk Du rfl De rfl,FOK.mk Du rfl De rfl,FOK.mk Du rfl De rfl,FOK.mk Du rfl De rfl,FOK.mk Du rfl De rfl,FOK.mk Du rfl De rfl,FOK.mk Du rfl De rfl,FOK.mk Du rfl De rfl,FOK.mk Du rfl De rfl,FOK.mk Du rfl De rfl,FOK.mk Du rfl De rfl,FOK.mk Du rfl De rfl,FOK.mk Fl rfl Tryz.sizeOf201 rfl,FOK.mk Fl rfl De rfl,trivial⟩
theorem aV:Tryz.prog.follows .mixedOrders=true:=by kernel_rfl
theorem qk:BOK Tryz.prog 160 #[.int .i64 0,.int .i64 0,.int .i64 0,.int .i64 0,.int .i64 0,.int .i64 0,.int .i64 0,.int .i64 0,.int .i64 0,.int .i64 0,.int .i64 0,.int .i64 0] [(0,1),(1,1),(2,1),(3,1),(4,1),(5,1),(6,1),(7,1),(8,1),(9,1),(10,1),(11,1)]:=BOK.mk Tryz.zeroValue160 Du (by intro w; simp)
theorem bB:BOK Tryz.prog 203 #[.pointer none,.int .i64 0] [(0,1),(1,1)]:=BOK.mk Tryz.zeroValue203 Fl (by intro w; simp)
theorem nl:SOK Tryz.prog 199 203 13 2 #[.pointer none,.int .i64 0,.pointer none,.int .i64 0,.pointer none,.int .i64 0,.pointer none,.int .i64 0,.pointer none,.int .i64 0,.pointer none,.int .i64 0,.pointer none,.int .i64 0,.pointer none,.int .i64 0,.pointer none,.int .i64 0,.pointer none,.int .i64 0,.pointer none,.int .i64 0,.pointer none,.int .i64 0,.pointer none,.int .i64 0]:=SOK.mk Dq Dg Tryz.zeroValue203 (by decide) (by kernel_rfl)
def gD (p0:Nat) (p1:Nat):Option (Unit):=some ()
theorem fm (p0:Nat) (p1:Nat) (r:Unit) (h:gD p0 p1=some r):aA Tryz.prog 141 #[jP p0,jP p1] .triv (aD) (fun v A' N=> ∃ q:Nat,v= .slice (some ⟨q,0,none⟩) 13 13∧A'=aD∧N = [aC q 203 #[jP p0,jI 8,.pointer (some ⟨p0,1,none⟩),jI 4,.pointer (some ⟨p0,2,none⟩),jI 4,jP p1,jI 1,.pointer (some ⟨p0,3,none⟩),jI 4,.pointer (some ⟨p0,4,none⟩),jI 2,.pointer (some ⟨p0,5,none⟩),jI 4,.pointer (some ⟨p0,6,none⟩),jI 8,.pointer (some ⟨p0,7,none⟩),jI 8,.pointer (some ⟨p0,8,none⟩),jI 8,.pointer (some ⟨p0,9,none⟩),jI 2,.pointer (some ⟨p0,10,none⟩),jI 4,.pointer (some ⟨p0,11,none⟩),jI 4]]):=by
 refine aM Tryz.func141 Z Tryz.ntmps141 Z ?_
 intro F w hX
 unfold gD at h
 refine T.seq (T.region Z (TL.run aj [0] Z Z ?_))
 refine TL.nil (X.seq (T.seq (Bd (.q 0 (.q 1 (.q 2 (.q 3 (.q 4 (.q 5 (.q 6 (.q 7 (.q 8 (.q 9 (.q 10 (.q 11 (.q 12 (.q 13 (.q 14 (.q 15 (.q 16 (.q 17 (.q 18 (.q 19 (.q 20 (.q 21 (.q 22 (.q 23 (.q 24 (.q 25 (.q 26 (.q 27 (.q 28 (.q 29 (.q 30 (.q 31 (.q 32 (.q 33 (.q 34 (.q 35 (.q 36 (.q 37 (.q 38 (.q 39 (.q 40 (.q 41 (.q 42 (.q 43 (.q 44 (.q 45 (.q 46 (.q 47 (.q 48 (.q 49 (.e 50 (.q 51 .nil)))))))))))))))))))))))))))))))))))))))))))))))))))) [0] Z aV (NoP.seq aP) (by kernel_rfl) ?_)))
 refine TD.run aj [0,1,2] Z Z ?_
 refine TD.q Z .u (Bg (cells:= #[jP p0,jI 8]) bB Z (by kernel_rfl)) Z ?_
 refine TD.run aj [4,5,6] Z Z ?_
 refine TD.q Z .u (Bg (cells:= #[.pointer (some ⟨p0,1,none⟩),jI 4]) bB Z (by kernel_rfl)) Z ?_
 refine TD.run aj [8,9,10] Z Z ?_
 refine TD.q Z .u (Bg (cells:= #[.pointer (some ⟨p0,2,none⟩),jI 4]) bB Z (by kernel_rfl)) Z ?_
 refine TD.run aj [12] Z Z ?_
 refine TD.q Z .u (Bg (cells:= #[jP p1,jI 1]) bB Z (by kernel_rfl)) Z ?_
 refine TD.run aj [14,15,16] Z Z ?_
 refine TD.q Z .u (Bg (cells:= #[.pointer (some ⟨p0,3,none⟩),jI 4]) bB Z (by kernel_rfl)) Z ?_
 refine TD.run aj [18,19,20] Z Z ?_
 refine TD.q Z .u (Bg (cells:= #[.pointer (some ⟨p0,4,none⟩),jI 2]) bB Z (by kernel_rfl)) Z ?_
 refine TD.run aj [22,23,24] Z Z ?_
 refine TD.q Z .u (Bg (cells:= #[.pointer (some ⟨p0,5,none⟩),jI 4]) bB Z (by kernel_rfl)) Z ?_
 refine TD.run aj [26,27,28] Z Z ?_
 refine TD.q Z .u (Bg (cells:= #[.pointer (some ⟨p0,6,none⟩),jI 8]) bB Z (by kernel_rfl)) Z ?_
 refine TD.run aj [30,31,32] Z Z ?_
 refine TD.q Z .u (Bg (cells:= #[.pointer (some ⟨p0,7,none⟩),jI 8]) bB Z (by kernel_rfl)) Z ?_
 refine TD.run aj [34,35,36] Z Z ?_
 refine TD.q Z .u (Bg (cells:= #[.pointer (some ⟨p0,8,none⟩),jI 8]) bB Z (by kernel_rfl)) Z ?_
 refine TD.run aj [38,39,40] Z Z ?_
 refine TD.q Z .u (Bg (cells:= #[.pointer (some ⟨p0,9,none⟩),jI 2]) bB Z (by kernel_rfl)) Z ?_
 refine TD.run aj [42,43,44] Z Z ?_
 refine TD.q Z .u (Bg (cells:= #[.pointer (some ⟨p0,10,none⟩),jI 4]) bB Z (by kernel_rfl)) Z ?_
 refine TD.run aj [46,47,48] Z Z ?_
 refine TD.q Z .u (Bg (cells:= #[.pointer (some ⟨p0,11,none⟩),jI 4]) bB Z (by kernel_rfl)) Z ?_
 refine BQ (cells:= #[jP p0,jI 8,.pointer (some ⟨p0,1,none⟩),jI 4,.pointer (some ⟨p0,2,none⟩),jI 4,jP p1,jI 1,.pointer (some ⟨p0,3,none⟩),jI 4,.pointer (some ⟨p0,4,none⟩),jI 2,.pointer (some ⟨p0,5,none⟩),jI 4,.pointer (some ⟨p0,6,none⟩),jI 8,.pointer (some ⟨p0,7,none⟩),jI 8,.pointer (some ⟨p0,8,none⟩),jI 8,.pointer (some ⟨p0,9,none⟩),jI 2,.pointer (some ⟨p0,10,none⟩),jI 4,.pointer (some ⟨p0,11,none⟩),jI 4]) Z .u nl Z (by kernel_rfl) Z [1] (fun _=>Z) (fun b1=> ?_)
 refine TD.run aj [51] Z Z ?_
 obtain rfl:=C8 h
 exact TD.nil (X.seq (T.ret (AJ [1,0] Tryz.results141 (AK Z) ⟨_,Z,Z,Z⟩ (by rfl) (.inl Z))))
def bV (st:List UInt8×Int) (a1:Pfx):Option (List UInt8×Int):=(if a1.C3<0 then some true else (if a1.C3>4294967295 then some true else some false)).bind fun y4=>(if y4=true then ((jH st 11).bind fun st14=>some st14) else some st).bind fun st11=>if -9223372036854775808≤(IntKind.i32.wrap (IntKind.u32.wrap a1.C3))∧(IntKind.i32.wrap (IntKind.u32.wrap a1.C3))≤9223372036854775807 then ((ff st11 a1.CP 8).bind fun st19=>(ff st19 a1.C1 4).bind fun st22=>(ff st22 a1.CI 4).bind fun st25=>(ff st25 2 1).bind fun st28=>(ff st28 (IntKind.i32.wrap (IntKind.u32.wrap a1.C3)) 4).bind fun st31=>(ff st31 a1.C4 2).bind fun st34=>(ff st34 a1.CN 4).bind fun st37=>(ff st37 a1.CH 8).bind fun st40=>(ff st40 a1.CW 8).bind fun st43=>(ff st43 a1.CE 8).bind fun st46=>(ff st46 a1.CK 2).bind fun st49=>(ff st49 a1.CD 4).bind fun st52=>(ff st52 a1.C2 4).bind fun st55=>some st55) else none
theorem fJ (g:Nat) (st:List UInt8×Int) (a1:Pfx) (r:List UInt8×Int) (h:bV st a1=some r):aA Tryz.prog 98 #[jP g,.agg #[jI a1.CP,jI a1.C1,jI a1.CI,jI a1.C3,jI a1.C4,jI a1.CN,jI a1.CH,jI a1.CW,jI a1.CE,jI a1.CK,jI a1.CD,jI a1.C2]] .triv (ba g st) (fun v A' N=>v= .tuple #[]∧A'=ba g r∧N = []):=by
 refine aM Tryz.func98 Z Tryz.ntmps98 Z ?_
 intro F w hX
 unfold bV at h
 refine T.seq (T.region Z (TL.box Z .u Z Z (fun b1=>(TL.nil (X.seq (T.seq (T.region Z (TL.alloc Z .u Tryz.zeroValue3 Z (fun b2=>(A9 (cs':= #[jI 2]) Z .u Z Z De Z Z Z Z (TL.nil (X.seq (T.seq (T.seq ?_))))))))))))))
 obtain⟨y4,h,hk5⟩:=C5 h
 refine BE (fun e Rs=>e = [(0,jP g),(3,jP b1),(4,jP b2),(14,.bool y4)]∧Rs = [aC b2 3 #[jI 2],aC b1 160 #[jI a1.CP,jI a1.C1,jI a1.CI,jI a1.C3,jI a1.C4,jI a1.CN,jI a1.CH,jI a1.CW,jI a1.CE,jI a1.CK,jI a1.CD,jI a1.C2],ba g st]) ?_ ?_
 ·clear hk5
  refine T.region Z (TL.run aj [0] Z Z (TL.q Z .u (AH 1 Z Dc Z Z) Z ?_))
  rcases jF h with⟨c6,h⟩ | ⟨c6,h⟩
  ·refine TL.run aj [2,3] Z Z ?_
   iterate 3 refine AM Z (.gn Z Z (C6 c6)) Z ?_
   refine TL.q Z .u (AP Z (C6 c6) Z) Z ?_
   cases h
   exact TL.nil (A5 [0,0,0] ⟨Z,Z⟩ (by rfl) (by rfl))
  ·refine TL.run aj [2,3] Z Z (TL.q Z (.g Z Z (C7 c6)) (AO aj Z) Z (TL.q Z (.g Z Z (C7 c6)) (AH 1 Z Dc Z Z) Z (TL.q Z (.g Z Z (C7 c6)) (AO aj Z) Z (TL.q Z .u (AR Z (C7 c6) Z) Z ?_))))
   rcases jF h with⟨c7,h⟩ | ⟨c7,h⟩
   ·cases h
    exact TL.nil (Bw (d:=14) (v':= .bool true) Z (congrArg Value.bool (C6 c7)) (A5 [0,0,0] ⟨Z,Z⟩ (by rfl) (by rfl)))
   ·cases h
    exact TL.nil (Bw (d:=14) (v':= .bool false) Z (congrArg Value.bool (C7 c7)) (A5 [0,0,0] ⟨Z,Z⟩ (by rfl) (by rfl)))
 ·rintro _ _ ⟨rfl,rfl⟩
  clear h
  have h:=hk5
  clear hk5
  try dsimp only at h
  refine X.seq ?_
  obtain⟨st11,h,hk12⟩:=C5 h
  refine BE (fun e Rs=>e = [(0,jP g),(3,jP b1),(4,jP b2)]∧Rs = [aC b2 3 #[jI 2],aC b1 160 #[jI a1.CP,jI a1.C1,jI a1.CI,jI a1.C3,jI a1.C4,jI a1.CN,jI a1.CH,jI a1.CW,jI a1.CE,jI a1.CK,jI a1.CD,jI a1.C2],ba g st11]) ?_ ?_
  ·clear hk12
   rcases jF h with⟨c13,h⟩ | ⟨c13,h⟩
   ·refine AN Z c13 (T.region Z ?_)
    obtain⟨st14,hx15,h⟩:=C5 h
    refine TL.run aj [0] Z Z (BU Z .u (.fn Tryz.call69 Z) (g9 g st 11 _ hx15) (fun _ hs=>(Src.triv _)) Z ?_)
    cases h
    exact TL.nil (A5 [0,0,0] ⟨Z,Z⟩ (by rfl) (by rfl))
   ·replace c13:=Dd c13
    refine AS Z c13 ?_
    cases h
    exact T.skip (A5 [0,0,0] ⟨Z,Z⟩ (by rfl) (by rfl))
  ·rintro _ _ ⟨rfl,rfl⟩
   clear h
   have h:=hk12
   clear hk12
   try dsimp only at h
   refine X.seq (T.seq (T.region Z (TL.run aj [0] Z Z (TL.q Z .u (AH 1 Z Dc Z Z) Z (TL.q Z .u (Cp Z D7 D5) Z (TL.q Z .u (Cp Z D5 Tryz.runUnderlying21) Z ?_))))))
   replace h:=an h
   obtain⟨c16,h⟩:=h
   refine TL.q Z .u (BW Z Tryz.runUnderlying21 D7 c16) Z (TL.run aj [5] Z Z (TL.st1 (cs':= #[jI a1.CP,jI a1.C1,jI a1.CI,jI (IntKind.i32.wrap (IntKind.u32.wrap a1.C3)),jI a1.C4,jI a1.CN,jI a1.CH,jI a1.CW,jI a1.CE,jI a1.CK,jI a1.CD,jI a1.C2]) Z .u Z Z De Z Z Z Z (TL.nil (X.seq (T.seq (T.region Z (B0 Z .u (.fn Tryz.call141 Z) (fm b1 b2 () Z) (fun _ hs=>AQ _ _) Z ?_)))))))
   rintro _ _ _ ⟨b17,rfl,rfl,rfl⟩
   refine Bp [0,0,0,0] rfl (TL.q rfl .u (AW rfl Dq) rfl (TL.run aj [2] rfl rfl (TL.nil (X.seq (T.block (T.unroll0 (TW.step (T.seq (T.region rfl (TL.run aj [0] rfl rfl (TL.nil (X.seq (T.seq (AN rfl (C6 (show 0<13 by omega)) ?_))))))))))))))
   refine T.skip (X.seq (T.seq (T.block (T.seq (T.region Z (TL.q Z .u (BD (k:=0) (r:=0) Z Z Z Dq Dg (by decide) Z) Z (TL.q Z .u (AY (us := [jP b1,jI 8]) 0 Z DN Dg Z Z Z) Z (TL.alloc Z .u Tryz.zeroValue203 Z (fun b18=>(A9 (cs':= #[jP b1,jI 8]) Z .u Z Z Dg Z Z Z Z ?_))))))))))
   refine TL.nil (X.seq (Bd (.q 0 (.q 1 (.q 2 (.q 3 (.q 4 (.q 5 (.q 6 (.e 7 .nil)))))))) [0,0,0,0] Z aV (NoP.blk (NoP.seq (NoP.seq (NoP.blk aP)))) (by kernel_rfl) ?_))
   refine TD.run aj [0,1] Z Z (TD.q Z .u (AH 0 Z DO Z Z) Z (TD.run aj [3] Z Z (TD.q Z .u (AH 3 Z Dc Z Z) Z (TD.run aj [5] Z Z (TD.q Z .u (AH 0 Z Dc Z Z) Z ?_)))))
   obtain⟨st19,hx20,h⟩:=C5 h
   refine TD.c4 rfl .u (.fn Tryz.call71 rfl) (bL g st11 a1.CP 8 _ hx20) (fun _ hs=>(Src.triv _)) rfl [0,0,0,0] (rfl) (TD.nil (AZ (X.seq (T.region rfl (TL.q rfl .u (Ex.add rfl rfl (by omega)) rfl (TL.run aj [1] rfl rfl (TL.nil (BO (TW.step (T.seq (T.region rfl (TL.run aj [0] rfl rfl (TL.nil (X.seq (T.seq (AN rfl (C6 (show 1<13 by omega)) ?_))))))))))))))))
   refine T.skip (X.seq (T.seq (T.block (T.seq (T.region Z (TL.q Z .u (BD (k:=1) (r:=2) Z Z Z Dq Dg (by decide) Z) Z (TL.q Z .u (AY (us := [.pointer (some ⟨b1,1,none⟩),jI 4]) 1 Z DN Dg Z Z Z) Z (TL.alloc Z .u Tryz.zeroValue203 Z (fun b21=>(A9 (cs':= #[.pointer (some ⟨b1,1,none⟩),jI 4]) Z .u Z Z Dg Z Z Z Z ?_))))))))))
   refine TL.nil (X.seq (Bd (.q 0 (.q 1 (.q 2 (.q 3 (.q 4 (.q 5 (.q 6 (.e 7 .nil)))))))) [0,0,0,0,0] Z aV (NoP.blk (NoP.seq (NoP.seq (NoP.blk aP)))) (by kernel_rfl) ?_))
   refine TD.run aj [0,1] Z Z (TD.q Z .u (AH 0 Z DO Z Z) Z (TD.run aj [3] Z Z (TD.q Z .u (AH 4 Z Dc Z Z) Z (TD.run aj [5] Z Z (TD.q Z .u (AH 0 Z Dc Z Z) Z ?_)))))
   obtain⟨st22,hx23,h⟩:=C5 h
   refine B6 Z .u (.fn Tryz.call71 Z) (bL g st19 a1.C1 4 _ hx23) (fun _ hs=>(Src.triv _)) Z [0,0,0,0,0] (Z) (TD.nil (AZ (X.seq (T.region Z (TL.q Z .u (Ex.add Z Z (by omega)) Z (TL.run aj [1] Z Z (TL.nil (Bv [0,1,1,1,1] Z (BO (TW.step (T.seq (T.region Z (TL.run aj [0] Z Z ?_)))))))))))))
   refine TL.nil (X.seq (T.seq (AN rfl (C6 (show 2<13 by omega)) (T.skip (X.seq (T.seq (T.block (T.seq (T.region rfl (TL.q rfl .u (BD (k:=2) (r:=4) rfl rfl rfl Dq Dg (by decide) rfl) rfl (TL.q rfl .u (AY (us := [.pointer (some ⟨b1,2,none⟩),jI 4]) 1 rfl DN Dg rfl rfl rfl) rfl (TL.alloc rfl .u Tryz.zeroValue203 rfl (fun b24=>(A9 (cs':= #[.pointer (some ⟨b1,2,none⟩),jI 4]) rfl .u rfl rfl Dg rfl rfl rfl rfl ?_))))))))))))))
   refine TL.nil (X.seq (Bd (.q 0 (.q 1 (.q 2 (.q 3 (.q 4 (.q 5 (.q 6 (.e 7 .nil)))))))) [0,0,0,0,0] Z aV (NoP.blk (NoP.seq (NoP.seq (NoP.blk aP)))) (by kernel_rfl) ?_))
   refine TD.run aj [0,1] Z Z (TD.q Z .u (AH 0 Z DO Z Z) Z (TD.run aj [3] Z Z (TD.q Z .u (AH 4 Z Dc Z Z) Z (TD.run aj [5] Z Z (TD.q Z .u (AH 0 Z Dc Z Z) Z ?_)))))
   obtain⟨st25,hx26,h⟩:=C5 h
   refine B6 Z .u (.fn Tryz.call71 Z) (bL g st22 a1.CI 4 _ hx26) (fun _ hs=>(Src.triv _)) Z [0,0,0,0,0] (Z) (TD.nil (AZ (X.seq (T.region Z (TL.q Z .u (Ex.add Z Z (by omega)) Z (TL.run aj [1] Z Z (TL.nil (Bv [0,1,1,1,1] Z (BO (TW.step (T.seq (T.region Z (TL.run aj [0] Z Z ?_)))))))))))))
   refine TL.nil (X.seq (T.seq (AN rfl (C6 (show 3<13 by omega)) (T.skip (X.seq (T.seq (T.block (T.seq (T.region rfl (TL.q rfl .u (BD (k:=3) (r:=6) rfl rfl rfl Dq Dg (by decide) rfl) rfl (TL.q rfl .u (AY (us := [jP b2,jI 1]) 1 rfl DN Dg rfl rfl rfl) rfl (TL.alloc rfl .u Tryz.zeroValue203 rfl (fun b27=>(A9 (cs':= #[jP b2,jI 1]) rfl .u rfl rfl Dg rfl rfl rfl rfl ?_))))))))))))))
   refine TL.nil (X.seq (Bd (.q 0 (.q 1 (.q 2 (.q 3 (.q 4 (.q 5 (.q 6 (.e 7 .nil)))))))) [0,0,0,0,0] Z aV (NoP.blk (NoP.seq (NoP.seq (NoP.blk aP)))) (by kernel_rfl) ?_))
   refine TD.run aj [0,1] Z Z (TD.q Z .u (AH 0 Z DO Z Z) Z (TD.run aj [3] Z Z (TD.q Z .u (AH 3 Z Dc Z Z) Z (TD.run aj [5] Z Z (TD.q Z .u (AH 0 Z Dc Z Z) Z ?_)))))
   obtain⟨st28,hx29,h⟩:=C5 h
   refine B6 Z .u (.fn Tryz.call71 Z) (bL g st25 2 1 _ hx29) (fun _ hs=>(Src.triv _)) Z [0,0,0,0,0] (Z) (TD.nil (AZ (X.seq (T.region Z (TL.q Z .u (Ex.add Z Z (by omega)) Z (TL.run aj [1] Z Z (TL.nil (Bv [0,1,1,1,1] Z (BO (TW.step (T.seq (T.region Z (TL.run aj [0] Z Z ?_)))))))))))))
   refine TL.nil (X.seq (T.seq (AN rfl (C6 (show 4<13 by omega)) (T.skip (X.seq (T.seq (T.block (T.seq (T.region rfl (TL.q rfl .u (BD (k:=4) (r:=8) rfl rfl rfl Dq Dg (by decide) rfl) rfl (TL.q rfl .u (AY (us := [.pointer (some ⟨b1,3,none⟩),jI 4]) 1 rfl DN Dg rfl rfl rfl) rfl (TL.alloc rfl .u Tryz.zeroValue203 rfl (fun b30=>(A9 (cs':= #[.pointer (some ⟨b1,3,none⟩),jI 4]) rfl .u rfl rfl Dg rfl rfl rfl rfl ?_))))))))))))))
   refine TL.nil (X.seq (Bd (.q 0 (.q 1 (.q 2 (.q 3 (.q 4 (.q 5 (.q 6 (.e 7 .nil)))))))) [0,0,0,0,0] Z aV (NoP.blk (NoP.seq (NoP.seq (NoP.blk aP)))) (by kernel_rfl) ?_))
   refine TD.run aj [0,1] Z Z (TD.q Z .u (AH 0 Z DO Z Z) Z (TD.run aj [3] Z Z (TD.q Z .u (AH 4 Z Dc Z Z) Z (TD.run aj [5] Z Z (TD.q Z .u (AH 0 Z Dc Z Z) Z ?_)))))
   obtain⟨st31,hx32,h⟩:=C5 h
   refine B6 Z .u (.fn Tryz.call71 Z) (bL g st28 (IntKind.i32.wrap (IntKind.u32.wrap a1.C3)) 4 _ hx32) (fun _ hs=>(Src.triv _)) Z [0,0,0,0,0] (Z) (TD.nil (AZ (X.seq (T.region Z (TL.q Z .u (Ex.add Z Z (by omega)) Z (TL.run aj [1] Z Z (TL.nil (Bv [0,1,1,1,1] Z (BO (TW.step (T.seq (T.region Z (TL.run aj [0] Z Z ?_)))))))))))))
   refine TL.nil (X.seq (T.seq (AN rfl (C6 (show 5<13 by omega)) (T.skip (X.seq (T.seq (T.block (T.seq (T.region rfl (TL.q rfl .u (BD (k:=5) (r:=10) rfl rfl rfl Dq Dg (by decide) rfl) rfl (TL.q rfl .u (AY (us := [.pointer (some ⟨b1,4,none⟩),jI 2]) 1 rfl DN Dg rfl rfl rfl) rfl (TL.alloc rfl .u Tryz.zeroValue203 rfl (fun b33=>(A9 (cs':= #[.pointer (some ⟨b1,4,none⟩),jI 2]) rfl .u rfl rfl Dg rfl rfl rfl rfl ?_))))))))))))))
   refine TL.nil (X.seq (Bd (.q 0 (.q 1 (.q 2 (.q 3 (.q 4 (.q 5 (.q 6 (.e 7 .nil)))))))) [0,0,0,0,0] Z aV (NoP.blk (NoP.seq (NoP.seq (NoP.blk aP)))) (by kernel_rfl) ?_))
   refine TD.run aj [0,1] Z Z (TD.q Z .u (AH 0 Z DO Z Z) Z (TD.run aj [3] Z Z (TD.q Z .u (AH 4 Z Dc Z Z) Z (TD.run aj [5] Z Z (TD.q Z .u (AH 0 Z Dc Z Z) Z ?_)))))
   obtain⟨st34,hx35,h⟩:=C5 h
   refine B6 Z .u (.fn Tryz.call71 Z) (bL g st31 a1.C4 2 _ hx35) (fun _ hs=>(Src.triv _)) Z [0,0,0,0,0] (Z) (TD.nil (AZ (X.seq (T.region Z (TL.q Z .u (Ex.add Z Z (by omega)) Z (TL.run aj [1] Z Z (TL.nil (Bv [0,1,1,1,1] Z (BO (TW.step (T.seq (T.region Z (TL.run aj [0] Z Z ?_)))))))))))))
   refine TL.nil (X.seq (T.seq (AN rfl (C6 (show 6<13 by omega)) (T.skip (X.seq (T.seq (T.block (T.seq (T.region rfl (TL.q rfl .u (BD (k:=6) (r:=12) rfl rfl rfl Dq Dg (by decide) rfl) rfl (TL.q rfl .u (AY (us := [.pointer (some ⟨b1,5,none⟩),jI 4]) 1 rfl DN Dg rfl rfl rfl) rfl (TL.alloc rfl .u Tryz.zeroValue203 rfl (fun b36=>(A9 (cs':= #[.pointer (some ⟨b1,5,none⟩),jI 4]) rfl .u rfl rfl Dg rfl rfl rfl rfl ?_))))))))))))))
   refine TL.nil (X.seq (Bd (.q 0 (.q 1 (.q 2 (.q 3 (.q 4 (.q 5 (.q 6 (.e 7 .nil)))))))) [0,0,0,0,0] Z aV (NoP.blk (NoP.seq (NoP.seq (NoP.blk aP)))) (by kernel_rfl) ?_))
   refine TD.run aj [0,1] Z Z (TD.q Z .u (AH 0 Z DO Z Z) Z (TD.run aj [3] Z Z (TD.q Z .u (AH 4 Z Dc Z Z) Z (TD.run aj [5] Z Z (TD.q Z .u (AH 0 Z Dc Z Z) Z ?_)))))
   obtain⟨st37,hx38,h⟩:=C5 h
   refine B6 Z .u (.fn Tryz.call71 Z) (bL g st34 a1.CN 4 _ hx38) (fun _ hs=>(Src.triv _)) Z [0,0,0,0,0] (Z) (TD.nil (AZ (X.seq (T.region Z (TL.q Z .u (Ex.add Z Z (by omega)) Z (TL.run aj [1] Z Z (TL.nil (Bv [0,1,1,1,1] Z (BO (TW.step (T.seq (T.region Z (TL.run aj [0] Z Z ?_)))))))))))))
   refine TL.nil (X.seq (T.seq (AN rfl (C6 (show 7<13 by omega)) (T.skip (X.seq (T.seq (T.block (T.seq (T.region rfl (TL.q rfl .u (BD (k:=7) (r:=14) rfl rfl rfl Dq Dg (by decide) rfl) rfl (TL.q rfl .u (AY (us := [.pointer (some ⟨b1,6,none⟩),jI 8]) 1 rfl DN Dg rfl rfl rfl) rfl (TL.alloc rfl .u Tryz.zeroValue203 rfl (fun b39=>(A9 (cs':= #[.pointer (some ⟨b1,6,none⟩),jI 8]) rfl .u rfl rfl Dg rfl rfl rfl rfl ?_))))))))))))))
   refine TL.nil (X.seq (Bd (.q 0 (.q 1 (.q 2 (.q 3 (.q 4 (.q 5 (.q 6 (.e 7 .nil)))))))) [0,0,0,0,0] Z aV (NoP.blk (NoP.seq (NoP.seq (NoP.blk aP)))) (by kernel_rfl) ?_))
   refine TD.run aj [0,1] Z Z (TD.q Z .u (AH 0 Z DO Z Z) Z (TD.run aj [3] Z Z (TD.q Z .u (AH 4 Z Dc Z Z) Z (TD.run aj [5] Z Z (TD.q Z .u (AH 0 Z Dc Z Z) Z ?_)))))
   obtain⟨st40,hx41,h⟩:=C5 h
   refine B6 Z .u (.fn Tryz.call71 Z) (bL g st37 a1.CH 8 _ hx41) (fun _ hs=>(Src.triv _)) Z [0,0,0,0,0] (Z) (TD.nil (AZ (X.seq (T.region Z (TL.q Z .u (Ex.add Z Z (by omega)) Z (TL.run aj [1] Z Z (TL.nil (Bv [0,1,1,1,1] Z (BO (TW.step (T.seq (T.region Z (TL.run aj [0] Z Z ?_)))))))))))))
   refine TL.nil (X.seq (T.seq (AN rfl (C6 (show 8<13 by omega)) (T.skip (X.seq (T.seq (T.block (T.seq (T.region rfl (TL.q rfl .u (BD (k:=8) (r:=16) rfl rfl rfl Dq Dg (by decide) rfl) rfl (TL.q rfl .u (AY (us := [.pointer (some ⟨b1,7,none⟩),jI 8]) 1 rfl DN Dg rfl rfl rfl) rfl (TL.alloc rfl .u Tryz.zeroValue203 rfl (fun b42=>(A9 (cs':= #[.pointer (some ⟨b1,7,none⟩),jI 8]) rfl .u rfl rfl Dg rfl rfl rfl rfl ?_))))))))))))))
   refine TL.nil (X.seq (Bd (.q 0 (.q 1 (.q 2 (.q 3 (.q 4 (.q 5 (.q 6 (.e 7 .nil)))))))) [0,0,0,0,0] Z aV (NoP.blk (NoP.seq (NoP.seq (NoP.blk aP)))) (by kernel_rfl) ?_))
   refine TD.run aj [0,1] Z Z (TD.q Z .u (AH 0 Z DO Z Z) Z (TD.run aj [3] Z Z (TD.q Z .u (AH 4 Z Dc Z Z) Z (TD.run aj [5] Z Z (TD.q Z .u (AH 0 Z Dc Z Z) Z ?_)))))
   obtain⟨st43,hx44,h⟩:=C5 h
   refine B6 Z .u (.fn Tryz.call71 Z) (bL g st40 a1.CW 8 _ hx44) (fun _ hs=>(Src.triv _)) Z [0,0,0,0,0] (Z) (TD.nil (AZ (X.seq (T.region Z (TL.q Z .u (Ex.add Z Z (by omega)) Z (TL.run aj [1] Z Z (TL.nil (Bv [0,1,1,1,1] Z (BO (TW.step (T.seq (T.region Z (TL.run aj [0] Z Z ?_)))))))))))))
   refine TL.nil (X.seq (T.seq (AN rfl (C6 (show 9<13 by omega)) (T.skip (X.seq (T.seq (T.block (T.seq (T.region rfl (TL.q rfl .u (BD (k:=9) (r:=18) rfl rfl rfl Dq Dg (by decide) rfl) rfl (TL.q rfl .u (AY (us := [.pointer (some ⟨b1,8,none⟩),jI 8]) 1 rfl DN Dg rfl rfl rfl) rfl (TL.alloc rfl .u Tryz.zeroValue203 rfl (fun b45=>(A9 (cs':= #[.pointer (some ⟨b1,8,none⟩),jI 8]) rfl .u rfl rfl Dg rfl rfl rfl rfl ?_))))))))))))))
   refine TL.nil (X.seq (Bd (.q 0 (.q 1 (.q 2 (.q 3 (.q 4 (.q 5 (.q 6 (.e 7 .nil)))))))) [0,0,0,0,0] Z aV (NoP.blk (NoP.seq (NoP.seq (NoP.blk aP)))) (by kernel_rfl) ?_))
   refine TD.run aj [0,1] Z Z (TD.q Z .u (AH 0 Z DO Z Z) Z (TD.run aj [3] Z Z (TD.q Z .u (AH 4 Z Dc Z Z) Z (TD.run aj [5] Z Z (TD.q Z .u (AH 0 Z Dc Z Z) Z ?_)))))
   obtain⟨st46,hx47,h⟩:=C5 h
   refine B6 Z .u (.fn Tryz.call71 Z) (bL g st43 a1.CE 8 _ hx47) (fun _ hs=>(Src.triv _)) Z [0,0,0,0,0] (Z) (TD.nil (AZ (X.seq (T.region Z (TL.q Z .u (Ex.add Z Z (by omega)) Z (TL.run aj [1] Z Z (TL.nil (Bv [0,1,1,1,1] Z (BO (TW.step (T.seq (T.region Z (TL.run aj [0] Z Z ?_)))))))))))))
   refine TL.nil (X.seq (T.seq (AN rfl (C6 (show 10<13 by omega)) (T.skip (X.seq (T.seq (T.block (T.seq (T.region rfl (TL.q rfl .u (BD (k:=10) (r:=20) rfl rfl rfl Dq Dg (by decide) rfl) rfl (TL.q rfl .u (AY (us := [.pointer (some ⟨b1,9,none⟩),jI 2]) 1 rfl DN Dg rfl rfl rfl) rfl (TL.alloc rfl .u Tryz.zeroValue203 rfl (fun b48=>(A9 (cs':= #[.pointer (some ⟨b1,9,none⟩),jI 2]) rfl .u rfl rfl Dg rfl rfl rfl rfl ?_))))))))))))))
   refine TL.nil (X.seq (Bd (.q 0 (.q 1 (.q 2 (.q 3 (.q 4 (.q 5 (.q 6 (.e 7 .nil)))))))) [0,0,0,0,0] Z aV (NoP.blk (NoP.seq (NoP.seq (NoP.blk aP)))) (by kernel_rfl) ?_))
   refine TD.run aj [0,1] Z Z (TD.q Z .u (AH 0 Z DO Z Z) Z (TD.run aj [3] Z Z (TD.q Z .u (AH 4 Z Dc Z Z) Z (TD.run aj [5] Z Z (TD.q Z .u (AH 0 Z Dc Z Z) Z ?_)))))
   obtain⟨st49,hx50,h⟩:=C5 h
   refine B6 Z .u (.fn Tryz.call71 Z) (bL g st46 a1.CK 2 _ hx50) (fun _ hs=>(Src.triv _)) Z [0,0,0,0,0] (Z) (TD.nil (AZ (X.seq (T.region Z (TL.q Z .u (Ex.add Z Z (by omega)) Z (TL.run aj [1] Z Z (TL.nil (Bv [0,1,1,1,1] Z (BO (TW.step (T.seq (T.region Z (TL.run aj [0] Z Z ?_)))))))))))))
   refine TL.nil (X.seq (T.seq (AN rfl (C6 (show 11<13 by omega)) (T.skip (X.seq (T.seq (T.block (T.seq (T.region rfl (TL.q rfl .u (BD (k:=11) (r:=22) rfl rfl rfl Dq Dg (by decide) rfl) rfl (TL.q rfl .u (AY (us := [.pointer (some ⟨b1,10,none⟩),jI 4]) 1 rfl DN Dg rfl rfl rfl) rfl (TL.alloc rfl .u Tryz.zeroValue203 rfl (fun b51=>(A9 (cs':= #[.pointer (some ⟨b1,10,none⟩),jI 4]) rfl .u rfl rfl Dg rfl rfl rfl rfl ?_))))))))))))))
   refine TL.nil (X.seq (Bd (.q 0 (.q 1 (.q 2 (.q 3 (.q 4 (.q 5 (.q 6 (.e 7 .nil)))))))) [0,0,0,0,0] Z aV (NoP.blk (NoP.seq (NoP.seq (NoP.blk aP)))) (by kernel_rfl) ?_))
   refine TD.run aj [0,1] Z Z (TD.q Z .u (AH 0 Z DO Z Z) Z (TD.run aj [3] Z Z (TD.q Z .u (AH 4 Z Dc Z Z) Z (TD.run aj [5] Z Z (TD.q Z .u (AH 0 Z Dc Z Z) Z ?_)))))
   obtain⟨st52,hx53,h⟩:=C5 h
   refine B6 Z .u (.fn Tryz.call71 Z) (bL g st49 a1.CD 4 _ hx53) (fun _ hs=>(Src.triv _)) Z [0,0,0,0,0] (Z) (TD.nil (AZ (X.seq (T.region Z (TL.q Z .u (Ex.add Z Z (by omega)) Z (TL.run aj [1] Z Z (TL.nil (Bv [0,1,1,1,1] Z (BO (TW.step (T.seq (T.region Z (TL.run aj [0] Z Z ?_)))))))))))))
   refine TL.nil (X.seq (T.seq (AN rfl (C6 (show 12<13 by omega)) (T.skip (X.seq (T.seq (T.block (T.seq (T.region rfl (TL.q rfl .u (BD (k:=12) (r:=24) rfl rfl rfl Dq Dg (by decide) rfl) rfl (TL.q rfl .u (AY (us := [.pointer (some ⟨b1,11,none⟩),jI 4]) 1 rfl DN Dg rfl rfl rfl) rfl (TL.alloc rfl .u Tryz.zeroValue203 rfl (fun b54=>(A9 (cs':= #[.pointer (some ⟨b1,11,none⟩),jI 4]) rfl .u rfl rfl Dg rfl rfl rfl rfl ?_))))))))))))))
   refine TL.nil (X.seq (Bd (.q 0 (.q 1 (.q 2 (.q 3 (.q 4 (.q 5 (.q 6 (.e 7 .nil)))))))) [0,0,0,0,0] Z aV (NoP.blk (NoP.seq (NoP.seq (NoP.blk aP)))) (by kernel_rfl) ?_))
   refine TD.run aj [0,1] Z Z (TD.q Z .u (AH 0 Z DO Z Z) Z (TD.run aj [3] Z Z (TD.q Z .u (AH 4 Z Dc Z Z) Z (TD.run aj [5] Z Z (TD.q Z .u (AH 0 Z Dc Z Z) Z ?_)))))
   obtain⟨st55,hx56,h⟩:=C5 h
   refine B6 Z .u (.fn Tryz.call71 Z) (bL g st52 a1.C2 4 _ hx56) (fun _ hs=>(Src.triv _)) Z [0,0,0,0,0] (Z) (TD.nil (AZ (X.seq (T.region Z (TL.q Z .u (Ex.add Z Z (by omega)) Z (TL.run aj [1] Z Z (TL.nil (Bv [0,1,1,1,1] Z (BO (TW.step (T.seq (T.region Z (TL.run aj [0] Z Z ?_)))))))))))))
   refine TL.nil (X.seq (T.seq (AS rfl (C7 (show ¬ (13<13) by omega)) ?_)))
   obtain rfl:=C8 h
   exact T.exit (AV (AV (Bh (B5 [4] Tryz.results98 ⟨Z,Z,Z⟩ (by rfl) (.inr Z)))))
def gY (st:I)  : Option (Pfx×I):=(fM st 8).bind fun (x6,st7)=>(fM st7 4).bind fun (x10,st11)=>(fM st11 4).bind fun (x14,st15)=>(fM st15 1).bind fun (x18,st19)=>(fM st19 4).bind fun (x22,st23)=>(fM st23 2).bind fun (x26,st27)=>(fM st27 4).bind fun (x30,st31)=>(fM st31 8).bind fun (x34,st35)=>(fM st35 8).bind fun (x38,st39)=>(fM st39 8).bind fun (x42,st43)=>(fM st43 2).bind fun (x46,st47)=>(fM st47 4).bind fun (x50,st51)=>(fM st51 4).bind fun (x54,st55)=>(iY st55).bind fun (x57,st58)=>(if x57=0 then ((if x18=2 then ((if x10<49 then ((bD st58 4).bind fun st164=>some st164) else ((if x54<0 then ((bD st58 10).bind fun st172=>some st172) else some st58).bind fun st169=>some st169)).bind fun st161=>some st161) else ((bD st58 6).bind fun st174=>some st174)).bind fun st147=>some st147) else some st58).bind fun st117=>(iY st117).bind fun (x176,st177)=>if x176=0 then (some ((⟨x6,x10,x14,(Go.bits .and .i64 x22 4294967295),x26,x30,x34,x38,x42,x46,x50,x54⟩:Pfx),st177)) else (some ((⟨0,0,0,0,0,0,0,0,0,0,0,0⟩:Pfx),st177))
theorem mB (g:Nat) (st:I)  (r:Pfx×I) (h:gY st  = some r):aA Tryz.prog 108 #[jP g] .triv (InR g st) (fun v A' N=>v= .agg #[jI r.1.CP,jI r.1.C1,jI r.1.CI,jI r.1.C3,jI r.1.C4,jI r.1.CN,jI r.1.CH,jI r.1.CW,jI r.1.CE,jI r.1.CK,jI r.1.CD,jI r.1.C2]∧A'=InR g r.2∧N = []):=by
 refine aM Tryz.func108 Z Tryz.ntmps108 Z ?_
 intro F w hX
 unfold gY at h
 refine T.seq (T.region Z (TL.alloc Z .u Tryz.zeroValue160 Z (fun b1=>(TL.nil (X.seq (T.seq (T.region Z (TL.alloc Z .u Tryz.zeroValue160 Z (fun b2=>(TL.nil (X.seq (T.seq (T.region Z (TL.alloc Z .u Tryz.zeroValue3 Z (fun b3=>(A9 (cs':= #[jI 0]) Z .u Z Z De Z Z Z Z (TL.nil (X.seq (T.seq (T.seq (T.region Z ?_)))))))))))))))))))))
 refine B0 Z .u (.fn Tryz.call141 Z) (fm b2 b3 () Z) (fun _ hs=>AQ _ _) Z ?_
 rintro _ _ _ ⟨b4,rfl,rfl,rfl⟩
 refine Bp [0,0,0,0,0] rfl (TL.q rfl .u (AW rfl Dq) rfl (TL.run aj [2] rfl rfl (TL.nil (X.seq (T.block (T.unroll0 (TW.step (T.seq (T.region rfl (TL.run aj [0] rfl rfl (TL.nil (X.seq (T.seq (AN rfl (C6 (show 0<13 by omega)) ?_))))))))))))))
 refine T.skip (X.seq (T.seq (T.block (T.seq (T.region Z (TL.q Z .u (BD (k:=0) (r:=0) Z Z Z Dq Dg (by decide) Z) Z (TL.q Z .u (AY (us := [jP b2,jI 8]) 0 Z DN Dg Z Z Z) Z (TL.alloc Z .u Tryz.zeroValue203 Z (fun b5=>(A9 (cs':= #[jP b2,jI 8]) Z .u Z Z Dg Z Z Z Z ?_))))))))))
 refine TL.nil (X.seq (Bd (.q 0 (.q 1 (.q 2 (.q 3 (.q 4 (.e 5 (.q 6 (.e 7 .nil)))))))) [0,0,0,1] Z aV (NoP.blk (NoP.seq (NoP.seq (NoP.blk (NoP.seq aP))))) (by kernel_rfl) ?_))
 refine TD.run aj [0] Z Z (TD.q Z .u (AH 0 Z DO Z Z) Z (TD.run aj [2,3] Z Z (TD.q Z .u (AH 0 Z Dc Z Z) Z ?_)))
 obtain⟨⟨x6,st7⟩,hx8,h⟩:=C5 h
 try dsimp only at h
 refine B6 Z .u (.fn Tryz.call57 Z) (bR g st 8 _ hx8) (fun _ hs=>(Src.triv _)) Z [0,0,0,1] (Z) (TD.run aj [6] Z Z (Co (cs':= #[jI x6,jI 0,jI 0,jI 0,jI 0,jI 0,jI 0,jI 0,jI 0,jI 0,jI 0,jI 0]) Z .u Z Z De Z Z Z Z [0,0,0,1] (Z) (TD.nil (AZ (X.seq (T.region Z (TL.q Z .u (Ex.add Z Z (by omega)) Z (TL.run aj [1] Z Z (TL.nil (BO (TW.step (T.seq (T.region Z (TL.run aj [0] Z Z ?_))))))))))))))
 refine TL.nil (X.seq (T.seq (AN rfl (C6 (show 1<13 by omega)) (T.skip (X.seq (T.seq (T.block (T.seq (T.region rfl (TL.q rfl .u (BD (k:=1) (r:=2) rfl rfl rfl Dq Dg (by decide) rfl) rfl (TL.q rfl .u (AY (us := [.pointer (some ⟨b2,1,none⟩),jI 4]) 1 rfl DN Dg rfl rfl rfl) rfl (TL.alloc rfl .u Tryz.zeroValue203 rfl (fun b9=>(A9 (cs':= #[.pointer (some ⟨b2,1,none⟩),jI 4]) rfl .u rfl rfl Dg rfl rfl rfl rfl ?_))))))))))))))
 refine TL.nil (X.seq (Bd (.q 0 (.q 1 (.q 2 (.q 3 (.q 4 (.e 5 (.q 6 (.e 7 .nil)))))))) [0,0,0,0,1] Z aV (NoP.blk (NoP.seq (NoP.seq (NoP.blk (NoP.seq aP))))) (by kernel_rfl) ?_))
 refine TD.run aj [0] Z Z (TD.q Z .u (AH 0 Z DO Z Z) Z (TD.run aj [2,3] Z Z (TD.q Z .u (AH 0 Z Dc Z Z) Z ?_)))
 obtain⟨⟨x10,st11⟩,hx12,h⟩:=C5 h
 try dsimp only at h
 refine Cc Z .u (.fn Tryz.call57 Z) (bR g st7 4 _ hx12) (fun _ hs=>(Src.triv _)) Z [0,0,0,0,1] (Z) (TD.run aj [6] Z Z (BZ (cs':= #[jI x6,jI x10,jI 0,jI 0,jI 0,jI 0,jI 0,jI 0,jI 0,jI 0,jI 0,jI 0]) Z .u Z Z De Z Z Z Z [0,0,0,0,1] (Z) (TD.nil (AZ (X.seq (T.region Z (TL.q Z .u (Ex.add Z Z (by omega)) Z (TL.run aj [1] Z Z (TL.nil (Bv [0,1,1,1,1,1] Z ?_))))))))))
 refine BO (TW.step (T.seq (T.region rfl (TL.run aj [0] rfl rfl (TL.nil (X.seq (T.seq (AN rfl (C6 (show 2<13 by omega)) (T.skip (X.seq (T.seq (T.block (T.seq (T.region rfl (TL.q rfl .u (BD (k:=2) (r:=4) rfl rfl rfl Dq Dg (by decide) rfl) rfl (TL.q rfl .u (AY (us := [.pointer (some ⟨b2,2,none⟩),jI 4]) 1 rfl DN Dg rfl rfl rfl) rfl (TL.alloc rfl .u Tryz.zeroValue203 rfl (fun b13=> ?_))))))))))))))))))
 refine A9 (cs':= #[.pointer (some ⟨b2,2,none⟩),jI 4]) Z .u Z Z Dg Z Z Z Z ?_
 refine TL.nil (X.seq (Bd (.q 0 (.q 1 (.q 2 (.q 3 (.q 4 (.e 5 (.q 6 (.e 7 .nil)))))))) [0,0,0,0,1] Z aV (NoP.blk (NoP.seq (NoP.seq (NoP.blk (NoP.seq aP))))) (by kernel_rfl) ?_))
 refine TD.run aj [0] Z Z (TD.q Z .u (AH 0 Z DO Z Z) Z (TD.run aj [2,3] Z Z (TD.q Z .u (AH 0 Z Dc Z Z) Z ?_)))
 obtain⟨⟨x14,st15⟩,hx16,h⟩:=C5 h
 try dsimp only at h
 refine Cc Z .u (.fn Tryz.call57 Z) (bR g st11 4 _ hx16) (fun _ hs=>(Src.triv _)) Z [0,0,0,0,1] (Z) (TD.run aj [6] Z Z (BZ (cs':= #[jI x6,jI x10,jI x14,jI 0,jI 0,jI 0,jI 0,jI 0,jI 0,jI 0,jI 0,jI 0]) Z .u Z Z De Z Z Z Z [0,0,0,0,1] (Z) (TD.nil (AZ (X.seq (T.region Z (TL.q Z .u (Ex.add Z Z (by omega)) Z (TL.run aj [1] Z Z (TL.nil (Bv [0,1,1,1,1,1] Z ?_))))))))))
 refine BO (TW.step (T.seq (T.region rfl (TL.run aj [0] rfl rfl (TL.nil (X.seq (T.seq (AN rfl (C6 (show 3<13 by omega)) (T.skip (X.seq (T.seq (T.block (T.seq (T.region rfl (TL.q rfl .u (BD (k:=3) (r:=6) rfl rfl rfl Dq Dg (by decide) rfl) rfl (TL.q rfl .u (AY (us := [jP b3,jI 1]) 1 rfl DN Dg rfl rfl rfl) rfl (TL.alloc rfl .u Tryz.zeroValue203 rfl (fun b17=> ?_))))))))))))))))))
 refine A9 (cs':= #[jP b3,jI 1]) Z .u Z Z Dg Z Z Z Z ?_
 refine TL.nil (X.seq (Bd (.q 0 (.q 1 (.q 2 (.q 3 (.q 4 (.e 5 (.q 6 (.e 7 .nil)))))))) [0,0,0,1,1] Z aV (NoP.blk (NoP.seq (NoP.seq (NoP.blk (NoP.seq aP))))) (by kernel_rfl) ?_))
 refine TD.run aj [0] Z Z (TD.q Z .u (AH 0 Z DO Z Z) Z (TD.run aj [2,3] Z Z (TD.q Z .u (AH 0 Z Dc Z Z) Z ?_)))
 obtain⟨⟨x18,st19⟩,hx20,h⟩:=C5 h
 try dsimp only at h
 refine Cc Z .u (.fn Tryz.call57 Z) (bR g st15 1 _ hx20) (fun _ hs=>(Src.triv _)) Z [0,0,0,1,1] (Z) (TD.run aj [6] Z Z (Co (cs':= #[jI x18]) Z .u Z Z De Z Z Z Z [0,0,0,1,1] (Z) (TD.nil (AZ (X.seq (T.region Z (TL.q Z .u (Ex.add Z Z (by omega)) Z (TL.run aj [1] Z Z (TL.nil (Bv [0,1,1,1,1,1] Z ?_))))))))))
 refine BO (TW.step (T.seq (T.region rfl (TL.run aj [0] rfl rfl (TL.nil (X.seq (T.seq (AN rfl (C6 (show 4<13 by omega)) (T.skip (X.seq (T.seq (T.block (T.seq (T.region rfl (TL.q rfl .u (BD (k:=4) (r:=8) rfl rfl rfl Dq Dg (by decide) rfl) rfl (TL.q rfl .u (AY (us := [.pointer (some ⟨b2,3,none⟩),jI 4]) 1 rfl DN Dg rfl rfl rfl) rfl (TL.alloc rfl .u Tryz.zeroValue203 rfl (fun b21=> ?_))))))))))))))))))
 refine A9 (cs':= #[.pointer (some ⟨b2,3,none⟩),jI 4]) Z .u Z Z Dg Z Z Z Z ?_
 refine TL.nil (X.seq (Bd (.q 0 (.q 1 (.q 2 (.q 3 (.q 4 (.e 5 (.q 6 (.e 7 .nil)))))))) [0,0,0,0,1] Z aV (NoP.blk (NoP.seq (NoP.seq (NoP.blk (NoP.seq aP))))) (by kernel_rfl) ?_))
 refine TD.run aj [0] Z Z (TD.q Z .u (AH 0 Z DO Z Z) Z (TD.run aj [2,3] Z Z (TD.q Z .u (AH 0 Z Dc Z Z) Z ?_)))
 obtain⟨⟨x22,st23⟩,hx24,h⟩:=C5 h
 try dsimp only at h
 refine Cc Z .u (.fn Tryz.call57 Z) (bR g st19 4 _ hx24) (fun _ hs=>(Src.triv _)) Z [0,0,0,0,1] (Z) (TD.run aj [6] Z Z (BZ (cs':= #[jI x6,jI x10,jI x14,jI x22,jI 0,jI 0,jI 0,jI 0,jI 0,jI 0,jI 0,jI 0]) Z .u Z Z De Z Z Z Z [0,0,0,0,1] (Z) (TD.nil (AZ (X.seq (T.region Z (TL.q Z .u (Ex.add Z Z (by omega)) Z (TL.run aj [1] Z Z (TL.nil (Bv [0,1,1,1,1,1] Z ?_))))))))))
 refine BO (TW.step (T.seq (T.region rfl (TL.run aj [0] rfl rfl (TL.nil (X.seq (T.seq (AN rfl (C6 (show 5<13 by omega)) (T.skip (X.seq (T.seq (T.block (T.seq (T.region rfl (TL.q rfl .u (BD (k:=5) (r:=10) rfl rfl rfl Dq Dg (by decide) rfl) rfl (TL.q rfl .u (AY (us := [.pointer (some ⟨b2,4,none⟩),jI 2]) 1 rfl DN Dg rfl rfl rfl) rfl (TL.alloc rfl .u Tryz.zeroValue203 rfl (fun b25=> ?_))))))))))))))))))
 refine A9 (cs':= #[.pointer (some ⟨b2,4,none⟩),jI 2]) Z .u Z Z Dg Z Z Z Z ?_
 refine TL.nil (X.seq (Bd (.q 0 (.q 1 (.q 2 (.q 3 (.q 4 (.e 5 (.q 6 (.e 7 .nil)))))))) [0,0,0,0,1] Z aV (NoP.blk (NoP.seq (NoP.seq (NoP.blk (NoP.seq aP))))) (by kernel_rfl) ?_))
 refine TD.run aj [0] Z Z (TD.q Z .u (AH 0 Z DO Z Z) Z (TD.run aj [2,3] Z Z (TD.q Z .u (AH 0 Z Dc Z Z) Z ?_)))
 obtain⟨⟨x26,st27⟩,hx28,h⟩:=C5 h
 try dsimp only at h
 refine Cc Z .u (.fn Tryz.call57 Z) (bR g st23 2 _ hx28) (fun _ hs=>(Src.triv _)) Z [0,0,0,0,1] (Z) (TD.run aj [6] Z Z (BZ (cs':= #[jI x6,jI x10,jI x14,jI x22,jI x26,jI 0,jI 0,jI 0,jI 0,jI 0,jI 0,jI 0]) Z .u Z Z De Z Z Z Z [0,0,0,0,1] (Z) (TD.nil (AZ (X.seq (T.region Z (TL.q Z .u (Ex.add Z Z (by omega)) Z (TL.run aj [1] Z Z (TL.nil (Bv [0,1,1,1,1,1] Z ?_))))))))))
 refine BO (TW.step (T.seq (T.region rfl (TL.run aj [0] rfl rfl (TL.nil (X.seq (T.seq (AN rfl (C6 (show 6<13 by omega)) (T.skip (X.seq (T.seq (T.block (T.seq (T.region rfl (TL.q rfl .u (BD (k:=6) (r:=12) rfl rfl rfl Dq Dg (by decide) rfl) rfl (TL.q rfl .u (AY (us := [.pointer (some ⟨b2,5,none⟩),jI 4]) 1 rfl DN Dg rfl rfl rfl) rfl (TL.alloc rfl .u Tryz.zeroValue203 rfl (fun b29=> ?_))))))))))))))))))
 refine A9 (cs':= #[.pointer (some ⟨b2,5,none⟩),jI 4]) Z .u Z Z Dg Z Z Z Z ?_
 refine TL.nil (X.seq (Bd (.q 0 (.q 1 (.q 2 (.q 3 (.q 4 (.e 5 (.q 6 (.e 7 .nil)))))))) [0,0,0,0,1] Z aV (NoP.blk (NoP.seq (NoP.seq (NoP.blk (NoP.seq aP))))) (by kernel_rfl) ?_))
 refine TD.run aj [0] Z Z (TD.q Z .u (AH 0 Z DO Z Z) Z (TD.run aj [2,3] Z Z (TD.q Z .u (AH 0 Z Dc Z Z) Z ?_)))
 obtain⟨⟨x30,st31⟩,hx32,h⟩:=C5 h
 try dsimp only at h
 refine Cc Z .u (.fn Tryz.call57 Z) (bR g st27 4 _ hx32) (fun _ hs=>(Src.triv _)) Z [0,0,0,0,1] (Z) (TD.run aj [6] Z Z (BZ (cs':= #[jI x6,jI x10,jI x14,jI x22,jI x26,jI x30,jI 0,jI 0,jI 0,jI 0,jI 0,jI 0]) Z .u Z Z De Z Z Z Z [0,0,0,0,1] (Z) (TD.nil (AZ (X.seq (T.region Z (TL.q Z .u (Ex.add Z Z (by omega)) Z (TL.run aj [1] Z Z (TL.nil (Bv [0,1,1,1,1,1] Z ?_))))))))))
 refine BO (TW.step (T.seq (T.region rfl (TL.run aj [0] rfl rfl (TL.nil (X.seq (T.seq (AN rfl (C6 (show 7<13 by omega)) (T.skip (X.seq (T.seq (T.block (T.seq (T.region rfl (TL.q rfl .u (BD (k:=7) (r:=14) rfl rfl rfl Dq Dg (by decide) rfl) rfl (TL.q rfl .u (AY (us := [.pointer (some ⟨b2,6,none⟩),jI 8]) 1 rfl DN Dg rfl rfl rfl) rfl (TL.alloc rfl .u Tryz.zeroValue203 rfl (fun b33=> ?_))))))))))))))))))
 refine A9 (cs':= #[.pointer (some ⟨b2,6,none⟩),jI 8]) Z .u Z Z Dg Z Z Z Z ?_
 refine TL.nil (X.seq (Bd (.q 0 (.q 1 (.q 2 (.q 3 (.q 4 (.e 5 (.q 6 (.e 7 .nil)))))))) [0,0,0,0,1] Z aV (NoP.blk (NoP.seq (NoP.seq (NoP.blk (NoP.seq aP))))) (by kernel_rfl) ?_))
 refine TD.run aj [0] Z Z (TD.q Z .u (AH 0 Z DO Z Z) Z (TD.run aj [2,3] Z Z (TD.q Z .u (AH 0 Z Dc Z Z) Z ?_)))
 obtain⟨⟨x34,st35⟩,hx36,h⟩:=C5 h
 try dsimp only at h
 refine Cc Z .u (.fn Tryz.call57 Z) (bR g st31 8 _ hx36) (fun _ hs=>(Src.triv _)) Z [0,0,0,0,1] (Z) (TD.run aj [6] Z Z (BZ (cs':= #[jI x6,jI x10,jI x14,jI x22,jI x26,jI x30,jI x34,jI 0,jI 0,jI 0,jI 0,jI 0]) Z .u Z Z De Z Z Z Z [0,0,0,0,1] (Z) (TD.nil (AZ (X.seq (T.region Z (TL.q Z .u (Ex.add Z Z (by omega)) Z (TL.run aj [1] Z Z (TL.nil (Bv [0,1,1,1,1,1] Z ?_))))))))))
 refine BO (TW.step (T.seq (T.region rfl (TL.run aj [0] rfl rfl (TL.nil (X.seq (T.seq (AN rfl (C6 (show 8<13 by omega)) (T.skip (X.seq (T.seq (T.block (T.seq (T.region rfl (TL.q rfl .u (BD (k:=8) (r:=16) rfl rfl rfl Dq Dg (by decide) rfl) rfl (TL.q rfl .u (AY (us := [.pointer (some ⟨b2,7,none⟩),jI 8]) 1 rfl DN Dg rfl rfl rfl) rfl (TL.alloc rfl .u Tryz.zeroValue203 rfl (fun b37=> ?_))))))))))))))))))
 refine A9 (cs':= #[.pointer (some ⟨b2,7,none⟩),jI 8]) Z .u Z Z Dg Z Z Z Z ?_
 refine TL.nil (X.seq (Bd (.q 0 (.q 1 (.q 2 (.q 3 (.q 4 (.e 5 (.q 6 (.e 7 .nil)))))))) [0,0,0,0,1] Z aV (NoP.blk (NoP.seq (NoP.seq (NoP.blk (NoP.seq aP))))) (by kernel_rfl) ?_))
 refine TD.run aj [0] Z Z (TD.q Z .u (AH 0 Z DO Z Z) Z (TD.run aj [2,3] Z Z (TD.q Z .u (AH 0 Z Dc Z Z) Z ?_)))
 obtain⟨⟨x38,st39⟩,hx40,h⟩:=C5 h
 try dsimp only at h
 refine Cc Z .u (.fn Tryz.call57 Z) (bR g st35 8 _ hx40) (fun _ hs=>(Src.triv _)) Z [0,0,0,0,1] (Z) (TD.run aj [6] Z Z (BZ (cs':= #[jI x6,jI x10,jI x14,jI x22,jI x26,jI x30,jI x34,jI x38,jI 0,jI 0,jI 0,jI 0]) Z .u Z Z De Z Z Z Z [0,0,0,0,1] (Z) (TD.nil (AZ (X.seq (T.region Z (TL.q Z .u (Ex.add Z Z (by omega)) Z (TL.run aj [1] Z Z (TL.nil (Bv [0,1,1,1,1,1] Z ?_))))))))))
 refine BO (TW.step (T.seq (T.region rfl (TL.run aj [0] rfl rfl (TL.nil (X.seq (T.seq (AN rfl (C6 (show 9<13 by omega)) (T.skip (X.seq (T.seq (T.block (T.seq (T.region rfl (TL.q rfl .u (BD (k:=9) (r:=18) rfl rfl rfl Dq Dg (by decide) rfl) rfl (TL.q rfl .u (AY (us := [.pointer (some ⟨b2,8,none⟩),jI 8]) 1 rfl DN Dg rfl rfl rfl) rfl (TL.alloc rfl .u Tryz.zeroValue203 rfl (fun b41=> ?_))))))))))))))))))
 refine A9 (cs':= #[.pointer (some ⟨b2,8,none⟩),jI 8]) Z .u Z Z Dg Z Z Z Z ?_
 refine TL.nil (X.seq (Bd (.q 0 (.q 1 (.q 2 (.q 3 (.q 4 (.e 5 (.q 6 (.e 7 .nil)))))))) [0,0,0,0,1] Z aV (NoP.blk (NoP.seq (NoP.seq (NoP.blk (NoP.seq aP))))) (by kernel_rfl) ?_))
 refine TD.run aj [0] Z Z (TD.q Z .u (AH 0 Z DO Z Z) Z (TD.run aj [2,3] Z Z (TD.q Z .u (AH 0 Z Dc Z Z) Z ?_)))
 obtain⟨⟨x42,st43⟩,hx44,h⟩:=C5 h
 try dsimp only at h
 refine Cc Z .u (.fn Tryz.call57 Z) (bR g st39 8 _ hx44) (fun _ hs=>(Src.triv _)) Z [0,0,0,0,1] (Z) (TD.run aj [6] Z Z (BZ (cs':= #[jI x6,jI x10,jI x14,jI x22,jI x26,jI x30,jI x34,jI x38,jI x42,jI 0,jI 0,jI 0]) Z .u Z Z De Z Z Z Z [0,0,0,0,1] (Z) (TD.nil (AZ (X.seq (T.region Z (TL.q Z .u (Ex.add Z Z (by omega)) Z (TL.run aj [1] Z Z (TL.nil (Bv [0,1,1,1,1,1] Z ?_))))))))))
 refine BO (TW.step (T.seq (T.region rfl (TL.run aj [0] rfl rfl (TL.nil (X.seq (T.seq (AN rfl (C6 (show 10<13 by omega)) (T.skip (X.seq (T.seq (T.block (T.seq (T.region rfl (TL.q rfl .u (BD (k:=10) (r:=20) rfl rfl rfl Dq Dg (by decide) rfl) rfl (TL.q rfl .u (AY (us := [.pointer (some ⟨b2,9,none⟩),jI 2]) 1 rfl DN Dg rfl rfl rfl) rfl (TL.alloc rfl .u Tryz.zeroValue203 rfl (fun b45=> ?_))))))))))))))))))
 refine A9 (cs':= #[.pointer (some ⟨b2,9,none⟩),jI 2]) Z .u Z Z Dg Z Z Z Z ?_
 refine TL.nil (X.seq (Bd (.q 0 (.q 1 (.q 2 (.q 3 (.q 4 (.e 5 (.q 6 (.e 7 .nil)))))))) [0,0,0,0,1] Z aV (NoP.blk (NoP.seq (NoP.seq (NoP.blk (NoP.seq aP))))) (by kernel_rfl) ?_))
 refine TD.run aj [0] Z Z (TD.q Z .u (AH 0 Z DO Z Z) Z (TD.run aj [2,3] Z Z (TD.q Z .u (AH 0 Z Dc Z Z) Z ?_)))
 obtain⟨⟨x46,st47⟩,hx48,h⟩:=C5 h
 try dsimp only at h
 refine Cc Z .u (.fn Tryz.call57 Z) (bR g st43 2 _ hx48) (fun _ hs=>(Src.triv _)) Z [0,0,0,0,1] (Z) (TD.run aj [6] Z Z (BZ (cs':= #[jI x6,jI x10,jI x14,jI x22,jI x26,jI x30,jI x34,jI x38,jI x42,jI x46,jI 0,jI 0]) Z .u Z Z De Z Z Z Z [0,0,0,0,1] (Z) (TD.nil (AZ (X.seq (T.region Z (TL.q Z .u (Ex.add Z Z (by omega)) Z (TL.run aj [1] Z Z (TL.nil (Bv [0,1,1,1,1,1] Z ?_))))))))))
 refine BO (TW.step (T.seq (T.region rfl (TL.run aj [0] rfl rfl (TL.nil (X.seq (T.seq (AN rfl (C6 (show 11<13 by omega)) (T.skip (X.seq (T.seq (T.block (T.seq (T.region rfl (TL.q rfl .u (BD (k:=11) (r:=22) rfl rfl rfl Dq Dg (by decide) rfl) rfl (TL.q rfl .u (AY (us := [.pointer (some ⟨b2,10,none⟩),jI 4]) 1 rfl DN Dg rfl rfl rfl) rfl (TL.alloc rfl .u Tryz.zeroValue203 rfl (fun b49=> ?_))))))))))))))))))
 refine A9 (cs':= #[.pointer (some ⟨b2,10,none⟩),jI 4]) Z .u Z Z Dg Z Z Z Z ?_
 refine TL.nil (X.seq (Bd (.q 0 (.q 1 (.q 2 (.q 3 (.q 4 (.e 5 (.q 6 (.e 7 .nil)))))))) [0,0,0,0,1] Z aV (NoP.blk (NoP.seq (NoP.seq (NoP.blk (NoP.seq aP))))) (by kernel_rfl) ?_))
 refine TD.run aj [0] Z Z (TD.q Z .u (AH 0 Z DO Z Z) Z (TD.run aj [2,3] Z Z (TD.q Z .u (AH 0 Z Dc Z Z) Z ?_)))
 obtain⟨⟨x50,st51⟩,hx52,h⟩:=C5 h
 try dsimp only at h
 refine Cc Z .u (.fn Tryz.call57 Z) (bR g st47 4 _ hx52) (fun _ hs=>(Src.triv _)) Z [0,0,0,0,1] (Z) (TD.run aj [6] Z Z (BZ (cs':= #[jI x6,jI x10,jI x14,jI x22,jI x26,jI x30,jI x34,jI x38,jI x42,jI x46,jI x50,jI 0]) Z .u Z Z De Z Z Z Z [0,0,0,0,1] (Z) (TD.nil (AZ (X.seq (T.region Z (TL.q Z .u (Ex.add Z Z (by omega)) Z (TL.run aj [1] Z Z (TL.nil (Bv [0,1,1,1,1,1] Z ?_))))))))))
 refine BO (TW.step (T.seq (T.region rfl (TL.run aj [0] rfl rfl (TL.nil (X.seq (T.seq (AN rfl (C6 (show 12<13 by omega)) (T.skip (X.seq (T.seq (T.block (T.seq (T.region rfl (TL.q rfl .u (BD (k:=12) (r:=24) rfl rfl rfl Dq Dg (by decide) rfl) rfl (TL.q rfl .u (AY (us := [.pointer (some ⟨b2,11,none⟩),jI 4]) 1 rfl DN Dg rfl rfl rfl) rfl (TL.alloc rfl .u Tryz.zeroValue203 rfl (fun b53=> ?_))))))))))))))))))
 refine A9 (cs':= #[.pointer (some ⟨b2,11,none⟩),jI 4]) Z .u Z Z Dg Z Z Z Z ?_
 refine TL.nil (X.seq (Bd (.q 0 (.q 1 (.q 2 (.q 3 (.q 4 (.e 5 (.q 6 (.e 7 .nil)))))))) [0,0,0,0,1] Z aV (NoP.blk (NoP.seq (NoP.seq (NoP.blk (NoP.seq aP))))) (by kernel_rfl) ?_))
 refine TD.run aj [0] Z Z (TD.q Z .u (AH 0 Z DO Z Z) Z (TD.run aj [2,3] Z Z (TD.q Z .u (AH 0 Z Dc Z Z) Z ?_)))
 obtain⟨⟨x54,st55⟩,hx56,h⟩:=C5 h
 try dsimp only at h
 refine Cc Z .u (.fn Tryz.call57 Z) (bR g st51 4 _ hx56) (fun _ hs=>(Src.triv _)) Z [0,0,0,0,1] (Z) (TD.run aj [6] Z Z (BZ (cs':= #[jI x6,jI x10,jI x14,jI x22,jI x26,jI x30,jI x34,jI x38,jI x42,jI x46,jI x50,jI x54]) Z .u Z Z De Z Z Z Z [0,0,0,0,1] (Z) (TD.nil (AZ (X.seq (T.region Z (TL.q Z .u (Ex.add Z Z (by omega)) Z (TL.run aj [1] Z Z (TL.nil (Bv [0,1,1,1,1,1] Z ?_))))))))))
 refine BO (TW.step (T.seq (T.region rfl (TL.run aj [0] rfl rfl (TL.nil (X.seq (T.seq (AS rfl (C7 (show ¬ (13<13) by omega)) (T.exit (AV (AV (Bh (X.seq (T.seq (T.region rfl (TL.run aj [0] rfl rfl (TL.q rfl .u (AH 3 rfl Dc rfl rfl) rfl (TL.q rfl .u (Ex.bitw rfl rfl rfl) rfl ?_))))))))))))))))))
 refine TL.run aj [3] Z Z (BV (cs':= #[jI x6,jI x10,jI x14,jI (Go.bits .and .i64 x22 4294967295),jI x26,jI x30,jI x34,jI x38,jI x42,jI x46,jI x50,jI x54]) Z .u Z Z De Z Z Z Z (TL.nil (X.seq (T.seq (T.block (T.seq (T.region Z ?_)))))))
 obtain⟨⟨x57,st58⟩,hx59,h⟩:=C5 h
 try dsimp only at h
 refine TL.run aj [0] Z Z (Ck Z .u (.fn Tryz.call21 Z) (dH g st55 _ hx59) (fun _ hs=>(Src.triv _)) Z (TL.run aj [2,3] Z Z (TL.nil (X.seq ?_))))
 obtain⟨st117,h,hk118⟩:=C5 h
 refine BE (fun e Rs=>e = [(0,jP g),(2,jP b1),(3,jP b2)]∧Rs = [aC b53 203 #[.pointer (some ⟨b2,11,none⟩),jI 4],aC b4 203 #[jP b2,jI 8,.pointer (some ⟨b2,1,none⟩),jI 4,.pointer (some ⟨b2,2,none⟩),jI 4,jP b3,jI 1,.pointer (some ⟨b2,3,none⟩),jI 4,.pointer (some ⟨b2,4,none⟩),jI 2,.pointer (some ⟨b2,5,none⟩),jI 4,.pointer (some ⟨b2,6,none⟩),jI 8,.pointer (some ⟨b2,7,none⟩),jI 8,.pointer (some ⟨b2,8,none⟩),jI 8,.pointer (some ⟨b2,9,none⟩),jI 2,.pointer (some ⟨b2,10,none⟩),jI 4,.pointer (some ⟨b2,11,none⟩),jI 4],aC b3 3 #[jI x18],aC b2 160 #[jI x6,jI x10,jI x14,jI (Go.bits .and .i64 x22 4294967295),jI x26,jI x30,jI x34,jI x38,jI x42,jI x46,jI x50,jI x54],aC b1 160 #[jI 0,jI 0,jI 0,jI 0,jI 0,jI 0,jI 0,jI 0,jI 0,jI 0,jI 0,jI 0],InR g st117]) ?_ ?_
 ·clear hk118
  rcases jF h with⟨c119,h⟩ | ⟨c119,h⟩
  ·refine AS Z (ax (C6 c119)) (T.seq (T.region Z (TL.q Z .u (AH 2 Z Dc Z Z) Z (TL.run aj [1,2] Z Z (TL.nil (X.seq ?_))))))
   obtain⟨st147,h,hk148⟩:=C5 h
   refine BE (fun e Rs=>e = [(0,jP g),(2,jP b1),(3,jP b2)]∧Rs = [aC b53 203 #[.pointer (some ⟨b2,11,none⟩),jI 4],aC b4 203 #[jP b2,jI 8,.pointer (some ⟨b2,1,none⟩),jI 4,.pointer (some ⟨b2,2,none⟩),jI 4,jP b3,jI 1,.pointer (some ⟨b2,3,none⟩),jI 4,.pointer (some ⟨b2,4,none⟩),jI 2,.pointer (some ⟨b2,5,none⟩),jI 4,.pointer (some ⟨b2,6,none⟩),jI 8,.pointer (some ⟨b2,7,none⟩),jI 8,.pointer (some ⟨b2,8,none⟩),jI 8,.pointer (some ⟨b2,9,none⟩),jI 2,.pointer (some ⟨b2,10,none⟩),jI 4,.pointer (some ⟨b2,11,none⟩),jI 4],aC b3 3 #[jI x18],aC b2 160 #[jI x6,jI x10,jI x14,jI (Go.bits .and .i64 x22 4294967295),jI x26,jI x30,jI x34,jI x38,jI x42,jI x46,jI x50,jI x54],aC b1 160 #[jI 0,jI 0,jI 0,jI 0,jI 0,jI 0,jI 0,jI 0,jI 0,jI 0,jI 0,jI 0],InR g st147]) ?_ ?_
   ·clear hk148
    rcases jF h with⟨c149,h⟩ | ⟨c149,h⟩
    ·refine AS Z (ax (C6 c149)) (T.seq (T.region Z (TL.run aj [0] Z Z (TL.q Z .u (AH 3 Z Dc Z Z) Z (TL.run aj [2,3] Z Z (TL.nil (X.seq ?_)))))))
     obtain⟨st161,h,hk162⟩:=C5 h
     refine BE (fun e Rs=>e = [(0,jP g),(2,jP b1),(3,jP b2)]∧Rs = [aC b53 203 #[.pointer (some ⟨b2,11,none⟩),jI 4],aC b4 203 #[jP b2,jI 8,.pointer (some ⟨b2,1,none⟩),jI 4,.pointer (some ⟨b2,2,none⟩),jI 4,jP b3,jI 1,.pointer (some ⟨b2,3,none⟩),jI 4,.pointer (some ⟨b2,4,none⟩),jI 2,.pointer (some ⟨b2,5,none⟩),jI 4,.pointer (some ⟨b2,6,none⟩),jI 8,.pointer (some ⟨b2,7,none⟩),jI 8,.pointer (some ⟨b2,8,none⟩),jI 8,.pointer (some ⟨b2,9,none⟩),jI 2,.pointer (some ⟨b2,10,none⟩),jI 4,.pointer (some ⟨b2,11,none⟩),jI 4],aC b3 3 #[jI x18],aC b2 160 #[jI x6,jI x10,jI x14,jI (Go.bits .and .i64 x22 4294967295),jI x26,jI x30,jI x34,jI x38,jI x42,jI x46,jI x50,jI x54],aC b1 160 #[jI 0,jI 0,jI 0,jI 0,jI 0,jI 0,jI 0,jI 0,jI 0,jI 0,jI 0,jI 0],InR g st161]) ?_ ?_
     ·clear hk162
      rcases jF h with⟨c163,h⟩ | ⟨c163,h⟩
      ·refine AN Z (C6 c163) (T.region Z ?_)
       obtain⟨st164,hx165,h⟩:=C5 h
       refine TL.run aj [0] Z Z (Ck Z .u (.fn Tryz.call61 Z) (bi g st58 4 _ hx165) (fun _ hs=>(Src.triv _)) Z ?_)
       cases h
       exact TL.nil (A5 [0,0,0,0,0,0] ⟨Z,Z⟩ (by rfl) (by rfl))
      ·refine AS Z (C7 c163) (T.seq (T.region Z (TL.run aj [0] Z Z (TL.q Z .u (AH 3 Z Dc Z Z) Z (TL.run aj [2,3] Z Z (TL.nil (X.seq ?_)))))))
       obtain⟨st169,h,hk170⟩:=C5 h
       refine BE (fun e Rs=>e = [(0,jP g),(2,jP b1),(3,jP b2)]∧Rs = [aC b53 203 #[.pointer (some ⟨b2,11,none⟩),jI 4],aC b4 203 #[jP b2,jI 8,.pointer (some ⟨b2,1,none⟩),jI 4,.pointer (some ⟨b2,2,none⟩),jI 4,jP b3,jI 1,.pointer (some ⟨b2,3,none⟩),jI 4,.pointer (some ⟨b2,4,none⟩),jI 2,.pointer (some ⟨b2,5,none⟩),jI 4,.pointer (some ⟨b2,6,none⟩),jI 8,.pointer (some ⟨b2,7,none⟩),jI 8,.pointer (some ⟨b2,8,none⟩),jI 8,.pointer (some ⟨b2,9,none⟩),jI 2,.pointer (some ⟨b2,10,none⟩),jI 4,.pointer (some ⟨b2,11,none⟩),jI 4],aC b3 3 #[jI x18],aC b2 160 #[jI x6,jI x10,jI x14,jI (Go.bits .and .i64 x22 4294967295),jI x26,jI x30,jI x34,jI x38,jI x42,jI x46,jI x50,jI x54],aC b1 160 #[jI 0,jI 0,jI 0,jI 0,jI 0,jI 0,jI 0,jI 0,jI 0,jI 0,jI 0,jI 0],InR g st169]) ?_ ?_
       ·clear hk170
        rcases jF h with⟨c171,h⟩ | ⟨c171,h⟩
        ·refine AN Z (C6 c171) (T.region Z ?_)
         obtain⟨st172,hx173,h⟩:=C5 h
         refine TL.run aj [0] Z Z (Ck Z .u (.fn Tryz.call61 Z) (bi g st58 10 _ hx173) (fun _ hs=>(Src.triv _)) Z ?_)
         cases h
         exact TL.nil (A5 [0,0,0,0,0,0] ⟨Z,Z⟩ (by rfl) (by rfl))
        ·refine AS Z (C7 c171) ?_
         cases h
         exact T.skip (A5 [0,0,0,0,0,0] ⟨Z,Z⟩ (by rfl) (by rfl))
       ·rintro _ _ ⟨rfl,rfl⟩
        clear h
        have h:=hk170
        clear hk170
        try dsimp only at h
        cases h
        exact A5 [0,0,0,0,0,0] ⟨Z,Z⟩ (by rfl) (by rfl)
     ·rintro _ _ ⟨rfl,rfl⟩
      clear h
      have h:=hk162
      clear hk162
      try dsimp only at h
      cases h
      exact A5 [0,0,0,0,0,0] ⟨Z,Z⟩ (by rfl) (by rfl)
    ·refine AN Z (aF (C7 c149)) (T.region Z ?_)
     obtain⟨st174,hx175,h⟩:=C5 h
     refine TL.run aj [0] Z Z (Ck Z .u (.fn Tryz.call61 Z) (bi g st58 6 _ hx175) (fun _ hs=>(Src.triv _)) Z ?_)
     cases h
     exact TL.nil (A5 [0,0,0,0,0,0] ⟨Z,Z⟩ (by rfl) (by rfl))
   ·rintro _ _ ⟨rfl,rfl⟩
    clear h
    have h:=hk148
    clear hk148
    try dsimp only at h
    cases h
    exact A5 [0,0,0,0,0,0] ⟨Z,Z⟩ (by rfl) (by rfl)
  ·refine AN Z (aF (C7 c119)) ?_
   cases h
   exact T.skip (A5 [0,0,0,0,0,0] ⟨Z,Z⟩ (by rfl) (by rfl))
 ·rintro _ _ ⟨rfl,rfl⟩
  clear h
  have h:=hk118
  clear hk118
  try dsimp only at h
  refine AZ (X.seq (T.seq (T.seq (T.region Z ?_))))
  obtain⟨⟨x176,st177⟩,hx178,h⟩:=C5 h
  try dsimp only at h
  refine TL.run aj [0] Z Z (Ck Z .u (.fn Tryz.call21 Z) (dH g st117 _ hx178) (fun _ hs=>(Src.triv _)) Z (TL.run aj [2] Z Z ?_))
  rcases jF h with⟨c179,h⟩ | ⟨c179,h⟩
  ·refine TL.nil (X.seq (AS Z (ax (C6 c179)) (T.skip (X.seq (T.seq (T.region Z (TL.q Z .u (AY (us := [jI x6,jI x10,jI x14,jI (Go.bits .and .i64 x22 4294967295),jI x26,jI x30,jI x34,jI x38,jI x42,jI x46,jI x50,jI x54]) 3 Z EM Ei Z Z Z) Z (TL.st4 (cs':= #[jI x6,jI x10,jI x14,jI (Go.bits .and .i64 x22 4294967295),jI x26,jI x30,jI x34,jI x38,jI x42,jI x46,jI x50,jI x54]) Z .u Z Z Ei Z Z Z Z ?_))))))))
   obtain rfl:=C8 h
   exact TL.nil (X.seq (T.ret (AJ [5] Tryz.results108 (BG (us:= #[jI x6,jI x10,jI x14,jI (Go.bits .and .i64 x22 4294967295),jI x26,jI x30,jI x34,jI x38,jI x42,jI x46,jI x50,jI x54]) 4 Z EM Ei Z Z) ⟨Z,Z,Z⟩ (by rfl) (.inl Z))))
  ·refine TL.nil (X.seq (AN Z (aF (C7 c179)) (T.seq (T.region Z ?_))))
   refine TL.q Z .u (Bg (cells:= #[jI 0,jI 0,jI 0,jI 0,jI 0,jI 0,jI 0,jI 0,jI 0,jI 0,jI 0,jI 0]) qk Z (by kernel_rfl)) Z ?_
   refine TL.st4 (cs':= #[jI 0,jI 0,jI 0,jI 0,jI 0,jI 0,jI 0,jI 0,jI 0,jI 0,jI 0,jI 0]) Z .u Z Z Ei Z Z Z Z ?_
   obtain rfl:=C8 h
   exact TL.nil (X.seq (T.ret (AL (AJ [5] Tryz.results108 (BG (us:= #[jI 0,jI 0,jI 0,jI 0,jI 0,jI 0,jI 0,jI 0,jI 0,jI 0,jI 0,jI 0]) 4 Z EM Ei Z Z) ⟨Z,Z,Z⟩ (by rfl) (.inl Z)))))
end Go.Proofs.YtcoppaggpbfcmaaGreat.Sl
